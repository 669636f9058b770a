/- octet.Key, and the law on bytes. -/
import Derived.Test.YtcfecmoagfgnaaaOct6
import Derived.Test.YtcfecmoagfgnaaaVcKey
namespace Go.Proofs.Ytcfecmoagfgnaaa
open Go.Vc Go.Pl

def key0 : List UInt8 := List.replicate 32 0
theorem key0_cells : (key0.map bv).length = 32 := by decide
def keyOf (l : List UInt8) : List UInt8 := if l.length = 32 then l else key0
theorem keyOf_length (l : List UInt8) : (keyOf l).length = 32 := by
  unfold keyOf
  split
  · assumption
  · decide
/-- A variable that is an array of 32 bytes. -/
abbrev kblk (g : Nat) (l : List UInt8) : Chunk := blk g 44 [32] [l.map bv]
theorem zero44 : (Try.prog.info? 44).bind (·.zero) = some (.agg (key0.map bv).toArray) := by kernel_rfl
theorem guard44 : Try.prog.eqGuardType Try.prog.depth 44 = false := by kernel_rfl

theorem key_any {S : List Snap} {H : List Chunk} {w : World} (ho : Own S H w) {p : Option Addr} {l : List UInt8} {c : Nat} (hA : Bytes (keys H) w p l c) : Calls Try.prog 36 #[.slice p l.length c] w (Ret fun v w' => Own S H w' ∧ v = .tuple #[.agg ((keyOf l).map bv).toArray, .bool (decide (l.length = 32))]) := by
  refine enter (G := Own (⟨w, keys H⟩ :: S) H) ho.keep Try.func36 rfl Try.ntmps36 rfl ?_
  refine VC.seq ?_
  refine VC.region ?_
  refine VL.alloc (L := [32]) (ps := [key0.map bv]) zero44 rfl rfl (fun g2 => ?_)
  refine VL.assign rfl ?_
  refine VL.nil ?_
  refine VX.next ?_
  refine VC.seq ?_
  refine VC.region ?_
  refine VL.alloc (L := [32]) (ps := [key0.map bv]) zero44 rfl rfl (fun g4 => ?_)
  refine VL.nil ?_
  refine VX.next ?_
  refine VC.seq ?_
  refine VC.seq ?_
  refine VC.region ?_
  refine VL.move rfl ?_
  refine VL.len Try.underlying24 rfl rfl ?_
  refine VL.neq rfl rfl ?_
  refine VL.case (fun h2_2 => ?_) (fun h2_2 => ?_)
  · refine VL.nil ?_
    refine VX.next ?_
    refine VC.yes rfl ?_
    refine VC.seq ?_
    refine VC.region ?_
    refine VL.loads (cs := (key0).map bv) 0 0 1 rfl kd44 (fun _ h => h) rfl rfl rfl rfl ?_
    refine VL.store (L := [32]) (qs := [(key0).map bv]) 1 0 1 rfl rfl rfl (.inl kd44) rfl rfl rfl (ok1_bytes _) rfl rfl ?_
    refine VL.assign rfl ?_
    refine VL.nil ?_
    refine VX.next ?_
    refine VC.ret ?_
    refine VX.then_ret ?_
    refine VX.ret_cell (cs := key0.map bv) 1 rfl rfl rfl kd44 (fun _ h => h) rfl rfl (fun w hw => ?_)
    have e : keyOf l = key0 := if_neg (by omega)
    exact ⟨hw.drop.drop.lose, by rw [e, decide_eq_false (by omega)]⟩
  · refine VL.nil ?_
    refine VX.next ?_
    refine VC.no rfl ?_
    refine VC.skip ?_
    refine VX.next ?_
    refine VC.seq ?_
    have hl : l.length = 32 := by omega
    refine VC.region ?_
    refine VL.sliceArr Try.underlying44 (by kernel_rfl) rfl ?_
    refine VL.move rfl ?_
    refine VL.copyAll (cur := key0.map bv) (l := l) 0 rfl Try.underlying24 (by kernel_rfl) rfl rfl rfl hl (by omega) (fun _ h => (hA.now (s := ⟨w, keys H⟩) Mono.byte h.drop.drop (List.mem_cons_self ..)).bytes) rfl (fun _ => ?_)
    refine VL.nil ?_
    refine VX.next ?_
    refine VC.seq ?_
    refine VC.region ?_
    refine VL.loads (cs := (l).map bv) 0 0 1 rfl kd44 (fun _ h => h) rfl rfl rfl rfl ?_
    refine VL.store (L := [32]) (qs := [(l).map bv]) 1 0 1 rfl rfl rfl (.inl kd44) rfl rfl (by simp [hl]) (ok1_bytes _) rfl rfl ?_
    refine VL.assign rfl ?_
    refine VL.nil ?_
    refine VX.next ?_
    refine VC.ret ?_
    refine VX.ret_cell (cs := l.map bv) 1 rfl rfl rfl (by rw [List.length_map, hl]; exact kd44) (fun _ h => h) rfl rfl (fun w hw => ?_)
    have e : keyOf l = l := if_pos hl
    exact ⟨hw.drop.drop.lose, by rw [e, decide_eq_true hl]⟩

theorem octbytes_any {S : List Snap} {H : List Chunk} {w : World} (ho : Own S H w) {p : Option Addr} {l : List UInt8} {c : Nat} (hA : Bytes (keys H) w p l c) : Calls Try.prog 8 #[.slice p l.length c] w (Ret fun v w' => v = .bool true ∧ Own S H w') := by
  refine enter (G := Own (⟨w, keys H⟩ :: S) H) ho.keep Try.func8 rfl Try.ntmps8 rfl ?_
  refine VC.seq ?_
  refine VC.region ?_
  refine VL.assign rfl ?_
  refine VL.nil ?_
  refine VX.next ?_
  refine VC.seq ?_
  refine VC.seq ?_
  refine VC.region ?_
  refine VL.call Try.func24 rfl (by decide) rfl (fun w' hw => alive_any hw) (fun v => ?_)
  refine VL.fact fun e => ?_
  subst e
  refine VL.not rfl ?_
  refine VL.nil ?_
  refine VX.next ?_
  refine VC.no rfl ?_
  refine VC.skip ?_
  refine VX.next ?_
  refine VC.seq ?_
  by_cases h8 : 1 ≤ l.length ∧ l.length ≤ 8
  · skip
    refine VC.region ?_
    refine VL.move rfl ?_
    refine VL.call Try.func28 rfl (by decide) rfl (fun w' hw => get_any hw (hA.now (s := ⟨w, keys H⟩) Mono.byte hw (by simp))) (fun v => ?_)
    refine VL.at (fun w1 h1w => ?_)
    obtain ⟨hO, ⟨_, _, rfl⟩ | ⟨hno, _⟩⟩ := h1w
    rotate_left
    · omega
    refine VL.toOwn hO ?_
    refine VL.move rfl ?_
    refine VL.extract rfl rfl ?_
    refine VL.extract rfl rfl ?_
    refine VL.assign rfl ?_
    refine VL.assign rfl ?_
    refine VL.nil ?_
    refine VX.next ?_
    refine VC.seq ?_
    refine VC.region ?_
    refine VL.move rfl ?_
    refine VL.call Try.func35 rfl (by decide) rfl (fun w' hw => refGet_any hw (hA.now (s := ⟨w, keys H⟩) Mono.byte hw (by simp))) (fun v => ?_)
    refine VL.at (fun w2 h1w => ?_)
    obtain ⟨hO, ⟨_, _, rfl⟩ | ⟨hno, _⟩⟩ := h1w
    rotate_left
    · omega
    refine VL.toOwn hO ?_
    refine VL.move rfl ?_
    refine VL.extract rfl rfl ?_
    refine VL.extract rfl rfl ?_
    refine VL.assign rfl ?_
    refine VL.assign rfl ?_
    refine VL.nil ?_
    refine VX.next ?_
    refine VC.seq ?_
    refine VC.region ?_
    refine VL.move rfl ?_
    refine VL.call Try.func36 rfl (by decide) rfl (fun w' hw => key_any hw (hA.now (s := ⟨w, keys H⟩) Mono.byte hw (by simp))) (fun v => ?_)
    refine VL.at (fun w3 h1w => ?_)
    obtain ⟨hO, rfl⟩ := h1w
    refine VL.toOwn hO ?_
    refine VL.move rfl ?_
    refine VL.extract rfl rfl ?_
    refine VL.extract rfl rfl ?_
    refine VL.alloc (L := [32]) (ps := [key0.map bv]) zero44 rfl rfl (fun g7 => ?_)
    refine VL.store (L := [32]) (qs := [(keyOf l).map bv]) 0 0 1 rfl rfl rfl (.inl kd44) rfl rfl (by simp [keyOf_length]) (ok1_bytes _) rfl rfl ?_
    refine VL.assign rfl ?_
    refine VL.nil ?_
    refine VX.next ?_
    refine VC.seq ?_
    refine VC.region ?_
    refine VL.alloc (L := [32]) (ps := [key0.map bv]) zero44 rfl rfl (fun g9 => ?_)
    refine VL.nil ?_
    refine VX.next ?_
    refine VC.seq ?_
    refine VC.seq ?_
    refine VC.region ?_
    refine VL.move rfl ?_
    refine VL.len Try.underlying24 rfl rfl ?_
    refine VL.eql rfl rfl ?_
    refine VL.case (fun h7_2 => ?_) (fun h7_2 => ?_)
    · refine VL.nil ?_
      refine VX.next ?_
      refine VC.yes rfl ?_
      refine VC.region ?_
      have hl : l.length = 32 := by omega
      refine VL.sliceArr Try.underlying44 (by kernel_rfl) rfl ?_
      refine VL.move rfl ?_
      refine VL.copyAll (cur := key0.map bv) (l := l) 0 rfl Try.underlying24 (by kernel_rfl) rfl rfl rfl hl (by omega) (fun _ h => (hA.now (s := ⟨w, keys H⟩) Mono.byte h.drop.drop (by simp)).bytes) rfl (fun _ => ?_)
      refine VL.nil ?_
      refine VX.next ?_
      refine VC.seq ?_
      refine VC.region ?_
      refine VL.move rfl ?_
      refine VL.move rfl ?_
      refine VL.eql rfl rfl ?_
      refine VL.yes (rfl) ?_
      refine VL.move rfl ?_
      refine VL.go rfl rfl rfl ?_
      refine VL.move rfl ?_
      refine VL.go rfl rfl rfl ?_
      refine VL.move rfl ?_
      refine VL.go rfl rfl rfl ?_
      refine VL.eqb Try.underlying4 rfl rfl ?_
      refine VL.pick_t rfl rfl ?_
      refine VL.move rfl ?_
      refine VL.go rfl rfl rfl ?_
      refine VL.move rfl ?_
      refine VL.go rfl rfl rfl ?_
      refine VL.move rfl ?_
      refine VL.go rfl rfl rfl ?_
      refine VL.len Try.underlying24 rfl rfl ?_
      refine VL.go rfl rfl rfl ?_
      refine VL.eql rfl rfl ?_
      refine VL.yes (by omega) ?_
      refine VL.go rfl rfl rfl ?_
      rw [decide_eq_true hl]
      refine VL.eqb Try.underlying4 rfl rfl ?_
      refine VL.pick_t rfl rfl ?_
      refine VL.move rfl ?_
      refine VL.go rfl rfl rfl ?_
      refine VL.loads (cs := (keyOf l).map bv) 1 0 1 rfl kd44 (fun _ h => h) rfl rfl rfl rfl ?_
      refine VL.go rfl rfl rfl ?_
      refine VL.loads (cs := (l).map bv) 0 0 1 rfl kd44 (fun _ h => h) rfl rfl rfl rfl ?_
      refine VL.go rfl rfl rfl ?_
      refine VL.eqArr (l := keyOf l) Try.underlying44 Try.underlying5 kd5 guard44 rfl rfl rfl (by rw [show keyOf l = l from if_pos hl]) (keyOf_length l) ?_
      refine VL.pick_t rfl rfl ?_
      refine VL.assign rfl ?_
      refine VL.nil ?_
      refine VX.next ?_
      refine VC.ret ?_
      refine VX.ret1 rfl rfl (fun w hw => ?_)
      exact ⟨rfl, by have hw := hw.drop.drop; repeat (first | exact hw | replace hw := hw.lose)⟩
    · refine VL.nil ?_
      refine VX.next ?_
      refine VC.no rfl ?_
      refine VC.skip ?_
      refine VX.next ?_
      refine VC.seq ?_
      refine VC.region ?_
      refine VL.move rfl ?_
      refine VL.move rfl ?_
      refine VL.eql rfl rfl ?_
      refine VL.yes (rfl) ?_
      refine VL.move rfl ?_
      refine VL.go rfl rfl rfl ?_
      refine VL.move rfl ?_
      refine VL.go rfl rfl rfl ?_
      refine VL.move rfl ?_
      refine VL.go rfl rfl rfl ?_
      refine VL.eqb Try.underlying4 rfl rfl ?_
      refine VL.pick_t rfl rfl ?_
      refine VL.move rfl ?_
      refine VL.go rfl rfl rfl ?_
      refine VL.move rfl ?_
      refine VL.go rfl rfl rfl ?_
      refine VL.move rfl ?_
      refine VL.go rfl rfl rfl ?_
      refine VL.len Try.underlying24 rfl rfl ?_
      refine VL.go rfl rfl rfl ?_
      refine VL.eql rfl rfl ?_
      refine VL.no (by omega) ?_
      refine VL.go rfl rfl rfl ?_
      rw [decide_eq_false (show ¬ l.length = 32 by omega)]
      refine VL.eqb Try.underlying4 rfl rfl ?_
      refine VL.pick_t rfl rfl ?_
      refine VL.move rfl ?_
      refine VL.go rfl rfl rfl ?_
      refine VL.loads (cs := (keyOf l).map bv) 1 0 1 rfl kd44 (fun _ h => h) rfl rfl rfl rfl ?_
      refine VL.go rfl rfl rfl ?_
      refine VL.loads (cs := (key0).map bv) 0 0 1 rfl kd44 (fun _ h => h) rfl rfl rfl rfl ?_
      refine VL.go rfl rfl rfl ?_
      refine VL.eqArr (l := keyOf l) Try.underlying44 Try.underlying5 kd5 guard44 rfl rfl rfl (by rw [show keyOf l = key0 from if_neg (by omega)]) (keyOf_length l) ?_
      refine VL.pick_t rfl rfl ?_
      refine VL.assign rfl ?_
      refine VL.nil ?_
      refine VX.next ?_
      refine VC.ret ?_
      refine VX.ret1 rfl rfl (fun w hw => ?_)
      exact ⟨rfl, by have hw := hw.drop.drop; repeat (first | exact hw | replace hw := hw.lose)⟩
  · skip
    refine VC.region ?_
    refine VL.move rfl ?_
    refine VL.call Try.func28 rfl (by decide) rfl (fun w' hw => get_any hw (hA.now (s := ⟨w, keys H⟩) Mono.byte hw (by simp))) (fun v => ?_)
    refine VL.at (fun w1 h1w => ?_)
    obtain ⟨hO, ⟨h1, h2, _⟩ | ⟨_, rfl⟩⟩ := h1w
    · omega
    refine VL.toOwn hO ?_
    refine VL.move rfl ?_
    refine VL.extract rfl rfl ?_
    refine VL.extract rfl rfl ?_
    refine VL.assign rfl ?_
    refine VL.assign rfl ?_
    refine VL.nil ?_
    refine VX.next ?_
    refine VC.seq ?_
    refine VC.region ?_
    refine VL.move rfl ?_
    refine VL.call Try.func35 rfl (by decide) rfl (fun w' hw => refGet_any hw (hA.now (s := ⟨w, keys H⟩) Mono.byte hw (by simp))) (fun v => ?_)
    refine VL.at (fun w2 h1w => ?_)
    obtain ⟨hO, ⟨h1, h2, _⟩ | ⟨_, rfl⟩⟩ := h1w
    · omega
    refine VL.toOwn hO ?_
    refine VL.move rfl ?_
    refine VL.extract rfl rfl ?_
    refine VL.extract rfl rfl ?_
    refine VL.assign rfl ?_
    refine VL.assign rfl ?_
    refine VL.nil ?_
    refine VX.next ?_
    refine VC.seq ?_
    refine VC.region ?_
    refine VL.move rfl ?_
    refine VL.call Try.func36 rfl (by decide) rfl (fun w' hw => key_any hw (hA.now (s := ⟨w, keys H⟩) Mono.byte hw (by simp))) (fun v => ?_)
    refine VL.at (fun w3 h1w => ?_)
    obtain ⟨hO, rfl⟩ := h1w
    refine VL.toOwn hO ?_
    refine VL.move rfl ?_
    refine VL.extract rfl rfl ?_
    refine VL.extract rfl rfl ?_
    refine VL.alloc (L := [32]) (ps := [key0.map bv]) zero44 rfl rfl (fun g7 => ?_)
    refine VL.store (L := [32]) (qs := [(keyOf l).map bv]) 0 0 1 rfl rfl rfl (.inl kd44) rfl rfl (by simp [keyOf_length]) (ok1_bytes _) rfl rfl ?_
    refine VL.assign rfl ?_
    refine VL.nil ?_
    refine VX.next ?_
    refine VC.seq ?_
    refine VC.region ?_
    refine VL.alloc (L := [32]) (ps := [key0.map bv]) zero44 rfl rfl (fun g9 => ?_)
    refine VL.nil ?_
    refine VX.next ?_
    refine VC.seq ?_
    refine VC.seq ?_
    refine VC.region ?_
    refine VL.move rfl ?_
    refine VL.len Try.underlying24 rfl rfl ?_
    refine VL.eql rfl rfl ?_
    refine VL.case (fun h7_2 => ?_) (fun h7_2 => ?_)
    · refine VL.nil ?_
      refine VX.next ?_
      refine VC.yes rfl ?_
      refine VC.region ?_
      have hl : l.length = 32 := by omega
      refine VL.sliceArr Try.underlying44 (by kernel_rfl) rfl ?_
      refine VL.move rfl ?_
      refine VL.copyAll (cur := key0.map bv) (l := l) 0 rfl Try.underlying24 (by kernel_rfl) rfl rfl rfl hl (by omega) (fun _ h => (hA.now (s := ⟨w, keys H⟩) Mono.byte h.drop.drop (by simp)).bytes) rfl (fun _ => ?_)
      refine VL.nil ?_
      refine VX.next ?_
      refine VC.seq ?_
      refine VC.region ?_
      refine VL.move rfl ?_
      refine VL.move rfl ?_
      refine VL.eql rfl rfl ?_
      refine VL.yes (rfl) ?_
      refine VL.move rfl ?_
      refine VL.go rfl rfl rfl ?_
      refine VL.move rfl ?_
      refine VL.go rfl rfl rfl ?_
      refine VL.move rfl ?_
      refine VL.go rfl rfl rfl ?_
      refine VL.eqb Try.underlying4 rfl rfl ?_
      refine VL.pick_t rfl rfl ?_
      refine VL.move rfl ?_
      refine VL.go rfl rfl rfl ?_
      refine VL.move rfl ?_
      refine VL.go rfl rfl rfl ?_
      refine VL.move rfl ?_
      refine VL.go rfl rfl rfl ?_
      refine VL.len Try.underlying24 rfl rfl ?_
      refine VL.go rfl rfl rfl ?_
      refine VL.eql rfl rfl ?_
      refine VL.yes (by omega) ?_
      refine VL.go rfl rfl rfl ?_
      rw [decide_eq_true hl]
      refine VL.eqb Try.underlying4 rfl rfl ?_
      refine VL.pick_t rfl rfl ?_
      refine VL.move rfl ?_
      refine VL.go rfl rfl rfl ?_
      refine VL.loads (cs := (keyOf l).map bv) 1 0 1 rfl kd44 (fun _ h => h) rfl rfl rfl rfl ?_
      refine VL.go rfl rfl rfl ?_
      refine VL.loads (cs := (l).map bv) 0 0 1 rfl kd44 (fun _ h => h) rfl rfl rfl rfl ?_
      refine VL.go rfl rfl rfl ?_
      refine VL.eqArr (l := keyOf l) Try.underlying44 Try.underlying5 kd5 guard44 rfl rfl rfl (by rw [show keyOf l = l from if_pos hl]) (keyOf_length l) ?_
      refine VL.pick_t rfl rfl ?_
      refine VL.assign rfl ?_
      refine VL.nil ?_
      refine VX.next ?_
      refine VC.ret ?_
      refine VX.ret1 rfl rfl (fun w hw => ?_)
      exact ⟨rfl, by have hw := hw.drop.drop; repeat (first | exact hw | replace hw := hw.lose)⟩
    · refine VL.nil ?_
      refine VX.next ?_
      refine VC.no rfl ?_
      refine VC.skip ?_
      refine VX.next ?_
      refine VC.seq ?_
      refine VC.region ?_
      refine VL.move rfl ?_
      refine VL.move rfl ?_
      refine VL.eql rfl rfl ?_
      refine VL.yes (rfl) ?_
      refine VL.move rfl ?_
      refine VL.go rfl rfl rfl ?_
      refine VL.move rfl ?_
      refine VL.go rfl rfl rfl ?_
      refine VL.move rfl ?_
      refine VL.go rfl rfl rfl ?_
      refine VL.eqb Try.underlying4 rfl rfl ?_
      refine VL.pick_t rfl rfl ?_
      refine VL.move rfl ?_
      refine VL.go rfl rfl rfl ?_
      refine VL.move rfl ?_
      refine VL.go rfl rfl rfl ?_
      refine VL.move rfl ?_
      refine VL.go rfl rfl rfl ?_
      refine VL.len Try.underlying24 rfl rfl ?_
      refine VL.go rfl rfl rfl ?_
      refine VL.eql rfl rfl ?_
      refine VL.no (by omega) ?_
      refine VL.go rfl rfl rfl ?_
      rw [decide_eq_false (show ¬ l.length = 32 by omega)]
      refine VL.eqb Try.underlying4 rfl rfl ?_
      refine VL.pick_t rfl rfl ?_
      refine VL.move rfl ?_
      refine VL.go rfl rfl rfl ?_
      refine VL.loads (cs := (keyOf l).map bv) 1 0 1 rfl kd44 (fun _ h => h) rfl rfl rfl rfl ?_
      refine VL.go rfl rfl rfl ?_
      refine VL.loads (cs := (key0).map bv) 0 0 1 rfl kd44 (fun _ h => h) rfl rfl rfl rfl ?_
      refine VL.go rfl rfl rfl ?_
      refine VL.eqArr (l := keyOf l) Try.underlying44 Try.underlying5 kd5 guard44 rfl rfl rfl (by rw [show keyOf l = key0 from if_neg (by omega)]) (keyOf_length l) ?_
      refine VL.pick_t rfl rfl ?_
      refine VL.assign rfl ?_
      refine VL.nil ?_
      refine VX.next ?_
      refine VC.ret ?_
      refine VX.ret1 rfl rfl (fun w hw => ?_)
      exact ⟨rfl, by have hw := hw.drop.drop; repeat (first | exact hw | replace hw := hw.lose)⟩

end Go.Proofs.Ytcfecmoagfgnaaa
