/- The statement BagPlays is proved, for every input: part 7 of 19 of the texts that it needs. -/
import Derived.Test.YtcfecmoagfgnaaaMbplAF
/- wire: what takes pieces. -/
namespace Go.Proofs.Ytcfecmoagfgnaaa
open Go.Vc Go.Pl

/-- The variable of what takes pieces. -/
abbrev rblk (g : Nat) (p : Option Addr) (m c : Nat) (why : Nat) : Chunk := blk g 196 [1, 1] [[.slice p m c], [.int .i64 why]]

theorem fail_r {m : Nat} {S : List Snap} {H : List Chunk} {w : World} {g : Nat} {p : Option Addr} {c : Nat} {why : Nat} (ho : Own S (rblk g p m c why :: H) w) (e : Nat) : Calls Try.prog 125 #[.pointer (some ⟨g, 0, none⟩), .int .i64 e] w (Ret fun v w' => v = .tuple #[] ∧ Own S (rblk g p m c (failW why e) :: H) w') := by
 refine enter (G := Own (⟨w, keys (rblk g p m c why :: H)⟩ :: S) (rblk g p m c why :: H)) ho.keep Try.func125 rfl Try.ntmps125 rfl ?_
 refine VC.sr ?_
 refine VL.move rfl ?_
 refine VL.nilCheck rfl ?_
 refine VL.fieldAddr rfl fo196_1 rfl ?_
 refine VL.load (v := .int .i64 why) 0 1 rfl kd35 (fun _ h => h) rfl rfl rfl ?_
 refine VL.eql rfl rfl ?_
 refine VL.case (fun h0_4 => ?_) (fun h0_4 => ?_)
 ·refine VL.nn ?_
  refine VC.yes rfl ?_
  refine VC.region ?_
  refine VL.move rfl ?_
  refine VL.move rfl ?_
  refine VL.nilCheck rfl ?_
  refine VL.fieldAddr rfl fo196_1 rfl ?_
  refine VL.store (L := [1, 1]) (qs := [[.int .i64 e]]) 0 1 1 rfl rfl rfl (.inr ⟨kd35, rfl⟩) rfl rfl rfl (by intro u hu; simp [cat] at hu; subst hu; rfl) rfl rfl ?_
  refine VL.nil ?_
  refine VX.end0 rfl (fun we hw => ?_)
  exact ⟨rfl, by rw [show failW why e = e from if_pos (by omega)]; exact hw.lose⟩
 ·refine VL.nn ?_
  refine VC.no rfl ?_
  refine VC.skip ?_
  refine VX.end0 rfl (fun we hw => ?_)
  exact ⟨rfl, by rw [show failW why e = why from if_neg (by omega)]; exact hw.lose⟩

theorem piece_r {S : List Snap} {H : List Chunk} {w : World} {g : Nat} {p : Option Addr} {c : Nat} {parts : List (List UInt8)} {why : Nat} (ho : Own S (rblk g p parts.length c why :: H) w) (hA : Arr 1 bytesR (g :: keys H) w p parts c) : Calls Try.prog 124 #[.pointer (some ⟨g, 0, none⟩)] w (Ret fun v w' => ∃ p' c' pb cb, v = .slice pb (nextP parts).length cb ∧ Own S (rblk g p' (parts.drop 1).length c' (nextW parts why) :: H) w' ∧ Arr 1 bytesR (g :: keys H) w' p' (parts.drop 1) c' ∧ Bytes (g :: keys H) w' pb (nextP parts) cb) := by
 refine enter (G := Own (⟨w, keys (rblk g p parts.length c why :: H)⟩ :: S) (rblk g p parts.length c why :: H)) ho.keep Try.func124 rfl Try.ntmps124 rfl ?_
 refine VC.sr ?_
 refine VL.assign rfl ?_
 refine VL.nn ?_
 refine VC.seq ?_
 refine VC.sr ?_
 refine VL.move rfl ?_
 refine VL.nilCheck rfl ?_
 refine VL.fieldAddr rfl fo196_0 rfl ?_
 refine VL.load (v := .slice p parts.length c) 0 0 rfl kd31 (fun _ h => h) rfl rfl rfl ?_
 refine VL.len Try.underlying31 rfl rfl ?_
 refine VL.eql rfl rfl ?_
 refine VL.case (fun h1_5 => ?_) (fun h1_5 => ?_)
 ·refine VL.nn ?_
  refine VC.yes rfl ?_
  refine VC.sr ?_
  refine VL.move rfl ?_
  refine VL.call Try.func125 rfl (by decide) rfl (fun w' hw => fail_r hw 141) (fun v => ?_)
  refine VL.fact fun e => ?_
  subst e
  refine VL.nn ?_
  refine VC.sr ?_
  refine VL.assign rfl ?_
  refine VL.nn ?_
  refine VC.ret ?_
  refine VX.then_ret ?_
  refine VX.ret1 rfl rfl (fun we hw => ?_)
  obtain rfl : parts = [] := List.eq_nil_of_length_eq_zero (by omega)
  exact ⟨p, c, none, 0, rfl, hw.lose, hA.nowK (s := ⟨w, _⟩) (Mono.slice Mono.byte) hw (List.mem_cons_self ..) rfl, Arr.none⟩
 ·refine VL.nn ?_
  refine VC.no rfl ?_
  refine VC.skip ?_
  refine VX.next ?_
  refine VC.seq ?_
  obtain ⟨b, r, rfl⟩ : ∃ b r, parts = b :: r := by
   cases parts with
   | nil => exact absurd rfl h1_5
   | cons b r => exact ⟨b, r, rfl⟩
  refine VC.region ?_
  refine VL.move rfl ?_
  refine VL.nilCheck rfl ?_
  refine VL.fieldAddr rfl fo196_0 rfl ?_
  refine VL.load (v := .slice p (b :: r).length c) 0 0 rfl kd31 (fun _ h => h) rfl rfl rfl ?_
  refine VL.index rfl rfl Try.underlying31 sz31 hA (by omega) (by simp only [List.length_cons]; omega) ?_
  refine VL.elem (s := ⟨w, _⟩) 0 0 rfl kd24 (fun _ h => h) (List.mem_cons_self ..) (Mono.slice Mono.byte) hA (y := b) rfl (by omega) (by omega) (fun vs v hl hr hv => ?_)
  obtain ⟨p3, c3, rfl, hA3⟩ := hr
  simp at hv
  subst hv
  refine VL.assign rfl ?_
  refine VL.nn ?_
  refine VC.sr ?_
  refine VL.move rfl ?_
  refine VL.move rfl ?_
  refine VL.nilCheck rfl ?_
  refine VL.fieldAddr rfl fo196_0 rfl ?_
  refine VL.load (v := .slice p (b :: r).length c) 0 0 rfl kd31 (fun _ h => h) rfl rfl rfl ?_
  refine VL.dropS 1 rfl rfl Try.underlying31 sz31 hA (by simp) (fun p5 hA5 => ?_)
  refine VL.nilCheck rfl ?_
  refine VL.fieldAddr rfl fo196_0 rfl ?_
  refine VL.store (L := [1, 1]) (qs := [[.slice p5 ((b :: r).drop 1).length (c - 1)]]) 0 0 1 rfl rfl rfl (.inr ⟨kd31, rfl⟩) rfl rfl rfl (by intro u hu; simp [cat] at hu; subst hu; rfl) rfl rfl ?_
  refine VL.nn ?_
  refine VC.sr ?_
  refine VL.move rfl ?_
  refine VL.assign rfl ?_
  refine VL.nn ?_
  refine VC.ret ?_
  refine VX.ret1 rfl rfl (fun we hw => ?_)
  refine ⟨p5, c - 1, p3, c3, rfl, hw.lose, ?_, ?_⟩
  ·exact hA5.nowK (s := ⟨w, _⟩) (Mono.slice Mono.byte) hw (List.mem_cons_self ..) rfl
  ·exact hA3.nowK (s := ⟨w, _⟩) Mono.byte hw (List.mem_cons_self ..) rfl

theorem end_r {S : List Snap} {H : List Chunk} {w : World} {g : Nat} {p : Option Addr} {c : Nat} {parts : List (List UInt8)} {why : Nat} (ho : Own S (rblk g p parts.length c why :: H) w) : Calls Try.prog 126 #[.pointer (some ⟨g, 0, none⟩)] w (Ret fun v w' => v = .int .i64 (endW parts why) ∧ Own S (rblk g p parts.length c (endW parts why) :: H) w') := by
 refine enter (G := Own (⟨w, keys (rblk g p parts.length c why :: H)⟩ :: S) (rblk g p parts.length c why :: H)) ho.keep Try.func126 rfl Try.ntmps126 rfl ?_
 refine VC.sr ?_
 refine VL.assign rfl ?_
 refine VL.nn ?_
 refine VC.seq ?_
 refine VC.sr ?_
 refine VL.move rfl ?_
 refine VL.nilCheck rfl ?_
 refine VL.fieldAddr rfl fo196_0 rfl ?_
 refine VL.load (v := .slice p parts.length c) 0 0 rfl kd31 (fun _ h => h) rfl rfl rfl ?_
 refine VL.len Try.underlying31 rfl rfl ?_
 refine VL.gtr rfl rfl ?_
 refine VL.case (fun h1_5 => ?_) (fun h1_5 => ?_)
 ·refine VL.nn ?_
  refine VC.yes rfl ?_
  refine VC.region ?_
  refine VL.move rfl ?_
  refine VL.call Try.func125 rfl (by decide) rfl (fun w' hw => fail_r hw 141) (fun v => ?_)
  refine VL.fact fun e => ?_
  subst e
  refine VL.nn ?_
  refine VC.sr ?_
  refine VL.move rfl ?_
  refine VL.nilCheck rfl ?_
  refine VL.fieldAddr rfl fo196_1 rfl ?_
  refine VL.load (v := .int .i64 (failW why 141)) 0 1 rfl kd35 (fun _ h => h) rfl rfl rfl ?_
  refine VL.assign rfl ?_
  refine VL.nn ?_
  refine VC.ret ?_
  refine VX.ret1 rfl rfl (fun we hw => ?_)
  have e : endW parts why = failW why 141 := if_neg (fun e => by rw [e] at h1_5; exact absurd h1_5 (by simp))
  rw [e]
  exact ⟨rfl, hw.lose⟩
 ·refine VL.nn ?_
  refine VC.no rfl ?_
  refine VC.skip ?_
  refine VX.next ?_
  refine VC.sr ?_
  refine VL.move rfl ?_
  refine VL.nilCheck rfl ?_
  refine VL.fieldAddr rfl fo196_1 rfl ?_
  refine VL.load (v := .int .i64 (why)) 0 1 rfl kd35 (fun _ h => h) rfl rfl rfl ?_
  refine VL.assign rfl ?_
  refine VL.nn ?_
  refine VC.ret ?_
  refine VX.ret1 rfl rfl (fun we hw => ?_)
  have e : endW parts why = why := if_pos (List.eq_nil_of_length_eq_zero (by omega))
  rw [e]
  exact ⟨rfl, hw.lose⟩

theorem num_r {S : List Snap} {H : List Chunk} {w : World} {g : Nat} {p : Option Addr} {c : Nat} {parts : List (List UInt8)} {why : Nat} (ho : Own S (rblk g p parts.length c why :: H) w) (hA : Arr 1 bytesR (g :: keys H) w p parts c) (k : Nat) (h1 : 1 ≤ k) (h8 : k ≤ 8) : Calls Try.prog 132 #[.pointer (some ⟨g, 0, none⟩), .int .i64 k] w (Ret fun v w' => ∃ p' c', v = .int .u64 (takeN parts k) ∧ Own S (rblk g p' (parts.drop 1).length c' (lenW parts why k) :: H) w' ∧ Arr 1 bytesR (g :: keys H) w' p' (parts.drop 1) c') := by
 refine enter (G := Own (⟨w, keys (rblk g p parts.length c why :: H)⟩ :: S) (rblk g p parts.length c why :: H)) ho.keep Try.func132 rfl Try.ntmps132 rfl ?_
 refine VC.sr ?_
 refine VL.assign rfl ?_
 refine VL.nn ?_
 refine VC.sr ?_
 refine VL.move rfl ?_
 refine VL.call Try.func124 rfl (by decide) rfl (fun w' hw => piece_r hw (hA.nowK (s := ⟨w, _⟩) (Mono.slice Mono.byte) hw (List.mem_cons_self ..) rfl)) (fun v => ?_)
 refine VL.at (fun w1 h1w => ?_)
 obtain ⟨p1, c1, pb, cb, rfl, hO, hA1, hB1⟩ := h1w
 refine VL.toOwn hO ?_
 refine VL.assign rfl ?_
 refine VL.nn ?_
 refine VC.seq ?_
 refine VC.sr ?_
 refine VL.move rfl ?_
 refine VL.len Try.underlying24 rfl rfl ?_
 refine VL.move rfl ?_
 refine VL.neq rfl rfl ?_
 refine VL.case (fun h2_3 => ?_) (fun h2_3 => ?_)
 ·refine VL.nn ?_
  refine VC.yes rfl ?_
  refine VC.sr ?_
  refine VL.move rfl ?_
  refine VL.call Try.func125 rfl (by decide) rfl (fun w' hw => fail_r hw 141) (fun v => ?_)
  refine VL.fact fun e => ?_
  subst e
  refine VL.nn ?_
  refine VC.sr ?_
  refine VL.assign rfl ?_
  refine VL.nn ?_
  refine VC.ret ?_
  refine VX.then_ret ?_
  refine VX.ret1 rfl rfl (fun we hw => ?_)
  have hne : (nextP parts).length ≠ k := by omega
  exact ⟨p1, c1, by rw [show takeN parts k = 0 from if_neg hne]; rfl, by rw [show lenW parts why k = failW (nextW parts why) 141 from if_neg hne]; exact hw.lose.lose, hA1.nowK (s := ⟨w1, _⟩) (Mono.slice Mono.byte) hw (List.mem_cons_self ..) rfl⟩
 ·refine VL.nn ?_
  refine VC.no rfl ?_
  refine VC.skip ?_
  refine VX.next ?_
  refine VC.sr ?_
  refine VL.move rfl ?_
  refine VL.call Try.func28 rfl (by decide) rfl (fun w' hw => get_any hw (hB1.now (s := ⟨w1, _⟩) Mono.byte hw (List.mem_cons_self ..))) (fun v => ?_)
  refine VL.at (fun w2 h1w => ?_)
  obtain ⟨hO2, ⟨_, _, rfl⟩ | ⟨hno, _⟩⟩ := h1w
  rotate_left
  ·omega
  refine VL.toOwn hO2 ?_
  refine VL.move rfl ?_
  refine VL.extract rfl rfl ?_
  refine VL.extract rfl rfl ?_
  refine VL.assign rfl ?_
  refine VL.assign rfl ?_
  refine VL.nn ?_
  refine VC.sr ?_
  refine VL.move rfl ?_
  refine VL.assign rfl ?_
  refine VL.nn ?_
  refine VC.ret ?_
  refine VX.ret1 rfl rfl (fun we hw => ?_)
  have he : (nextP parts).length = k := by omega
  exact ⟨p1, c1, by rw [show takeN parts k = num (nextP parts) from if_pos he]; rfl, by rw [show lenW parts why k = nextW parts why from if_pos he]; exact hw.lose.lose.lose, hA1.nowK (s := ⟨w1, _⟩) (Mono.slice Mono.byte) hw (by repeat (first | exact List.mem_cons_self .. | apply List.mem_cons_of_mem)) rfl⟩

theorem byte_r {S : List Snap} {H : List Chunk} {w : World} {g : Nat} {p : Option Addr} {c : Nat} {parts : List (List UInt8)} {why : Nat} (ho : Own S (rblk g p parts.length c why :: H) w) (hA : Arr 1 bytesR (g :: keys H) w p parts c) : Calls Try.prog 122 #[.pointer (some ⟨g, 0, none⟩)] w (Ret fun v w' => ∃ p' c', v = .int .u8 (takeN parts 1) ∧ Own S (rblk g p' (parts.drop 1).length c' (lenW parts why 1) :: H) w' ∧ Arr 1 bytesR (g :: keys H) w' p' (parts.drop 1) c') := by
 refine enter (G := Own (⟨w, keys (rblk g p parts.length c why :: H)⟩ :: S) (rblk g p parts.length c why :: H)) ho.keep Try.func122 rfl Try.ntmps122 rfl ?_
 refine VC.sr ?_
 refine VL.assign rfl ?_
 refine VL.nn ?_
 refine VC.sr ?_
 refine VL.move rfl ?_
 refine VL.call Try.func132 rfl (by decide) rfl (fun w' hw => num_r hw (hA.nowK (s := ⟨w, _⟩) (Mono.slice Mono.byte) hw (List.mem_cons_self ..) rfl) 1 (by decide) (by decide)) (fun v => ?_)
 refine VL.at (fun w1 h1w => ?_)
 obtain ⟨p1, c1, rfl, hO, hA1⟩ := h1w
 refine VL.toOwn hO ?_
 refine VL.conv (by rw [Try.underlying22]; rfl) Try.underlying5 rfl (by have := takeN_lt parts 1; simp only [InR]; omega) ?_
 refine VL.assign rfl ?_
 refine VL.nn ?_
 refine VC.ret ?_
 refine VX.ret1 rfl rfl (fun we hw => ?_)
 exact ⟨p1, c1, rfl, hw.lose.lose, hA1.nowK (s := ⟨w1, _⟩) (Mono.slice Mono.byte) hw (List.mem_cons_self ..) rfl⟩

theorem plan196 : planOf Try.prog 196 = some (placesL 0 [1, 1], (cat [[.slice none 0 0], [.int .i64 0]]).toArray) := by kernel_rfl

theorem open_r {S : List Snap} {H : List Chunk} {w : World} (ho : Own S H w) {p : Option Addr} {l : List UInt8} {c : Nat} (hA : Bytes (keys H) w p l c) : Calls Try.prog 121 #[.slice p l.length c] w (Ret fun v w' => ∃ g p' c', v = .pointer (some ⟨g, 0, none⟩) ∧ Own S (rblk g p' (openP l).length c' (openW l) :: H) w' ∧ Arr 1 bytesR (g :: keys H) w' p' (openP l) c') := by
 refine enter (G := Own (⟨w, keys H⟩ :: S) H) ho.keep Try.func121 rfl Try.ntmps121 rfl ?_
 refine VC.sr ?_
 refine VL.assign rfl ?_
 refine VL.nn ?_
 refine VC.sr ?_
 refine VL.move rfl ?_
 refine VL.call Try.func32 rfl (by decide) rfl (fun w' hw => split_any hw (hA.now (s := ⟨w, keys H⟩) Mono.byte hw (by repeat (first | exact List.mem_cons_self .. | apply List.mem_cons_of_mem)))) (fun v => ?_)
 refine VL.at (fun w1 h1w => ?_)
 obtain ⟨hO, p1, c1, rfl, hA1⟩ := h1w
 refine VL.toOwn hO ?_
 refine VL.move rfl ?_
 refine VL.extract rfl rfl ?_
 refine VL.extract rfl rfl ?_
 refine VL.assign rfl ?_
 refine VL.assign rfl ?_
 refine VL.nn ?_
 refine VC.seq ?_
 refine VC.sr ?_
 refine VL.move rfl ?_
 refine VL.neq rfl rfl ?_
 refine VL.case (fun h2_1 => ?_) (fun h2_1 => ?_)
 ·have hs : (splitB l).2 = [] := split_err l (by omega)
  refine VL.move rfl ?_
  refine VL.pass rfl rfl rfl rfl rfl ?_
  refine VL.pass rfl rfl rfl rfl rfl ?_
  refine VL.pass rfl rfl rfl rfl rfl ?_
  refine VL.pick_t rfl rfl ?_
  refine VL.nn ?_
  refine VC.yes rfl ?_
  refine VC.sr ?_
  refine VL.build (zs := [[.slice none 0 0], [.int .i64 0]]) [(1, [.int .i64 141])] plan196 rfl ⟨⟨rfl, ⟨_, rfl, rfl⟩, rfl⟩, trivial⟩ rfl ?_
  refine VL.box (L := [1, 1]) (ps := [[.slice none 0 0], [.int .i64 141]]) rfl rfl rfl (fun gr => ?_)
  refine VL.assign rfl ?_
  refine VL.nn ?_
  refine VC.ret ?_
  refine VX.then_ret ?_
  refine VX.ret1 rfl rfl (fun we hw => ?_)
  refine ⟨gr, none, 0, rfl, ?_, ?_⟩
  ·have e1 : openP l = [] := hs
   have e2 : openW l = 141 := if_pos hs
   rw [e1, e2]; exact hw.lose.lose
  ·rw [show openP l = [] from hs]; exact Arr.none
 ·refine VL.move rfl ?_
  refine VL.go rfl rfl rfl ?_
  refine VL.move rfl ?_
  refine VL.go rfl rfl rfl ?_
  refine VL.len Try.underlying31 rfl rfl ?_
  refine VL.go rfl rfl rfl ?_
  refine VL.eql rfl rfl ?_
  refine VL.case (fun h2_5 => ?_) (fun h2_5 => ?_)
  ·have hs : (splitB l).2 = [] := List.eq_nil_of_length_eq_zero (by omega)
   refine VL.pick_f rfl rfl ?_
   refine VL.nn ?_
   refine VC.yes rfl ?_
   refine VC.sr ?_
   refine VL.build (zs := [[.slice none 0 0], [.int .i64 0]]) [(1, [.int .i64 141])] plan196 rfl ⟨⟨rfl, ⟨_, rfl, rfl⟩, rfl⟩, trivial⟩ rfl ?_
   refine VL.box (L := [1, 1]) (ps := [[.slice none 0 0], [.int .i64 141]]) rfl rfl rfl (fun gr => ?_)
   refine VL.assign rfl ?_
   refine VL.nn ?_
   refine VC.ret ?_
   refine VX.then_ret ?_
   refine VX.ret1 rfl rfl (fun we hw => ?_)
   refine ⟨gr, none, 0, rfl, ?_, ?_⟩
   ·have e1 : openP l = [] := hs
    have e2 : openW l = 141 := if_pos hs
    rw [e1, e2]; exact hw.lose.lose
   ·rw [show openP l = [] from hs]; exact Arr.none
  ·have hs : (splitB l).2 ≠ [] := fun e => h2_5 (by rw [e]; rfl)
   refine VL.pick_f rfl rfl ?_
   refine VL.nn ?_
   refine VC.no rfl ?_
   refine VC.skip ?_
   refine VX.next ?_
   refine VC.sr ?_
   refine VL.move rfl ?_
   refine VL.build (zs := [[.slice none 0 0], [.int .i64 0]]) [(0, [.slice p1 (splitB l).2.length c1])] plan196 rfl ⟨⟨rfl, ⟨_, rfl, rfl⟩, rfl⟩, trivial⟩ rfl ?_
   refine VL.box (L := [1, 1]) (ps := [[.slice p1 (splitB l).2.length c1], [.int .i64 0]]) rfl rfl rfl (fun gr => ?_)
   refine VL.assign rfl ?_
   refine VL.nn ?_
   refine VC.ret ?_
   refine VX.ret1 rfl rfl (fun we hw => ?_)
   refine ⟨gr, p1, c1, rfl, ?_, ?_⟩
   ·rw [show openW l = 0 from if_neg hs]; exact hw.lose.lose
   ·exact hA1.nowK (s := ⟨w1, _⟩) (Mono.slice Mono.byte) hw (List.mem_cons_self ..) rfl

end Go.Proofs.Ytcfecmoagfgnaaa

/- wire: what takes pieces, wherever it lies. -/
namespace Go.Proofs.Ytcfecmoagfgnaaa
open Go.Vc Go.Pl

/-- The reading of the variable of what takes pieces. -/
def rdR (parts : List (List UInt8)) (why : Nat) : Rel (List (List Value)) := fun K w _ ps => ∃ p c, ps = [[.slice p parts.length c], [.int .i64 why]] ∧ Arr 1 bytesR K w p parts c
theorem Mono_rd (parts : List (List UInt8)) (why : Nat) : Mono (rdR parts why) := fun _ _ _ _ _ ha ⟨p, c, e, h⟩ => ⟨p, c, e, h.after (Mono.slice Mono.byte) ha⟩
/-- What takes pieces: those that are left; the error. -/
def rch (g : Nat) (parts : List (List UInt8)) (why : Nat) : Chunk := xblk g 196 [1, 1] (rdR parts why) (Mono_rd parts why)
theorem openR {S : List Snap} {H : List Chunk} {w : World} {g : Nat} {parts : List (List UInt8)} {why : Nat} (h : Own S (rch g parts why :: H) w) : ∃ p c, Own S (rblk g p parts.length c why :: H) w ∧ Arr 1 bytesR (g :: keys H) w p parts c := by
 obtain ⟨ps, h1, p, c, rfl, h2⟩ := h.openX
 exact ⟨p, c, h1, h2⟩
theorem shutR {S : List Snap} {H : List Chunk} {w : World} {g : Nat} {parts : List (List UInt8)} {why : Nat} {p : Option Addr} {c : Nat} (h : Own S (rblk g p parts.length c why :: H) w) (hA : Arr 1 bytesR (g :: keys H) w p parts c) : Own S (rch g parts why :: H) w :=
 h.shutX (Mono_rd parts why) ⟨p, c, rfl, hA⟩
theorem set_at {H : List Chunk} {i : Nat} {c : Chunk} (hi : H[i]? = some c) (c' : Chunk) : (H.set i c')[i]? = some c' := by
 have := (List.getElem?_eq_some_iff.1 hi).1
 rw [List.getElem?_set_self (by simpa using this)]
theorem open_R {S : List Snap} {H : List Chunk} {w : World} (ho : Own S H w) {p : Option Addr} {l : List UInt8} {c : Nat} (hA : Bytes (keys H) w p l c) : Calls Try.prog 121 #[.slice p l.length c] w (Ret fun v w' => ∃ g, v = .pointer (some ⟨g, 0, none⟩) ∧ Own S (rch g (openP l) (openW l) :: H) w') :=
 calls_mono (open_r ho hA) fun v w' ⟨g, p', c', e, h1, h2⟩ => ⟨g, e, shutR h1 h2⟩
theorem fail_R {S : List Snap} {H : List Chunk} {w : World} {g : Nat} {parts : List (List UInt8)} {why : Nat} {i : Nat} (hi : H[i]? = some (rch g parts why)) (ho : Own S H w) (e : Nat) : Calls Try.prog 125 #[.pointer (some ⟨g, 0, none⟩), .int .i64 e] w (Ret fun v w' => v = .tuple #[] ∧ Own S (H.set i (rch g parts (failW why e))) w') := by
 have h0 := (ho.front hi).keep
 obtain ⟨p, c, h1, h2⟩ := openR h0
 refine calls_mono (fail_r h1 e) fun v w' ⟨e1, h3⟩ => ⟨e1, ?_⟩
 have := shutR h3 (h2.nowK (s := ⟨w, _⟩) (K := g :: keys (H.eraseIdx i)) (Mono.slice Mono.byte) h3 (by repeat (first | exact List.mem_cons_self .. | apply List.mem_cons_of_mem)) rfl)
 exact (this.lose).back hi
theorem end_R {S : List Snap} {H : List Chunk} {w : World} {g : Nat} {parts : List (List UInt8)} {why : Nat} {i : Nat} (hi : H[i]? = some (rch g parts why)) (ho : Own S H w) : Calls Try.prog 126 #[.pointer (some ⟨g, 0, none⟩)] w (Ret fun v w' => v = .int .i64 (endW parts why) ∧ Own S (H.set i (rch g parts (endW parts why))) w') := by
 have h0 := (ho.front hi).keep
 obtain ⟨p, c, h1, h2⟩ := openR h0
 refine calls_mono (end_r h1) fun v w' ⟨e1, h3⟩ => ⟨e1, ?_⟩
 have := shutR h3 (h2.nowK (s := ⟨w, _⟩) (K := g :: keys (H.eraseIdx i)) (Mono.slice Mono.byte) h3 (by repeat (first | exact List.mem_cons_self .. | apply List.mem_cons_of_mem)) rfl)
 exact (this.lose).back hi
theorem piece_R {S : List Snap} {H : List Chunk} {w : World} {g : Nat} {parts : List (List UInt8)} {why : Nat} {i : Nat} (hi : H[i]? = some (rch g parts why)) (ho : Own S H w) : Calls Try.prog 124 #[.pointer (some ⟨g, 0, none⟩)] w (Ret fun v w' => ∃ pb cb, v = .slice pb (nextP parts).length cb ∧ Own S (H.set i (rch g (parts.drop 1) (nextW parts why))) w' ∧ Bytes (keys (H.set i (rch g (parts.drop 1) (nextW parts why)))) w' pb (nextP parts) cb) := by
 have h0 := ho.front hi
 obtain ⟨p, c, h1, h2⟩ := openR h0
 refine calls_mono (piece_r h1 h2) fun v w' ⟨p', c', pb, cb, e1, h3, h4, h5⟩ => ⟨pb, cb, e1, (shutR h3 h4).back hi, h5.keysTo Mono.byte fun k hk => ?_⟩
 exact (keys_set hi k).1 hk
theorem num_R {S : List Snap} {H : List Chunk} {w : World} {g : Nat} {parts : List (List UInt8)} {why : Nat} {i : Nat} (hi : H[i]? = some (rch g parts why)) (ho : Own S H w) (k : Nat) (h1 : 1 ≤ k) (h8 : k ≤ 8) : Calls Try.prog 132 #[.pointer (some ⟨g, 0, none⟩), .int .i64 k] w (Ret fun v w' => v = .int .u64 (takeN parts k) ∧ Own S (H.set i (rch g (parts.drop 1) (lenW parts why k))) w') := by
 have h0 := ho.front hi
 obtain ⟨p, c, h1', h2⟩ := openR h0
 exact calls_mono (num_r h1' h2 k h1 h8) fun v w' ⟨p', c', e1, h3, h4⟩ => ⟨e1, (shutR h3 h4).back hi⟩
theorem byte_R {S : List Snap} {H : List Chunk} {w : World} {g : Nat} {parts : List (List UInt8)} {why : Nat} {i : Nat} (hi : H[i]? = some (rch g parts why)) (ho : Own S H w) : Calls Try.prog 122 #[.pointer (some ⟨g, 0, none⟩)] w (Ret fun v w' => v = .int .u8 (takeN parts 1) ∧ Own S (H.set i (rch g (parts.drop 1) (lenW parts why 1))) w') := by
 have h0 := ho.front hi
 obtain ⟨p, c, h1', h2⟩ := openR h0
 exact calls_mono (byte_r h1' h2) fun v w' ⟨p', c', e1, h3, h4⟩ => ⟨e1, (shutR h3 h4).back hi⟩
theorem zero80 : (Try.prog.info? 80).bind (·.zero) = some (.agg ((zeros 64).map bv).toArray) := by kernel_rfl
theorem keyOf_takeB (parts : List (List UInt8)) : keyOf (nextP parts) = takeB 32 parts := rfl

theorem key_R {S : List Snap} {H : List Chunk} {w : World} {g : Nat} {parts : List (List UInt8)} {why : Nat} {i : Nat} (hi : H[i]? = some (rch g parts why)) (ho : Own S H w) : Calls Try.prog 129 #[.pointer (some ⟨g, 0, none⟩)] w (Ret fun v w' => v = .agg ((takeB 32 parts).map bv).toArray ∧ Own S (H.set i (rch g (parts.drop 1) (lenW parts why 32))) w') := by
 refine enter (G := Own S H) ho Try.func129 rfl Try.ntmps129 rfl ?_
 refine VC.sr ?_
 refine VL.alloc (L := [32]) (ps := [key0.map bv]) zero44 rfl rfl (fun g2 => ?_)
 refine VL.nn ?_
 refine VC.sr ?_
 refine VL.move rfl ?_
 refine VL.call Try.func124 rfl (by decide) rfl (fun w' hw => piece_R (i := i + 1) hi hw) (fun v => ?_)
 refine VL.at (fun w1 h1w => ?_)
 obtain ⟨pb, cb, rfl, hO, hB1⟩ := h1w
 have hi2 := set_at hi (rch g (parts.drop 1) (nextW parts why))
 refine VL.toOwn hO ?_
 refine VL.call Try.func36 rfl (by decide) rfl (fun w' hw => key_any hw (hB1.nowA (s := ⟨w1, _⟩) Mono.byte hw)) (fun v => ?_)
 refine VL.at (fun w2 h1w => ?_)
 obtain ⟨hO2, rfl⟩ := h1w
 refine VL.toOwn hO2 ?_
 refine VL.move rfl ?_
 refine VL.extract rfl rfl ?_
 refine VL.extract rfl rfl ?_
 refine VL.alloc (L := [32]) (ps := [key0.map bv]) zero44 rfl rfl (fun g3 => ?_)
 refine VL.store (L := [32]) (qs := [(keyOf (nextP parts)).map bv]) 0 0 1 rfl rfl rfl (.inl kd44) rfl rfl (by simp [keyOf_length]) (ok1_bytes _) rfl rfl ?_
 refine VL.assign rfl ?_
 refine VL.nn ?_
 refine VC.seq ?_
 refine VC.sr ?_
 refine VL.move rfl ?_
 refine VL.not rfl ?_
 refine VL.nn ?_
 refine VC.split rfl (fun hc12 => ?_) (fun hc12 => ?_)
 ·refine VC.region ?_
  refine VL.move rfl ?_
  refine VL.call Try.func125 rfl (by decide) rfl (fun w' hw => fail_R (i := i + 2) hi2 hw 141) (fun v => ?_)
  refine VL.fact fun e => ?_
  subst e
  refine VL.nn ?_
  refine VC.sr ?_
  refine VL.loads (cs := (keyOf (nextP parts)).map bv) 0 0 1 rfl kd44 (fun _ h => h) rfl rfl rfl rfl ?_
  refine VL.store (L := [32]) (qs := [(keyOf (nextP parts)).map bv]) 1 0 1 rfl rfl rfl (.inl kd44) rfl rfl (by simp [keyOf_length]) (ok1_bytes _) rfl rfl ?_
  refine VL.nn ?_
  refine VC.ret ?_
  refine VX.ret_cell1 (cs := (keyOf (nextP parts)).map bv) 1 rfl rfl (by rw [List.length_map, keyOf_length]; exact kd44) (fun _ h => h) rfl rfl (fun we hw => ?_)
  refine ⟨by rw [keyOf_takeB], ?_⟩
  rw [show lenW parts why 32 = failW (nextW parts why) 141 from if_neg (by simpa using hc12)]
  rw [← List.set_set (a := rch g (parts.drop 1) (nextW parts why))]
  exact hw.drop.drop.lose.lose
 ·refine VC.skip ?_
  refine VX.next ?_
  refine VC.sr ?_
  refine VL.loads (cs := (keyOf (nextP parts)).map bv) 0 0 1 rfl kd44 (fun _ h => h) rfl rfl rfl rfl ?_
  refine VL.store (L := [32]) (qs := [(keyOf (nextP parts)).map bv]) 1 0 1 rfl rfl rfl (.inl kd44) rfl rfl (by simp [keyOf_length]) (ok1_bytes _) rfl rfl ?_
  refine VL.nn ?_
  refine VC.ret ?_
  refine VX.ret_cell1 (cs := (keyOf (nextP parts)).map bv) 1 rfl rfl (by rw [List.length_map, keyOf_length]; exact kd44) (fun _ h => h) rfl rfl (fun we hw => ?_)
  refine ⟨by rw [keyOf_takeB], ?_⟩
  rw [show lenW parts why 32 = nextW parts why from if_pos (by simpa using hc12)]
  exact hw.drop.drop.lose.lose

theorem sig_R {S : List Snap} {H : List Chunk} {w : World} {g : Nat} {parts : List (List UInt8)} {why : Nat} {i : Nat} (hi : H[i]? = some (rch g parts why)) (ho : Own S H w) : Calls Try.prog 131 #[.pointer (some ⟨g, 0, none⟩)] w (Ret fun v w' => v = .agg ((takeB 64 parts).map bv).toArray ∧ Own S (H.set i (rch g (parts.drop 1) (lenW parts why 64))) w') := by
 refine enter (G := Own S H) ho Try.func131 rfl Try.ntmps131 rfl ?_
 refine VC.sr ?_
 refine VL.alloc (L := [64]) (ps := [(zeros 64).map bv]) zero80 rfl rfl (fun g2 => ?_)
 refine VL.nn ?_
 refine VC.sr ?_
 refine VL.alloc (L := [64]) (ps := [(zeros 64).map bv]) zero80 rfl rfl (fun g3 => ?_)
 refine VL.nn ?_
 refine VC.sr ?_
 refine VL.move rfl ?_
 refine VL.call Try.func124 rfl (by decide) rfl (fun w' hw => piece_R (i := i + 2) hi hw) (fun v => ?_)
 refine VL.at (fun w1 h1w => ?_)
 obtain ⟨pb, cb, rfl, hO, hB1⟩ := h1w
 have hi2 := set_at hi (rch g (parts.drop 1) (nextW parts why))
 refine VL.toOwn hO ?_
 refine VL.assign rfl ?_
 refine VL.nn ?_
 refine VC.seq ?_
 refine VC.sr ?_
 refine VL.move rfl ?_
 refine VL.len Try.underlying24 rfl rfl ?_
 refine VL.neq rfl rfl ?_
 refine VL.case (fun h3_2 => ?_) (fun h3_2 => ?_)
 ·refine VL.nn ?_
  refine VC.yes rfl ?_
  refine VC.sr ?_
  refine VL.move rfl ?_
  refine VL.call Try.func125 rfl (by decide) rfl (fun w' hw => fail_R (i := i + 2) hi2 hw 141) (fun v => ?_)
  refine VL.fact fun e => ?_
  subst e
  refine VL.nn ?_
  refine VC.sr ?_
  refine VL.loads (cs := (zeros 64).map bv) 0 0 1 rfl kd80 (fun _ h => h) rfl rfl rfl rfl ?_
  refine VL.store (L := [64]) (qs := [(zeros 64).map bv]) 1 0 1 rfl rfl rfl (.inl kd80) rfl rfl rfl (ok1_bytes _) rfl rfl ?_
  refine VL.nn ?_
  refine VC.ret ?_
  refine VX.then_ret ?_
  refine VX.ret_cell1 (cs := (zeros 64).map bv) 1 rfl rfl kd80 (fun _ h => h) rfl rfl (fun we hw => ?_)
  refine ⟨by rw [show takeB 64 parts = zeros 64 from if_neg (by omega)], ?_⟩
  rw [show lenW parts why 64 = failW (nextW parts why) 141 from if_neg (by omega)]
  rw [← List.set_set (a := rch g (parts.drop 1) (nextW parts why))]
  exact hw.drop.drop.lose
 ·refine VL.nn ?_
  refine VC.no rfl ?_
  refine VC.skip ?_
  refine VX.next ?_
  refine VC.seq ?_
  have hl : (nextP parts).length = 64 := by omega
  refine VC.region ?_
  refine VL.sliceArr Try.underlying80 (by kernel_rfl) rfl ?_
  refine VL.move rfl ?_
  refine VL.copyAll (cur := (zeros 64).map bv) (l := nextP parts) 0 rfl Try.underlying24 (by kernel_rfl) rfl rfl rfl hl (by omega) (fun _ h => (hB1.nowA (s := ⟨w1, _⟩) Mono.byte h).bytes) rfl (fun _ => ?_)
  refine VL.nn ?_
  refine VC.sr ?_
  refine VL.loads (cs := (nextP parts).map bv) 0 0 1 rfl kd80 (fun _ h => h) rfl rfl rfl rfl ?_
  refine VL.store (L := [64]) (qs := [(nextP parts).map bv]) 1 0 1 rfl rfl rfl (.inl kd80) rfl rfl (by simp [hl]) (ok1_bytes _) rfl rfl ?_
  refine VL.nn ?_
  refine VC.ret ?_
  refine VX.ret_cell1 (cs := (nextP parts).map bv) 1 rfl rfl (by rw [List.length_map, hl]; exact kd80) (fun _ h => h) rfl rfl (fun we hw => ?_)
  refine ⟨by rw [show takeB 64 parts = nextP parts from if_pos hl], ?_⟩
  rw [show lenW parts why 64 = nextW parts why from if_pos hl]
  exact hw.drop.drop.lose

end Go.Proofs.Ytcfecmoagfgnaaa

/- The things as cells: their parts, their zeros; one against the other. -/
namespace Go.Proofs.Ytcfecmoagfgnaaa
open Go.Vc Go.Pl

abbrev vouchV (x : Vouch)  : List (List Value) := [[.int .u8 x.notary], x.sig.map bv]
abbrev vouchL : List Nat := [1, 64]
theorem zero202 : (Try.prog.info? 202).bind (·.zero) = some (.agg (cat (vouchV vouch0 )).toArray) := by kernel_rfl
theorem built202 : Try.prog.built 202 [] = some (cat (vouchV vouch0 )).toArray := by kernel_rfl
abbrev vouchZ : List (List Value) := [[.int .u8 0], (zeros 64).map bv]
abbrev vouchFL : List Nat := [1, 64]
theorem plan202 : planOf Try.prog 202 = some (placesL 0 vouchFL, (cat vouchZ).toArray) := by kernel_rfl
theorem vouchV_len {x : Vouch} (h : x.ok)  : (vouchV x ).map List.length = vouchL := by simp [h.sig]
theorem vouchV_ok1 (x : Vouch)  : ok1 (cat (vouchV x )) := by
 intro u hu
 rw [cat_eq] at hu
 simp only [List.mem_flatten, List.mem_cons, List.not_mem_nil, or_false] at hu
 obtain ⟨l, hl, hu⟩ := hu
 rcases hl with rfl | rfl <;> first | (simp only [List.mem_singleton] at hu; subst hu; rfl) | exact ok1_bytes _ u hu
abbrev objectV (x : Object) (q : Option Addr) (d : Nat) : List (List Value) := [[.int .u8 x.server], [.int .u8 x.n], x.key.map bv, [.int .u32 x.since], [.int .u32 x.till], x.sig.map bv, [.slice q x.vouches.length d]]
abbrev objectL : List Nat := [1, 1, 32, 1, 1, 64, 1]
theorem zero85 : (Try.prog.info? 85).bind (·.zero) = some (.agg (cat (objectV object0 none 0)).toArray) := by kernel_rfl
theorem built85 : Try.prog.built 85 [] = some (cat (objectV object0 none 0)).toArray := by kernel_rfl
abbrev objectZ : List (List Value) := [[.int .u8 0], [.int .u8 0], (zeros 32).map bv, [.int .u32 0], [.int .u32 0], (zeros 64).map bv, [.slice none 0 0]]
abbrev objectFL : List Nat := [1, 1, 32, 1, 1, 64, 1]
theorem plan85 : planOf Try.prog 85 = some (placesL 0 objectFL, (cat objectZ).toArray) := by kernel_rfl
theorem objectV_len {x : Object} (h : x.ok) {q : Option Addr} {d : Nat} : (objectV x q d).map List.length = objectL := by simp [h.key, h.sig]
theorem objectV_ok1 (x : Object) (q : Option Addr) (d : Nat) : ok1 (cat (objectV x q d)) := by
 intro u hu
 rw [cat_eq] at hu
 simp only [List.mem_flatten, List.mem_cons, List.not_mem_nil, or_false] at hu
 obtain ⟨l, hl, hu⟩ := hu
 rcases hl with rfl | rfl | rfl | rfl | rfl | rfl | rfl <;> first | (simp only [List.mem_singleton] at hu; subst hu; rfl) | exact ok1_bytes _ u hu
theorem arr_len {l : List UInt8} {n : Nat} (h : l.length = n) : [l.map bv].map List.length = [n] := by simp [h]
theorem arr_q {l : List UInt8} {n : Nat} (h : l.length = n) : some n = some (l.map bv).length := by simp [h]
theorem zero43 : (Try.prog.info? 43).bind (·.zero) = some (.agg ((zeros 32).map bv).toArray) := by kernel_rfl
theorem zero79 : (Try.prog.info? 79).bind (·.zero) = some (.agg ((zeros 64).map bv).toArray) := by kernel_rfl
def vouchR : Rel Vouch := fun _ _ vs v => v.ok ∧ vs = cat (vouchV v)
theorem Mono_vouch : Mono vouchR := fun _ _ _ _ _ _ h => h
end Go.Proofs.Ytcfecmoagfgnaaa

/- wire: what gathers pieces: at its beginning, at its end. -/
namespace Go.Proofs.Ytcfecmoagfgnaaa
open Go.Vc Go.Pl

theorem fits4 {m : Nat} (h : m < 4294967296) : Fits 4 m := h
theorem inr_u64 {m : Nat} (h : m < 4294967296) : InR .u64 (m : Int) :=
 ⟨Int.natCast_nonneg _, by
  have : (m : Int) ≤ 4294967296 := by omega
  exact Int.le_trans this (by decide)⟩
theorem cat_size {α : Type} {ps : List (List α)} {L : List Nat} (h : ps.map List.length = L) : (cat ps).length = L.sum := by rw [cat_eq, List.length_flatten, h]
/-- What a text's answer says: it, or none. -/
abbrev RetO (S : List Snap) (H : List Chunk) (o : Option (List UInt8)) : Ending → World → Prop := Ret fun v w' => ∃ p c, v = .tuple #[.slice p (o.getD []).length c, .bool o.isSome] ∧ Own S H w' ∧ Bytes (keys H) w' p (o.getD []) c
end Go.Proofs.Ytcfecmoagfgnaaa

/- wire: bytes of bundles, headers, letters. -/
namespace Go.Proofs.Ytcfecmoagfgnaaa
open Go.Vc Go.Pl

theorem postO {S : List Snap} {H : List Chunk} {o o' : Option (List UInt8)} (e : o' = o) {v : Value} {w' : World} (h : ∃ p c, v = .tuple #[.slice p (o'.getD []).length c, .bool o'.isSome] ∧ Own S H w' ∧ Bytes (keys H) w' p (o'.getD []) c) : ∃ p c, v = .tuple #[.slice p (o.getD []).length c, .bool o.isSome] ∧ Own S H w' ∧ Bytes (keys H) w' p (o.getD []) c := by subst e; exact h

end Go.Proofs.Ytcfecmoagfgnaaa

/- wire: what bytes are read as: bundles, headers, letters. -/
namespace Go.Proofs.Ytcfecmoagfgnaaa
open Go.Vc Go.Pl

theorem why_none {α : Type} {o : Option α} {n : Nat} (hn : (n : Int) ≠ 0) (h : n = if o.isSome then 0 else 141) : o = none ∧ n = 141 := by
 cases o with
 | none => exact ⟨rfl, h⟩
 | some x => exact absurd (by rw [h]; rfl) hn
theorem why_some {α : Type} {o : Option α} {n : Nat} (hn : ¬ (n : Int) ≠ 0) (h : n = if o.isSome then 0 else 141) : ∃ x, o = some x := by
 cases o with
 | none => exact absurd (show (n : Int) ≠ 0 by rw [h]; exact (by decide : ((141 : Nat) : Int) ≠ 0)) hn
 | some x => exact ⟨x, rfl⟩
theorem bundleR_ok (l : List UInt8) : ((bundleR l).getD bundle0).ok := by
 cases h : bundleR l with
 | none => exact bundle0_ok
 | some x => exact (bundleR_iff.1 h).1
end Go.Proofs.Ytcfecmoagfgnaaa

/- wire: bytes of objects. -/
namespace Go.Proofs.Ytcfecmoagfgnaaa
open Go.Vc Go.Pl

theorem vouchB_is (v : Vouch) : be 1 v.notary ++ v.sig = vouchB v := by rw [be_one]; rfl
theorem vouch_next {vs : List Vouch} {i : Nat} (h : i < vs.length) : (vs.take i).map vouchB ++ [be 1 (vs[i]'h).notary ++ (vs[i]'h).sig] = (vs.take (i + 1)).map vouchB := by
 rw [List.take_succ_eq_append_getElem h, List.map_append, vouchB_is]; rfl

end Go.Proofs.Ytcfecmoagfgnaaa

/- Plain facts on what goes over the net, continued: items. -/
namespace Go.Pl

instance : DecidableEq Bundle := fun a b => decidable_of_iff (a.device = b.device ∧ a.agree = b.agree ∧ a.signer = b.signer ∧ a.id = b.id ∧ a.once = b.once ∧ a.sig = b.sig) ⟨fun h => by cases a; cases b; simp only at h; obtain ⟨rfl, rfl, rfl, rfl, rfl, rfl⟩ := h; rfl, fun h => by subst h; exact ⟨rfl, rfl, rfl, rfl, rfl, rfl⟩⟩
instance : DecidableEq Header := fun a b => decidable_of_iff (a.session = b.session ∧ a.first = b.first ∧ a.agree = b.agree ∧ a.signer = b.signer ∧ a.base = b.base ∧ a.id = b.id ∧ a.ratchet = b.ratchet ∧ a.n = b.n ∧ a.prev = b.prev) ⟨fun h => by cases a; cases b; simp only at h; obtain ⟨rfl, rfl, rfl, rfl, rfl, rfl, rfl, rfl, rfl⟩ := h; rfl, fun h => by subst h; exact ⟨rfl, rfl, rfl, rfl, rfl, rfl, rfl, rfl, rfl⟩⟩
instance : DecidableEq Letter := fun a b => decidable_of_iff (a.src = b.src ∧ a.dst = b.dst ∧ a.header = b.header ∧ a.body = b.body) ⟨fun h => by cases a; cases b; simp only at h; obtain ⟨rfl, rfl, rfl, rfl⟩ := h; rfl, fun h => by subst h; exact ⟨rfl, rfl, rfl, rfl⟩⟩
instance : DecidableEq Vouch := fun a b => decidable_of_iff (a.notary = b.notary ∧ a.sig = b.sig) ⟨fun h => by cases a; cases b; simp only at h; obtain ⟨rfl, rfl⟩ := h; rfl, fun h => by subst h; exact ⟨rfl, rfl⟩⟩
instance : DecidableEq Object := fun a b => decidable_of_iff (a.server = b.server ∧ a.n = b.n ∧ a.key = b.key ∧ a.since = b.since ∧ a.till = b.till ∧ a.sig = b.sig ∧ a.vouches = b.vouches) ⟨fun h => by cases a; cases b; simp only at h; obtain ⟨rfl, rfl, rfl, rfl, rfl, rfl, rfl⟩ := h; rfl, fun h => by subst h; exact ⟨rfl, rfl, rfl, rfl, rfl, rfl, rfl⟩⟩

structure Itm where
  kind : Nat
  asker : Nat
  peer : Nat
  letter : Letter
  bundle : Bundle
  object : Object
structure Itm.ok (x : Itm) : Prop where
  kind : x.kind < 256
  asker : x.asker < 256
  peer : x.peer < 256
  letter : x.letter.ok
  bundle : x.bundle.ok
  object : x.object.ok
def item0 : Itm := ⟨0, 0, 0, letter0, bundle0, object0⟩
theorem item0_ok : item0.ok := ⟨by decide, by decide, by decide, letter0_ok, bundle0_ok, object0_ok⟩
/-- Its kind's pieces; what is there beside its kind; is all else empty? -/
def itemP (x : Itm) : List (List UInt8) :=
  if x.kind = 1 then [be 1 x.kind, (letterO x.letter).getD []] else if x.kind = 2 ∨ x.kind = 4 then [be 1 x.kind, be 1 x.asker, be 1 x.peer]
  else if x.kind = 3 then [be 1 x.kind, be 1 x.asker, bundleB x.bundle] else [be 1 x.kind, (objectO x.object).getD []]
def itemGood (x : Itm) : Bool :=
  if x.kind = 1 then (letterO x.letter).isSome && decide (x.asker = 0 ∧ x.peer = 0 ∧ x.bundle = bundle0 ∧ x.object = object0)
  else if x.kind = 2 ∨ x.kind = 4 then decide (x.letter = letter0 ∧ x.bundle = bundle0 ∧ x.object = object0)
  else if x.kind = 3 then decide (x.peer = 0 ∧ x.letter = letter0 ∧ x.object = object0)
  else if x.kind = 5 ∨ x.kind = 6 then (objectO x.object).isSome && decide (x.asker = 0 ∧ x.peer = 0 ∧ x.letter = letter0 ∧ x.bundle = bundle0)
  else false
def itemO (x : Itm) : Option (List UInt8) := joinO (itemP x) (itemGood x)
def bareP (x : Itm) : Prop := x.asker = 0 ∧ x.peer = 0 ∧ x.letter = letter0 ∧ x.bundle = bundle0 ∧ x.object = object0
/-- What is left of an item when its kind's part is taken out. -/
abbrev itemA (x : Itm) : Itm := ⟨x.kind, x.asker, x.peer, letter0, x.bundle, x.object⟩
abbrev itemB (x : Itm) : Itm := ⟨x.kind, 0, 0, x.letter, x.bundle, x.object⟩
abbrev itemC (x : Itm) : Itm := ⟨x.kind, 0, x.peer, x.letter, bundle0, x.object⟩
abbrev itemD (x : Itm) : Itm := ⟨x.kind, x.asker, x.peer, x.letter, x.bundle, object0⟩
theorem none_joinO (ps : List (List UInt8)) : none = joinO ps false := (joinO_none (by simp)).symm
theorem item1_y {x : Itm} (h : x.kind = 1) (hb : bareP (itemA x)) : joinO [be 1 x.kind, (letterO x.letter).getD []] (letterO x.letter).isSome = itemO x := by
 unfold itemO itemGood itemP
 rw [if_pos h, if_pos h, decide_eq_true ⟨hb.1, hb.2.1, hb.2.2.2.1, hb.2.2.2.2⟩, Bool.and_true]
theorem item2_y {x : Itm} (h : x.kind = 2 ∨ x.kind = 4) (hb : bareP (itemB x)) : joinO [be 1 x.kind, be 1 x.asker, be 1 x.peer] true = itemO x := by
 unfold itemO itemGood itemP
 rw [if_neg (by omega), if_pos h, if_neg (by omega), if_pos h, decide_eq_true ⟨hb.2.2.1, hb.2.2.2.1, hb.2.2.2.2⟩]
theorem item3_y {x : Itm} (h : x.kind = 3) (hb : bareP (itemC x)) : joinO [be 1 x.kind, be 1 x.asker, bundleB x.bundle] true = itemO x := by
 unfold itemO itemGood itemP
 rw [if_neg (by omega), if_neg (by omega), if_pos h, if_neg (by omega), if_neg (by omega), if_pos h, decide_eq_true ⟨hb.2.1, hb.2.2.1, hb.2.2.2.2⟩]
theorem item5_y {x : Itm} (h : x.kind = 5 ∨ x.kind = 6) (hb : bareP (itemD x)) : joinO [be 1 x.kind, (objectO x.object).getD []] (objectO x.object).isSome = itemO x := by
 unfold itemO itemGood itemP
 rw [if_neg (by omega), if_neg (by omega), if_neg (by omega), if_pos h, if_neg (by omega), if_neg (by omega), if_neg (by omega), decide_eq_true ⟨hb.1, hb.2.1, hb.2.2.1, hb.2.2.2.1⟩, Bool.and_true]
/-! What bytes are read as. -/
abbrev itemK (a : List (List UInt8)) : Nat := takeN a 1
/-- The item that is read, if the pieces behind the first one fit. -/
def itemR (l : List UInt8) : Option Itm :=
  let a := openP l
  let b := a.drop 1
  let c := b.drop 1
  if ¬ fitsP [some 1] a then none
  else if itemK a = 1 then (if a.length = 2 then (letterR (nextP b)).map fun y => ⟨1, 0, 0, y, bundle0, object0⟩ else none)
  else if itemK a = 2 ∨ itemK a = 4 then (if fitsP [some 1, some 1, some 1] a ∧ a.length = 3 then some ⟨itemK a, takeN b 1, takeN c 1, letter0, bundle0, object0⟩ else none)
  else if itemK a = 3 then (if fitsP [some 1, some 1, none] a ∧ a.length = 3 then (bundleR (nextP c)).map fun y => ⟨3, takeN b 1, 0, letter0, y, object0⟩ else none)
  else if itemK a = 5 ∨ itemK a = 6 then (if a.length = 2 then (objectR (nextP b)).map fun y => ⟨itemK a, 0, 0, letter0, bundle0, y⟩ else none)
  else none
theorem be_ofN {p : List UInt8} {r : List (List UInt8)} (h : p.length = 1) : be 1 (takeN (p :: r) 1) = p := by rw [takeN_cons h, be_take h]
theorem itemR_some {l : List UInt8} {x : Itm} (h : itemR l = some x) : x.ok ∧ itemO x = some l := by
 unfold itemR at h
 simp only at h
 split at h
 ·cases h
 ·rename_i hf
  have hf : fitsP [some 1] (openP l) := Decidable.not_not.1 hf
  have hne : openP l ≠ [] := fun e => by rw [e] at hf; exact hf.elim
  obtain ⟨hj1, hj2⟩ := join_open hne
  have hk := takeN_lt (openP l) 1
  split at h
  ·rename_i hk1
   split at h
   ·rename_i hl
    obtain ⟨y, hy, rfl⟩ := Option.map_eq_some_iff.1 h
    obtain ⟨hy1, hy2⟩ := letterR_iff.1 hy
    refine ⟨⟨(by decide : 1 < 256), (by decide : 0 < 256), (by decide : 0 < 256), hy1, bundle0_ok, object0_ok⟩, ?_⟩
    rw [← item1_y rfl ⟨rfl, rfl, rfl, rfl, rfl⟩]
    simp only [hy2, Option.getD_some, Option.isSome_some]
    have e : [be 1 1, nextP ((openP l).drop 1)] = openP l := by
     generalize openP l = ps at *
     match ps, hl with
     | [a, b], _ =>
      have ha := hf.1 1 rfl
      have : be 1 (takeN [a, b] 1) = a := be_ofN ha
      rw [show takeN [a, b] 1 = 1 from hk1] at this
      rw [this]; rfl
    rw [e, joinO_some hj1 rfl, hj2]
   ·cases h
  ·rename_i hk1
   split at h
   ·rename_i hk2
    split at h
    ·rename_i hl
     cases h
     refine ⟨⟨hk, takeN_lt _ 1, takeN_lt _ 1, letter0_ok, bundle0_ok, object0_ok⟩, ?_⟩
     rw [← item2_y hk2 ⟨rfl, rfl, rfl, rfl, rfl⟩]
     have e : [be 1 (itemK (openP l)), be 1 (takeN ((openP l).drop 1) 1), be 1 (takeN (((openP l).drop 1).drop 1) 1)] = openP l := by
      generalize openP l = ps at *
      match ps, hl with
      | [a, b, c], hl =>
       obtain ⟨⟨h1, h2, h3, _⟩, _⟩ := hl
       have e1 : be 1 (takeN [a, b, c] 1) = a := be_ofN (h1 1 rfl)
       have e2 : be 1 (takeN [b, c] 1) = b := be_ofN (h2 1 rfl)
       have e3 : be 1 (takeN [c] 1) = c := be_ofN (h3 1 rfl)
       show [be 1 (takeN [a, b, c] 1), be 1 (takeN [b, c] 1), be 1 (takeN [c] 1)] = _
       rw [e1, e2, e3]
      | [], hl => exact absurd hl.2 (by simp)
      | [_], hl => exact absurd hl.2 (by simp)
      | [_, _], hl => exact absurd hl.2 (by simp)
      | _ :: _ :: _ :: _ :: _, hl => exact absurd hl.2 (by simp)
     rw [e, joinO_some hj1 rfl, hj2]
    ·cases h
   ·rename_i hk2
    split at h
    ·rename_i hk3
     split at h
     ·rename_i hl
      obtain ⟨y, hy, rfl⟩ := Option.map_eq_some_iff.1 h
      obtain ⟨hy1, hy2⟩ := bundleR_iff.1 hy
      refine ⟨⟨(by decide : 3 < 256), takeN_lt _ 1, (by decide : 0 < 256), letter0_ok, hy1, object0_ok⟩, ?_⟩
      rw [← item3_y rfl ⟨rfl, rfl, rfl, rfl, rfl⟩]
      simp only [hy2]
      have e : [be 1 3, be 1 (takeN ((openP l).drop 1) 1), nextP (((openP l).drop 1).drop 1)] = openP l := by
       generalize openP l = ps at *
       match ps, hl with
       | [a, b, c], hl =>
        obtain ⟨⟨h1, h2, _⟩, _⟩ := hl
        have e1 : be 1 (takeN [a, b, c] 1) = a := be_ofN (h1 1 rfl)
        have e2 : be 1 (takeN [b, c] 1) = b := be_ofN (h2 1 rfl)
        rw [show takeN [a, b, c] 1 = 3 from hk3] at e1
        show [be 1 3, be 1 (takeN [b, c] 1), c] = _
        rw [e1, e2]
       | [], hl => exact absurd hl.2 (by simp)
       | [_], hl => exact absurd hl.2 (by simp)
       | [_, _], hl => exact absurd hl.2 (by simp)
       | _ :: _ :: _ :: _ :: _, hl => exact absurd hl.2 (by simp)
      rw [e, joinO_some hj1 rfl, hj2]
     ·cases h
    ·rename_i hk3
     split at h
     ·rename_i hk5
      split at h
      ·rename_i hl
       obtain ⟨y, hy, rfl⟩ := Option.map_eq_some_iff.1 h
       obtain ⟨hy1, hy2⟩ := objectR_iff.1 hy
       refine ⟨⟨hk, (by decide : 0 < 256), (by decide : 0 < 256), letter0_ok, bundle0_ok, hy1⟩, ?_⟩
       rw [← item5_y hk5 ⟨rfl, rfl, rfl, rfl, rfl⟩]
       simp only [hy2, Option.getD_some, Option.isSome_some]
       have e : [be 1 (itemK (openP l)), nextP ((openP l).drop 1)] = openP l := by
        generalize openP l = ps at *
        match ps, hl with
        | [a, b], _ =>
         have : be 1 (takeN [a, b] 1) = a := be_ofN (hf.1 1 rfl)
         show [be 1 (takeN [a, b] 1), b] = _
         rw [this]
       rw [e, joinO_some hj1 rfl, hj2]
      ·cases h
     ·cases h
theorem itemR_of {l : List UInt8} {x : Itm} (h : x.ok) (h2 : itemO x = some l) : itemR l = some x := by
 obtain ⟨hj, hg, rfl⟩ := joinO_eq h2
 obtain ⟨k, a, p, y, b, o⟩ := x
 have hk := h.kind; have ha := h.asker; have hp := h.peer
 simp only at hk ha hp
 have hkn : ∀ r, takeN (be 1 k :: r) 1 = k := fun r => by rw [takeN_cons (be_length 1 k), num_be' (by omega)]
 have hfk : ∀ r, fitsP [some 1] (be 1 k :: r) := fun r => ⟨fun n e => by cases e; exact be_length _ _, trivial⟩
 unfold itemR
 rw [open_join hj]
 unfold itemGood at hg
 simp only at hg
 by_cases h1 : k = 1
 ·subst h1
  rw [if_pos rfl] at hg
  simp only [Bool.and_eq_true, decide_eq_true_eq] at hg
  obtain ⟨hs, rfl, rfl, rfl, rfl⟩ := hg
  obtain ⟨t, ht⟩ := Option.isSome_iff_exists.1 hs
  have e : itemP ⟨1, 0, 0, y, bundle0, object0⟩ = [be 1 1, t] := by unfold itemP; rw [if_pos rfl, ht]; rfl
  rw [e]
  simp only
  rw [if_neg (not_not_intro (hfk _)), if_pos (hkn _), if_pos (show [be 1 1, t].length = 2 from rfl)]
  rw [show nextP (List.drop 1 [be 1 1, t]) = t from rfl, letterR_iff.2 ⟨h.letter, ht⟩]; rfl
 ·rw [if_neg h1] at hg
  by_cases h2' : k = 2 ∨ k = 4
  ·rw [if_pos h2'] at hg
   simp only [decide_eq_true_eq] at hg
   obtain ⟨rfl, rfl, rfl⟩ := hg
   have e : itemP ⟨k, a, p, letter0, bundle0, object0⟩ = [be 1 k, be 1 a, be 1 p] := by unfold itemP; rw [if_neg h1, if_pos h2']
   rw [e]
   simp only
   have hkk : itemK [be 1 k, be 1 a, be 1 p] = k := hkn _
   rw [if_neg (not_not_intro (hfk _)), if_neg (by rw [hkk]; exact h1), if_pos (by rw [hkk]; exact h2'), if_pos ⟨⟨fun n e => by cases e; exact be_length _ _, fun n e => by cases e; exact be_length _ _, fun n e => by cases e; exact be_length _ _, trivial⟩, rfl⟩, hkk]
   show some (Itm.mk k (takeN [be 1 a, be 1 p] 1) (takeN [be 1 p] 1) _ _ _) = _
   rw [takeN_cons (be_length 1 a), takeN_cons (be_length 1 p), num_be' (by omega), num_be' (by omega)]
  ·rw [if_neg h2'] at hg
   by_cases h3 : k = 3
   ·subst h3
    rw [if_pos rfl] at hg
    simp only [decide_eq_true_eq] at hg
    obtain ⟨rfl, rfl, rfl⟩ := hg
    have e : itemP ⟨3, a, 0, letter0, b, object0⟩ = [be 1 3, be 1 a, bundleB b] := by unfold itemP; rw [if_neg h1, if_neg h2', if_pos rfl]
    rw [e]
    simp only
    have hkk : itemK [be 1 3, be 1 a, bundleB b] = 3 := hkn _
    rw [if_neg (not_not_intro (hfk _)), if_neg (by rw [hkk]; exact h1), if_neg (by rw [hkk]; exact h2'), if_pos hkk, if_pos ⟨⟨fun n e => by cases e; exact be_length _ _, fun n e => by cases e; exact be_length _ _, fun n e => (by cases e), trivial⟩, rfl⟩]
    rw [show nextP (List.drop 1 (List.drop 1 [be 1 3, be 1 a, bundleB b])) = bundleB b from rfl, bundleR_iff.2 ⟨h.bundle, rfl⟩]
    show some (Itm.mk 3 (takeN [be 1 a, bundleB b] 1) _ _ _ _) = _
    rw [takeN_cons (be_length 1 a), num_be' (by omega)]
   ·rw [if_neg h3] at hg
    by_cases h5 : k = 5 ∨ k = 6
    ·rw [if_pos h5] at hg
     simp only [Bool.and_eq_true, decide_eq_true_eq] at hg
     obtain ⟨hs, rfl, rfl, rfl, rfl⟩ := hg
     obtain ⟨t, ht⟩ := Option.isSome_iff_exists.1 hs
     have e : itemP ⟨k, 0, 0, letter0, bundle0, o⟩ = [be 1 k, t] := by unfold itemP; rw [if_neg h1, if_neg h2', if_neg h3, ht]; rfl
     rw [e]
     simp only
     have hkk : itemK [be 1 k, t] = k := hkn _
     rw [if_neg (not_not_intro (hfk _)), if_neg (by rw [hkk]; exact h1), if_neg (by rw [hkk]; exact h2'), if_neg (by rw [hkk]; exact h3), if_pos (by rw [hkk]; exact h5), if_pos (show [be 1 k, t].length = 2 from rfl), hkk]
     rw [show nextP (List.drop 1 [be 1 k, t]) = t from rfl, objectR_iff.2 ⟨h.object, ht⟩]; rfl
    ·rw [if_neg h5] at hg; cases hg
theorem itemR_iff {l : List UInt8} {x : Itm} : itemR l = some x ↔ x.ok ∧ itemO x = some l := ⟨itemR_some, fun h => itemR_of h.1 h.2⟩
theorem itemR_ok (l : List UInt8) : ((itemR l).getD item0).ok := by
 cases h : itemR l with
 | none => exact item0_ok
 | some x => exact (itemR_iff.1 h).1
end Go.Pl

/- wire: what takes pieces: its fields; more rules. -/
namespace Go.Vc
section
variable {P : Program} {n : Nat} {Q : Exit → Act → World → Prop} {σ : Sl} {G : World → Prop} {ops : Array Oper} {rest : List Oper}
variable {d : Nat} {ty : TypeId} {pos : String} {aft : Array Edge}
variable {S : List Snap} {H H' : List Chunk}

theorem VC.letArr {X : Type} {R : Rel X} {hR : Mono R} {e : TypeId} {sz : Nat} {g : Option Nat} {c : Nat} {ys : List X} {code : Code} (h : ∀ w1, Own S H w1 → Arr sz R (keys H) w1 (g.map fun g => ⟨g, 0, none⟩) ys c → VC P n Q code σ (Own (⟨w1, keys H⟩ :: S) H)) : VC P n Q code σ (Own S (arow e sz R hR g c ys :: H)) := fun a w ha hw =>
 h w hw.drop hw.letArr a w ha hw.drop.keep

/-- 'x[a:]', its value spelled out. -/
theorem VL.dropE {t e : TypeId} {x o : Operand} {k : IntKind} {l : List UInt8} {p : Option Addr} {c : Nat} (a : Nat) (hx : ev σ x = some (.slice p l.length c)) (ho : ev σ o = some (.int k (a : Int))) (ht : P.underlying t = some (.slice e)) (hsz : (P.info? e).map (·.size) = some 1) (ha : a ≤ l.length) (hc : l.length ≤ c)
  (h : VL P n ops Q rest ((d, .slice (if c = a then p else p.map (·.add (a * 1))) (l.drop a).length (c - a)) :: σ) G) (hdn : Nat.blt d n = true := by rfl) : VL P n ops Q (⟨some d, .slice t x (some o) none none, ty, pos, aft, none⟩ :: rest) σ G := by
 refine VL.val rfl rfl hdn (fun b' w hb' _ => ?_) h
 have := run_sliceAt (P := P) (w := w) (p := p) (m := l.length) (c := c) (a := a) (b := l.length) (hi := none) (lo := some (.int k (a : Int))) ht hsz (.inr ⟨k, rfl⟩) (.inl ⟨rfl, rfl⟩) ha hc
 simp [execOp, hb'.ev hx, hb'.ev ho, this]

theorem seg_at {α : Type} {A B : List α} {o m : Nat} (hA : A.length = o) (l cur : List α) (hl : cur.length = l.length) : (A ++ (cur ++ B)).take o ++ l ++ (A ++ (cur ++ B)).drop (o + l.length) = A ++ (l ++ B) := by
 subst hA
 rw [List.take_left, List.append_assoc]
 congr 1
 congr 1
 rw [← hl, ← List.length_append, ← List.append_assoc, List.drop_left]

/-- 'copy(x[:], l)', where l is as long as the array x, which is part j of a variable. -/
theorem VL.copyPart {x y : Operand} {t1 t2 e T : TypeId} {tys : Array TypeId} {g o m c : Nat} {p : Option Addr} {l : List UInt8} {L : List Nat} {ps ps' : List (List Value)} (i j : Nat) (htys : tys = #[t1, t2]) (hu : P.underlying t1 = some (.slice e)) (hs : (P.info? e).map (·.size) = some 1)
  (hx : ev σ x = some (.slice (some ⟨g, o, none⟩) m m)) (hy : ev σ y = some (.slice p l.length c)) (hi : H[i]? = some (blk g T L ps)) (hLj : L[j]? = some m) (ho : (L.take j).sum = o) (hl : l.length = m) (hm : 0 < m) (hA : ∀ w, Own S H w → CellsAt w p (l.map bv))
  (hp : ps.set j (l.map bv) = ps') (hH : H.set i (blk g T L ps') = H') (h : ∀ v, VL P n ops Q rest ((d, v) :: σ) (Own S H')) (hdn : Nat.blt d n = true := by rfl) : VL P n ops Q (⟨some d, .call ⟨.builtin .copy, #[x, y], tys⟩, ty, pos, aft, none⟩ :: rest) σ (Own S H) := by
 subst htys
 refine VL.act (K := fun _ w' => Own S H' w') rfl rfl hdn (fun a w ha hw => ?_) h
 obtain ⟨hg, hL⟩ := hw.holds _ (List.mem_of_getElem? hi)
 have hjl : j < ps.length := by
  have := (List.getElem?_eq_some_iff.1 hLj).1
  rw [← hL] at this; simpa using this
 have hpj : (ps[j]).length = m := by
  have := (List.getElem?_eq_some_iff.1 hLj).2
  subst hL
  simpa using this
 have e0 := flatten_at ps j 1
 have h1 : (ps.drop j).take 1 = [ps[j]] := by
  rw [List.drop_eq_getElem_cons hjl, List.take_succ_cons, List.take_zero]
 rw [h1] at e0
 simp only [List.flatten_cons, List.flatten_nil, List.append_nil] at e0
 have hlen := sum_take_length ps j
 rw [hL, ho] at hlen
 have eset : (ps.set j (l.map bv)).flatten = (ps.take j).flatten ++ (l.map bv ++ (ps.drop (j + 1)).flatten) := by
  rw [List.set_eq_take_append_cons_drop, if_pos hjl]
  simp
 rcases hA w hw with ⟨_, h0⟩ | ⟨a', rfl, hc⟩
 ·have : l = [] := by simpa using h0
  subst this
  simp at hl; omega
 ·have hr := run_copy_row (P := P) w t1 t2 ty e g o m m a' l.length c (cat ps).toArray T (l.map bv) hu hs hg (by simp [hl]) hc (by
   rw [List.size_toArray, cat_eq, e0, List.length_append, List.length_append, hlen, hpj, List.length_map, hl]
   first | omega | skip) (ok1_bytes l)
  have e1 : (cat ps).toArray.toList.take o ++ l.map bv ++ (cat ps).toArray.toList.drop (o + (l.map bv).length) = cat ps' := by
   rw [← hp, cat_eq, cat_eq, eset, e0]
   exact seg_at (m := m) hlen _ _ (by rw [List.length_map, hl, hpj])
  rw [e1] at hr
  refine ⟨goInt (l.map bv).length, w.setRow g (cat ps').toArray, ?_, blk_set (ps' := ps') hw hi ?_ hH⟩
  ·simp [execOp, resolve, invoke, builtin, ha.ev hx, ha.ev hy, hr]
  ·rw [← hp, List.map_set, hL, List.length_map, hl, ← (List.getElem?_eq_some_iff.1 hLj).2]
   exact List.set_getElem_self _
end
end Go.Vc
namespace Go.Proofs.Ytcfecmoagfgnaaa
open Go.Vc Go.Pl
section
variable {n : Nat} {Q : Exit → Act → World → Prop} {σ : Sl} {G : World → Prop} {ops : Array Oper} {rest : List Oper}
variable {d : Nat} {ty : TypeId} {pos : String} {aft : Array Edge}
variable {S : List Snap} {H H' : List Chunk}

/-- The pieces that are left, loaded. -/
theorem loadParts {x : Operand} {g : Nat} {parts : List (List UInt8)} {why : Nat} (i : Nat) (hx : ev σ x = some (.pointer (some ⟨g, 0, none⟩))) (hi : H[i]? = some (rch g parts why))
  (h : ∀ p c w1, Own S H w1 → Arr 1 bytesR (keys H) w1 p parts c → VL Try.prog n ops Q rest ((d, .slice p parts.length c) :: σ) (Own (⟨w1, keys H⟩ :: S) H)) (hdn : Nat.blt d n = true := by rfl) : VL Try.prog n ops Q (⟨some d, .load 31 x, ty, pos, aft, none⟩ :: rest) σ (Own S H) := by
 refine VL.at fun w hw => ?_
 obtain ⟨ps, h1, h2, p, c, rfl, hA⟩ := hw.holds _ (List.mem_of_getElem? hi)
 refine VL.val (v := .slice p parts.length c) rfl rfl hdn (fun a w' ha e => ?_) (VL.turn (fun w' e => by subst e; exact hw.keep) (h p c w hw hA))
 subst e
 have hc : w'.cell? ⟨g, 0, none⟩ = some (.slice p parts.length c) := by
  rw [cell_of_row w' g 0 _ 196 (0, 0) h1]; rfl
 simp [execOp, ha.ev hx, run_load_cell kd31 hc]
/-- The error, loaded. -/
theorem loadWhy {x : Operand} {g : Nat} {parts : List (List UInt8)} {why : Nat} (i : Nat) (hx : ev σ x = some (.pointer (some ⟨g, 1, none⟩))) (hG : ∀ w, G w → Own S H w) (hi : H[i]? = some (rch g parts why))
  (h : VL Try.prog n ops Q rest ((d, .int .i64 why) :: σ) G) (hdn : Nat.blt d n = true := by rfl) : VL Try.prog n ops Q (⟨some d, .load 35 x, ty, pos, aft, none⟩ :: rest) σ G :=
 VL.val rfl rfl hdn (fun a w ha hw => by
  obtain ⟨ps, h1, h2, p, c, rfl, hA⟩ := (hG w hw).holds _ (List.mem_of_getElem? hi)
  have hc : w.cell? ⟨g, 1, none⟩ = some (.int .i64 why) := by
   rw [cell_of_row w g 1 _ 196 (0, 0) h1]; rfl
  simp [execOp, ha.ev hx, run_load_cell kd35 hc]) h
end
end Go.Proofs.Ytcfecmoagfgnaaa

