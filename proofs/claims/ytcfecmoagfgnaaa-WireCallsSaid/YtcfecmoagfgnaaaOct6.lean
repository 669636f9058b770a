/- The laws on octets: splits; cut short. -/
import Derived.Test.YtcfecmoagfgnaaaOct5
import Derived.Test.YtcfecmoagfgnaaaPl2
namespace Go.Proofs.Ytcfecmoagfgnaaa
open Go.Vc Go.Pl

theorem splits_any {S : List Snap} {H : List Chunk} {w : World} (ho : Own S H w) {p : Option Addr} {l : List UInt8} {c : Nat} (hA : Bytes (keys H) w p l c) : Calls Try.prog 5 #[.slice p l.length c] w (Ret fun v w' => v = .bool true ∧ Own S H w') := by
  refine enter (G := Own (⟨w, keys H⟩ :: S) H) ho.keep Try.func5 rfl Try.ntmps5 rfl ?_
  refine VC.seq ?_
  refine VC.region ?_
  refine VL.assign rfl ?_
  refine VL.nil ?_
  refine VX.next ?_
  refine VC.seq ?_
  refine VC.seq ?_
  refine VC.region ?_
  refine VL.call Try.func24 rfl (by decide) rfl (fun w' hw => alive_any hw) (fun v => ?_)
  refine VL.fact fun e => ?_
  subst e
  refine VL.not rfl ?_
  refine VL.nil ?_
  refine VX.next ?_
  refine VC.no rfl ?_
  refine VC.skip ?_
  refine VX.next ?_
  refine VC.seq ?_
  refine VC.seq ?_
  refine VC.region ?_
  refine VL.move rfl ?_
  refine VL.len Try.underlying24 rfl rfl ?_
  refine VL.gtr rfl rfl ?_
  refine VL.case (fun h3_2 => ?_) (fun h3_2 => ?_)
  · refine VL.nil ?_
    refine VX.next ?_
    refine VC.yes rfl ?_
    refine VC.seq ?_
    refine VC.region ?_
    refine VL.assign rfl ?_
    refine VL.nil ?_
    refine VX.next ?_
    refine VC.ret ?_
    refine VX.then_ret ?_
    refine VX.ret1 rfl rfl (fun w hw => ?_)
    exact ⟨rfl, hw.lose⟩
  · refine VL.nil ?_
    refine VX.next ?_
    refine VC.no rfl ?_
    refine VC.skip ?_
    refine VX.next ?_
    refine VC.seq ?_
    refine VC.region ?_
    refine VL.move rfl ?_
    refine VL.call Try.func32 rfl (by decide) rfl (fun w' hw => split_any hw (hA.now (s := ⟨w, keys H⟩) Mono.byte hw (by simp))) (fun v => ?_)
    refine VL.at (fun w1 h1w => ?_)
    obtain ⟨hO, p1, c1, rfl, hA1⟩ := h1w
    refine VL.toOwn hO ?_
    refine VL.move rfl ?_
    refine VL.extract rfl rfl ?_
    refine VL.extract rfl rfl ?_
    refine VL.assign rfl ?_
    refine VL.assign rfl ?_
    refine VL.nil ?_
    refine VX.next ?_
    refine VC.seq ?_
    refine VC.region ?_
    refine VL.move rfl ?_
    refine VL.call Try.func34 rfl (by decide) rfl (fun w' hw => refSplit_any hw (hA.now (s := ⟨w, keys H⟩) Mono.byte hw (by simp))) (fun v => ?_)
    refine VL.at (fun w2 h1w => ?_)
    obtain ⟨hO, p2, c2, rfl, hA2⟩ := h1w
    refine VL.toOwn hO ?_
    refine VL.move rfl ?_
    refine VL.extract rfl rfl ?_
    refine VL.extract rfl rfl ?_
    refine VL.assign rfl ?_
    refine VL.assign rfl ?_
    refine VL.nil ?_
    refine VX.next ?_
    refine VC.seq ?_
    refine VC.seq ?_
    refine VC.region ?_
    refine VL.move rfl ?_
    refine VL.move rfl ?_
    refine VL.neq rfl rfl ?_
    refine VL.no (by simp) ?_
    refine VL.move rfl ?_
    refine VL.go rfl rfl rfl ?_
    refine VL.move rfl ?_
    refine VL.go rfl rfl rfl ?_
    refine VL.move rfl ?_
    refine VL.go rfl rfl rfl ?_
    refine VL.call Try.func33 rfl (by decide) rfl (fun w' hw => lists_any (l := (splitB l).2) (k := (splitB l).2) hw (hA1.now (s := ⟨w1, keys H⟩) (Mono.slice Mono.byte) hw (by simp)) (hA2.now (s := ⟨w2, keys H⟩) (Mono.slice Mono.byte) hw (by simp))) (fun v => ?_)
    refine VL.at (fun w3 h1w => ?_)
    obtain ⟨hO, e⟩ := h1w
    have e : v = .bool true := by simpa using e
    subst e
    refine VL.toOwn hO ?_
    refine VL.go rfl rfl rfl ?_
    refine VL.not rfl ?_
    refine VL.pick_f rfl rfl ?_
    refine VL.nil ?_
    refine VX.next ?_
    refine VC.no rfl ?_
    refine VC.skip ?_
    refine VX.next ?_
    refine VC.seq ?_
    by_cases he : (splitB l).1 = 0
    · have hs : splitB l = (0, (splitB l).2) := Prod.ext he rfl
      have hj := split_ok hs
      have hok := hj.1
      refine VC.region ?_
      refine VL.move rfl ?_
      refine VL.call Try.func30 rfl (by decide) rfl (fun w' hw => join_any hw (hA1.now (s := ⟨w1, keys H⟩) (Mono.slice Mono.byte) hw (by simp))) (fun v => ?_)
      refine VL.at (fun w4 h1w => ?_)
      obtain ⟨hO, ⟨_, p4, c4, rfl, hA4⟩ | ⟨hno, _⟩⟩ := h1w
      rotate_left
      · exact absurd hok hno
      refine VL.toOwn hO ?_
      refine VL.move rfl ?_
      refine VL.extract rfl rfl ?_
      refine VL.extract rfl rfl ?_
      refine VL.assign rfl ?_
      refine VL.assign rfl ?_
      refine VL.nil ?_
      refine VX.next ?_
      refine VC.seq ?_
      refine VC.region ?_
      refine VL.move rfl ?_
      refine VL.neq rfl rfl ?_
      refine VL.no (by omega) ?_
      refine VL.move rfl ?_
      refine VL.go rfl rfl rfl ?_
      refine VL.move rfl ?_
      refine VL.go rfl rfl rfl ?_
      refine VL.move rfl ?_
      refine VL.go rfl rfl rfl ?_
      refine VL.move rfl ?_
      refine VL.go rfl rfl rfl ?_
      refine VL.move rfl ?_
      refine VL.go rfl rfl rfl ?_
      refine VL.call Try.func27 rfl (by decide) rfl (fun w' hw => bytes_any (l := l) (k := joinB (splitB l).2) hw (hA.now (s := ⟨w, keys H⟩) Mono.byte hw (by simp)) (hA4.now (s := ⟨w4, keys H⟩) Mono.byte hw (by simp))) (fun v => ?_)
      refine VL.at (fun w5 h1w => ?_)
      obtain ⟨hO, e⟩ := h1w
      have e : v = .bool true := by simpa [hj.2] using e
      subst e
      refine VL.toOwn hO ?_
      refine VL.go rfl rfl rfl ?_
      refine VL.pick_t rfl rfl ?_
      refine VL.pick_f rfl rfl ?_
      refine VL.assign rfl ?_
      refine VL.nil ?_
      refine VX.next ?_
      refine VC.ret ?_
      refine VX.ret1 rfl rfl (fun w hw => ?_)
      exact ⟨rfl, hw.lose.lose.lose.lose.lose.lose⟩
    · have hok : joinOk (splitB l).2 := by rw [split_err l he]; exact ⟨by simp, by simp⟩
      refine VC.region ?_
      refine VL.move rfl ?_
      refine VL.call Try.func30 rfl (by decide) rfl (fun w' hw => join_any hw (hA1.now (s := ⟨w1, keys H⟩) (Mono.slice Mono.byte) hw (by simp))) (fun v => ?_)
      refine VL.at (fun w4 h1w => ?_)
      obtain ⟨hO, ⟨_, p4, c4, rfl, hA4⟩ | ⟨hno, _⟩⟩ := h1w
      rotate_left
      · exact absurd hok hno
      refine VL.toOwn hO ?_
      refine VL.move rfl ?_
      refine VL.extract rfl rfl ?_
      refine VL.extract rfl rfl ?_
      refine VL.assign rfl ?_
      refine VL.assign rfl ?_
      refine VL.nil ?_
      refine VX.next ?_
      refine VC.seq ?_
      refine VC.region ?_
      refine VL.move rfl ?_
      refine VL.neq rfl rfl ?_
      refine VL.yes (by omega) ?_
      refine VL.move rfl ?_
      refine VL.pass rfl rfl rfl rfl rfl ?_
      refine VL.pass rfl rfl rfl rfl rfl ?_
      refine VL.passu rfl rfl rfl rfl ?_
      refine VL.passu rfl rfl rfl rfl ?_
      refine VL.passu rfl rfl rfl rfl ?_
      refine VL.pass rfl rfl rfl rfl rfl ?_
      refine VL.pick_t rfl rfl ?_
      refine VL.assign rfl ?_
      refine VL.nil ?_
      refine VX.next ?_
      refine VC.ret ?_
      refine VX.ret1 rfl rfl (fun w hw => ?_)
      exact ⟨rfl, hw.lose.lose.lose.lose.lose⟩

theorem cut_any {S : List Snap} {H : List Chunk} {w : World} (ho : Own S H w) {p q : Option Addr} {ls : List (List UInt8)} {l : List UInt8} {c c' : Nat} (hA : Arr 1 bytesR (keys H) w p ls c) (z : Int) (hB : Bytes (keys H) w q l c') : Calls Try.prog 6 #[.slice p ls.length c, .int .i64 z, .slice q l.length c'] w (Ret fun v w' => v = .bool true ∧ Own S H w') := by
  refine enter (G := Own (⟨w, keys H⟩ :: S) H) ho.keep Try.func6 rfl Try.ntmps6 rfl ?_
  refine VC.seq ?_
  refine VC.region ?_
  refine VL.assign rfl ?_
  refine VL.nil ?_
  refine VX.next ?_
  refine VC.seq ?_
  refine VC.seq ?_
  refine VC.region ?_
  refine VL.call Try.func24 rfl (by decide) rfl (fun w' hw => alive_any hw) (fun v => ?_)
  refine VL.fact fun e => ?_
  subst e
  refine VL.not rfl ?_
  refine VL.nil ?_
  refine VX.next ?_
  refine VC.no rfl ?_
  refine VC.skip ?_
  refine VX.next ?_
  refine VC.seq ?_
  refine VC.seq ?_
  refine VC.region ?_
  refine VL.move rfl ?_
  refine VL.call Try.func29 rfl (by decide) rfl (fun w' hw => great_any hw (hA.now (s := ⟨w, keys H⟩) (Mono.slice Mono.byte) hw (List.mem_cons_self ..))) (fun v => ?_)
  refine VL.at (fun w0 h1w => ?_)
  obtain ⟨hO, b, rfl, hgr⟩ := h1w
  refine VL.toOwn hO ?_
  cases b
  · refine VL.move rfl ?_
    refine VL.go rfl rfl rfl ?_
    refine VL.move rfl ?_
    refine VL.go rfl rfl rfl ?_
    refine VL.len Try.underlying24 rfl rfl ?_
    refine VL.go rfl rfl rfl ?_
    refine VL.gtr rfl rfl ?_
    refine VL.case (fun h3_5 => ?_) (fun h3_5 => ?_)
    · refine VL.pick_f rfl rfl ?_
      refine VL.nil ?_
      refine VX.next ?_
      refine VC.yes rfl ?_
      refine VC.seq ?_
      refine VC.region ?_
      refine VL.assign rfl ?_
      refine VL.nil ?_
      refine VX.next ?_
      refine VC.ret ?_
      refine VX.then_ret ?_
      refine VX.ret1 rfl rfl (fun w hw => ?_)
      exact ⟨rfl, hw.lose.lose⟩
    · refine VL.pick_f rfl rfl ?_
      refine VL.nil ?_
      refine VX.next ?_
      refine VC.no rfl ?_
      refine VC.skip ?_
      refine VX.next ?_
      refine VC.seq ?_
      by_cases hok : joinOk ls
      · have hjl := joinB_le hok
        refine VC.region ?_
        refine VL.move rfl ?_
        refine VL.call Try.func30 rfl (by decide) rfl (fun w' hw => join_any hw (hA.now (s := ⟨w, keys H⟩) (Mono.slice Mono.byte) hw (by simp))) (fun v => ?_)
        refine VL.at (fun w1 h1w => ?_)
        obtain ⟨hO, ⟨_, p1, c1, rfl, hA1⟩ | ⟨hno, _⟩⟩ := h1w
        rotate_left
        · exact absurd hok hno
        refine VL.toOwn hO ?_
        refine VL.move rfl ?_
        refine VL.extract rfl rfl ?_
        refine VL.extract rfl rfl ?_
        refine VL.assign rfl ?_
        refine VL.assign rfl ?_
        refine VL.nil ?_
        refine VX.next ?_
        refine VC.seq ?_
        refine VC.seq ?_
        refine VC.region ?_
        refine VL.move rfl ?_
        refine VL.not rfl ?_
        refine VL.nil ?_
        refine VX.next ?_
        refine VC.no rfl ?_
        refine VC.skip ?_
        refine VX.next ?_
        refine VC.seq ?_
        refine VC.seq ?_
        refine VC.region ?_
        refine VL.move rfl ?_
        refine VL.geq rfl rfl ?_
        refine VL.case (fun h8_1 => ?_) (fun h8_1 => ?_)
        · refine VL.move rfl ?_
          refine VL.go rfl rfl rfl ?_
          refine VL.move rfl ?_
          refine VL.go rfl rfl rfl ?_
          refine VL.move rfl ?_
          refine VL.go rfl rfl rfl ?_
          refine VL.len Try.underlying24 rfl rfl ?_
          refine VL.go rfl rfl rfl ?_
          refine VL.lss rfl rfl ?_
          refine VL.case (fun h8_6 => ?_) (fun h8_6 => ?_)
          · refine VL.pick_t rfl rfl ?_
            refine VL.nil ?_
            refine VX.next ?_
            refine VC.yes rfl ?_
            refine VC.seq ?_
            obtain ⟨k, rfl⟩ : ∃ k : Nat, z = k := ⟨z.toNat, by omega⟩
            have hkl : k < (joinB ls).length := by omega
            refine VC.region ?_
            refine VL.move rfl ?_
            refine VL.move rfl ?_
            refine VL.takeS k rfl rfl Try.underlying24 sz24 hA1 (by omega) (fun p3 hA3 => ?_)
            refine VL.call Try.func32 rfl (by decide) rfl (fun w' hw => split_any (l := (joinB ls).take k) hw (hA3.now (s := ⟨w1, keys H⟩) Mono.byte hw (by simp))) (fun v => ?_)
            refine VL.at (fun w4 h1w => ?_)
            obtain ⟨hO, p4, c4, e4, hA4⟩ := h1w
            rw [split_take hok hkl] at e4
            subst e4
            refine VL.toOwn hO ?_
            refine VL.move rfl ?_
            refine VL.extract rfl rfl ?_
            refine VL.extract rfl rfl ?_
            refine VL.assign rfl ?_
            refine VL.assign rfl ?_
            refine VL.nil ?_
            refine VX.next ?_
            refine VC.seq ?_
            refine VC.region ?_
            refine VL.move rfl ?_
            refine VL.neq rfl rfl ?_
            refine VL.no (by simp) ?_
            refine VL.nil ?_
            refine VX.next ?_
            refine VC.no rfl ?_
            refine VC.skip ?_
            refine VX.next ?_
            refine VC.seq ?_
            refine VC.region ?_
            refine VL.lit el24 rfl rfl rfl (by simp) (by simp [ok1]) (fun g5 => ?_)
            refine VL.move rfl ?_
            refine VL.append 0 el24 rfl rfl rfl rfl (fun _ h => (hA1.now (s := ⟨w1, keys H⟩) Mono.byte h.drop (by simp)).bytes) (by simp) (ok1_bytes _) (by omega) (by omega) (fun g6 c6 => ?_)
            refine VL.move rfl ?_
            refine VL.append 0 el24 rfl rfl rfl rfl (fun _ h => (hB.now (s := ⟨w, keys H⟩) Mono.byte h.drop (by simp)).bytes) (by simp) (ok1_bytes _) (by omega) (by omega) (fun g7 c7 => ?_)
            refine VL.letBytes (joinB ls ++ l) (by simp) (by simp) (fun w7 hO7 hA7 => ?_)
            refine VL.assign rfl ?_
            refine VL.nil ?_
            refine VX.next ?_
            refine VC.seq ?_
            refine VC.region ?_
            refine VL.move rfl ?_
            refine VL.call Try.func32 rfl (by decide) rfl (fun w' hw => by have h := split_any (l := joinB ls ++ l) hw (hA7.now (s := ⟨w7, keys H⟩) Mono.byte hw (by simp)); rw [List.length_append] at h; rw [Nat.zero_add]; exact h) (fun v => ?_)
            refine VL.at (fun w8 h1w => ?_)
            obtain ⟨hO, p8, c8, e8, hA8⟩ := h1w
            rw [split_more hok] at e8
            subst e8
            refine VL.toOwn hO ?_
            refine VL.move rfl ?_
            refine VL.extract rfl rfl ?_
            refine VL.extract rfl rfl ?_
            refine VL.assign rfl ?_
            refine VL.assign rfl ?_
            refine VL.nil ?_
            refine VX.next ?_
            refine VC.seq ?_
            by_cases hl0 : l = []
            · have hl0n : l.length = 0 := by rw [hl0]; rfl
              rw [if_pos hl0]
              refine VC.region ?_
              refine VL.move rfl ?_
              refine VL.eql rfl rfl ?_
              refine VL.no (by simp) ?_
              refine VL.move rfl ?_
              refine VL.len Try.underlying24 rfl rfl ?_
              refine VL.gtr rfl rfl ?_
              refine VL.no (by omega) ?_
              refine VL.eqb Try.underlying4 rfl rfl ?_
              refine VL.assign rfl ?_
              refine VL.nil ?_
              refine VX.next ?_
              refine VC.ret ?_
              refine VX.ret1 rfl rfl (fun w hw => ?_)
              exact ⟨rfl, by repeat (first | exact hw | replace hw := hw.lose)⟩
            · have hl0n : 0 < l.length := List.length_pos_iff.2 hl0
              rw [if_neg hl0]
              refine VC.region ?_
              refine VL.move rfl ?_
              refine VL.eql rfl rfl ?_
              refine VL.yes (by simp) ?_
              refine VL.move rfl ?_
              refine VL.len Try.underlying24 rfl rfl ?_
              refine VL.gtr rfl rfl ?_
              refine VL.yes (by omega) ?_
              refine VL.eqb Try.underlying4 rfl rfl ?_
              refine VL.assign rfl ?_
              refine VL.nil ?_
              refine VX.next ?_
              refine VC.ret ?_
              refine VX.ret1 rfl rfl (fun w hw => ?_)
              exact ⟨rfl, by repeat (first | exact hw | replace hw := hw.lose)⟩
          · refine VL.pick_t rfl rfl ?_
            refine VL.nil ?_
            refine VX.next ?_
            refine VC.no rfl ?_
            refine VC.skip ?_
            refine VX.next ?_
            refine VC.seq ?_
            refine VC.region ?_
            refine VL.lit el24 rfl rfl rfl (by simp) (by simp [ok1]) (fun g5 => ?_)
            refine VL.move rfl ?_
            refine VL.append 0 el24 rfl rfl rfl rfl (fun _ h => (hA1.now (s := ⟨w1, keys H⟩) Mono.byte h.drop (by simp)).bytes) (by simp) (ok1_bytes _) (by omega) (by omega) (fun g6 c6 => ?_)
            refine VL.move rfl ?_
            refine VL.append 0 el24 rfl rfl rfl rfl (fun _ h => (hB.now (s := ⟨w, keys H⟩) Mono.byte h.drop (by simp)).bytes) (by simp) (ok1_bytes _) (by omega) (by omega) (fun g7 c7 => ?_)
            refine VL.letBytes (joinB ls ++ l) (by simp) (by simp) (fun w7 hO7 hA7 => ?_)
            refine VL.assign rfl ?_
            refine VL.nil ?_
            refine VX.next ?_
            refine VC.seq ?_
            refine VC.region ?_
            refine VL.move rfl ?_
            refine VL.call Try.func32 rfl (by decide) rfl (fun w' hw => by have h := split_any (l := joinB ls ++ l) hw (hA7.now (s := ⟨w7, keys H⟩) Mono.byte hw (by simp)); rw [List.length_append] at h; rw [Nat.zero_add]; exact h) (fun v => ?_)
            refine VL.at (fun w8 h1w => ?_)
            obtain ⟨hO, p8, c8, e8, hA8⟩ := h1w
            rw [split_more hok] at e8
            subst e8
            refine VL.toOwn hO ?_
            refine VL.move rfl ?_
            refine VL.extract rfl rfl ?_
            refine VL.extract rfl rfl ?_
            refine VL.assign rfl ?_
            refine VL.assign rfl ?_
            refine VL.nil ?_
            refine VX.next ?_
            refine VC.seq ?_
            by_cases hl0 : l = []
            · have hl0n : l.length = 0 := by rw [hl0]; rfl
              rw [if_pos hl0]
              refine VC.region ?_
              refine VL.move rfl ?_
              refine VL.eql rfl rfl ?_
              refine VL.no (by simp) ?_
              refine VL.move rfl ?_
              refine VL.len Try.underlying24 rfl rfl ?_
              refine VL.gtr rfl rfl ?_
              refine VL.no (by omega) ?_
              refine VL.eqb Try.underlying4 rfl rfl ?_
              refine VL.assign rfl ?_
              refine VL.nil ?_
              refine VX.next ?_
              refine VC.ret ?_
              refine VX.ret1 rfl rfl (fun w hw => ?_)
              exact ⟨rfl, by repeat (first | exact hw | replace hw := hw.lose)⟩
            · have hl0n : 0 < l.length := List.length_pos_iff.2 hl0
              rw [if_neg hl0]
              refine VC.region ?_
              refine VL.move rfl ?_
              refine VL.eql rfl rfl ?_
              refine VL.yes (by simp) ?_
              refine VL.move rfl ?_
              refine VL.len Try.underlying24 rfl rfl ?_
              refine VL.gtr rfl rfl ?_
              refine VL.yes (by omega) ?_
              refine VL.eqb Try.underlying4 rfl rfl ?_
              refine VL.assign rfl ?_
              refine VL.nil ?_
              refine VX.next ?_
              refine VC.ret ?_
              refine VX.ret1 rfl rfl (fun w hw => ?_)
              exact ⟨rfl, by repeat (first | exact hw | replace hw := hw.lose)⟩
        · refine VL.move rfl ?_
          refine VL.pass rfl rfl rfl rfl rfl ?_
          refine VL.pass rfl rfl rfl rfl rfl ?_
          refine VL.pass rfl rfl rfl rfl rfl ?_
          refine VL.pass rfl rfl rfl rfl rfl ?_
          refine VL.pick_f rfl rfl ?_
          refine VL.nil ?_
          refine VX.next ?_
          refine VC.no rfl ?_
          refine VC.skip ?_
          refine VX.next ?_
          refine VC.seq ?_
          refine VC.region ?_
          refine VL.lit el24 rfl rfl rfl (by simp) (by simp [ok1]) (fun g5 => ?_)
          refine VL.move rfl ?_
          refine VL.append 0 el24 rfl rfl rfl rfl (fun _ h => (hA1.now (s := ⟨w1, keys H⟩) Mono.byte h.drop (by simp)).bytes) (by simp) (ok1_bytes _) (by omega) (by omega) (fun g6 c6 => ?_)
          refine VL.move rfl ?_
          refine VL.append 0 el24 rfl rfl rfl rfl (fun _ h => (hB.now (s := ⟨w, keys H⟩) Mono.byte h.drop (by simp)).bytes) (by simp) (ok1_bytes _) (by omega) (by omega) (fun g7 c7 => ?_)
          refine VL.letBytes (joinB ls ++ l) (by simp) (by simp) (fun w7 hO7 hA7 => ?_)
          refine VL.assign rfl ?_
          refine VL.nil ?_
          refine VX.next ?_
          refine VC.seq ?_
          refine VC.region ?_
          refine VL.move rfl ?_
          refine VL.call Try.func32 rfl (by decide) rfl (fun w' hw => by have h := split_any (l := joinB ls ++ l) hw (hA7.now (s := ⟨w7, keys H⟩) Mono.byte hw (by simp)); rw [List.length_append] at h; rw [Nat.zero_add]; exact h) (fun v => ?_)
          refine VL.at (fun w8 h1w => ?_)
          obtain ⟨hO, p8, c8, e8, hA8⟩ := h1w
          rw [split_more hok] at e8
          subst e8
          refine VL.toOwn hO ?_
          refine VL.move rfl ?_
          refine VL.extract rfl rfl ?_
          refine VL.extract rfl rfl ?_
          refine VL.assign rfl ?_
          refine VL.assign rfl ?_
          refine VL.nil ?_
          refine VX.next ?_
          refine VC.seq ?_
          by_cases hl0 : l = []
          · have hl0n : l.length = 0 := by rw [hl0]; rfl
            rw [if_pos hl0]
            refine VC.region ?_
            refine VL.move rfl ?_
            refine VL.eql rfl rfl ?_
            refine VL.no (by simp) ?_
            refine VL.move rfl ?_
            refine VL.len Try.underlying24 rfl rfl ?_
            refine VL.gtr rfl rfl ?_
            refine VL.no (by omega) ?_
            refine VL.eqb Try.underlying4 rfl rfl ?_
            refine VL.assign rfl ?_
            refine VL.nil ?_
            refine VX.next ?_
            refine VC.ret ?_
            refine VX.ret1 rfl rfl (fun w hw => ?_)
            exact ⟨rfl, by repeat (first | exact hw | replace hw := hw.lose)⟩
          · have hl0n : 0 < l.length := List.length_pos_iff.2 hl0
            rw [if_neg hl0]
            refine VC.region ?_
            refine VL.move rfl ?_
            refine VL.eql rfl rfl ?_
            refine VL.yes (by simp) ?_
            refine VL.move rfl ?_
            refine VL.len Try.underlying24 rfl rfl ?_
            refine VL.gtr rfl rfl ?_
            refine VL.yes (by omega) ?_
            refine VL.eqb Try.underlying4 rfl rfl ?_
            refine VL.assign rfl ?_
            refine VL.nil ?_
            refine VX.next ?_
            refine VC.ret ?_
            refine VX.ret1 rfl rfl (fun w hw => ?_)
            exact ⟨rfl, by repeat (first | exact hw | replace hw := hw.lose)⟩
      · skip
        refine VC.region ?_
        refine VL.move rfl ?_
        refine VL.call Try.func30 rfl (by decide) rfl (fun w' hw => join_any hw (hA.now (s := ⟨w, keys H⟩) (Mono.slice Mono.byte) hw (by simp))) (fun v => ?_)
        refine VL.at (fun w1 h1w => ?_)
        obtain ⟨hO, ⟨hyes, _⟩ | ⟨_, rfl⟩⟩ := h1w
        · exact absurd hyes hok
        refine VL.toOwn hO ?_
        refine VL.move rfl ?_
        refine VL.extract rfl rfl ?_
        refine VL.extract rfl rfl ?_
        refine VL.assign rfl ?_
        refine VL.assign rfl ?_
        refine VL.nil ?_
        refine VX.next ?_
        refine VC.seq ?_
        refine VC.seq ?_
        refine VC.region ?_
        refine VL.move rfl ?_
        refine VL.not rfl ?_
        refine VL.nil ?_
        refine VX.next ?_
        refine VC.yes rfl ?_
        refine VC.seq ?_
        refine VC.region ?_
        refine VL.move rfl ?_
        refine VL.len Try.underlying24 rfl rfl ?_
        refine VL.eql rfl rfl ?_
        refine VL.yes (by simp) ?_
        refine VL.assign rfl ?_
        refine VL.nil ?_
        refine VX.next ?_
        refine VC.ret ?_
        refine VX.then_ret ?_
        refine VX.ret1 rfl rfl (fun w hw => ?_)
        exact ⟨rfl, hw.lose.lose.lose⟩
  · refine VL.move rfl ?_
    refine VL.pass rfl rfl rfl rfl rfl ?_
    refine VL.pass rfl rfl rfl rfl rfl ?_
    refine VL.pass rfl rfl rfl rfl rfl ?_
    refine VL.pick_t rfl rfl ?_
    refine VL.nil ?_
    refine VX.next ?_
    refine VC.yes rfl ?_
    refine VC.seq ?_
    refine VC.region ?_
    refine VL.assign rfl ?_
    refine VL.nil ?_
    refine VX.next ?_
    refine VC.ret ?_
    refine VX.then_ret ?_
    refine VX.ret1 rfl rfl (fun w hw => ?_)
    exact ⟨rfl, hw.lose.lose⟩

end Go.Proofs.Ytcfecmoagfgnaaa
