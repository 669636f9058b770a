/- The laws on octets: that the package is alive; numbers. -/
import Derived.Test.YtcfecmoagfgnaaaOct4
import Derived.Test.YtcfecmoagfgnaaaFr
namespace Go.Proofs.Ytcfecmoagfgnaaa
open Go.Vc Go.Pl

theorem alive_any {S : List Snap} {H : List Chunk} {w : World} (ho : Own S H w) : Calls Try.prog 24 #[] w (Ret fun v w' => v = .bool true ∧ Own S H w') := by
  refine enter (G := Own (⟨w, keys H⟩ :: S) H) ho.keep Try.func24 rfl Try.ntmps24 rfl ?_
  refine VC.seq ?_
  refine VC.region ?_
  refine VL.assign rfl ?_
  refine VL.nil ?_
  refine VX.next ?_
  refine VC.seq ?_
  refine VC.region ?_
  refine VL.call Try.func25 rfl (by decide) rfl (fun w' hw => put_any hw 258 (by unfold Fits; decide) 2) (fun v => ?_)
  refine VL.at (fun w1 h1w => ?_)
  obtain ⟨hO, ⟨_, _, _, p, c, rfl, hA⟩ | ⟨hno, _⟩⟩ := h1w
  rotate_left
  · exact absurd ⟨by decide, by decide, by unfold Fits; decide⟩ hno
  refine VL.toOwn hO ?_
  refine VL.move rfl ?_
  refine VL.extract rfl rfl ?_
  refine VL.extract rfl rfl ?_
  refine VL.assign rfl ?_
  refine VL.assign rfl ?_
  refine VL.nil ?_
  refine VX.next ?_
  refine VC.seq ?_
  refine VC.region ?_
  refine VL.lit el24 rfl rfl rfl (by simp [Value.cells]) (by intro u hu; simp [Value.cells] at hu; rcases hu with rfl | rfl <;> rfl) (fun g2 => ?_)
  refine VL.letBytes [1, 2] rfl rfl (fun w2 hO2 hA2 => ?_)
  refine VL.call Try.func28 rfl (by decide) rfl (fun w' hw => get_any (p := some ⟨g2, 0, none⟩) (l := [1, 2]) (c := 2) hw (hA2.now (s := ⟨w2, keys H⟩) Mono.byte hw (by simp))) (fun v => ?_)
  refine VL.at (fun w3 h1w => ?_)
  obtain ⟨hO, ⟨_, _, rfl⟩ | ⟨hno, _⟩⟩ := h1w
  rotate_left
  · exact absurd hno (by simp)
  refine VL.toOwn hO ?_
  refine VL.move rfl ?_
  refine VL.extract rfl rfl ?_
  refine VL.extract rfl rfl ?_
  refine VL.assign rfl ?_
  refine VL.assign rfl ?_
  refine VL.nil ?_
  refine VX.next ?_
  refine VC.seq ?_
  refine VC.region ?_
  refine VL.lit el24 rfl rfl rfl (by simp [Value.cells]) (by intro u hu; simp [Value.cells] at hu; subst hu; rfl) (fun g4 => ?_)
  refine VL.constBytes (l := [97]) Try.underlying24 Try.underlying5 rfl rfl rfl (fun w4 hO4 hA4 => ?_)
  refine VL.lit el24 rfl rfl rfl (by simp [Value.cells]) (by intro u hu; simp [Value.cells] at hu; rcases hu with rfl | rfl <;> rfl) (fun g5 => ?_)
  refine VL.constBytes (l := [98, 99]) Try.underlying24 Try.underlying5 rfl rfl rfl (fun w5 hO5 hA5 => ?_)
  refine VL.lit el31 rfl rfl rfl (by simp [Value.cells]) (by intro u hu; simp [Value.cells] at hu; rcases hu with rfl | rfl | rfl <;> rfl) (fun g6 => ?_)
  refine VL.letRow bytesR [[97], [], [98, 99]] rfl (fun w6 hw6 j y hj => ?_) (fun w6 hO6 hA6 => ?_)
  · match j, hj with
    | 0, hj => simp at hj; subst hj; exact ⟨_, _, rfl, hA4.now (s := ⟨w4, keys H⟩) Mono.byte hw6 (by simp)⟩
    | 1, hj => simp at hj; subst hj; exact ⟨_, _, rfl, Arr.none⟩
    | 2, hj => simp at hj; subst hj; exact ⟨_, _, rfl, hA5.now (s := ⟨w5, keys H⟩) Mono.byte hw6 (by simp)⟩
    | j + 3, hj => simp at hj
  have hok : joinOk [[97], [], [98, 99]] := ⟨by decide, by decide⟩
  refine VL.call Try.func30 rfl (by decide) rfl (fun w' hw => join_any (p := some ⟨g6, 0, none⟩) (ls := [[97], [], [98, 99]]) (c := 3) hw (hA6.now (s := ⟨w6, keys H⟩) (Mono.slice Mono.byte) hw (by simp))) (fun v => ?_)
  refine VL.at (fun w7 h1w => ?_)
  obtain ⟨hO, ⟨_, p7, c7, rfl, hA7⟩ | ⟨hno, _⟩⟩ := h1w
  rotate_left
  · exact absurd hok hno
  refine VL.toOwn hO ?_
  refine VL.move rfl ?_
  refine VL.extract rfl rfl ?_
  refine VL.extract rfl rfl ?_
  refine VL.assign rfl ?_
  refine VL.assign rfl ?_
  refine VL.nil ?_
  refine VX.next ?_
  refine VC.seq ?_
  refine VC.region ?_
  refine VL.move rfl ?_
  refine VL.call Try.func32 rfl (by decide) rfl (fun w' hw => split_any (l := joinB [[97], [], [98, 99]]) hw (hA7.now (s := ⟨w7, keys H⟩) Mono.byte hw (by simp))) (fun v => ?_)
  refine VL.at (fun w8 h1w => ?_)
  obtain ⟨hO, p8, c8, e8, hA8⟩ := h1w
  rw [split_join hok] at e8
  subst e8
  refine VL.toOwn hO ?_
  refine VL.move rfl ?_
  refine VL.extract rfl rfl ?_
  refine VL.extract rfl rfl ?_
  refine VL.assign rfl ?_
  refine VL.assign rfl ?_
  refine VL.nil ?_
  refine VX.next ?_
  refine VC.seq ?_
  refine VC.region ?_
  refine VL.move rfl ?_
  refine VL.move rfl ?_
  refine VL.go rfl rfl rfl ?_
  refine VL.move rfl ?_
  refine VL.pick_t rfl rfl ?_
  refine VL.move rfl ?_
  refine VL.go rfl rfl rfl ?_
  refine VL.move rfl ?_
  refine VL.pick_t rfl rfl ?_
  refine VL.move rfl ?_
  refine VL.go rfl rfl rfl ?_
  refine VL.move rfl ?_
  refine VL.go rfl rfl rfl ?_
  refine VL.str (s := ⟨w1, keys H⟩) Try.underlying24 Try.underlying5 Try.underlying9 (l := be (2 : Int).toNat 258) rfl (fun _ h => h) (by simp) hA ?_
  refine VL.go rfl rfl rfl ?_
  refine VL.eqls rfl rfl ?_
  refine VL.yes (by rfl) ?_
  refine VL.pick_t rfl rfl ?_
  refine VL.move rfl ?_
  refine VL.go rfl rfl rfl ?_
  refine VL.move rfl ?_
  refine VL.go rfl rfl rfl ?_
  refine VL.eql rfl rfl ?_
  refine VL.yes (by rfl) ?_
  refine VL.pick_t rfl rfl ?_
  refine VL.move rfl ?_
  refine VL.go rfl rfl rfl ?_
  refine VL.move rfl ?_
  refine VL.go rfl rfl rfl ?_
  refine VL.str (s := ⟨w7, keys H⟩) Try.underlying24 Try.underlying5 Try.underlying9 (l := joinB [[97], [], [98, 99]]) rfl (fun _ h => h) (by simp) hA7 ?_
  refine VL.go rfl rfl rfl ?_
  refine VL.eqls rfl rfl ?_
  refine VL.yes (by rfl) ?_
  refine VL.pick_t rfl rfl ?_
  refine VL.move rfl ?_
  refine VL.go rfl rfl rfl ?_
  refine VL.move rfl ?_
  refine VL.go rfl rfl rfl ?_
  refine VL.eql rfl rfl ?_
  refine VL.yes (rfl) ?_
  refine VL.pick_t rfl rfl ?_
  refine VL.move rfl ?_
  refine VL.go rfl rfl rfl ?_
  refine VL.move rfl ?_
  refine VL.go rfl rfl rfl ?_
  refine VL.len Try.underlying31 rfl rfl ?_
  refine VL.go rfl rfl rfl ?_
  refine VL.eql rfl rfl ?_
  refine VL.yes (by rfl) ?_
  refine VL.pick_t rfl rfl ?_
  refine VL.assign rfl ?_
  refine VL.nil ?_
  refine VX.next ?_
  refine VC.ret ?_
  refine VX.ret1 rfl rfl (fun w hw => ?_)
  exact ⟨rfl, hw.lose.lose.lose.lose.lose.lose.lose.lose.lose⟩

theorem numbers_any {S : List Snap} {H : List Chunk} {w : World} (ho : Own S H w) (m : Nat) (hm : Fits 8 m) (z : Int) : Calls Try.prog 3 #[.int .u64 m, .int .i64 z] w (Ret fun v w' => v = .bool true ∧ Own S H w') := by
  refine enter (G := Own (⟨w, keys H⟩ :: S) H) ho.keep Try.func3 rfl Try.ntmps3 rfl ?_
  refine VC.seq ?_
  refine VC.region ?_
  refine VL.assign rfl ?_
  refine VL.nil ?_
  refine VX.next ?_
  refine VC.seq ?_
  refine VC.seq ?_
  refine VC.region ?_
  refine VL.call Try.func24 rfl (by decide) rfl (fun w' hw => alive_any hw) (fun v => ?_)
  refine VL.fact fun e => ?_
  subst e
  refine VL.not rfl ?_
  refine VL.nil ?_
  refine VX.next ?_
  refine VC.no rfl ?_
  refine VC.skip ?_
  refine VX.next ?_
  refine VC.seq ?_
  by_cases hp : 1 ≤ z ∧ z ≤ 8 ∧ Fits z.toNat m
  · obtain ⟨hz1, hz8, hzf⟩ := hp
    have hp : 1 ≤ z ∧ z ≤ 8 ∧ Fits z.toNat m := ⟨hz1, hz8, hzf⟩
    refine VC.region ?_
    refine VL.move rfl ?_
    refine VL.move rfl ?_
    refine VL.call Try.func25 rfl (by decide) rfl (fun w' hw => put_any hw m hm z) (fun v => ?_)
    refine VL.at (fun w1 h1w => ?_)
    obtain ⟨hO, ⟨_, _, _, p1, c1, rfl, hA1⟩ | ⟨hno, _⟩⟩ := h1w
    rotate_left
    · exact absurd hp hno
    refine VL.toOwn hO ?_
    refine VL.move rfl ?_
    refine VL.extract rfl rfl ?_
    refine VL.extract rfl rfl ?_
    refine VL.assign rfl ?_
    refine VL.assign rfl ?_
    refine VL.nil ?_
    refine VX.next ?_
    refine VC.seq ?_
    refine VC.region ?_
    refine VL.move rfl ?_
    refine VL.move rfl ?_
    refine VL.call Try.func26 rfl (by decide) rfl (fun w' hw => refPut_any hw m hm z) (fun v => ?_)
    refine VL.at (fun w2 h1w => ?_)
    obtain ⟨hO, ⟨_, _, _, p2, c2, rfl, hA2⟩ | ⟨hno, _⟩⟩ := h1w
    rotate_left
    · exact absurd hp hno
    refine VL.toOwn hO ?_
    refine VL.move rfl ?_
    refine VL.extract rfl rfl ?_
    refine VL.extract rfl rfl ?_
    refine VL.assign rfl ?_
    refine VL.assign rfl ?_
    refine VL.nil ?_
    refine VX.next ?_
    refine VC.seq ?_
    refine VC.seq ?_
    refine VC.region ?_
    refine VL.move rfl ?_
    refine VL.move rfl ?_
    refine VL.neb Try.underlying4 rfl rfl ?_
    refine VL.move rfl ?_
    refine VL.go rfl rfl rfl ?_
    refine VL.move rfl ?_
    refine VL.go rfl rfl rfl ?_
    refine VL.move rfl ?_
    refine VL.go rfl rfl rfl ?_
    refine VL.call Try.func27 rfl (by decide) rfl (fun w' hw => by have h := bytes_any (l := be z.toNat m) (k := be z.toNat m) hw (hA1.now (s := ⟨w1, keys H⟩) Mono.byte hw (by simp)) (hA2.now (s := ⟨w2, keys H⟩) Mono.byte hw (by simp)); simp only [be_length] at h; exact h) (fun v => ?_)
    refine VL.at (fun w3 h1w => ?_)
    obtain ⟨hO, e⟩ := h1w
    have e : v = .bool true := by simpa using e
    subst e
    refine VL.toOwn hO ?_
    refine VL.go rfl rfl rfl ?_
    refine VL.not rfl ?_
    refine VL.pick_f rfl rfl ?_
    refine VL.nil ?_
    refine VX.next ?_
    refine VC.no rfl ?_
    refine VC.skip ?_
    refine VX.next ?_
    refine VC.seq ?_
    refine VC.region ?_
    refine VL.move rfl ?_
    refine VL.call Try.func28 rfl (by decide) rfl (fun w' hw => by have h := get_any (l := be z.toNat m) hw (hA1.now (s := ⟨w1, keys H⟩) Mono.byte hw (by simp)); simp only [be_length] at h; exact h) (fun v => ?_)
    refine VL.at (fun w4 h1w => ?_)
    obtain ⟨hO, ⟨_, _, rfl⟩ | ⟨hno, _⟩⟩ := h1w
    rotate_left
    · omega
    refine VL.toOwn hO ?_
    refine VL.move rfl ?_
    refine VL.extract rfl rfl ?_
    refine VL.extract rfl rfl ?_
    refine VL.assign rfl ?_
    refine VL.assign rfl ?_
    refine VL.nil ?_
    refine VX.next ?_
    refine VC.seq ?_
    refine VC.region ?_
    refine VL.move rfl ?_
    refine VL.not rfl ?_
    refine VL.move rfl ?_
    refine VL.go rfl rfl rfl ?_
    refine VL.move rfl ?_
    refine VL.go rfl rfl rfl ?_
    refine VL.move rfl ?_
    refine VL.go rfl rfl rfl ?_
    refine VL.move rfl ?_
    refine VL.go rfl rfl rfl ?_
    refine VL.move rfl ?_
    refine VL.go rfl rfl rfl ?_
    refine VL.eql rfl rfl ?_
    refine VL.yes (by rw [num_be, Nat.mod_eq_of_lt hzf]) ?_
    refine VL.go rfl rfl rfl ?_
    refine VL.pick_t rfl rfl ?_
    refine VL.pick_f rfl rfl ?_
    refine VL.assign rfl ?_
    refine VL.nil ?_
    refine VX.next ?_
    refine VC.ret ?_
    refine VX.ret1 rfl rfl (fun w hw => ?_)
    exact ⟨rfl, hw.lose.lose.lose.lose.lose⟩
  · skip
    refine VC.region ?_
    refine VL.move rfl ?_
    refine VL.move rfl ?_
    refine VL.call Try.func25 rfl (by decide) rfl (fun w' hw => put_any hw m hm z) (fun v => ?_)
    refine VL.at (fun w1 h1w => ?_)
    obtain ⟨hO, ⟨h1, h2, h3, _⟩ | ⟨_, rfl⟩⟩ := h1w
    · exact absurd ⟨h1, h2, h3⟩ hp
    refine VL.toOwn hO ?_
    refine VL.move rfl ?_
    refine VL.extract rfl rfl ?_
    refine VL.extract rfl rfl ?_
    refine VL.assign rfl ?_
    refine VL.assign rfl ?_
    refine VL.nil ?_
    refine VX.next ?_
    refine VC.seq ?_
    refine VC.region ?_
    refine VL.move rfl ?_
    refine VL.move rfl ?_
    refine VL.call Try.func26 rfl (by decide) rfl (fun w' hw => refPut_any hw m hm z) (fun v => ?_)
    refine VL.at (fun w2 h1w => ?_)
    obtain ⟨hO, ⟨h1, h2, h3, _⟩ | ⟨_, rfl⟩⟩ := h1w
    · exact absurd ⟨h1, h2, h3⟩ hp
    refine VL.toOwn hO ?_
    refine VL.move rfl ?_
    refine VL.extract rfl rfl ?_
    refine VL.extract rfl rfl ?_
    refine VL.assign rfl ?_
    refine VL.assign rfl ?_
    refine VL.nil ?_
    refine VX.next ?_
    refine VC.seq ?_
    refine VC.seq ?_
    refine VC.region ?_
    refine VL.move rfl ?_
    refine VL.move rfl ?_
    refine VL.neb Try.underlying4 rfl rfl ?_
    refine VL.move rfl ?_
    refine VL.go rfl rfl rfl ?_
    refine VL.move rfl ?_
    refine VL.go rfl rfl rfl ?_
    refine VL.move rfl ?_
    refine VL.go rfl rfl rfl ?_
    refine VL.call Try.func27 rfl (by decide) rfl (fun w' hw => bytes_any (l := []) (k := []) (p := none) (q := none) (c := 0) (d := 0) hw Arr.none Arr.none) (fun v => ?_)
    refine VL.at (fun w3 h1w => ?_)
    obtain ⟨hO, e⟩ := h1w
    have e : v = .bool true := by simpa using e
    subst e
    refine VL.toOwn hO ?_
    refine VL.go rfl rfl rfl ?_
    refine VL.not rfl ?_
    refine VL.pick_f rfl rfl ?_
    refine VL.nil ?_
    refine VX.next ?_
    refine VC.no rfl ?_
    refine VC.skip ?_
    refine VX.next ?_
    refine VC.seq ?_
    refine VC.region ?_
    refine VL.move rfl ?_
    refine VL.call Try.func28 rfl (by decide) rfl (fun w' hw => get_any (l := []) (p := none) (c := 0) hw Arr.none) (fun v => ?_)
    refine VL.at (fun w4 h1w => ?_)
    obtain ⟨hO, ⟨hno, _⟩ | ⟨_, rfl⟩⟩ := h1w
    · simp at hno
    refine VL.toOwn hO ?_
    refine VL.move rfl ?_
    refine VL.extract rfl rfl ?_
    refine VL.extract rfl rfl ?_
    refine VL.assign rfl ?_
    refine VL.assign rfl ?_
    refine VL.nil ?_
    refine VX.next ?_
    refine VC.seq ?_
    refine VC.region ?_
    refine VL.move rfl ?_
    refine VL.not rfl ?_
    refine VL.move rfl ?_
    refine VL.pass rfl rfl rfl rfl rfl ?_
    refine VL.pass rfl rfl rfl rfl rfl ?_
    refine VL.passu rfl rfl rfl rfl ?_
    refine VL.passu rfl rfl rfl rfl ?_
    refine VL.passu rfl rfl rfl rfl ?_
    refine VL.pass rfl rfl rfl rfl rfl ?_
    refine VL.pick_t rfl rfl ?_
    refine VL.assign rfl ?_
    refine VL.nil ?_
    refine VX.next ?_
    refine VC.ret ?_
    refine VX.ret1 rfl rfl (fun w hw => ?_)
    exact ⟨rfl, hw.lose.lose.lose.lose.lose⟩

theorem joins_any {S : List Snap} {H : List Chunk} {w : World} (ho : Own S H w) {p : Option Addr} {ls : List (List UInt8)} {c : Nat} (hA : Arr 1 bytesR (keys H) w p ls c) : Calls Try.prog 4 #[.slice p ls.length c] w (Ret fun v w' => v = .bool true ∧ Own S H w') := by
  refine enter (G := Own (⟨w, keys H⟩ :: S) H) ho.keep Try.func4 rfl Try.ntmps4 rfl ?_
  refine VC.seq ?_
  refine VC.region ?_
  refine VL.assign rfl ?_
  refine VL.nil ?_
  refine VX.next ?_
  refine VC.seq ?_
  refine VC.seq ?_
  refine VC.region ?_
  refine VL.call Try.func24 rfl (by decide) rfl (fun w' hw => alive_any hw) (fun v => ?_)
  refine VL.fact fun e => ?_
  subst e
  refine VL.not rfl ?_
  refine VL.nil ?_
  refine VX.next ?_
  refine VC.no rfl ?_
  refine VC.skip ?_
  refine VX.next ?_
  refine VC.seq ?_
  refine VC.seq ?_
  refine VC.region ?_
  refine VL.move rfl ?_
  refine VL.call Try.func29 rfl (by decide) rfl (fun w' hw => great_any hw (hA.now (s := ⟨w, keys H⟩) (Mono.slice Mono.byte) hw (List.mem_cons_self ..))) (fun v => ?_)
  refine VL.at (fun w0 h1w => ?_)
  obtain ⟨hO, b, rfl, _⟩ := h1w
  refine VL.toOwn hO ?_
  refine VL.nil ?_
  refine VX.next ?_
  refine VC.split rfl (fun hc12 => ?_) (fun hc12 => ?_)
  · refine VC.seq ?_
    refine VC.region ?_
    refine VL.assign rfl ?_
    refine VL.nil ?_
    refine VX.next ?_
    refine VC.ret ?_
    refine VX.then_ret ?_
    refine VX.ret1 rfl rfl (fun w hw => ?_)
    exact ⟨rfl, hw.lose.lose⟩
  · refine VC.skip ?_
    refine VX.next ?_
    refine VC.seq ?_
    by_cases hok : joinOk ls
    · skip
      refine VC.region ?_
      refine VL.move rfl ?_
      refine VL.call Try.func30 rfl (by decide) rfl (fun w' hw => join_any hw (hA.now (s := ⟨w, keys H⟩) (Mono.slice Mono.byte) hw (by simp))) (fun v => ?_)
      refine VL.at (fun w1 h1w => ?_)
      obtain ⟨hO, ⟨_, p1, c1, rfl, hA1⟩ | ⟨hno, _⟩⟩ := h1w
      rotate_left
      · exact absurd hok hno
      refine VL.toOwn hO ?_
      refine VL.move rfl ?_
      refine VL.extract rfl rfl ?_
      refine VL.extract rfl rfl ?_
      refine VL.assign rfl ?_
      refine VL.assign rfl ?_
      refine VL.nil ?_
      refine VX.next ?_
      refine VC.seq ?_
      refine VC.region ?_
      refine VL.move rfl ?_
      refine VL.call Try.func31 rfl (by decide) rfl (fun w' hw => refJoin_any hw (hA.now (s := ⟨w, keys H⟩) (Mono.slice Mono.byte) hw (by simp))) (fun v => ?_)
      refine VL.at (fun w2 h1w => ?_)
      obtain ⟨hO, ⟨_, p2, c2, rfl, hA2⟩ | ⟨hno, _⟩⟩ := h1w
      rotate_left
      · exact absurd hok hno
      refine VL.toOwn hO ?_
      refine VL.move rfl ?_
      refine VL.extract rfl rfl ?_
      refine VL.extract rfl rfl ?_
      refine VL.assign rfl ?_
      refine VL.assign rfl ?_
      refine VL.nil ?_
      refine VX.next ?_
      refine VC.seq ?_
      refine VC.seq ?_
      refine VC.region ?_
      refine VL.move rfl ?_
      refine VL.move rfl ?_
      refine VL.neb Try.underlying4 rfl rfl ?_
      refine VL.move rfl ?_
      refine VL.go rfl rfl rfl ?_
      refine VL.move rfl ?_
      refine VL.go rfl rfl rfl ?_
      refine VL.move rfl ?_
      refine VL.go rfl rfl rfl ?_
      refine VL.call Try.func27 rfl (by decide) rfl (fun w' hw => bytes_any (l := joinB ls) (k := joinB ls) hw (hA1.now (s := ⟨w1, keys H⟩) Mono.byte hw (by simp)) (hA2.now (s := ⟨w2, keys H⟩) Mono.byte hw (by simp))) (fun v => ?_)
      refine VL.at (fun w3 h1w => ?_)
      obtain ⟨hO, e⟩ := h1w
      have e : v = .bool true := by simpa using e
      subst e
      refine VL.toOwn hO ?_
      refine VL.go rfl rfl rfl ?_
      refine VL.not rfl ?_
      refine VL.pick_f rfl rfl ?_
      refine VL.nil ?_
      refine VX.next ?_
      refine VC.no rfl ?_
      refine VC.skip ?_
      refine VX.next ?_
      refine VC.seq ?_
      refine VC.region ?_
      refine VL.move rfl ?_
      refine VL.call Try.func32 rfl (by decide) rfl (fun w' hw => split_any (l := joinB ls) hw (hA1.now (s := ⟨w1, keys H⟩) Mono.byte hw (by simp))) (fun v => ?_)
      refine VL.at (fun w4 h1w => ?_)
      obtain ⟨hO, p4, c4, e4, hA4⟩ := h1w
      rw [split_join hok] at e4 hA4
      subst e4
      refine VL.toOwn hO ?_
      refine VL.move rfl ?_
      refine VL.extract rfl rfl ?_
      refine VL.extract rfl rfl ?_
      refine VL.assign rfl ?_
      refine VL.assign rfl ?_
      refine VL.nil ?_
      refine VX.next ?_
      refine VC.seq ?_
      refine VC.region ?_
      refine VL.move rfl ?_
      refine VL.not rfl ?_
      refine VL.move rfl ?_
      refine VL.go rfl rfl rfl ?_
      refine VL.move rfl ?_
      refine VL.go rfl rfl rfl ?_
      refine VL.eql rfl rfl ?_
      refine VL.yes (rfl) ?_
      refine VL.go rfl rfl rfl ?_
      refine VL.move rfl ?_
      refine VL.go rfl rfl rfl ?_
      refine VL.move rfl ?_
      refine VL.go rfl rfl rfl ?_
      refine VL.move rfl ?_
      refine VL.go rfl rfl rfl ?_
      refine VL.call Try.func33 rfl (by decide) rfl (fun w' hw => lists_any (l := ls) (k := ls) hw (hA4.now (s := ⟨w4, keys H⟩) (Mono.slice Mono.byte) hw (by simp)) (hA.now (s := ⟨w, keys H⟩) (Mono.slice Mono.byte) hw (by simp))) (fun v => ?_)
      refine VL.at (fun w5 h1w => ?_)
      obtain ⟨hO, e⟩ := h1w
      have e : v = .bool true := by simpa using e
      subst e
      refine VL.toOwn hO ?_
      refine VL.go rfl rfl rfl ?_
      refine VL.pick_t rfl rfl ?_
      refine VL.pick_f rfl rfl ?_
      refine VL.assign rfl ?_
      refine VL.nil ?_
      refine VX.next ?_
      refine VC.ret ?_
      refine VX.ret1 rfl rfl (fun w hw => ?_)
      exact ⟨rfl, hw.lose.lose.lose.lose.lose.lose.lose⟩
    · skip
      refine VC.region ?_
      refine VL.move rfl ?_
      refine VL.call Try.func30 rfl (by decide) rfl (fun w' hw => join_any hw (hA.now (s := ⟨w, keys H⟩) (Mono.slice Mono.byte) hw (by simp))) (fun v => ?_)
      refine VL.at (fun w1 h1w => ?_)
      obtain ⟨hO, ⟨hyes, _⟩ | ⟨_, rfl⟩⟩ := h1w
      · exact absurd hyes hok
      refine VL.toOwn hO ?_
      refine VL.move rfl ?_
      refine VL.extract rfl rfl ?_
      refine VL.extract rfl rfl ?_
      refine VL.assign rfl ?_
      refine VL.assign rfl ?_
      refine VL.nil ?_
      refine VX.next ?_
      refine VC.seq ?_
      refine VC.region ?_
      refine VL.move rfl ?_
      refine VL.call Try.func31 rfl (by decide) rfl (fun w' hw => refJoin_any hw (hA.now (s := ⟨w, keys H⟩) (Mono.slice Mono.byte) hw (by simp))) (fun v => ?_)
      refine VL.at (fun w2 h1w => ?_)
      obtain ⟨hO, ⟨hyes, _⟩ | ⟨_, rfl⟩⟩ := h1w
      · exact absurd hyes hok
      refine VL.toOwn hO ?_
      refine VL.move rfl ?_
      refine VL.extract rfl rfl ?_
      refine VL.extract rfl rfl ?_
      refine VL.assign rfl ?_
      refine VL.assign rfl ?_
      refine VL.nil ?_
      refine VX.next ?_
      refine VC.seq ?_
      refine VC.seq ?_
      refine VC.region ?_
      refine VL.move rfl ?_
      refine VL.move rfl ?_
      refine VL.neb Try.underlying4 rfl rfl ?_
      refine VL.move rfl ?_
      refine VL.go rfl rfl rfl ?_
      refine VL.move rfl ?_
      refine VL.go rfl rfl rfl ?_
      refine VL.move rfl ?_
      refine VL.go rfl rfl rfl ?_
      refine VL.call Try.func27 rfl (by decide) rfl (fun w' hw => bytes_any (l := []) (k := []) (p := none) (q := none) (c := 0) (d := 0) hw Arr.none Arr.none) (fun v => ?_)
      refine VL.at (fun w3 h1w => ?_)
      obtain ⟨hO, e⟩ := h1w
      have e : v = .bool true := by simpa using e
      subst e
      refine VL.toOwn hO ?_
      refine VL.go rfl rfl rfl ?_
      refine VL.not rfl ?_
      refine VL.pick_f rfl rfl ?_
      refine VL.nil ?_
      refine VX.next ?_
      refine VC.no rfl ?_
      refine VC.skip ?_
      refine VX.next ?_
      refine VC.seq ?_
      refine VC.region ?_
      refine VL.move rfl ?_
      refine VL.call Try.func32 rfl (by decide) rfl (fun w' hw => split_any (l := []) (p := none) (c := 0) hw Arr.none) (fun v => ?_)
      refine VL.at (fun w4 h1w => ?_)
      obtain ⟨hO, p4, c4, e4, hA4⟩ := h1w
      subst e4
      refine VL.toOwn hO ?_
      refine VL.move rfl ?_
      refine VL.extract rfl rfl ?_
      refine VL.extract rfl rfl ?_
      refine VL.assign rfl ?_
      refine VL.assign rfl ?_
      refine VL.nil ?_
      refine VX.next ?_
      refine VC.seq ?_
      refine VC.region ?_
      refine VL.move rfl ?_
      refine VL.not rfl ?_
      refine VL.move rfl ?_
      refine VL.pass rfl rfl rfl rfl rfl ?_
      refine VL.pass rfl rfl rfl rfl rfl ?_
      refine VL.pass rfl rfl rfl rfl rfl ?_
      refine VL.passu rfl rfl rfl rfl ?_
      refine VL.passu rfl rfl rfl rfl ?_
      refine VL.passu rfl rfl rfl rfl ?_
      refine VL.pass rfl rfl rfl rfl rfl ?_
      refine VL.pick_t rfl rfl ?_
      refine VL.assign rfl ?_
      refine VL.nil ?_
      refine VX.next ?_
      refine VC.ret ?_
      refine VX.ret1 rfl rfl (fun w hw => ?_)
      exact ⟨rfl, hw.lose.lose.lose.lose.lose.lose⟩

end Go.Proofs.Ytcfecmoagfgnaaa
