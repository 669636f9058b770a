/- The spiral: the examples; the two laws, walked. -/
import Derived.Test.YtmhmhdnbobllfaaSpo3
namespace Go.Proofs.Ytmhmhdnbobllfaa
open Go.Vc Go.Pl

theorem spot_in {S : List Snap} {H : List Chunk} {w : World} (ho : Own S H w) {k r : Nat} (hr : r < long k) (hn : base k + r ≤ 4095) : Calls Try.prog 6 #[.int .i64 ((base k + r : Nat) : Int)] w (Ret fun v w' => v = .tuple #[cx (fi (pX k r), fi (pY k r)), .bool true] ∧ Own S H w') := by
  have hk := leg_lt (n := base k + r) rfl hn
  cases r with
  | zero =>
    cases k with
    | zero => exact spot_zero ho
    | succ k =>
      rw [Nat.add_zero, base_succ, pX_zero, pY_zero, cX_succ, cY_succ]
      exact spot_any ho (by omega) (by unfold long; omega) (Nat.le_refl _) (by rw [← base_succ]; exact hn)
  | succ r => exact spot_any ho hk (by omega) (by omega) hn
theorem step_ok {k r : Nat} (hk : k < 128) (hr : r < long k) : ∃ u v p q s, floatBits .sub .f64 (fi (pX k r)) (fi (pX k (r + 1))) = some u ∧ floatBits .sub .f64 (fi (pY k r)) (fi (pY k (r + 1))) = some v ∧ floatBits .mul .f64 u u = some p ∧ floatBits .mul .f64 v v = some q ∧ floatBits .add .f64 p q = some s ∧ fcmp .eql s 4607182418800017408 = true := by
  have hx := pX_small hk (Nat.le_of_lt hr)
  have hy := pY_small hk (Nat.le_of_lt hr)
  have sx := small (x := pX k r) (by omega) (by omega)
  have sy := small (x := pY k r) (by omega) (by omega)
  rw [← pX_next, ← pY_next]
  have h : k % 4 = 0 ∨ k % 4 = 1 ∨ k % 4 = 2 ∨ k % 4 = 3 := by omega
  rcases h with h | h | h | h
  · rw [show dX k = 1 by unfold dX; rw [if_pos h], show dY k = 0 by unfold dY; rw [if_neg (by omega), if_neg (by omega)], Int.add_zero]
    exact ⟨_, _, fi 1, fi 0, fi 1, sx.subm, sy.sub0, by decide +kernel, by decide +kernel, by decide +kernel, by decide +kernel⟩
  · rw [show dX k = 0 by unfold dX; rw [if_neg (by omega), if_neg (by omega)], show dY k = 1 by unfold dY; rw [if_pos h], Int.add_zero]
    exact ⟨_, _, fi 0, fi 1, fi 1, sx.sub0, sy.subm, by decide +kernel, by decide +kernel, by decide +kernel, by decide +kernel⟩
  · rw [show dX k = -1 by unfold dX; rw [if_neg (by omega), if_pos h], show dY k = 0 by unfold dY; rw [if_neg (by omega), if_neg (by omega)], Int.add_zero]
    exact ⟨_, _, fi 1, fi 0, fi 1, sx.subp, sy.sub0, by decide +kernel, by decide +kernel, by decide +kernel, by decide +kernel⟩
  · rw [show dX k = 0 by unfold dX; rw [if_neg (by omega), if_neg (by omega)], show dY k = -1 by unfold dY; rw [if_neg (by omega), if_pos h], Int.add_zero]
    exact ⟨_, _, fi 0, fi 1, fi 1, sx.sub0, sy.subp, by decide +kernel, by decide +kernel, by decide +kernel, by decide +kernel⟩
theorem place_next {k r : Nat} (hr : r < long k) (hn : base k + (r + 1) ≤ 4095) : placeI (pX k (r + 1)) (pY k (r + 1)) = ((base k + (r + 1) : Nat) : Int) := by
  by_cases h : r + 1 < long k
  · have := place_is (leg_lt (n := base k + (r + 1)) rfl hn) h
    rw [this]; omega
  · have e : r + 1 = long k := by omega
    have e2 : base k + long k = base (k + 1) + 0 := by rw [base_succ, Nat.add_zero]
    rw [e] at hn ⊢
    rw [e2] at hn ⊢
    rw [← cX_succ, ← cY_succ, ← pX_zero, ← pY_zero, place_is (leg_lt (n := base (k + 1) + 0) rfl hn) (by unfold long; omega)]
    omega
theorem f1 : fi 1 = 4607182418800017408 := by decide +kernel
theorem f2 : fi 2 = 4611686018427387904 := by decide +kernel
theorem fm1 : fi (-1) = 13830554455654793216 := by decide +kernel
theorem fm2 : fi (-2) = 13835058055282163712 := by decide +kernel
theorem f5 : fi 5 = 4617315517961601024 := by decide +kernel
theorem t21 : cmul (fi 2, fi 1) (0, 4607182418800017408) = some (fi (-1), fi 2) := by decide +kernel
theorem s15 : csub (fi 1, fi 1) (fi (-2), fi 5) = some (fi 3, fi (-4)) := by decide +kernel
theorem e1 : ceq (fi 2, fi (-1)) (4611686018427387904, 13830554455654793216) = true := by decide +kernel
theorem e2 : ceq (fi (-1), fi 2) (13830554455654793216, 4611686018427387904) = true := by decide +kernel

theorem turn_one {S : List Snap} {H : List Chunk} {w : World} (ho : Own S H w)  : Calls Try.prog 10 #[cx (fi 2, fi 1), .int .i64 1] w (Ret fun v w' => v = .tuple #[cx (fi (-1), fi 2), .bool true] ∧ Own S H w') := by
  refine enter (G := Own S H) ho Try.func10 rfl Try.ntmps10 rfl ?_
  refine VC.seq ?_
  refine VC.region ?_
  refine VL.assign rfl ?_
  refine VL.assign rfl ?_
  refine VL.nil ?_
  refine VX.next ?_
  refine VC.seq ?_
  refine VC.region ?_
  refine VL.move rfl ?_
  refine VL.call Try.func15 rfl (by decide) rfl (fun w' hw => whole_any hw (small (by omega) (by omega)) (small (by omega) (by omega))) (fun v => ?_)
  refine VL.fact fun ev => ?_
  subst ev
  refine VL.move rfl ?_
  refine VL.extract rfl rfl ?_
  refine VL.extract rfl rfl ?_
  refine VL.assign rfl ?_
  refine VL.assign rfl ?_
  refine VL.nil ?_
  refine VX.next ?_
  refine VC.seq ?_
  refine VC.seq ?_
  refine VC.region ?_
  refine VL.move rfl ?_
  refine VL.not rfl ?_
  refine VL.nil ?_
  refine VX.next ?_
  refine VC.no rfl ?_
  refine VC.skip ?_
  refine VX.next ?_
  refine VC.seq ?_
  refine VC.seq ?_
  refine VC.region ?_
  refine VL.move rfl ?_
  refine VL.conv (by rw [Try.underlying3]; rfl) Try.underlying39 rfl (by simp only [InR]; decide) ?_
  refine VL.bits (.inl rfl) rfl rfl ?_
  rw [show bits .and .u64 1 3 = 1 by decide +kernel]
  refine VL.move rfl ?_
  refine VL.nil ?_
  refine VX.next ?_
  refine VC.block ?_
  refine VC.loop (X := Bool) (fun j => [(0, if j then cx (fi (-1), fi 2) else cx (fi 2, fi 1)), (16, .int .u64 1), (17, .int .u64 (if j then 1 else 0))]) (fun j w' => Own S H w') (fun j => if j then 0 else 1) false ⟨rfl, rfl, rfl, trivial⟩ (fun w' h => h) (fun j => ?_)
  · skip
    refine VC.seq ?_
    cases j
    · refine VC.region ?_
      refine VL.lss (a := 0) rfl rfl ?_
      refine VL.yes (by decide) ?_
      refine VL.nil ?_
      refine VX.next ?_
      refine VC.seq ?_
      refine VC.yes rfl ?_
      refine VC.skip ?_
      refine VX.next ?_
      refine VC.seq ?_
      refine VC.block ?_
      refine VC.region ?_
      refine VL.move rfl ?_
      refine VL.cmul (a := (fi 2, fi 1)) (b := (0, 4607182418800017408)) rfl rfl t21 ?_
      refine VL.assign rfl ?_
      refine VL.nil ?_
      refine VX.block_normal ?_
      refine VX.next ?_
      refine VC.region ?_
      refine VL.add (a := 0) rfl rfl (by simp only [InR]; decide) ?_
      refine VL.move rfl ?_
      refine VL.nil ?_
      refine VX.round true ⟨rfl, rfl, rfl, trivial⟩ (fun w' h => h) (by decide)
    · refine VC.region ?_
      refine VL.lss (a := 1) rfl rfl ?_
      refine VL.no (by decide) ?_
      refine VL.nil ?_
      refine VX.next ?_
      refine VC.seq ?_
      refine VC.no rfl ?_
      refine VC.exit ?_
      refine VX.then_exit ?_
      refine VX.then_exit ?_
      refine VX.block_here ?_
      refine VX.next ?_
      refine VC.seq ?_
      refine VC.region ?_
      refine VL.move rfl ?_
      refine VL.call Try.func12 rfl (by decide) rfl (fun w' hw => plain_any (x := -1) (y := 2) hw (small (by omega) (by omega)) (small (by omega) (by omega))) (fun v => ?_)
      refine VL.fact fun ev => ?_
      subst ev
      refine VL.assign rfl ?_
      refine VL.assign rfl ?_
      refine VL.nil ?_
      refine VX.next ?_
      refine VC.ret ?_
      refine VX.ret2 rfl rfl rfl (fun we hw => ?_)
      exact ⟨rfl, hw⟩

theorem far_one {S : List Snap} {H : List Chunk} {w : World} (ho : Own S H w)  : Calls Try.prog 11 #[cx (fi 1, fi 1), cx (fi (-2), fi 5)] w (Ret fun v w' => v = .tuple #[.int .i64 4, .bool true] ∧ Own S H w') := by
  refine enter (G := Own S H) ho Try.func11 rfl Try.ntmps11 rfl ?_
  refine VC.seq ?_
  refine VC.region ?_
  refine VL.assign rfl ?_
  refine VL.assign rfl ?_
  refine VL.nil ?_
  refine VX.next ?_
  refine VC.seq ?_
  refine VC.region ?_
  refine VL.move rfl ?_
  refine VL.call Try.func15 rfl (by decide) rfl (fun w' hw => whole_any hw (small (by omega) (by omega)) (small (by omega) (by omega))) (fun v => ?_)
  refine VL.fact fun ev => ?_
  subst ev
  refine VL.move rfl ?_
  refine VL.extract rfl rfl ?_
  refine VL.extract rfl rfl ?_
  refine VL.assign rfl ?_
  refine VL.assign rfl ?_
  refine VL.nil ?_
  refine VX.next ?_
  refine VC.seq ?_
  refine VC.region ?_
  refine VL.move rfl ?_
  refine VL.call Try.func15 rfl (by decide) rfl (fun w' hw => whole_any hw (small (by omega) (by omega)) (small (by omega) (by omega))) (fun v => ?_)
  refine VL.fact fun ev2 => ?_
  subst ev2
  refine VL.move rfl ?_
  refine VL.extract rfl rfl ?_
  refine VL.extract rfl rfl ?_
  refine VL.assign rfl ?_
  refine VL.assign rfl ?_
  refine VL.nil ?_
  refine VX.next ?_
  refine VC.seq ?_
  refine VC.seq ?_
  refine VC.region ?_
  refine VL.move rfl ?_
  refine VL.not rfl ?_
  refine VL.move rfl ?_
  refine VL.go rfl rfl rfl ?_
  refine VL.move rfl ?_
  refine VL.go rfl rfl rfl ?_
  refine VL.not rfl ?_
  refine VL.pick_f rfl rfl ?_
  refine VL.nil ?_
  refine VX.next ?_
  refine VC.no rfl ?_
  refine VC.skip ?_
  refine VX.next ?_
  refine VC.seq ?_
  refine VC.region ?_
  refine VL.move rfl ?_
  refine VL.move rfl ?_
  refine VL.csub rfl rfl s15 ?_
  refine VL.assign rfl ?_
  refine VL.nil ?_
  refine VX.next ?_
  refine VC.seq ?_
  refine VC.region ?_
  refine VL.move rfl ?_
  refine VL.real rfl ?_
  refine VL.ftoi (by rw [Try.underlying30]; rfl) Try.underlying3 rfl (small (x := 3) (by omega) (by omega)).whole ?_
  refine VL.move rfl ?_
  refine VL.imag rfl ?_
  refine VL.ftoi (by rw [Try.underlying30]; rfl) Try.underlying3 rfl (small (x := -4) (by omega) (by omega)).whole ?_
  refine VL.assign rfl ?_
  refine VL.assign rfl ?_
  refine VL.nil ?_
  refine VX.next ?_
  refine VC.seq ?_
  refine VC.region ?_
  refine VL.move rfl ?_
  refine VL.move rfl ?_
  refine VL.neg rfl (by simp only [InR]; decide) ?_
  refine VL.move rfl ?_
  refine VL.move rfl ?_
  refine VL.neg rfl (by simp only [InR]; decide) ?_
  refine VL.max4 rfl rfl rfl rfl ?_
  refine VL.assign rfl ?_
  refine VL.assign rfl ?_
  refine VL.nil ?_
  refine VX.next ?_
  refine VC.ret ?_
  refine VX.ret2 rfl rfl rfl (fun we hw => ?_)
  exact ⟨rfl, hw⟩

theorem spot_nine {S : List Snap} {H : List Chunk} {w : World} (ho : Own S H w) : Calls Try.prog 6 #[.int .i64 9] w (Ret fun v w' => v = .tuple #[cx (fi 2, fi (-1)), .bool true] ∧ Own S H w') :=
  spot_any (k := 4) (q := 3) ho (by decide) (by decide) (by decide) (by decide)
theorem place_lit {S : List Snap} {H : List Chunk} {w : World} (ho : Own S H w) : Calls Try.prog 9 #[.complex .f64 13830554455654793216 13830554455654793216] w (Ret fun v w' => v = .tuple #[.int .i64 6, .bool true] ∧ Own S H w') := by
  have := place_any (x := -1) (y := -1) (n := 6) ho (by omega) (by omega) (by omega) (by omega) (by decide) (by omega) (by omega)
  rw [fm1] at this
  exact this
theorem turn_lit {S : List Snap} {H : List Chunk} {w : World} (ho : Own S H w) : Calls Try.prog 10 #[.complex .f64 4611686018427387904 4607182418800017408, .int .i64 1] w (Ret fun v w' => v = .tuple #[cx (fi (-1), fi 2), .bool true] ∧ Own S H w') := by
  have h : ∀ a b, a = fi 2 → b = fi 1 → Calls Try.prog 10 #[.complex .f64 a b, .int .i64 1] w (Ret fun v w' => v = .tuple #[cx (fi (-1), fi 2), .bool true] ∧ Own S H w') := fun a b ha hb => by subst ha hb; exact turn_one ho
  exact h _ _ f2.symm f1.symm
theorem far_lit {S : List Snap} {H : List Chunk} {w : World} (ho : Own S H w) : Calls Try.prog 11 #[.complex .f64 4607182418800017408 4607182418800017408, .complex .f64 13835058055282163712 4617315517961601024] w (Ret fun v w' => v = .tuple #[.int .i64 4, .bool true] ∧ Own S H w') := by
  have h : ∀ a b c d, a = fi 1 → b = fi 1 → c = fi (-2) → d = fi 5 → Calls Try.prog 11 #[.complex .f64 a b, .complex .f64 c d] w (Ret fun v w' => v = .tuple #[.int .i64 4, .bool true] ∧ Own S H w') := fun a b c d ha hb hc hd => by subst ha hb hc hd; exact far_one ho
  exact h _ _ _ _ f1.symm f1.symm fm2.symm f5.symm

theorem alive_any {S : List Snap} {H : List Chunk} {w : World} (ho : Own S H w)  : Calls Try.prog 5 #[] w (Ret fun v w' => v = .bool true ∧ Own S H w') := by
  refine enter (G := Own S H) ho Try.func5 rfl Try.ntmps5 rfl ?_
  refine VC.seq ?_
  refine VC.region ?_
  refine VL.assign rfl ?_
  refine VL.nil ?_
  refine VX.next ?_
  refine VC.seq ?_
  refine VC.region ?_
  refine VL.call Try.func6 rfl (by decide) rfl (fun w' hw => spot_nine hw) (fun v => ?_)
  refine VL.fact fun ev => ?_
  subst ev
  refine VL.move rfl ?_
  refine VL.extract rfl rfl ?_
  refine VL.extract rfl rfl ?_
  refine VL.assign rfl ?_
  refine VL.assign rfl ?_
  refine VL.nil ?_
  refine VX.next ?_
  refine VC.seq ?_
  refine VC.region ?_
  refine VL.call Try.func9 rfl (by decide) rfl (fun w' hw => place_lit hw) (fun v => ?_)
  refine VL.fact fun ev2 => ?_
  subst ev2
  refine VL.move rfl ?_
  refine VL.extract rfl rfl ?_
  refine VL.extract rfl rfl ?_
  refine VL.assign rfl ?_
  refine VL.assign rfl ?_
  refine VL.nil ?_
  refine VX.next ?_
  refine VC.seq ?_
  refine VC.region ?_
  refine VL.call Try.func10 rfl (by decide) rfl (fun w' hw => turn_lit hw) (fun v => ?_)
  refine VL.fact fun ev3 => ?_
  subst ev3
  refine VL.move rfl ?_
  refine VL.extract rfl rfl ?_
  refine VL.extract rfl rfl ?_
  refine VL.assign rfl ?_
  refine VL.assign rfl ?_
  refine VL.nil ?_
  refine VX.next ?_
  refine VC.seq ?_
  refine VC.region ?_
  refine VL.call Try.func11 rfl (by decide) rfl (fun w' hw => far_lit hw) (fun v => ?_)
  refine VL.fact fun ev4 => ?_
  subst ev4
  refine VL.move rfl ?_
  refine VL.extract rfl rfl ?_
  refine VL.extract rfl rfl ?_
  refine VL.assign rfl ?_
  refine VL.assign rfl ?_
  refine VL.nil ?_
  refine VX.next ?_
  refine VC.seq ?_
  refine VC.region ?_
  refine VL.move rfl ?_
  refine VL.move rfl ?_
  refine VL.go rfl rfl rfl ?_
  refine VL.move rfl ?_
  refine VL.pick_t rfl rfl ?_
  refine VL.move rfl ?_
  refine VL.go rfl rfl rfl ?_
  refine VL.move rfl ?_
  refine VL.pick_t rfl rfl ?_
  refine VL.move rfl ?_
  refine VL.go rfl rfl rfl ?_
  refine VL.move rfl ?_
  refine VL.pick_t rfl rfl ?_
  refine VL.move rfl ?_
  refine VL.go rfl rfl rfl ?_
  refine VL.move rfl ?_
  refine VL.go rfl rfl rfl ?_
  refine VL.ceql (a := (fi 2, fi (-1))) (b := (4611686018427387904, 13830554455654793216)) rfl rfl e1 ?_
  refine VL.pick_t rfl rfl ?_
  refine VL.move rfl ?_
  refine VL.go rfl rfl rfl ?_
  refine VL.move rfl ?_
  refine VL.go rfl rfl rfl ?_
  refine VL.eql (a := 6) rfl rfl ?_
  refine VL.yes (by decide) ?_
  refine VL.pick_t rfl rfl ?_
  refine VL.move rfl ?_
  refine VL.go rfl rfl rfl ?_
  refine VL.move rfl ?_
  refine VL.go rfl rfl rfl ?_
  refine VL.ceql (a := (fi (-1), fi 2)) (b := (13830554455654793216, 4611686018427387904)) rfl rfl e2 ?_
  refine VL.pick_t rfl rfl ?_
  refine VL.move rfl ?_
  refine VL.go rfl rfl rfl ?_
  refine VL.move rfl ?_
  refine VL.go rfl rfl rfl ?_
  refine VL.eql (a := 4) rfl rfl ?_
  refine VL.yes (by decide) ?_
  refine VL.pick_t rfl rfl ?_
  refine VL.assign rfl ?_
  refine VL.nil ?_
  refine VX.next ?_
  refine VC.ret ?_
  refine VX.ret1 rfl rfl (fun we hw => ?_)
  exact ⟨rfl, hw⟩

theorem neat_zero {S : List Snap} {H : List Chunk} {w : World} (ho : Own S H w) : Calls Try.prog 8 #[cx (0, 0)] w (Ret fun v w' => v = .bool true ∧ Own S H w') := by
  have := neat00 ho
  rw [z0] at this
  exact this
theorem place_zero {S : List Snap} {H : List Chunk} {w : World} (ho : Own S H w) : Calls Try.prog 9 #[cx (0, 0)] w (Ret fun v w' => v = .tuple #[.int .i64 0, .bool true] ∧ Own S H w') := by
  have := place_any (x := 0) (y := 0) (n := 0) ho (by omega) (by omega) (by omega) (by omega) (by decide) (by omega) (by omega)
  rw [z0] at this
  exact this

theorem spots_in {S : List Snap} {H : List Chunk} {w : World} (ho : Own S H w) {k r : Nat} (hr : r < long k) (hn : base k + r ≤ 4095) : Calls Try.prog 3 #[.int .i64 ((base k + r : Nat) : Int)] w (Ret fun v w' => v = .bool true ∧ Own S H w') := by
  have hk := leg_lt (n := base k + r) rfl hn
  refine enter (G := Own S H) ho Try.func3 rfl Try.ntmps3 rfl ?_
  refine VC.seq ?_
  refine VC.region ?_
  refine VL.assign rfl ?_
  refine VL.nil ?_
  refine VX.next ?_
  refine VC.seq ?_
  refine VC.seq ?_
  refine VC.region ?_
  refine VL.call Try.func5 rfl (by decide) rfl (fun w' hw => alive_any hw) (fun v => ?_)
  refine VL.fact fun ea => ?_
  subst ea
  refine VL.not rfl ?_
  refine VL.nil ?_
  refine VX.next ?_
  refine VC.no rfl ?_
  refine VC.skip ?_
  refine VX.next ?_
  refine VC.seq ?_
  refine VC.region ?_
  refine VL.move rfl ?_
  refine VL.call Try.func6 rfl (by decide) rfl (fun w' hw => spot_in hw hr hn) (fun v => ?_)
  refine VL.fact fun ev => ?_
  subst ev
  refine VL.move rfl ?_
  refine VL.extract rfl rfl ?_
  refine VL.extract rfl rfl ?_
  refine VL.assign rfl ?_
  refine VL.assign rfl ?_
  refine VL.nil ?_
  refine VX.next ?_
  refine VC.seq ?_
  refine VC.region ?_
  refine VL.move rfl ?_
  refine VL.call Try.func7 rfl (by decide) rfl (fun w' hw => refspot_any hw hr hn) (fun v => ?_)
  refine VL.fact fun ev2 => ?_
  subst ev2
  refine VL.move rfl ?_
  refine VL.extract rfl rfl ?_
  refine VL.extract rfl rfl ?_
  refine VL.assign rfl ?_
  refine VL.assign rfl ?_
  refine VL.nil ?_
  refine VX.next ?_
  refine VC.seq ?_
  refine VC.seq ?_
  refine VC.region ?_
  refine VL.move rfl ?_
  refine VL.move rfl ?_
  refine VL.cneq rfl rfl (r := false) (by rw [ceq_self (small (by have := pX_small hk (Nat.le_of_lt hr); omega) (by have := pX_small hk (Nat.le_of_lt hr); omega)) (small (by have := pY_small hk (Nat.le_of_lt hr); omega) (by have := pY_small hk (Nat.le_of_lt hr); omega))]; rfl) ?_
  refine VL.move rfl ?_
  refine VL.go rfl rfl rfl ?_
  refine VL.move rfl ?_
  refine VL.go rfl rfl rfl ?_
  refine VL.move rfl ?_
  refine VL.go rfl rfl rfl ?_
  refine VL.bneq Try.underlying4 rfl rfl ?_
  refine VL.pick_f rfl rfl ?_
  refine VL.move rfl ?_
  refine VL.go rfl rfl rfl ?_
  refine VL.move rfl ?_
  refine VL.go rfl rfl rfl ?_
  refine VL.call Try.func8 rfl (by decide) rfl (fun w' hw => neat_any hw (small (by have := pX_small hk (Nat.le_of_lt hr); omega) (by have := pX_small hk (Nat.le_of_lt hr); omega)) (small (by have := pY_small hk (Nat.le_of_lt hr); omega) (by have := pY_small hk (Nat.le_of_lt hr); omega))) (fun v => ?_)
  refine VL.fact fun ev3 => ?_
  subst ev3
  refine VL.go rfl rfl rfl ?_
  refine VL.not rfl ?_
  refine VL.pick_f rfl rfl ?_
  refine VL.nil ?_
  refine VX.next ?_
  refine VC.no rfl ?_
  refine VC.skip ?_
  refine VX.next ?_
  refine VC.seq ?_
  refine VC.region ?_
  refine VL.move rfl ?_
  refine VL.call Try.func9 rfl (by decide) rfl (fun w' hw => place_any hw (pX_small hk (Nat.le_of_lt hr)).1 (pX_small hk (Nat.le_of_lt hr)).2 (pY_small hk (Nat.le_of_lt hr)).1 (pY_small hk (Nat.le_of_lt hr)).2 (place_is hk hr) (by omega) (by omega)) (fun v => ?_)
  refine VL.fact fun ev4 => ?_
  subst ev4
  refine VL.move rfl ?_
  refine VL.extract rfl rfl ?_
  refine VL.extract rfl rfl ?_
  refine VL.assign rfl ?_
  refine VL.assign rfl ?_
  refine VL.nil ?_
  refine VX.next ?_
  refine VC.seq ?_
  refine VC.region ?_
  refine VL.move rfl ?_
  refine VL.not rfl ?_
  refine VL.move rfl ?_
  refine VL.go rfl rfl rfl ?_
  refine VL.move rfl ?_
  refine VL.go rfl rfl rfl ?_
  refine VL.move rfl ?_
  refine VL.go rfl rfl rfl ?_
  refine VL.move rfl ?_
  refine VL.go rfl rfl rfl ?_
  refine VL.move rfl ?_
  refine VL.go rfl rfl rfl ?_
  refine VL.eql rfl rfl ?_
  refine VL.yes (by omega) ?_
  refine VL.go rfl rfl rfl ?_
  refine VL.pick_t rfl rfl ?_
  refine VL.pick_f rfl rfl ?_
  refine VL.assign rfl ?_
  refine VL.nil ?_
  refine VX.next ?_
  refine VC.ret ?_
  refine VX.ret1 rfl rfl (fun we hw => ?_)
  exact ⟨rfl, hw⟩

theorem spots_out {S : List Snap} {H : List Chunk} {w : World} (ho : Own S H w) {n : Int} (hn : n < 0 ∨ 4095 < n) : Calls Try.prog 3 #[.int .i64 n] w (Ret fun v w' => v = .bool true ∧ Own S H w') := by
  refine enter (G := Own S H) ho Try.func3 rfl Try.ntmps3 rfl ?_
  refine VC.seq ?_
  refine VC.region ?_
  refine VL.assign rfl ?_
  refine VL.nil ?_
  refine VX.next ?_
  refine VC.seq ?_
  refine VC.seq ?_
  refine VC.region ?_
  refine VL.call Try.func5 rfl (by decide) rfl (fun w' hw => alive_any hw) (fun v => ?_)
  refine VL.fact fun ea => ?_
  subst ea
  refine VL.not rfl ?_
  refine VL.nil ?_
  refine VX.next ?_
  refine VC.no rfl ?_
  refine VC.skip ?_
  refine VX.next ?_
  refine VC.seq ?_
  refine VC.region ?_
  refine VL.move rfl ?_
  refine VL.call Try.func6 rfl (by decide) rfl (fun w' hw => spot_out hw hn) (fun v => ?_)
  refine VL.fact fun ev => ?_
  subst ev
  refine VL.move rfl ?_
  refine VL.extract rfl rfl ?_
  refine VL.extract rfl rfl ?_
  refine VL.assign rfl ?_
  refine VL.assign rfl ?_
  refine VL.nil ?_
  refine VX.next ?_
  refine VC.seq ?_
  refine VC.region ?_
  refine VL.move rfl ?_
  refine VL.call Try.func7 rfl (by decide) rfl (fun w' hw => refspot_out hw hn) (fun v => ?_)
  refine VL.fact fun ev2 => ?_
  subst ev2
  refine VL.move rfl ?_
  refine VL.extract rfl rfl ?_
  refine VL.extract rfl rfl ?_
  refine VL.assign rfl ?_
  refine VL.assign rfl ?_
  refine VL.nil ?_
  refine VX.next ?_
  refine VC.seq ?_
  refine VC.seq ?_
  refine VC.region ?_
  refine VL.move rfl ?_
  refine VL.move rfl ?_
  refine VL.cneq (a := (0, 0)) (b := (0, 0)) rfl rfl (r := false) (by decide +kernel) ?_
  refine VL.move rfl ?_
  refine VL.go rfl rfl rfl ?_
  refine VL.move rfl ?_
  refine VL.go rfl rfl rfl ?_
  refine VL.move rfl ?_
  refine VL.go rfl rfl rfl ?_
  refine VL.bneq Try.underlying4 rfl rfl ?_
  refine VL.pick_f rfl rfl ?_
  refine VL.move rfl ?_
  refine VL.go rfl rfl rfl ?_
  refine VL.move rfl ?_
  refine VL.go rfl rfl rfl ?_
  refine VL.call Try.func8 rfl (by decide) rfl (fun w' hw => neat_zero hw) (fun v => ?_)
  refine VL.fact fun ev3 => ?_
  subst ev3
  refine VL.go rfl rfl rfl ?_
  refine VL.not rfl ?_
  refine VL.pick_f rfl rfl ?_
  refine VL.nil ?_
  refine VX.next ?_
  refine VC.no rfl ?_
  refine VC.skip ?_
  refine VX.next ?_
  refine VC.seq ?_
  refine VC.region ?_
  refine VL.move rfl ?_
  refine VL.call Try.func9 rfl (by decide) rfl (fun w' hw => place_zero hw) (fun v => ?_)
  refine VL.fact fun ev4 => ?_
  subst ev4
  refine VL.move rfl ?_
  refine VL.extract rfl rfl ?_
  refine VL.extract rfl rfl ?_
  refine VL.assign rfl ?_
  refine VL.assign rfl ?_
  refine VL.nil ?_
  refine VX.next ?_
  refine VC.seq ?_
  refine VC.region ?_
  refine VL.move rfl ?_
  refine VL.not rfl ?_
  refine VL.move rfl ?_
  refine VL.pass rfl rfl rfl rfl rfl ?_
  refine VL.pass rfl rfl rfl rfl rfl ?_
  refine VL.passu rfl rfl rfl rfl ?_
  refine VL.passu rfl rfl rfl rfl ?_
  refine VL.passu rfl rfl rfl rfl ?_
  refine VL.pass rfl rfl rfl rfl rfl ?_
  refine VL.pick_t rfl rfl ?_
  refine VL.assign rfl ?_
  refine VL.nil ?_
  refine VX.next ?_
  refine VC.ret ?_
  refine VX.ret1 rfl rfl (fun we hw => ?_)
  exact ⟨rfl, hw⟩

theorem steps_in {S : List Snap} {H : List Chunk} {w : World} (ho : Own S H w) {k r : Nat} (hr : r < long k) (hn : base k + (r + 1) ≤ 4095) : Calls Try.prog 4 #[.int .i64 ((base k + r : Nat) : Int)] w (Ret fun v w' => v = .bool true ∧ Own S H w') := by
  have hk := leg_lt (n := base k + (r + 1)) rfl hn
  obtain ⟨u, v, p, q, s, hu, hv, hp, hq, hs, he⟩ := step_ok hk hr
  refine enter (G := Own S H) ho Try.func4 rfl Try.ntmps4 rfl ?_
  refine VC.seq ?_
  refine VC.region ?_
  refine VL.assign rfl ?_
  refine VL.nil ?_
  refine VX.next ?_
  refine VC.seq ?_
  refine VC.seq ?_
  refine VC.region ?_
  refine VL.call Try.func5 rfl (by decide) rfl (fun w' hw => alive_any hw) (fun v => ?_)
  refine VL.fact fun ea => ?_
  subst ea
  refine VL.not rfl ?_
  refine VL.nil ?_
  refine VX.next ?_
  refine VC.no rfl ?_
  refine VC.skip ?_
  refine VX.next ?_
  refine VC.seq ?_
  refine VC.seq ?_
  refine VC.region ?_
  refine VL.move rfl ?_
  refine VL.lss rfl rfl ?_
  refine VL.no (by omega) ?_
  refine VL.move rfl ?_
  refine VL.go rfl rfl rfl ?_
  refine VL.move rfl ?_
  refine VL.go rfl rfl rfl ?_
  refine VL.geq rfl rfl ?_
  refine VL.no (by omega) ?_
  refine VL.pick_f rfl rfl ?_
  refine VL.nil ?_
  refine VX.next ?_
  refine VC.no rfl ?_
  refine VC.skip ?_
  refine VX.next ?_
  refine VC.seq ?_
  refine VC.region ?_
  refine VL.move rfl ?_
  refine VL.call Try.func6 rfl (by decide) rfl (fun w' hw => spot_in hw hr (by omega)) (fun v => ?_)
  refine VL.fact fun ev => ?_
  subst ev
  refine VL.move rfl ?_
  refine VL.extract rfl rfl ?_
  refine VL.extract rfl rfl ?_
  refine VL.assign rfl ?_
  refine VL.assign rfl ?_
  refine VL.nil ?_
  refine VX.next ?_
  refine VC.seq ?_
  refine VC.region ?_
  refine VL.move rfl ?_
  refine VL.add rfl rfl (by simp only [InR]; omega) ?_
  refine newv (v' := .int .i64 ((base k + (r + 1) : Nat) : Int)) (by congr 1) ?_
  refine VL.call Try.func6 rfl (by decide) rfl (fun w' hw => spot_any hw hk (by omega) (by omega) hn) (fun v => ?_)
  refine VL.fact fun ev2 => ?_
  subst ev2
  refine VL.move rfl ?_
  refine VL.extract rfl rfl ?_
  refine VL.extract rfl rfl ?_
  refine VL.assign rfl ?_
  refine VL.assign rfl ?_
  refine VL.nil ?_
  refine VX.next ?_
  refine VC.seq ?_
  refine VC.region ?_
  refine VL.move rfl ?_
  refine VL.real rfl ?_
  refine VL.move rfl ?_
  refine VL.real rfl ?_
  refine VL.farith (op := .sub) (by decide) rfl rfl hu ?_
  refine VL.move rfl ?_
  refine VL.imag rfl ?_
  refine VL.move rfl ?_
  refine VL.imag rfl ?_
  refine VL.farith (op := .sub) (by decide) rfl rfl hv ?_
  refine VL.assign rfl ?_
  refine VL.assign rfl ?_
  refine VL.nil ?_
  refine VX.next ?_
  refine VC.seq ?_
  refine VC.region ?_
  refine VL.move rfl ?_
  refine VL.call Try.func9 rfl (by decide) rfl (fun w' hw => place_any hw (pX_small hk (by omega)).1 (pX_small hk (by omega)).2 (pY_small hk (by omega)).1 (pY_small hk (by omega)).2 (place_next hr hn) (by omega) (by omega)) (fun v => ?_)
  refine VL.fact fun ev3 => ?_
  subst ev3
  refine VL.move rfl ?_
  refine VL.extract rfl rfl ?_
  refine VL.extract rfl rfl ?_
  refine VL.assign rfl ?_
  refine VL.assign rfl ?_
  refine VL.nil ?_
  refine VX.next ?_
  refine VC.seq ?_
  refine VC.region ?_
  refine VL.move rfl ?_
  refine VL.move rfl ?_
  refine VL.go rfl rfl rfl ?_
  refine VL.move rfl ?_
  refine VL.pick_t rfl rfl ?_
  refine VL.move rfl ?_
  refine VL.go rfl rfl rfl ?_
  refine VL.move rfl ?_
  refine VL.pick_t rfl rfl ?_
  refine VL.move rfl ?_
  refine VL.go rfl rfl rfl ?_
  refine VL.move rfl ?_
  refine VL.go rfl rfl rfl ?_
  refine VL.move rfl ?_
  refine VL.go rfl rfl rfl ?_
  refine VL.add rfl rfl (by simp only [InR]; omega) ?_
  refine VL.go rfl rfl rfl ?_
  refine VL.eql rfl rfl ?_
  refine VL.yes (by omega) ?_
  refine VL.pick_t rfl rfl ?_
  refine VL.move rfl ?_
  refine VL.go rfl rfl rfl ?_
  refine VL.move rfl ?_
  refine VL.go rfl rfl rfl ?_
  refine VL.move rfl ?_
  refine VL.go rfl rfl rfl ?_
  refine VL.farith (op := .mul) (by decide) rfl rfl hp ?_
  refine VL.go rfl rfl rfl ?_
  refine VL.move rfl ?_
  refine VL.go rfl rfl rfl ?_
  refine VL.move rfl ?_
  refine VL.go rfl rfl rfl ?_
  refine VL.farith (op := .mul) (by decide) rfl rfl hq ?_
  refine VL.go rfl rfl rfl ?_
  refine VL.farith (op := .add) (by decide) rfl rfl hs ?_
  refine VL.go rfl rfl rfl ?_
  refine VL.fcmp (op := .eql) (by decide) rfl rfl he ?_
  refine VL.pick_t rfl rfl ?_
  refine VL.assign rfl ?_
  refine VL.nil ?_
  refine VX.next ?_
  refine VC.ret ?_
  refine VX.ret1 rfl rfl (fun we hw => ?_)
  exact ⟨rfl, hw⟩

theorem steps_out {S : List Snap} {H : List Chunk} {w : World} (ho : Own S H w) {n : Int} (hn : n < 0 ∨ 4095 ≤ n) : Calls Try.prog 4 #[.int .i64 n] w (Ret fun v w' => v = .bool true ∧ Own S H w') := by
  refine enter (G := Own S H) ho Try.func4 rfl Try.ntmps4 rfl ?_
  refine VC.seq ?_
  refine VC.region ?_
  refine VL.assign rfl ?_
  refine VL.nil ?_
  refine VX.next ?_
  refine VC.seq ?_
  refine VC.seq ?_
  refine VC.region ?_
  refine VL.call Try.func5 rfl (by decide) rfl (fun w' hw => alive_any hw) (fun v => ?_)
  refine VL.fact fun ea => ?_
  subst ea
  refine VL.not rfl ?_
  refine VL.nil ?_
  refine VX.next ?_
  refine VC.no rfl ?_
  refine VC.skip ?_
  refine VX.next ?_
  refine VC.seq ?_
  refine VC.seq ?_
  refine VC.region ?_
  refine VL.move rfl ?_
  refine VL.lss rfl rfl ?_
  refine VL.case (fun h3_1 => ?_) (fun h3_1 => ?_)
  · refine VL.move rfl ?_
    refine VL.pass rfl rfl rfl rfl rfl ?_
    refine VL.pass rfl rfl rfl rfl rfl ?_
    refine VL.pick_t rfl rfl ?_
    refine VL.nil ?_
    refine VX.next ?_
    refine VC.yes rfl ?_
    refine VC.seq ?_
    refine VC.region ?_
    refine VL.assign rfl ?_
    refine VL.nil ?_
    refine VX.next ?_
    refine VC.ret ?_
    refine VX.then_ret ?_
    refine VX.ret1 rfl rfl (fun we hw => ?_)
    exact ⟨rfl, hw⟩
  · refine VL.move rfl ?_
    refine VL.go rfl rfl rfl ?_
    refine VL.move rfl ?_
    refine VL.go rfl rfl rfl ?_
    refine VL.geq rfl rfl ?_
    refine VL.yes (by omega) ?_
    refine VL.pick_f rfl rfl ?_
    refine VL.nil ?_
    refine VX.next ?_
    refine VC.yes rfl ?_
    refine VC.seq ?_
    refine VC.region ?_
    refine VL.assign rfl ?_
    refine VL.nil ?_
    refine VX.next ?_
    refine VC.ret ?_
    refine VX.then_ret ?_
    refine VX.ret1 rfl rfl (fun we hw => ?_)
    exact ⟨rfl, hw⟩

theorem spots_any' {S : List Snap} {H : List Chunk} {w : World} (ho : Own S H w) (n : Int) : Calls Try.prog 3 #[.int .i64 n] w (Ret fun v w' => v = .bool true ∧ Own S H w') := by
  by_cases h : n < 0 ∨ 4095 < n
  · exact spots_out ho h
  · obtain ⟨m, rfl⟩ : ∃ m : Nat, n = m := ⟨n.toNat, by omega⟩
    obtain ⟨k, r, rfl, hr⟩ := on_leg m
    exact spots_in ho hr (by omega)
theorem steps_any' {S : List Snap} {H : List Chunk} {w : World} (ho : Own S H w) (n : Int) : Calls Try.prog 4 #[.int .i64 n] w (Ret fun v w' => v = .bool true ∧ Own S H w') := by
  by_cases h : n < 0 ∨ 4095 ≤ n
  · exact steps_out ho h
  · obtain ⟨m, rfl⟩ : ∃ m : Nat, n = m := ⟨n.toNat, by omega⟩
    obtain ⟨k, r, rfl, hr⟩ := on_leg m
    exact steps_in ho hr (by omega)

end Go.Proofs.Ytmhmhdnbobllfaa
