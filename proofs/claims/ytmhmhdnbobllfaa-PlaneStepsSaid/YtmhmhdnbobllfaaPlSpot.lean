/- Plain facts on the spiral, continued. -/
import Derived.Test.YtmhmhdnbobllfaaPlSpotA
namespace Go.Pl
open Go.Vc

theorem base_succ (k : Nat) : base (k + 1) = base k + long k := by
  unfold base long
  have h : k % 2 = 0 ∨ k % 2 = 1 := by omega
  rcases h with h | h
  · obtain ⟨m, rfl⟩ : ∃ m, k = 2 * m := ⟨k / 2, by omega⟩
    rw [show (2 * m + 1 + 1) / 2 = m + 1 by omega, show (2 * m + 1 + 2) / 2 = m + 1 by omega, show (2 * m + 1) / 2 = m by omega, show 2 * m / 2 = m by omega, Nat.add_mul, Nat.one_mul]
  · obtain ⟨m, rfl⟩ : ∃ m, k = 2 * m + 1 := ⟨k / 2, by omega⟩
    rw [show (2 * m + 1 + 1 + 1) / 2 = m + 1 by omega, show (2 * m + 1 + 1 + 2) / 2 = m + 2 by omega, show (2 * m + 1 + 1) / 2 = m + 1 by omega, show (2 * m + 1) / 2 = m by omega, show m + 2 = (m + 1) + 1 by omega, Nat.mul_succ]
theorem cX_succ (k : Nat) : cX (k + 1) = pX k (long k) := by
  unfold cX pX cX dX long
  have h : k % 4 = 0 ∨ k % 4 = 1 ∨ k % 4 = 2 ∨ k % 4 = 3 := by omega
  rcases h with h | h | h | h
  · rw [if_neg (by omega), if_neg (by omega), if_pos h, if_pos h]; omega
  · rw [if_neg (by omega), if_neg (by omega), if_neg (by omega), if_neg (by omega), if_neg (by omega), if_neg (by omega)]; omega
  · rw [if_neg (by omega), if_pos (by omega), if_neg (by omega), if_neg (by omega), if_neg (by omega), if_pos (by omega)]; omega
  · rw [if_pos (by omega), if_neg (by omega), if_pos (by omega), if_neg (by omega), if_neg (by omega)]; omega
theorem cY_succ (k : Nat) : cY (k + 1) = pY k (long k) := by
  unfold cY pY cY dY long
  have h : k % 4 = 0 ∨ k % 4 = 1 ∨ k % 4 = 2 ∨ k % 4 = 3 := by omega
  rcases h with h | h | h | h
  · rw [if_pos (by omega), if_pos (by omega), if_neg (by omega), if_neg (by omega)]; omega
  · rw [if_neg (by omega), if_pos (by omega), if_pos (by omega)]; omega
  · rw [if_neg (by omega), if_neg (by omega), if_neg (by omega), if_neg (by omega)]; omega
  · rw [if_pos (by omega), if_neg (by omega), if_neg (by omega), if_pos (by omega)]; omega
theorem dX_succ (k : Nat) : dX (k + 1) = 0 - dY k := by
  unfold dX dY
  have h : k % 4 = 0 ∨ k % 4 = 1 ∨ k % 4 = 2 ∨ k % 4 = 3 := by omega
  rcases h with h | h | h | h
  · rw [if_neg (by omega), if_neg (by omega), if_neg (by omega), if_neg (by omega)]; rfl
  · rw [if_neg (by omega), if_pos (by omega), if_pos (by omega)]; rfl
  · rw [if_neg (by omega), if_neg (by omega), if_neg (by omega), if_neg (by omega)]; rfl
  · rw [if_pos (by omega), if_neg (by omega), if_pos (by omega)]; rfl
theorem dY_succ (k : Nat) : dY (k + 1) = dX k := by
  unfold dX dY
  have h : k % 4 = 0 ∨ k % 4 = 1 ∨ k % 4 = 2 ∨ k % 4 = 3 := by omega
  rcases h with h | h | h | h
  · rw [if_pos (by omega), if_pos (by omega)]
  · rw [if_neg (by omega), if_neg (by omega), if_neg (by omega), if_neg (by omega)]
  · rw [if_neg (by omega), if_pos (by omega), if_neg (by omega), if_pos (by omega)]
  · rw [if_neg (by omega), if_neg (by omega), if_neg (by omega), if_neg (by omega)]

/-- Each number stands on a leg. -/
theorem on_leg (n : Nat) : ∃ k r, n = base k + r ∧ r < long k := by
  induction n with
  | zero => exact ⟨0, 0, rfl, by decide⟩
  | succ n ih =>
    obtain ⟨k, r, rfl, h⟩ := ih
    by_cases h1 : r + 1 < long k
    · exact ⟨k, r + 1, by omega, h1⟩
    · refine ⟨k + 1, 0, ?_, by unfold long; omega⟩
      rw [base_succ]; omega
theorem base_mono {a b : Nat} (h : a ≤ b) : base a ≤ base b := by
  induction b with
  | zero => simp at h; subst h; exact Nat.le_refl _
  | succ b ih =>
    by_cases e : a = b + 1
    · subst e; exact Nat.le_refl _
    · have := ih (by omega)
      rw [base_succ]; omega
theorem leg_lt {k r n : Nat} (h : n = base k + r) (hn : n ≤ 4095) : k < 128 := by
  by_cases h1 : k < 128
  · exact h1
  · have := base_mono (show 128 ≤ k by omega)
    have e : base 128 = 4160 := by decide
    omega

theorem wF_step (k : Nat) : cmul (wF k) (0, 4607182418800017408) = some (wF (k + 1)) := by
  cases k with
  | zero => decide +kernel
  | succ k =>
    have h : k % 4 = 0 ∨ k % 4 = 1 ∨ k % 4 = 2 ∨ k % 4 = 3 := by omega
    show cmul (if (k + 1) % 4 = 1 then (0, fi 1) else if (k + 1) % 4 = 2 then (fi (-1), 0) else if (k + 1) % 4 = 3 then (9223372036854775808, fi (-1)) else (fi 1, 9223372036854775808)) (0, 4607182418800017408) = some (if (k + 1 + 1) % 4 = 1 then (0, fi 1) else if (k + 1 + 1) % 4 = 2 then (fi (-1), 0) else if (k + 1 + 1) % 4 = 3 then (9223372036854775808, fi (-1)) else (fi 1, 9223372036854775808))
    rcases h with h | h | h | h
    · rw [if_pos (by omega), if_neg (by omega), if_pos (by omega)]; decide +kernel
    · rw [if_neg (by omega), if_pos (by omega), if_neg (by omega), if_neg (by omega), if_pos (by omega)]; decide +kernel
    · rw [if_neg (by omega), if_neg (by omega), if_pos (by omega), if_neg (by omega), if_neg (by omega), if_neg (by omega)]; decide +kernel
    · rw [if_neg (by omega), if_neg (by omega), if_neg (by omega), if_pos (by omega)]; decide +kernel

theorem wF_four (k : Nat) : wF (k + 1) = wF (k % 4 + 1) := by
  show (if (k + 1) % 4 = 1 then (0, fi 1) else if (k + 1) % 4 = 2 then (fi (-1), 0) else if (k + 1) % 4 = 3 then (9223372036854775808, fi (-1)) else (fi 1, 9223372036854775808)) = (if (k % 4 + 1) % 4 = 1 then (0, fi 1) else if (k % 4 + 1) % 4 = 2 then (fi (-1), 0) else if (k % 4 + 1) % 4 = 3 then (9223372036854775808, fi (-1)) else (fi 1, 9223372036854775808))
  rw [show (k % 4 + 1) % 4 = (k + 1) % 4 by omega]
theorem turn_ok {k r : Nat} (hr : r < 66) : cmul (wF k) (fi (r + 1 : Nat), 0) = some (fi (dX k * (r + 1 : Nat)), fi (dY k * (r + 1 : Nat))) := by
  have := allB_spec turns r hr
  unfold turnOk at this
  simp only [Bool.and_eq_true, decide_eq_true_eq] at this
  obtain ⟨⟨⟨⟨h0, h4⟩, h1⟩, h2⟩, h3⟩ := this
  have z : fi 0 = 0 := by decide +kernel
  cases k with
  | zero =>
    rw [h0, show dX 0 = 1 from rfl, show dY 0 = 0 from rfl, Int.one_mul, Int.zero_mul, z]
  | succ k =>
    rw [wF_four]
    have h : k % 4 = 0 ∨ k % 4 = 1 ∨ k % 4 = 2 ∨ k % 4 = 3 := by omega
    rcases h with h | h | h | h
    · rw [h, h1, show dX (k + 1) = 0 by unfold dX; rw [if_neg (by omega), if_neg (by omega)], show dY (k + 1) = 1 by unfold dY; rw [if_pos (by omega)], Int.one_mul, Int.zero_mul, z]
    · rw [h, h2, show dX (k + 1) = -1 by unfold dX; rw [if_neg (by omega), if_pos (by omega)], show dY (k + 1) = 0 by unfold dY; rw [if_neg (by omega), if_neg (by omega)], Int.zero_mul, z, Int.neg_mul, Int.one_mul]
    · rw [h, h3, show dX (k + 1) = 0 by unfold dX; rw [if_neg (by omega), if_neg (by omega)], show dY (k + 1) = -1 by unfold dY; rw [if_neg (by omega), if_pos (by omega)], Int.zero_mul, z, Int.neg_mul, Int.one_mul]
    · rw [h, h4, show dX (k + 1) = 1 by unfold dX; rw [if_pos (by omega)], show dY (k + 1) = 0 by unfold dY; rw [if_neg (by omega), if_neg (by omega)], Int.zero_mul, z, Int.one_mul]
theorem sum_ok {q r : Nat} (hq : q < 32) (hr : r ≤ 2 * q + 2) : fadd (fi (-(q : Int))) (fi r) = some (fi (-(q : Int) + r)) ∧ fadd (fi ((q : Int) + 1)) (fi (-(r : Int))) = some (fi ((q : Int) + 1 + -(r : Int))) := by
  have := allB_spec (allB_spec sums q hq) r (by omega)
  unfold sumOk at this
  simpa only [Bool.and_eq_true, decide_eq_true_eq] using this
structure Small (x : Int) : Prop where
  plain : fadd (fi x) 0 = some (fi x)
  whole : floatToIntVal .f64 (fi x) .i64 = some x
  ge : fcmp .geq (fi x) 13920626448202203136 = true
  le : fcmp .leq (fi x) 4697254411347427328 = true
  eq : fcmp .eql (fi x) (fi x) = true
  ne : x ≠ 0 → fcmp .neq (fi x) 0 = true
  sub0 : fsub (fi x) (fi x) = some (fi 0)
  subm : fsub (fi x) (fi (x + 1)) = some (fi (-1))
  subp : fsub (fi x) (fi (x - 1)) = some (fi 1)
theorem small {x : Int} (h0 : -65 ≤ x) (h1 : x ≤ 65) : Small x := by
  have := allB_spec smalls (x + 65).toNat (by omega)
  unfold smallOk at this
  rw [show (((x + 65).toNat : Nat) : Int) - 65 = x by omega] at this
  simp only [Bool.and_eq_true, Bool.or_eq_true, decide_eq_true_eq] at this
  obtain ⟨⟨⟨⟨⟨⟨⟨⟨a, b⟩, c⟩, d⟩, e⟩, f⟩, g⟩, i⟩, j⟩ := this
  exact ⟨a, b, c, d, e, fun h => f.resolve_left h, g, i, j⟩
theorem leg_ok {k r : Nat} (hk : k < 128) (hr : r + 1 ≤ long k) : ∃ m, cmul (wF k) (fi (r + 1 : Nat), 0) = some m ∧ cadd (fi (cX k), fi (cY k)) m = some (fi (pX k (r + 1)), fi (pY k (r + 1))) := by
  unfold long at hr
  refine ⟨_, turn_ok (by omega), ?_⟩
  obtain ⟨s1, s2⟩ := sum_ok (q := k / 4) (r := r + 1) (by omega) (by omega)
  have z : fi 0 = 0 := by decide +kernel
  have pl : ∀ x : Int, -65 ≤ x → x ≤ 65 → fadd (fi x) (fi 0) = some (fi x) := fun x h0 h1 => by rw [z]; exact (small h0 h1).plain
  have h : k % 4 = 0 ∨ k % 4 = 1 ∨ k % 4 = 2 ∨ k % 4 = 3 := by omega
  have t1 : fadd (fi (cX k)) (fi (dX k * (r + 1 : Nat))) = some (fi (pX k (r + 1))) := by
    unfold pX
    rcases h with h | h | h | h
    · rw [show dX k = 1 by unfold dX; rw [if_pos h], show cX k = -((k / 4 : Nat) : Int) by unfold cX; rw [if_pos h], Int.one_mul]; exact s1
    · rw [show dX k = 0 by unfold dX; rw [if_neg (by omega), if_neg (by omega)], show cX k = ((k / 4 : Nat) : Int) + 1 by unfold cX; rw [if_neg (by omega), if_neg (by omega)], Int.zero_mul, Int.add_zero]; exact pl _ (by omega) (by omega)
    · rw [show dX k = -1 by unfold dX; rw [if_neg (by omega), if_pos h], show cX k = ((k / 4 : Nat) : Int) + 1 by unfold cX; rw [if_neg (by omega), if_neg (by omega)], Int.neg_mul, Int.one_mul]; exact s2
    · rw [show dX k = 0 by unfold dX; rw [if_neg (by omega), if_neg (by omega)], show cX k = -((k / 4 : Nat) : Int) - 1 by unfold cX; rw [if_neg (by omega), if_pos h], Int.zero_mul, Int.add_zero]; exact pl _ (by omega) (by omega)
  have t2 : fadd (fi (cY k)) (fi (dY k * (r + 1 : Nat))) = some (fi (pY k (r + 1))) := by
    unfold pY
    rcases h with h | h | h | h
    · rw [show dY k = 0 by unfold dY; rw [if_neg (by omega), if_neg (by omega)], show cY k = -((k / 4 : Nat) : Int) by unfold cY; rw [if_pos (.inl h)], Int.zero_mul, Int.add_zero]; exact pl _ (by omega) (by omega)
    · rw [show dY k = 1 by unfold dY; rw [if_pos h], show cY k = -((k / 4 : Nat) : Int) by unfold cY; rw [if_pos (.inr h)], Int.one_mul]; exact s1
    · rw [show dY k = 0 by unfold dY; rw [if_neg (by omega), if_neg (by omega)], show cY k = ((k / 4 : Nat) : Int) + 1 by unfold cY; rw [if_neg (by omega)], Int.zero_mul, Int.add_zero]; exact pl _ (by omega) (by omega)
    · rw [show dY k = -1 by unfold dY; rw [if_neg (by omega), if_pos h], show cY k = ((k / 4 : Nat) : Int) + 1 by unfold cY; rw [if_neg (by omega)], Int.neg_mul, Int.one_mul]; exact s2
  unfold cadd
  simp only [t1, t2, Option.bind_some, Option.map_some]
theorem pX_small {k r : Nat} (hk : k < 128) (hr : r ≤ long k) : -64 ≤ pX k r ∧ pX k r ≤ 64 := by
  unfold pX cX dX
  unfold long at hr
  have h : k % 4 = 0 ∨ k % 4 = 1 ∨ k % 4 = 2 ∨ k % 4 = 3 := by omega
  rcases h with h | h | h | h <;> simp only [h] <;> simp <;> omega
theorem pY_small {k r : Nat} (hk : k < 128) (hr : r ≤ long k) : -64 ≤ pY k r ∧ pY k r ≤ 64 := by
  unfold pY cY dY
  unfold long at hr
  have h : k % 4 = 0 ∨ k % 4 = 1 ∨ k % 4 = 2 ∨ k % 4 = 3 := by omega
  rcases h with h | h | h | h <;> simp only [h] <;> simp <;> omega
theorem ceq_self {x y : Int} (hx : Small x) (hy : Small y) : ceq (fi x, fi y) (fi x, fi y) = true := by
  have h1 := hx.eq
  have h2 := hy.eq
  unfold fcmp at h1 h2
  unfold ceq
  simp only at h1 h2 ⊢
  rw [h1, h2]; rfl

theorem place_is {k r : Nat} (hk : k < 128) (hr : r < long k) : placeI (pX k r) (pY k r) = base k + r :=
  of_decide_eq_true (allB_spec (allB_spec places k hk) r (by unfold long at hr; omega))
end Go.Pl
