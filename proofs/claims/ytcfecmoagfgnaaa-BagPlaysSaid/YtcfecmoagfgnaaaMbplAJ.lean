/- The statement BagPlays is proved, for every input: part 10 of 19 of the texts that it needs. -/
import Derived.Test.YtcfecmoagfgnaaaMbplAI
/- Plain facts on the spiral, continued. -/
namespace Go.Pl
open Go.Vc

theorem base_succ (k : Nat) : base (k + 1) = base k + long k := by
 unfold base long
 have h : k % 2 = 0 ∨ k % 2 = 1 := by omega
 rcases h with h | h
 ·obtain ⟨m, rfl⟩ : ∃ m, k = 2 * m := ⟨k / 2, by omega⟩
  rw [show (2 * m + 1 + 1) / 2 = m + 1 by omega, show (2 * m + 1 + 2) / 2 = m + 1 by omega, show (2 * m + 1) / 2 = m by omega, show 2 * m / 2 = m by omega, Nat.add_mul, Nat.one_mul]
 ·obtain ⟨m, rfl⟩ : ∃ m, k = 2 * m + 1 := ⟨k / 2, by omega⟩
  rw [show (2 * m + 1 + 1 + 1) / 2 = m + 1 by omega, show (2 * m + 1 + 1 + 2) / 2 = m + 2 by omega, show (2 * m + 1 + 1) / 2 = m + 1 by omega, show (2 * m + 1) / 2 = m by omega, show m + 2 = (m + 1) + 1 by omega, Nat.mul_succ]
theorem cX_succ (k : Nat) : cX (k + 1) = pX k (long k) := by
 unfold cX pX cX dX long
 have h : k % 4 = 0 ∨ k % 4 = 1 ∨ k % 4 = 2 ∨ k % 4 = 3 := by omega
 rcases h with h | h | h | h
 ·rw [if_neg (by omega), if_neg (by omega), if_pos h, if_pos h]; omega
 ·rw [if_neg (by omega), if_neg (by omega), if_neg (by omega), if_neg (by omega), if_neg (by omega), if_neg (by omega)]; omega
 ·rw [if_neg (by omega), if_pos (by omega), if_neg (by omega), if_neg (by omega), if_neg (by omega), if_pos (by omega)]; omega
 ·rw [if_pos (by omega), if_neg (by omega), if_pos (by omega), if_neg (by omega), if_neg (by omega)]; omega
theorem cY_succ (k : Nat) : cY (k + 1) = pY k (long k) := by
 unfold cY pY cY dY long
 have h : k % 4 = 0 ∨ k % 4 = 1 ∨ k % 4 = 2 ∨ k % 4 = 3 := by omega
 rcases h with h | h | h | h
 ·rw [if_pos (by omega), if_pos (by omega), if_neg (by omega), if_neg (by omega)]; omega
 ·rw [if_neg (by omega), if_pos (by omega), if_pos (by omega)]; omega
 ·rw [if_neg (by omega), if_neg (by omega), if_neg (by omega), if_neg (by omega)]; omega
 ·rw [if_pos (by omega), if_neg (by omega), if_neg (by omega), if_pos (by omega)]; omega
theorem dX_succ (k : Nat) : dX (k + 1) = 0 - dY k := by
 unfold dX dY
 have h : k % 4 = 0 ∨ k % 4 = 1 ∨ k % 4 = 2 ∨ k % 4 = 3 := by omega
 rcases h with h | h | h | h
 ·rw [if_neg (by omega), if_neg (by omega), if_neg (by omega), if_neg (by omega)]; rfl
 ·rw [if_neg (by omega), if_pos (by omega), if_pos (by omega)]; rfl
 ·rw [if_neg (by omega), if_neg (by omega), if_neg (by omega), if_neg (by omega)]; rfl
 ·rw [if_pos (by omega), if_neg (by omega), if_pos (by omega)]; rfl
theorem dY_succ (k : Nat) : dY (k + 1) = dX k := by
 unfold dX dY
 have h : k % 4 = 0 ∨ k % 4 = 1 ∨ k % 4 = 2 ∨ k % 4 = 3 := by omega
 rcases h with h | h | h | h
 ·rw [if_pos (by omega), if_pos (by omega)]
 ·rw [if_neg (by omega), if_neg (by omega), if_neg (by omega), if_neg (by omega)]
 ·rw [if_neg (by omega), if_pos (by omega), if_neg (by omega), if_pos (by omega)]
 ·rw [if_neg (by omega), if_neg (by omega), if_neg (by omega), if_neg (by omega)]

theorem base_mono {a b : Nat} (h : a ≤ b) : base a ≤ base b := by
 induction b with
 | zero => simp at h; subst h; exact Nat.le_refl _
 | succ b ih =>
  by_cases e : a = b + 1
  ·subst e; exact Nat.le_refl _
  ·have := ih (by omega)
   rw [base_succ]; omega
theorem leg_lt {k r n : Nat} (h : n = base k + r) (hn : n ≤ 4095) : k < 128 := by
 by_cases h1 : k < 128
 ·exact h1
 ·have := base_mono (show 128 ≤ k by omega)
  have e : base 128 = 4160 := by decide
  omega

theorem wF_step (k : Nat) : cmul (wF k) (0, 4607182418800017408) = some (wF (k + 1)) := by
 cases k with
 | zero => decide +kernel
 | succ k =>
  have h : k % 4 = 0 ∨ k % 4 = 1 ∨ k % 4 = 2 ∨ k % 4 = 3 := by omega
  show cmul (if (k + 1) % 4 = 1 then (0, fi 1) else if (k + 1) % 4 = 2 then (fi (-1), 0) else if (k + 1) % 4 = 3 then (9223372036854775808, fi (-1)) else (fi 1, 9223372036854775808)) (0, 4607182418800017408) = some (if (k + 1 + 1) % 4 = 1 then (0, fi 1) else if (k + 1 + 1) % 4 = 2 then (fi (-1), 0) else if (k + 1 + 1) % 4 = 3 then (9223372036854775808, fi (-1)) else (fi 1, 9223372036854775808))
  rcases h with h | h | h | h
  ·rw [if_pos (by omega), if_neg (by omega), if_pos (by omega)]; decide +kernel
  ·rw [if_neg (by omega), if_pos (by omega), if_neg (by omega), if_neg (by omega), if_pos (by omega)]; decide +kernel
  ·rw [if_neg (by omega), if_neg (by omega), if_pos (by omega), if_neg (by omega), if_neg (by omega), if_neg (by omega)]; decide +kernel
  ·rw [if_neg (by omega), if_neg (by omega), if_neg (by omega), if_pos (by omega)]; decide +kernel

theorem wF_four (k : Nat) : wF (k + 1) = wF (k % 4 + 1) := by
 show (if (k + 1) % 4 = 1 then (0, fi 1) else if (k + 1) % 4 = 2 then (fi (-1), 0) else if (k + 1) % 4 = 3 then (9223372036854775808, fi (-1)) else (fi 1, 9223372036854775808)) = (if (k % 4 + 1) % 4 = 1 then (0, fi 1) else if (k % 4 + 1) % 4 = 2 then (fi (-1), 0) else if (k % 4 + 1) % 4 = 3 then (9223372036854775808, fi (-1)) else (fi 1, 9223372036854775808))
 rw [show (k % 4 + 1) % 4 = (k + 1) % 4 by omega]
theorem turn_ok {k r : Nat} (hr : r < 66) : cmul (wF k) (fi (r + 1 : Nat), 0) = some (fi (dX k * (r + 1 : Nat)), fi (dY k * (r + 1 : Nat))) := by
 have := allB_spec turns r hr
 unfold turnOk at this
 simp only [Bool.and_eq_true, decide_eq_true_eq] at this
 obtain ⟨⟨⟨⟨h0, h4⟩, h1⟩, h2⟩, h3⟩ := this
 have z : fi 0 = 0 := by decide +kernel
 cases k with
 | zero =>
  rw [h0, show dX 0 = 1 from rfl, show dY 0 = 0 from rfl, Int.one_mul, Int.zero_mul, z]
 | succ k =>
  rw [wF_four]
  have h : k % 4 = 0 ∨ k % 4 = 1 ∨ k % 4 = 2 ∨ k % 4 = 3 := by omega
  rcases h with h | h | h | h
  ·rw [h, h1, show dX (k + 1) = 0 by unfold dX; rw [if_neg (by omega), if_neg (by omega)], show dY (k + 1) = 1 by unfold dY; rw [if_pos (by omega)], Int.one_mul, Int.zero_mul, z]
  ·rw [h, h2, show dX (k + 1) = -1 by unfold dX; rw [if_neg (by omega), if_pos (by omega)], show dY (k + 1) = 0 by unfold dY; rw [if_neg (by omega), if_neg (by omega)], Int.zero_mul, z, Int.neg_mul, Int.one_mul]
  ·rw [h, h3, show dX (k + 1) = 0 by unfold dX; rw [if_neg (by omega), if_neg (by omega)], show dY (k + 1) = -1 by unfold dY; rw [if_neg (by omega), if_pos (by omega)], Int.zero_mul, z, Int.neg_mul, Int.one_mul]
  ·rw [h, h4, show dX (k + 1) = 1 by unfold dX; rw [if_pos (by omega)], show dY (k + 1) = 0 by unfold dY; rw [if_neg (by omega), if_neg (by omega)], Int.zero_mul, z, Int.one_mul]
theorem sum_ok {q r : Nat} (hq : q < 32) (hr : r ≤ 2 * q + 2) : fadd (fi (-(q : Int))) (fi r) = some (fi (-(q : Int) + r)) ∧ fadd (fi ((q : Int) + 1)) (fi (-(r : Int))) = some (fi ((q : Int) + 1 + -(r : Int))) := by
 have := allB_spec (allB_spec sums q hq) r (by omega)
 unfold sumOk at this
 simpa only [Bool.and_eq_true, decide_eq_true_eq] using this
structure Small (x : Int) : Prop where
  plain : fadd (fi x) 0 = some (fi x)
  whole : floatToIntVal .f64 (fi x) .i64 = some x
  ge : fcmp .geq (fi x) 13920626448202203136 = true
  le : fcmp .leq (fi x) 4697254411347427328 = true
  eq : fcmp .eql (fi x) (fi x) = true
  ne : x ≠ 0 → fcmp .neq (fi x) 0 = true
  sub0 : fsub (fi x) (fi x) = some (fi 0)
  subm : fsub (fi x) (fi (x + 1)) = some (fi (-1))
  subp : fsub (fi x) (fi (x - 1)) = some (fi 1)
theorem small {x : Int} (h0 : -65 ≤ x) (h1 : x ≤ 65) : Small x := by
 have := allB_spec smalls (x + 65).toNat (by omega)
 unfold smallOk at this
 rw [show (((x + 65).toNat : Nat) : Int) - 65 = x by omega] at this
 simp only [Bool.and_eq_true, Bool.or_eq_true, decide_eq_true_eq] at this
 obtain ⟨⟨⟨⟨⟨⟨⟨⟨a, b⟩, c⟩, d⟩, e⟩, f⟩, g⟩, i⟩, j⟩ := this
 exact ⟨a, b, c, d, e, fun h => f.resolve_left h, g, i, j⟩
theorem leg_ok {k r : Nat} (hk : k < 128) (hr : r + 1 ≤ long k) : ∃ m, cmul (wF k) (fi (r + 1 : Nat), 0) = some m ∧ cadd (fi (cX k), fi (cY k)) m = some (fi (pX k (r + 1)), fi (pY k (r + 1))) := by
 unfold long at hr
 refine ⟨_, turn_ok (by omega), ?_⟩
 obtain ⟨s1, s2⟩ := sum_ok (q := k / 4) (r := r + 1) (by omega) (by omega)
 have z : fi 0 = 0 := by decide +kernel
 have pl : ∀ x : Int, -65 ≤ x → x ≤ 65 → fadd (fi x) (fi 0) = some (fi x) := fun x h0 h1 => by rw [z]; exact (small h0 h1).plain
 have h : k % 4 = 0 ∨ k % 4 = 1 ∨ k % 4 = 2 ∨ k % 4 = 3 := by omega
 have t1 : fadd (fi (cX k)) (fi (dX k * (r + 1 : Nat))) = some (fi (pX k (r + 1))) := by
  unfold pX
  rcases h with h | h | h | h
  ·rw [show dX k = 1 by unfold dX; rw [if_pos h], show cX k = -((k / 4 : Nat) : Int) by unfold cX; rw [if_pos h], Int.one_mul]; exact s1
  ·rw [show dX k = 0 by unfold dX; rw [if_neg (by omega), if_neg (by omega)], show cX k = ((k / 4 : Nat) : Int) + 1 by unfold cX; rw [if_neg (by omega), if_neg (by omega)], Int.zero_mul, Int.add_zero]; exact pl _ (by omega) (by omega)
  ·rw [show dX k = -1 by unfold dX; rw [if_neg (by omega), if_pos h], show cX k = ((k / 4 : Nat) : Int) + 1 by unfold cX; rw [if_neg (by omega), if_neg (by omega)], Int.neg_mul, Int.one_mul]; exact s2
  ·rw [show dX k = 0 by unfold dX; rw [if_neg (by omega), if_neg (by omega)], show cX k = -((k / 4 : Nat) : Int) - 1 by unfold cX; rw [if_neg (by omega), if_pos h], Int.zero_mul, Int.add_zero]; exact pl _ (by omega) (by omega)
 have t2 : fadd (fi (cY k)) (fi (dY k * (r + 1 : Nat))) = some (fi (pY k (r + 1))) := by
  unfold pY
  rcases h with h | h | h | h
  ·rw [show dY k = 0 by unfold dY; rw [if_neg (by omega), if_neg (by omega)], show cY k = -((k / 4 : Nat) : Int) by unfold cY; rw [if_pos (.inl h)], Int.zero_mul, Int.add_zero]; exact pl _ (by omega) (by omega)
  ·rw [show dY k = 1 by unfold dY; rw [if_pos h], show cY k = -((k / 4 : Nat) : Int) by unfold cY; rw [if_pos (.inr h)], Int.one_mul]; exact s1
  ·rw [show dY k = 0 by unfold dY; rw [if_neg (by omega), if_neg (by omega)], show cY k = ((k / 4 : Nat) : Int) + 1 by unfold cY; rw [if_neg (by omega)], Int.zero_mul, Int.add_zero]; exact pl _ (by omega) (by omega)
  ·rw [show dY k = -1 by unfold dY; rw [if_neg (by omega), if_pos h], show cY k = ((k / 4 : Nat) : Int) + 1 by unfold cY; rw [if_neg (by omega)], Int.neg_mul, Int.one_mul]; exact s2
 unfold cadd
 simp only [t1, t2, Option.bind_some, Option.map_some]
theorem pX_small {k r : Nat} (hk : k < 128) (hr : r ≤ long k) : -64 ≤ pX k r ∧ pX k r ≤ 64 := by
 unfold pX cX dX
 unfold long at hr
 have h : k % 4 = 0 ∨ k % 4 = 1 ∨ k % 4 = 2 ∨ k % 4 = 3 := by omega
 rcases h with h | h | h | h <;> simp only [h] <;> simp <;> omega
theorem pY_small {k r : Nat} (hk : k < 128) (hr : r ≤ long k) : -64 ≤ pY k r ∧ pY k r ≤ 64 := by
 unfold pY cY dY
 unfold long at hr
 have h : k % 4 = 0 ∨ k % 4 = 1 ∨ k % 4 = 2 ∨ k % 4 = 3 := by omega
 rcases h with h | h | h | h <;> simp only [h] <;> simp <;> omega
end Go.Pl

/- The four spots: walks. -/
namespace Go.Proofs.Ytcfecmoagfgnaaa
open Go.Vc Go.Pl

theorem plain_any {S : List Snap} {H : List Chunk} {w : World} (ho : Own S H w) {x y : Int} (hx : Small x) (hy : Small y) : Calls Try.prog 166 #[cx (fi x, fi y)] w (Ret fun v w' => v = cx (fi x, fi y) ∧ Own S H w') := by
 refine enter (G := Own S H) ho Try.func166 rfl Try.ntmps166 rfl ?_
 refine VC.sr ?_
 refine VL.assign rfl ?_
 refine VL.nn ?_
 refine VC.sr ?_
 refine VL.move rfl ?_
 refine VL.real rfl ?_
 refine VL.farith (op := .add) (by decide) rfl rfl hx.plain ?_
 refine VL.move rfl ?_
 refine VL.imag rfl ?_
 refine VL.farith (op := .add) (by decide) rfl rfl hy.plain ?_
 refine VL.complex rfl rfl ?_
 refine VL.assign rfl ?_
 refine VL.nn ?_
 refine VC.ret ?_
 refine VX.ret1 rfl rfl (fun we hw => ?_)
 exact ⟨rfl, hw⟩

theorem whole_any {S : List Snap} {H : List Chunk} {w : World} (ho : Own S H w) {x y : Int} (hx : Small x) (hy : Small y) : Calls Try.prog 158 #[cx (fi x, fi y)] w (Ret fun v w' => v = .tuple #[cx (fi x, fi y), .bool true] ∧ Own S H w') := by
 refine enter (G := Own S H) ho Try.func158 rfl Try.ntmps158 rfl ?_
 refine VC.sr ?_
 refine VL.assign rfl ?_
 refine VL.assign rfl ?_
 refine VL.nn ?_
 refine VC.sr ?_
 refine VL.move rfl ?_
 refine VL.real rfl ?_
 refine VL.move rfl ?_
 refine VL.imag rfl ?_
 refine VL.assign rfl ?_
 refine VL.assign rfl ?_
 refine VL.nn ?_
 refine VC.seq ?_
 refine VC.sr ?_
 refine VL.move rfl ?_
 refine VL.fcmp (op := .geq) (by decide) rfl rfl hx.ge ?_
 refine VL.move rfl ?_
 refine VL.go rfl rfl rfl ?_
 refine VL.move rfl ?_
 refine VL.go rfl rfl rfl ?_
 refine VL.fcmp (op := .leq) (by decide) rfl rfl hx.le ?_
 refine VL.pick_t rfl rfl ?_
 refine VL.move rfl ?_
 refine VL.go rfl rfl rfl ?_
 refine VL.move rfl ?_
 refine VL.go rfl rfl rfl ?_
 refine VL.fcmp (op := .geq) (by decide) rfl rfl hy.ge ?_
 refine VL.pick_t rfl rfl ?_
 refine VL.move rfl ?_
 refine VL.go rfl rfl rfl ?_
 refine VL.move rfl ?_
 refine VL.go rfl rfl rfl ?_
 refine VL.fcmp (op := .leq) (by decide) rfl rfl hy.le ?_
 refine VL.pick_t rfl rfl ?_
 refine VL.not rfl ?_
 refine VL.nn ?_
 refine VC.no rfl ?_
 refine VC.skip ?_
 refine VX.next ?_
 refine VC.sr ?_
 refine VL.move rfl ?_
 refine VL.ftoi (by rw [Try.underlying233]; rfl) Try.underlying3 rfl hx.whole ?_
 refine VL.move rfl ?_
 refine VL.ftoi (by rw [Try.underlying233]; rfl) Try.underlying3 rfl hy.whole ?_
 refine VL.assign rfl ?_
 refine VL.assign rfl ?_
 refine VL.nn ?_
 refine VC.sr ?_
 refine VL.move rfl ?_
 refine VL.itof (by rw [Try.underlying3]; rfl) Try.underlying233 rfl ?_
 refine VL.move rfl ?_
 refine VL.itof (by rw [Try.underlying3]; rfl) Try.underlying233 rfl ?_
 refine VL.complex rfl rfl ?_
 refine VL.move rfl ?_
 refine VL.itof (by rw [Try.underlying3]; rfl) Try.underlying233 rfl ?_
 refine VL.move rfl ?_
 refine VL.fcmp (op := .eql) (by decide) rfl rfl hx.eq ?_
 refine VL.move rfl ?_
 refine VL.go rfl rfl rfl ?_
 refine VL.move rfl ?_
 refine VL.go rfl rfl rfl ?_
 refine VL.itof (by rw [Try.underlying3]; rfl) Try.underlying233 rfl ?_
 refine VL.go rfl rfl rfl ?_
 refine VL.move rfl ?_
 refine VL.go rfl rfl rfl ?_
 refine VL.fcmp (op := .eql) (by decide) rfl rfl hy.eq ?_
 refine VL.pick_t rfl rfl ?_
 refine VL.assign rfl ?_
 refine VL.assign rfl ?_
 refine VL.nn ?_
 refine VC.ret ?_
 refine VX.ret2 rfl rfl rfl (fun we hw => ?_)
 exact ⟨rfl, hw⟩

theorem z0 : fi 0 = 0 := by decide +kernel
theorem newv {P : Program} {n : Nat} {Q : Exit → Act → World → Prop} {σ : Sl} {G : World → Prop} {ops : Array Oper} {l : List Oper} {d : Nat} {v v' : Value} (e : v = v') (h : VL P n ops Q l ((d, v') :: σ) G) : VL P n ops Q l ((d, v) :: σ) G := e ▸ h
theorem leg_is {k q : Nat} (hk : k < 128) (h1 : 1 ≤ q) (hq : q ≤ long k) : ∃ m, cmul (wF k) (fi q, 0) = some m ∧ cadd (fi (cX k), fi (cY k)) m = some (fi (pX k q), fi (pY k q)) := by
 obtain ⟨r, rfl⟩ : ∃ r, q = r + 1 := ⟨q - 1, by omega⟩
 exact leg_ok hk hq
/-- What is left at leg j; where one is. -/
def remN (k q j : Nat) : Nat := if j ≤ k then base k + q - base j else 0
def atX (k q j : Nat) : Int := if j ≤ k then cX j else pX k q
def atY (k q j : Nat) : Int := if j ≤ k then cY j else pY k q

theorem spot_any {S : List Snap} {H : List Chunk} {w : World} (ho : Own S H w) {k q : Nat} (hk : k < 128) (h1 : 1 ≤ q) (hq : q ≤ long k) (hn : base k + q ≤ 4095) : Calls Try.prog 157 #[.int .i64 ((base k + q : Nat) : Int)] w (Ret fun v w' => v = .tuple #[cx (fi (pX k q), fi (pY k q)), .bool true] ∧ Own S H w') := by
 refine enter (G := Own S H) ho Try.func157 rfl Try.ntmps157 rfl ?_
 refine VC.sr ?_
 refine VL.assign rfl ?_
 refine VL.assign rfl ?_
 refine VL.nn ?_
 refine VC.seq ?_
 refine VC.sr ?_
 refine VL.move rfl ?_
 refine VL.lss rfl rfl ?_
 refine VL.no (by omega) ?_
 refine VL.move rfl ?_
 refine VL.go rfl rfl rfl ?_
 refine VL.move rfl ?_
 refine VL.go rfl rfl rfl ?_
 refine VL.gtr rfl rfl ?_
 refine VL.no (by omega) ?_
 refine VL.pick_f rfl rfl ?_
 refine VL.nn ?_
 refine VC.no rfl ?_
 refine VC.skip ?_
 refine VX.next ?_
 refine VC.sr ?_
 refine VL.assign rfl ?_
 refine VL.assign rfl ?_
 refine VL.nn ?_
 refine VC.seq ?_
 refine VC.sr ?_
 refine VL.assign rfl ?_
 refine VL.nn ?_
 refine VC.block ?_
 refine VC.loop (X := Nat) (fun j => [(0, .int .i64 ((remN k q j : Nat) : Int)), (4, cx (fi (atX k q j), fi (atY k q j))), (5, cx (wF j)), (6, .int .i64 ((j : Nat) : Int))]) (fun j w' => j ≤ k + 1 ∧ Own S H w') (fun j => k + 2 - j) 0 ⟨?_, ?_, rfl, rfl, trivial⟩ (fun w' h => ⟨Nat.zero_le _, h⟩) (fun j => VC.fact fun hi => ?_)
 ·show some _ = some _
  rw [show remN k q 0 = base k + q from if_pos (Nat.zero_le _)]
 ·show some _ = some _
  rw [show atX k q 0 = 0 from if_pos (Nat.zero_le _), show atY k q 0 = 0 from if_pos (Nat.zero_le _), z0]
 ·skip
  refine VC.seq ?_
  refine VC.seq ?_
  rcases (show j < k ∨ j = k ∨ j = k + 1 by omega) with hj | hj | hj
  ·have hb := base_mono (show j ≤ k by omega)
   have hb2 := base_mono (show j + 1 ≤ k by omega)
   have hb3 := base_succ j
   obtain ⟨m, hm1, hm2⟩ := leg_is (k := j) (q := long j) (by omega) (by unfold long; omega) (Nat.le_refl _)
   rw [show remN k q j = base k + q - base j from if_pos (by omega), show atX k q j = cX j from if_pos (by omega), show atY k q j = cY j from if_pos (by omega)]
   refine VC.region ?_
   refine VL.move rfl ?_
   refine VL.gtr rfl rfl ?_
   refine VL.yes (by omega) ?_
   refine VL.nn ?_
   refine VC.yes rfl ?_
   refine VC.skip ?_
   refine VX.next ?_
   refine VC.seq ?_
   refine VC.block ?_
   refine VC.sr ?_
   refine VL.move rfl ?_
   refine VL.quo rfl rfl (by omega) (by omega) (by simp only [InR]; omega) ?_
   refine VL.add rfl rfl (by simp only [InR]; omega) ?_
   refine VL.move rfl ?_
   refine VL.min2 rfl rfl ?_
   refine newv (v' := .int .i64 ((long j : Nat) : Int)) (by congr 1; unfold long at *; omega) ?_
   refine VL.assign rfl ?_
   refine VL.nn ?_
   refine VC.sr ?_
   refine VL.move rfl ?_
   refine VL.move rfl ?_
   refine VL.move rfl ?_
   refine VL.itof (by rw [Try.underlying3]; rfl) Try.underlying233 rfl ?_
   refine VL.complex rfl rfl ?_
   refine VL.cmul rfl rfl hm1 ?_
   refine VL.cadd rfl rfl hm2 ?_
   refine VL.assign rfl ?_
   refine VL.nn ?_
   refine VC.sr ?_
   refine VL.move rfl ?_
   refine VL.move rfl ?_
   refine VL.sub rfl rfl (by simp only [InR]; omega) ?_
   refine VL.assign rfl ?_
   refine VL.nn ?_
   refine VC.region ?_
   refine VL.move rfl ?_
   refine VL.cmul (b := (0, 4607182418800017408)) rfl rfl (wF_step j) ?_
   refine VL.assign rfl ?_
   refine VL.nil ?_
   refine VX.block_normal ?_
   refine VX.next ?_
   refine VC.region ?_
   refine VL.move rfl ?_
   refine VL.add rfl rfl (by simp only [InR]; omega) ?_
   refine VL.assign rfl ?_
   refine VL.nil ?_
   refine VX.round (j + 1) ⟨?_, ?_, rfl, rfl, trivial⟩ (fun w' h => ⟨by omega, h⟩) (by omega)
   ·show some _ = some _
    rw [show remN k q (j + 1) = base k + q - base (j + 1) from if_pos (by omega)]
    congr 2
    omega
   ·show some _ = some _
    rw [show atX k q (j + 1) = cX (j + 1) from if_pos (by omega), show atY k q (j + 1) = cY (j + 1) from if_pos (by omega), cX_succ, cY_succ]
  ·subst hj
   obtain ⟨m, hm1, hm2⟩ := leg_is (k := j) (q := q) (by omega) h1 hq
   rw [show remN j q j = base j + q - base j from if_pos (Nat.le_refl _), show atX j q j = cX j from if_pos (Nat.le_refl _), show atY j q j = cY j from if_pos (Nat.le_refl _)]
   refine VC.region ?_
   refine VL.move rfl ?_
   refine VL.gtr rfl rfl ?_
   refine VL.yes (by omega) ?_
   refine VL.nn ?_
   refine VC.yes rfl ?_
   refine VC.skip ?_
   refine VX.next ?_
   refine VC.seq ?_
   refine VC.block ?_
   refine VC.sr ?_
   refine VL.move rfl ?_
   refine VL.quo rfl rfl (by omega) (by omega) (by simp only [InR]; omega) ?_
   refine VL.add rfl rfl (by simp only [InR]; omega) ?_
   refine VL.move rfl ?_
   refine VL.min2 rfl rfl ?_
   refine newv (v' := .int .i64 ((q : Nat) : Int)) (by congr 1; unfold long at *; omega) ?_
   refine VL.assign rfl ?_
   refine VL.nn ?_
   refine VC.sr ?_
   refine VL.move rfl ?_
   refine VL.move rfl ?_
   refine VL.move rfl ?_
   refine VL.itof (by rw [Try.underlying3]; rfl) Try.underlying233 rfl ?_
   refine VL.complex rfl rfl ?_
   refine VL.cmul rfl rfl hm1 ?_
   refine VL.cadd rfl rfl hm2 ?_
   refine VL.assign rfl ?_
   refine VL.nn ?_
   refine VC.sr ?_
   refine VL.move rfl ?_
   refine VL.move rfl ?_
   refine VL.sub rfl rfl (by simp only [InR]; omega) ?_
   refine VL.assign rfl ?_
   refine VL.nn ?_
   refine VC.region ?_
   refine VL.move rfl ?_
   refine VL.cmul (b := (0, 4607182418800017408)) rfl rfl (wF_step j) ?_
   refine VL.assign rfl ?_
   refine VL.nil ?_
   refine VX.block_normal ?_
   refine VX.next ?_
   refine VC.region ?_
   refine VL.move rfl ?_
   refine VL.add rfl rfl (by simp only [InR]; omega) ?_
   refine VL.assign rfl ?_
   refine VL.nil ?_
   refine VX.round (j + 1) ⟨?_, ?_, rfl, rfl, trivial⟩ (fun w' h => ⟨by omega, h⟩) (by omega)
   ·show some _ = some _
    rw [show remN j q (j + 1) = 0 from if_neg (by omega)]
    congr 2
    omega
   ·show some _ = some _
    rw [show atX j q (j + 1) = pX j q from if_neg (by omega), show atY j q (j + 1) = pY j q from if_neg (by omega)]
  ·subst hj
   rw [show remN k q (k + 1) = 0 from if_neg (by omega), show atX k q (k + 1) = pX k q from if_neg (by omega), show atY k q (k + 1) = pY k q from if_neg (by omega)]
   refine VC.region ?_
   refine VL.move rfl ?_
   refine VL.gtr rfl rfl ?_
   refine VL.no (by omega) ?_
   refine VL.nn ?_
   refine VC.no rfl ?_
   refine VC.exit ?_
   refine VX.then_exit ?_
   refine VX.then_exit ?_
   refine VX.block_here ?_
   refine VX.next ?_
   refine VC.sr ?_
   refine VL.move rfl ?_
   refine VL.call Try.func166 rfl (by decide) rfl (fun w' hw => plain_any hw (small (by have := pX_small hk hq; omega) (by have := pX_small hk hq; omega)) (small (by have := pY_small hk hq; omega) (by have := pY_small hk hq; omega))) (fun v => ?_)
   refine VL.fact fun ev => ?_
   subst ev
   refine VL.assign rfl ?_
   refine VL.assign rfl ?_
   refine VL.nn ?_
   refine VC.ret ?_
   refine VX.ret2 rfl rfl rfl (fun we hw => ?_)
   exact ⟨rfl, hw⟩

theorem spot_zero {S : List Snap} {H : List Chunk} {w : World} (ho : Own S H w)  : Calls Try.prog 157 #[.int .i64 0] w (Ret fun v w' => v = .tuple #[cx (fi 0, fi 0), .bool true] ∧ Own S H w') := by
 refine enter (G := Own S H) ho Try.func157 rfl Try.ntmps157 rfl ?_
 refine VC.sr ?_
 refine VL.assign rfl ?_
 refine VL.assign rfl ?_
 refine VL.nn ?_
 refine VC.seq ?_
 refine VC.sr ?_
 refine VL.move rfl ?_
 refine VL.lss rfl rfl ?_
 refine VL.no (by omega) ?_
 refine VL.move rfl ?_
 refine VL.go rfl rfl rfl ?_
 refine VL.move rfl ?_
 refine VL.go rfl rfl rfl ?_
 refine VL.gtr rfl rfl ?_
 refine VL.no (by omega) ?_
 refine VL.pick_f rfl rfl ?_
 refine VL.nn ?_
 refine VC.no rfl ?_
 refine VC.skip ?_
 refine VX.next ?_
 refine VC.sr ?_
 refine VL.assign rfl ?_
 refine VL.assign rfl ?_
 refine VL.nn ?_
 refine VC.seq ?_
 refine VC.sr ?_
 refine VL.assign rfl ?_
 refine VL.nn ?_
 refine VC.block ?_
 refine VC.loop (X := Unit) (fun j => [(0, .int .i64 0), (4, cx (fi 0, fi 0))]) (fun j w' => Own S H w') (fun j => 0) () ⟨rfl, by show some _ = some _; rw [z0], trivial⟩ (fun w' h => h) (fun j => ?_)
 ·skip
  refine VC.seq ?_
  refine VC.sr ?_
  refine VL.move rfl ?_
  refine VL.gtr rfl rfl ?_
  refine VL.no (by omega) ?_
  refine VL.nn ?_
  refine VC.no rfl ?_
  refine VC.exit ?_
  refine VX.then_exit ?_
  refine VX.then_exit ?_
  refine VX.block_here ?_
  refine VX.next ?_
  refine VC.sr ?_
  refine VL.move rfl ?_
  refine VL.call Try.func166 rfl (by decide) rfl (fun w' hw => plain_any hw (small (by omega) (by omega)) (small (by omega) (by omega))) (fun v => ?_)
  refine VL.fact fun ev => ?_
  subst ev
  refine VL.assign rfl ?_
  refine VL.assign rfl ?_
  refine VL.nn ?_
  refine VC.ret ?_
  refine VX.ret2 rfl rfl rfl (fun we hw => ?_)
  exact ⟨rfl, hw⟩

/-- The four spots. -/
def spX : Nat → Int
  | 1 => 1
  | 2 => 1
  | _ => 0
def spY : Nat → Int
  | 2 => 1
  | 3 => 1
  | _ => 0
abbrev spotV (k : Nat) : Value := cx (fi (spX k), fi (spY k))
theorem spX_small (k : Nat) : Small (spX k) := by unfold spX; split <;> exact small (by decide) (by decide)
theorem spY_small (k : Nat) : Small (spY k) := by unfold spY; split <;> exact small (by decide) (by decide)

theorem spot4 {S : List Snap} {H : List Chunk} {w : World} (ho : Own S H w) (k : Nat) (hk : k < 4) : Calls Try.prog 157 #[.int .i64 (k : Int)] w (Ret fun v w' => v = .tuple #[spotV k, .bool true] ∧ Own S H w') := by
 rcases (show k = 0 ∨ k = 1 ∨ k = 2 ∨ k = 3 by omega) with rfl | rfl | rfl | rfl
 ·exact spot_zero ho
 ·exact spot_any ho (k := 0) (q := 1) (by decide) (by decide) (by decide) (by decide)
 ·exact spot_any ho (k := 1) (q := 1) (by decide) (by decide) (by decide) (by decide)
 ·exact spot_any ho (k := 2) (q := 1) (by decide) (by decide) (by decide) (by decide)
/-- How far two of the spots lie from each other. -/
def farN (i j : Nat) : Nat := if i = j then 0 else 1
theorem spot_sub {i j : Nat} (hi : i < 4) (hj : j < 4) : csub (fi (spX i), fi (spY i)) (fi (spX j), fi (spY j)) = some (fi (spX i - spX j), fi (spY i - spY j)) := by
 have h : allB 4 (fun i => allB 4 (fun j => decide (csub (fi (spX i), fi (spY i)) (fi (spX j), fi (spY j)) = some (fi (spX i - spX j), fi (spY i - spY j))))) = true := by decide +kernel
 exact of_decide_eq_true (allB_spec (allB_spec h i hi) j hj)
theorem spot_far {i j : Nat} (hi : i < 4) (hj : j < 4) : max (max (max (spX i - spX j) (0 - (spX i - spX j))) (spY i - spY j)) (0 - (spY i - spY j)) = (farN i j : Nat) := by
 have h : allB 4 (fun i => allB 4 (fun j => decide (max (max (max (spX i - spX j) (0 - (spX i - spX j))) (spY i - spY j)) (0 - (spY i - spY j)) = (farN i j : Nat)))) = true := by decide +kernel
 exact of_decide_eq_true (allB_spec (allB_spec h i hi) j hj)
theorem spot_in (k : Nat) : (0 ≤ spX k ∧ spX k ≤ 1) ∧ 0 ≤ spY k ∧ spY k ≤ 1 := by unfold spX spY; refine ⟨?_, ?_⟩ <;> split <;> decide

theorem far_w {S : List Snap} {H : List Chunk} {w : World} (ho : Own S H w) {i j : Nat} (hi : i < 4) (hj : j < 4) : Calls Try.prog 113 #[spotV i, spotV j] w (Ret fun v w' => v = .tuple #[.int .i64 ((farN i j : Nat) : Int), .bool true] ∧ Own S H w') := by
 have h1 := spot_in i
 have h2 := spot_in j
 have hu : Small (spX i - spX j) := small (by omega) (by omega)
 have hv : Small (spY i - spY j) := small (by omega) (by omega)
 refine enter (G := Own S H) ho Try.func113 rfl Try.ntmps113 rfl ?_
 refine VC.sr ?_
 refine VL.assign rfl ?_
 refine VL.assign rfl ?_
 refine VL.nn ?_
 refine VC.sr ?_
 refine VL.move rfl ?_
 refine VL.call Try.func158 rfl (by decide) rfl (fun w' hw => whole_any hw (spX_small i) (spY_small i)) (fun v => ?_)
 refine VL.fact fun ev1 => ?_
 subst ev1
 refine VL.move rfl ?_
 refine VL.extract rfl rfl ?_
 refine VL.extract rfl rfl ?_
 refine VL.assign rfl ?_
 refine VL.assign rfl ?_
 refine VL.nn ?_
 refine VC.sr ?_
 refine VL.move rfl ?_
 refine VL.call Try.func158 rfl (by decide) rfl (fun w' hw => whole_any hw (spX_small j) (spY_small j)) (fun v => ?_)
 refine VL.fact fun ev2 => ?_
 subst ev2
 refine VL.move rfl ?_
 refine VL.extract rfl rfl ?_
 refine VL.extract rfl rfl ?_
 refine VL.assign rfl ?_
 refine VL.assign rfl ?_
 refine VL.nn ?_
 refine VC.seq ?_
 refine VC.sr ?_
 refine VL.move rfl ?_
 refine VL.not rfl ?_
 refine VL.move rfl ?_
 refine VL.go rfl rfl rfl ?_
 refine VL.move rfl ?_
 refine VL.go rfl rfl rfl ?_
 refine VL.not rfl ?_
 refine VL.pick_f rfl rfl ?_
 refine VL.nn ?_
 refine VC.no rfl ?_
 refine VC.skip ?_
 refine VX.next ?_
 refine VC.sr ?_
 refine VL.move rfl ?_
 refine VL.move rfl ?_
 refine VL.csub rfl rfl (spot_sub hi hj) ?_
 refine VL.assign rfl ?_
 refine VL.nn ?_
 refine VC.sr ?_
 refine VL.move rfl ?_
 refine VL.real rfl ?_
 refine VL.ftoi (by rw [Try.underlying233]; rfl) Try.underlying3 rfl hu.whole ?_
 refine VL.move rfl ?_
 refine VL.imag rfl ?_
 refine VL.ftoi (by rw [Try.underlying233]; rfl) Try.underlying3 rfl hv.whole ?_
 refine VL.assign rfl ?_
 refine VL.assign rfl ?_
 refine VL.nn ?_
 refine VC.sr ?_
 refine VL.move rfl ?_
 refine VL.move rfl ?_
 refine VL.neg rfl (by simp only [InR]; omega) ?_
 refine VL.move rfl ?_
 refine VL.move rfl ?_
 refine VL.neg rfl (by simp only [InR]; omega) ?_
 refine VL.max4 rfl rfl rfl rfl ?_
 rw [spot_far hi hj]
 refine VL.assign rfl ?_
 refine VL.assign rfl ?_
 refine VL.nn ?_
 refine VC.ret ?_
 refine VX.ret2 rfl rfl rfl (fun we hw => ?_)
 exact ⟨rfl, hw⟩

/-- A server's number, off a device's. -/
def servN (a : Nat) : Nat := if 16 ≤ a then (a - 16) / 4 else a

theorem bagspot_w {S : List Snap} {H : List Chunk} {w : World} (ho : Own S H w) (a : Nat) (ha : a < 256) : Calls Try.prog 112 #[.int .u8 (a : Int)] w (Ret fun v w' => v = .tuple #[if servN a < 4 then spotV (servN a) else cx (0, 0), .bool (decide (servN a < 4))] ∧ Own S H w') := by
 refine enter (G := Own S H) ho Try.func112 rfl Try.ntmps112 rfl ?_
 refine VC.sr ?_
 refine VL.assign rfl ?_
 refine VL.assign rfl ?_
 refine VL.nn ?_
 refine VC.sr ?_
 refine VL.move rfl ?_
 refine VL.conv (by rw [Try.underlying5]; rfl) Try.underlying3 rfl (by simp only [InR]; omega) ?_
 refine VL.assign rfl ?_
 refine VL.nn ?_
 refine VC.seq ?_
 refine VC.sr ?_
 refine VL.move rfl ?_
 refine VL.geq rfl rfl ?_
 refine VL.case (fun h2 => ?_) (fun h2 => ?_)
 ·have e1 : servN a = (a - 16) / 4 := if_pos (by omega)
  refine VL.nn ?_
  refine VC.yes rfl ?_
  refine VC.region ?_
  refine VL.move rfl ?_
  refine VL.sub rfl rfl (by simp only [InR]; omega) ?_
  refine VL.conv (by rw [Try.underlying5]; rfl) Try.underlying3 rfl (by simp only [InR]; omega) ?_
  refine VL.quo rfl rfl (by omega) (by omega) (by simp only [InR]; omega) ?_
  refine newv (v' := .int .i64 (servN a : Nat)) (congrArg (Value.int .i64) (by rw [e1]; omega)) ?_
  refine VL.assign rfl ?_
  refine VL.nn ?_
  refine VC.seq ?_
  refine VC.sr ?_
  refine VL.move rfl ?_
  refine VL.geq rfl rfl ?_
  refine VL.case (fun h4 => ?_) (fun h4 => ?_)
  ·have h5 : ¬ servN a < 4 := by omega
   refine VL.nn ?_
   refine VC.yes rfl ?_
   refine VC.sr ?_
   refine VL.assign rfl ?_
   refine VL.assign rfl ?_
   refine VL.nn ?_
   refine VC.ret ?_
   refine VX.then_ret ?_
   refine VX.ret2 rfl rfl rfl (fun we hw => ?_)
   exact ⟨by rw [if_neg h5, decide_eq_false h5], hw⟩
  ·have h5 : servN a < 4 := by omega
   refine VL.nn ?_
   refine VC.no rfl ?_
   refine VC.skip ?_
   refine VX.next ?_
   refine VC.sr ?_
   refine VL.move rfl ?_
   refine VL.call Try.func157 rfl (by decide) rfl (fun w' hw => spot4 hw (servN a) h5) (fun v => ?_)
   refine VL.fact fun ev => ?_
   subst ev
   refine VL.extract rfl rfl ?_
   refine VL.extract rfl rfl ?_
   refine VL.assign rfl ?_
   refine VL.assign rfl ?_
   refine VL.nn ?_
   refine VC.ret ?_
   refine VX.ret2 rfl rfl rfl (fun we hw => ?_)
   exact ⟨by rw [if_pos h5, decide_eq_true h5]; rfl, hw⟩
 ·have e1 : servN a = a := if_neg (by omega)
  refine VL.nn ?_
  refine VC.no rfl ?_
  refine VC.skip ?_
  refine VX.next ?_
  refine VC.seq ?_
  refine VC.sr ?_
  refine VL.move rfl ?_
  refine VL.geq rfl rfl ?_
  refine VL.case (fun h4 => ?_) (fun h4 => ?_)
  ·have h5 : ¬ servN a < 4 := by omega
   refine VL.nn ?_
   refine VC.yes rfl ?_
   refine VC.sr ?_
   refine VL.assign rfl ?_
   refine VL.assign rfl ?_
   refine VL.nn ?_
   refine VC.ret ?_
   refine VX.then_ret ?_
   refine VX.ret2 rfl rfl rfl (fun we hw => ?_)
   exact ⟨by rw [if_neg h5, decide_eq_false h5], hw⟩
  ·have h5 : servN a < 4 := by omega
   refine VL.nn ?_
   refine VC.no rfl ?_
   refine VC.skip ?_
   refine VX.next ?_
   refine VC.sr ?_
   refine VL.move rfl ?_
   refine VL.call Try.func157 rfl (by decide) rfl (fun w' hw => (e1 ▸ spot4 hw (servN a) h5 : Calls Try.prog 157 #[.int .i64 (a : Int)] w' _)) (fun v => ?_)
   refine VL.fact fun ev => ?_
   subst ev
   refine VL.extract rfl rfl ?_
   refine VL.extract rfl rfl ?_
   refine VL.assign rfl ?_
   refine VL.assign rfl ?_
   refine VL.nn ?_
   refine VC.ret ?_
   refine VX.ret2 rfl rfl rfl (fun we hw => ?_)
   exact ⟨by rw [if_pos h5, decide_eq_true h5]; simp only [e1]; rfl, hw⟩

end Go.Proofs.Ytcfecmoagfgnaaa

/- bag: double, the reference for a server. -/
namespace Go.Proofs.Ytcfecmoagfgnaaa
open Go.Vc Go.Pl

theorem server_y {S : List Snap} {H : List Chunk} {w : World} (ho : Own S H w) (a : Nat) (ha : a < 256) (h4 : servN a < 4) : Calls Try.prog 48 #[.int .u8 (a : Int)] w (Ret fun v w' => v = .tuple #[.int .i64 (servN a : Nat), .bool true] ∧ Own S H w') := by
 refine enter (G := Own (⟨w, keys H⟩ :: S) H) ho.keep Try.func48 rfl Try.ntmps48 rfl ?_
 refine VC.sr ?_
 refine VL.assign rfl ?_
 refine VL.assign rfl ?_
 refine VL.nn ?_
 refine VC.sr ?_
 refine VL.move rfl ?_
 refine VL.conv (by rw [Try.underlying5]; rfl) Try.underlying3 rfl (by simp only [InR]; omega) ?_
 refine VL.assign rfl ?_
 refine VL.nn ?_
 refine VC.seq ?_
 refine VC.sr ?_
 refine VL.move rfl ?_
 refine VL.gtr rfl rfl ?_
 refine VL.case (fun h2 => ?_) (fun h2 => ?_)
 ·have e1 : servN a = (a - 16) / 4 := if_pos (by omega)
  refine VL.nn ?_
  refine VC.yes rfl ?_
  refine VC.region ?_
  refine VL.move rfl ?_
  refine VL.sub rfl rfl (by simp only [InR]; omega) ?_
  refine VL.quo rfl rfl (by omega) (by omega) (by simp only [InR]; omega) ?_
  refine VL.newv (v' := .int .i64 (servN a : Nat)) (congrArg (Value.int .i64) (by rw [e1]; omega)) ?_
  refine VL.assign rfl ?_
  refine VL.nn ?_
  refine VC.sr ?_
  refine VL.move rfl ?_
  refine VL.move rfl ?_
  refine VL.lss rfl rfl ?_
  refine VL.yes (by omega) ?_
  refine VL.assign rfl ?_
  refine VL.assign rfl ?_
  refine VL.nn ?_
  refine VC.ret ?_
  refine VX.ret2 rfl rfl rfl (fun we hw => ?_)
  exact ⟨rfl, hw.subA⟩
 ·have e1 : servN a = a := if_neg (by omega)
  refine VL.nn ?_
  refine VC.no rfl ?_
  refine VC.skip ?_
  refine VX.next ?_
  refine VC.sr ?_
  refine VL.move rfl ?_
  refine VL.move rfl ?_
  refine VL.lss rfl rfl ?_
  refine VL.yes (by omega) ?_
  refine VL.assign rfl ?_
  refine VL.assign rfl ?_
  refine VL.nn ?_
  refine VC.ret ?_
  refine VX.ret2 rfl rfl rfl (fun we hw => ?_)
  exact ⟨by rw [e1], hw.subA⟩

theorem server_n {S : List Snap} {H : List Chunk} {w : World} (ho : Own S H w) (a : Nat) (ha : a < 256) (h4 : ¬ servN a < 4) : Calls Try.prog 48 #[.int .u8 (a : Int)] w (Ret fun v w' => v = .tuple #[.int .i64 (servN a : Nat), .bool false] ∧ Own S H w') := by
 refine enter (G := Own (⟨w, keys H⟩ :: S) H) ho.keep Try.func48 rfl Try.ntmps48 rfl ?_
 refine VC.sr ?_
 refine VL.assign rfl ?_
 refine VL.assign rfl ?_
 refine VL.nn ?_
 refine VC.sr ?_
 refine VL.move rfl ?_
 refine VL.conv (by rw [Try.underlying5]; rfl) Try.underlying3 rfl (by simp only [InR]; omega) ?_
 refine VL.assign rfl ?_
 refine VL.nn ?_
 refine VC.seq ?_
 refine VC.sr ?_
 refine VL.move rfl ?_
 refine VL.gtr rfl rfl ?_
 refine VL.case (fun h2 => ?_) (fun h2 => ?_)
 ·have e1 : servN a = (a - 16) / 4 := if_pos (by omega)
  refine VL.nn ?_
  refine VC.yes rfl ?_
  refine VC.region ?_
  refine VL.move rfl ?_
  refine VL.sub rfl rfl (by simp only [InR]; omega) ?_
  refine VL.quo rfl rfl (by omega) (by omega) (by simp only [InR]; omega) ?_
  refine VL.newv (v' := .int .i64 (servN a : Nat)) (congrArg (Value.int .i64) (by rw [e1]; omega)) ?_
  refine VL.assign rfl ?_
  refine VL.nn ?_
  refine VC.sr ?_
  refine VL.move rfl ?_
  refine VL.move rfl ?_
  refine VL.lss rfl rfl ?_
  refine VL.no (by omega) ?_
  refine VL.assign rfl ?_
  refine VL.assign rfl ?_
  refine VL.nn ?_
  refine VC.ret ?_
  refine VX.ret2 rfl rfl rfl (fun we hw => ?_)
  exact ⟨rfl, hw.subA⟩
 ·have e1 : servN a = a := if_neg (by omega)
  refine VL.nn ?_
  refine VC.no rfl ?_
  refine VC.skip ?_
  refine VX.next ?_
  refine VC.sr ?_
  refine VL.move rfl ?_
  refine VL.move rfl ?_
  refine VL.lss rfl rfl ?_
  refine VL.no (by omega) ?_
  refine VL.assign rfl ?_
  refine VL.assign rfl ?_
  refine VL.nn ?_
  refine VC.ret ?_
  refine VX.ret2 rfl rfl rfl (fun we hw => ?_)
  exact ⟨by rw [e1], hw.subA⟩

theorem double_yes {S : List Snap} {H : List Chunk} {w : World} (ho : Own S H w) {xs : List Par} {p : Option Addr} {c : Nat} (hX : Arr 4 parR (keys H) w p xs c) (hl : xs.length ≤ 1000) (i : Nat) (hi : i < xs.length) (h6 : xs.length < 64) (hb : (xs[i]'hi).bytes.length ≤ 140737488351232) : Calls Try.prog 46 #[.slice p xs.length c, .int .i64 (i : Int)] w (Ret fun v w' => ∃ q d, v = .tuple #[.slice q (xs ++ [(xs[i]'hi)]).length d, .bool true] ∧ Own S H w' ∧ Arr 4 parR (keys H) w' q (xs ++ [(xs[i]'hi)]) d) := by
 refine enter (G := Own (⟨w, keys H⟩ :: S) H) ho.keep Try.func46 rfl Try.ntmps46 rfl ?_
 refine VC.sr ?_
 refine VL.assign rfl ?_
 refine VL.assign rfl ?_
 refine VL.nn ?_
 refine VC.sr ?_
 refine VL.move rfl ?_
 refine VL.call Try.func110 rfl (by decide) rfl (fun w' hw => clone_p hw (hX.nowA (s := ⟨w, _⟩) Mono_par hw) (by omega)) (fun v => ?_)
 refine VL.at (fun w3 h1w => ?_)
 obtain ⟨gv1, cv2, rfl, hO4⟩ := h1w
 refine VL.toOwn hO4 ?_
 refine VL.assign rfl ?_
 refine VL.nn ?_
 refine VC.seq ?_
 refine VC.sr ?_
 refine VL.move rfl ?_
 refine VL.lss rfl rfl ?_
 refine VL.no (by omega) ?_
 refine VL.move rfl ?_
 refine VL.go rfl rfl rfl ?_
 refine VL.move rfl ?_
 refine VL.go rfl rfl rfl ?_
 refine VL.move rfl ?_
 refine VL.go rfl rfl rfl ?_
 refine VL.len Try.underlying47 rfl rfl ?_
 refine VL.go rfl rfl rfl ?_
 refine VL.geq rfl rfl ?_
 refine VL.no (by omega) ?_
 refine VL.pick_f rfl rfl ?_
 refine VL.move rfl ?_
 refine VL.go rfl rfl rfl ?_
 refine VL.move rfl ?_
 refine VL.go rfl rfl rfl ?_
 refine VL.len Try.underlying47 rfl rfl ?_
 refine VL.go rfl rfl rfl ?_
 refine VL.geq rfl rfl ?_
 refine VL.no (by omega) ?_
 refine VL.pick_f rfl rfl ?_
 refine VL.nn ?_
 refine VC.no rfl ?_
 refine VC.skip ?_
 refine VX.next ?_
 refine VC.seq ?_
 refine someArow 0 rfl (by omega) (fun g7 e7 => ?_)
 subst e7
 refine VC.region ?_
 refine VL.move rfl ?_
 refine VL.move rfl ?_
 refine VL.indexRow (k := .i64) (j := (i : Int)) (ys := xs) 0 rfl rfl Try.underlying47 sz47 (fun _ h => h) rfl (by omega) (by omega) ?_
 refine VL.elemsRow (j := i) (y := (xs[i]'hi)) 0 rfl kd50 (fun _ h => h) rfl (List.getElem?_eq_getElem hi) (by simp) (fun w5 vs hl5 hr5 => ?_)
 obtain ⟨p5, c5, hy, rfl, hA5⟩ := hr5
 refine VL.alloc (L := parL) (ps := (parV (par0) none 0)) zero50 rfl rfl (fun g5 => ?_)
 refine VL.store (L := parL) (qs := (parV ((xs[i]'hi)) p5 c5)) (ps' := (parV ((xs[i]'hi)) p5 c5)) 0 0 4 rfl rfl rfl (.inl kd50) rfl rfl (parV_len hy) (parV_ok1 ((xs[i]'hi)) p5 c5) rfl rfl ?_
 refine VL.set0 ?_
 refine VL.nn ?_
 refine VC.sr ?_
 refine VL.fieldAddr rfl fo50_3 rfl ?_
 refine VL.load (v := .slice p5 ((xs[i]'hi).bytes).length c5) 0 3 rfl kd24 (fun _ h => h) rfl rfl rfl ?_
 refine VL.call Try.func109 rfl (by decide) rfl (fun w' hw => cloneB hw (hA5.nowA (s := ⟨w5, _⟩) Mono.byte hw) hb) (fun v => ?_)
 refine VL.at (fun w6 h1w => ?_)
 obtain ⟨p7, c8, rfl, hO10, hA9⟩ := h1w
 refine VL.toOwn hO10 ?_
 refine VL.fieldAddr rfl fo50_3 rfl ?_
 refine VL.store (L := parL) (qs := [[.slice p7 ((xs[i]'hi).bytes).length c8]]) (ps' := [[.int .u8 ((xs[i]'hi).src)], [.int .u8 ((xs[i]'hi).dst)], [.int .u32 ((xs[i]'hi).due)], [.slice p7 ((xs[i]'hi).bytes).length c8]]) 0 3 1 rfl rfl rfl (.inr ⟨kd24, rfl⟩) rfl rfl rfl (by intro u hu; simp [cat] at hu; subst hu; rfl) rfl rfl ?_
 refine VL.set0 ?_
 refine VL.nn ?_
 refine VC.sr ?_
 refine VL.move rfl ?_
 refine VL.loads (cs := cat (parV ((xs[i]'hi)) p7 c8)) 0 0 4 rfl kd50 (fun _ h => h) rfl rfl rfl rfl ?_
 refine VL.lit el47 rfl rfl rfl (by intro v hv; simp only [List.mem_singleton] at hv; subst hv; rfl) (by rw [show [Value.agg (cat (parV (xs[i]'hi) p7 c8)).toArray].flatMap (·.cells.toList) = (cat (parV (xs[i]'hi) p7 c8)) by simp [Value.cells]]; exact parV_ok1 _ _ _) (fun gl => ?_)
 refine VL.letRow parR [(xs[i]'hi)] rfl (fun w' hw => one_par hy (hA9.nowA (s := ⟨w6, _⟩) Mono.byte hw)) (fun wl hOl hAl => ?_)
 refine VL.appends (R := parR) (hR := Mono_par) (ys := xs) (zs := [(xs[i]'hi)]) 1 el47 rfl rfl rfl (fun _ h => h) rfl (fun _ hw => hAl.nowA (s := ⟨wl, _⟩) Mono_par hw) parR_ok1 (by simp only [List.length_cons, List.length_nil]; omega) (fun gv2 cv2 => ?_) (by simp only [List.length_cons, List.length_nil]; omega)
 refine VL.set1 ?_
 refine VL.assign rfl ?_
 refine VL.assign rfl ?_
 refine VL.nn ?_
 refine VC.ret ?_
 refine VX.ret2 rfl rfl rfl (fun we hw => ?_)
 have h7 := (ownDropK 0 hw)
 exact ⟨_, _, rfl, h7.drop.subA, h7.letArr⟩

theorem double_neg {S : List Snap} {H : List Chunk} {w : World} (ho : Own S H w) {xs : List Par} {p : Option Addr} {c : Nat} (hX : Arr 4 parR (keys H) w p xs c) (hl : xs.length ≤ 1000) (i : Int) (hi : i < 0) : Calls Try.prog 46 #[.slice p xs.length c, .int .i64 (i : Int)] w (Ret fun v w' => ∃ q d, v = .tuple #[.slice q xs.length d, .bool false] ∧ Own S H w' ∧ Arr 4 parR (keys H) w' q xs d) := by
 refine enter (G := Own (⟨w, keys H⟩ :: S) H) ho.keep Try.func46 rfl Try.ntmps46 rfl ?_
 refine VC.sr ?_
 refine VL.assign rfl ?_
 refine VL.assign rfl ?_
 refine VL.nn ?_
 refine VC.sr ?_
 refine VL.move rfl ?_
 refine VL.call Try.func110 rfl (by decide) rfl (fun w' hw => clone_p hw (hX.nowA (s := ⟨w, _⟩) Mono_par hw) (by omega)) (fun v => ?_)
 refine VL.at (fun w3 h1w => ?_)
 obtain ⟨gv1, cv2, rfl, hO4⟩ := h1w
 refine VL.toOwn hO4 ?_
 refine VL.assign rfl ?_
 refine VL.nn ?_
 refine VC.seq ?_
 refine VC.sr ?_
 refine VL.move rfl ?_
 refine VL.lss rfl rfl ?_
 refine VL.yes (by omega) ?_
 refine VL.move rfl ?_
 refine VL.pass rfl rfl rfl rfl rfl ?_
 refine VL.pass rfl rfl rfl rfl rfl ?_
 refine VL.pass rfl rfl rfl rfl rfl ?_
 refine VL.pass rfl rfl rfl rfl rfl ?_
 refine VL.pick_t rfl rfl ?_
 refine VL.move rfl ?_
 refine VL.pass rfl rfl rfl rfl rfl ?_
 refine VL.pass rfl rfl rfl rfl rfl ?_
 refine VL.pass rfl rfl rfl rfl rfl ?_
 refine VL.pick_t rfl rfl ?_
 refine VL.nn ?_
 refine VC.yes rfl ?_
 refine VC.sr ?_
 refine VL.move rfl ?_
 refine VL.assign rfl ?_
 refine VL.assign rfl ?_
 refine VL.nn ?_
 refine VC.ret ?_
 refine VX.then_ret ?_
 refine VX.ret2 rfl rfl rfl (fun we hw => ?_)
 have h7 := hw
 exact ⟨_, _, rfl, h7.drop.subA, h7.letArr⟩

theorem double_big {S : List Snap} {H : List Chunk} {w : World} (ho : Own S H w) {xs : List Par} {p : Option Addr} {c : Nat} (hX : Arr 4 parR (keys H) w p xs c) (hl : xs.length ≤ 1000) (i : Nat) (hi : xs.length ≤ i) : Calls Try.prog 46 #[.slice p xs.length c, .int .i64 (i : Int)] w (Ret fun v w' => ∃ q d, v = .tuple #[.slice q xs.length d, .bool false] ∧ Own S H w' ∧ Arr 4 parR (keys H) w' q xs d) := by
 refine enter (G := Own (⟨w, keys H⟩ :: S) H) ho.keep Try.func46 rfl Try.ntmps46 rfl ?_
 refine VC.sr ?_
 refine VL.assign rfl ?_
 refine VL.assign rfl ?_
 refine VL.nn ?_
 refine VC.sr ?_
 refine VL.move rfl ?_
 refine VL.call Try.func110 rfl (by decide) rfl (fun w' hw => clone_p hw (hX.nowA (s := ⟨w, _⟩) Mono_par hw) (by omega)) (fun v => ?_)
 refine VL.at (fun w3 h1w => ?_)
 obtain ⟨gv1, cv2, rfl, hO4⟩ := h1w
 refine VL.toOwn hO4 ?_
 refine VL.assign rfl ?_
 refine VL.nn ?_
 refine VC.seq ?_
 refine VC.sr ?_
 refine VL.move rfl ?_
 refine VL.lss rfl rfl ?_
 refine VL.no (by omega) ?_
 refine VL.move rfl ?_
 refine VL.go rfl rfl rfl ?_
 refine VL.move rfl ?_
 refine VL.go rfl rfl rfl ?_
 refine VL.move rfl ?_
 refine VL.go rfl rfl rfl ?_
 refine VL.len Try.underlying47 rfl rfl ?_
 refine VL.go rfl rfl rfl ?_
 refine VL.geq rfl rfl ?_
 refine VL.yes (by omega) ?_
 refine VL.pick_f rfl rfl ?_
 refine VL.move rfl ?_
 refine VL.pass rfl rfl rfl rfl rfl ?_
 refine VL.pass rfl rfl rfl rfl rfl ?_
 refine VL.pass rfl rfl rfl rfl rfl ?_
 refine VL.pick_t rfl rfl ?_
 refine VL.nn ?_
 refine VC.yes rfl ?_
 refine VC.sr ?_
 refine VL.move rfl ?_
 refine VL.assign rfl ?_
 refine VL.assign rfl ?_
 refine VL.nn ?_
 refine VC.ret ?_
 refine VX.then_ret ?_
 refine VX.ret2 rfl rfl rfl (fun we hw => ?_)
 have h7 := hw
 exact ⟨_, _, rfl, h7.drop.subA, h7.letArr⟩

theorem double_full {S : List Snap} {H : List Chunk} {w : World} (ho : Own S H w) {xs : List Par} {p : Option Addr} {c : Nat} (hX : Arr 4 parR (keys H) w p xs c) (hl : xs.length ≤ 1000) (i : Nat) (hi : i < xs.length) (h6 : 64 ≤ xs.length) : Calls Try.prog 46 #[.slice p xs.length c, .int .i64 (i : Int)] w (Ret fun v w' => ∃ q d, v = .tuple #[.slice q xs.length d, .bool false] ∧ Own S H w' ∧ Arr 4 parR (keys H) w' q xs d) := by
 refine enter (G := Own (⟨w, keys H⟩ :: S) H) ho.keep Try.func46 rfl Try.ntmps46 rfl ?_
 refine VC.sr ?_
 refine VL.assign rfl ?_
 refine VL.assign rfl ?_
 refine VL.nn ?_
 refine VC.sr ?_
 refine VL.move rfl ?_
 refine VL.call Try.func110 rfl (by decide) rfl (fun w' hw => clone_p hw (hX.nowA (s := ⟨w, _⟩) Mono_par hw) (by omega)) (fun v => ?_)
 refine VL.at (fun w3 h1w => ?_)
 obtain ⟨gv1, cv2, rfl, hO4⟩ := h1w
 refine VL.toOwn hO4 ?_
 refine VL.assign rfl ?_
 refine VL.nn ?_
 refine VC.seq ?_
 refine VC.sr ?_
 refine VL.move rfl ?_
 refine VL.lss rfl rfl ?_
 refine VL.no (by omega) ?_
 refine VL.move rfl ?_
 refine VL.go rfl rfl rfl ?_
 refine VL.move rfl ?_
 refine VL.go rfl rfl rfl ?_
 refine VL.move rfl ?_
 refine VL.go rfl rfl rfl ?_
 refine VL.len Try.underlying47 rfl rfl ?_
 refine VL.go rfl rfl rfl ?_
 refine VL.geq rfl rfl ?_
 refine VL.no (by omega) ?_
 refine VL.pick_f rfl rfl ?_
 refine VL.move rfl ?_
 refine VL.go rfl rfl rfl ?_
 refine VL.move rfl ?_
 refine VL.go rfl rfl rfl ?_
 refine VL.len Try.underlying47 rfl rfl ?_
 refine VL.go rfl rfl rfl ?_
 refine VL.geq rfl rfl ?_
 refine VL.yes (by omega) ?_
 refine VL.pick_f rfl rfl ?_
 refine VL.nn ?_
 refine VC.yes rfl ?_
 refine VC.sr ?_
 refine VL.move rfl ?_
 refine VL.assign rfl ?_
 refine VL.assign rfl ?_
 refine VL.nn ?_
 refine VC.ret ?_
 refine VX.then_ret ?_
 refine VX.ret2 rfl rfl rfl (fun we hw => ?_)
 have h7 := hw
 exact ⟨_, _, rfl, h7.drop.subA, h7.letArr⟩

end Go.Proofs.Ytcfecmoagfgnaaa

/- The rules of the walks, continued: ways that meet again. -/
namespace Go.Vc
section
variable {P : Program} {n : Nat} {Q Q' : Exit → Act → World → Prop} {σ : Sl} {G : World → Prop}
/-- Code behind other code is walked once, however many ways lead to it: x: what the ways differ in. -/
theorem VC.join {X : Type} {c y : Code} (τ : X → Sl) (G' : X → World → Prop) (p : X → Prop) (hx : (∀ x, p x → VC P n Q y (τ x) (G' x)) → VC P n (Exit.then (y.wp P Q) Q) c σ G) (hy : ∀ x, p x → VC P n Q y (τ x) (G' x)) : VC P n Q (.seq c y) σ G := VC.seq (hx hy)
theorem VX.join {X : Type} {y : Code} {τ : X → Sl} {G' : X → World → Prop} {p : X → Prop} (h : ∀ x, p x → VC P n Q y (τ x) (G' x)) (x : X) (hp : p x) (hs : sub (τ x) σ) (hG : ∀ w, G w → G' x w) : VX n (Exit.then (y.wp P Q) Q') .normal σ G :=
 fun a w ha hw => h x hp a w (ha.mono hs) (hG w hw)
end
end Go.Vc

