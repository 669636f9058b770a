/- The statement Ripe is proved, for every input: part 10 of 12 of the texts that it needs. -/
import Derived.Test.YtcfecmoagfgnaaaMripAI
/- Plain facts on the spiral, continued. -/
namespace Go.Pl
open Go.Vc

theorem base_succ (k : Nat) : base (k + 1) = base k + long k := by
 unfold base long
 have h : k % 2 = 0 ∨ k % 2 = 1 := by omega
 rcases h with h | h
 ·obtain ⟨m, rfl⟩ : ∃ m, k = 2 * m := ⟨k / 2, by omega⟩
  rw [show (2 * m + 1 + 1) / 2 = m + 1 by omega, show (2 * m + 1 + 2) / 2 = m + 1 by omega, show (2 * m + 1) / 2 = m by omega, show 2 * m / 2 = m by omega, Nat.add_mul, Nat.one_mul]
 ·obtain ⟨m, rfl⟩ : ∃ m, k = 2 * m + 1 := ⟨k / 2, by omega⟩
  rw [show (2 * m + 1 + 1 + 1) / 2 = m + 1 by omega, show (2 * m + 1 + 1 + 2) / 2 = m + 2 by omega, show (2 * m + 1 + 1) / 2 = m + 1 by omega, show (2 * m + 1) / 2 = m by omega, show m + 2 = (m + 1) + 1 by omega, Nat.mul_succ]
theorem cX_succ (k : Nat) : cX (k + 1) = pX k (long k) := by
 unfold cX pX cX dX long
 have h : k % 4 = 0 ∨ k % 4 = 1 ∨ k % 4 = 2 ∨ k % 4 = 3 := by omega
 rcases h with h | h | h | h
 ·rw [if_neg (by omega), if_neg (by omega), if_pos h, if_pos h]; omega
 ·rw [if_neg (by omega), if_neg (by omega), if_neg (by omega), if_neg (by omega), if_neg (by omega), if_neg (by omega)]; omega
 ·rw [if_neg (by omega), if_pos (by omega), if_neg (by omega), if_neg (by omega), if_neg (by omega), if_pos (by omega)]; omega
 ·rw [if_pos (by omega), if_neg (by omega), if_pos (by omega), if_neg (by omega), if_neg (by omega)]; omega
theorem cY_succ (k : Nat) : cY (k + 1) = pY k (long k) := by
 unfold cY pY cY dY long
 have h : k % 4 = 0 ∨ k % 4 = 1 ∨ k % 4 = 2 ∨ k % 4 = 3 := by omega
 rcases h with h | h | h | h
 ·rw [if_pos (by omega), if_pos (by omega), if_neg (by omega), if_neg (by omega)]; omega
 ·rw [if_neg (by omega), if_pos (by omega), if_pos (by omega)]; omega
 ·rw [if_neg (by omega), if_neg (by omega), if_neg (by omega), if_neg (by omega)]; omega
 ·rw [if_pos (by omega), if_neg (by omega), if_neg (by omega), if_pos (by omega)]; omega
theorem base_mono {a b : Nat} (h : a ≤ b) : base a ≤ base b := by
 induction b with
 | zero => simp at h; subst h; exact Nat.le_refl _
 | succ b ih =>
  by_cases e : a = b + 1
  ·subst e; exact Nat.le_refl _
  ·have := ih (by omega)
   rw [base_succ]; omega
theorem wF_step (k : Nat) : cmul (wF k) (0, 4607182418800017408) = some (wF (k + 1)) := by
 cases k with
 | zero => decide +kernel
 | succ k =>
  have h : k % 4 = 0 ∨ k % 4 = 1 ∨ k % 4 = 2 ∨ k % 4 = 3 := by omega
  show cmul (if (k + 1) % 4 = 1 then (0, fi 1) else if (k + 1) % 4 = 2 then (fi (-1), 0) else if (k + 1) % 4 = 3 then (9223372036854775808, fi (-1)) else (fi 1, 9223372036854775808)) (0, 4607182418800017408) = some (if (k + 1 + 1) % 4 = 1 then (0, fi 1) else if (k + 1 + 1) % 4 = 2 then (fi (-1), 0) else if (k + 1 + 1) % 4 = 3 then (9223372036854775808, fi (-1)) else (fi 1, 9223372036854775808))
  rcases h with h | h | h | h
  ·rw [if_pos (by omega), if_neg (by omega), if_pos (by omega)]; decide +kernel
  ·rw [if_neg (by omega), if_pos (by omega), if_neg (by omega), if_neg (by omega), if_pos (by omega)]; decide +kernel
  ·rw [if_neg (by omega), if_neg (by omega), if_pos (by omega), if_neg (by omega), if_neg (by omega), if_neg (by omega)]; decide +kernel
  ·rw [if_neg (by omega), if_neg (by omega), if_neg (by omega), if_pos (by omega)]; decide +kernel

theorem wF_four (k : Nat) : wF (k + 1) = wF (k % 4 + 1) := by
 show (if (k + 1) % 4 = 1 then (0, fi 1) else if (k + 1) % 4 = 2 then (fi (-1), 0) else if (k + 1) % 4 = 3 then (9223372036854775808, fi (-1)) else (fi 1, 9223372036854775808)) = (if (k % 4 + 1) % 4 = 1 then (0, fi 1) else if (k % 4 + 1) % 4 = 2 then (fi (-1), 0) else if (k % 4 + 1) % 4 = 3 then (9223372036854775808, fi (-1)) else (fi 1, 9223372036854775808))
 rw [show (k % 4 + 1) % 4 = (k + 1) % 4 by omega]
theorem turn_ok {k r : Nat} (hr : r < 66) : cmul (wF k) (fi (r + 1 : Nat), 0) = some (fi (dX k * (r + 1 : Nat)), fi (dY k * (r + 1 : Nat))) := by
 have := allB_spec turns r hr
 unfold turnOk at this
 simp only [Bool.and_eq_true, decide_eq_true_eq] at this
 obtain ⟨⟨⟨⟨h0, h4⟩, h1⟩, h2⟩, h3⟩ := this
 have z : fi 0 = 0 := by decide +kernel
 cases k with
 | zero =>
  rw [h0, show dX 0 = 1 from rfl, show dY 0 = 0 from rfl, Int.one_mul, Int.zero_mul, z]
 | succ k =>
  rw [wF_four]
  have h : k % 4 = 0 ∨ k % 4 = 1 ∨ k % 4 = 2 ∨ k % 4 = 3 := by omega
  rcases h with h | h | h | h
  ·rw [h, h1, show dX (k + 1) = 0 by unfold dX; rw [if_neg (by omega), if_neg (by omega)], show dY (k + 1) = 1 by unfold dY; rw [if_pos (by omega)], Int.one_mul, Int.zero_mul, z]
  ·rw [h, h2, show dX (k + 1) = -1 by unfold dX; rw [if_neg (by omega), if_pos (by omega)], show dY (k + 1) = 0 by unfold dY; rw [if_neg (by omega), if_neg (by omega)], Int.zero_mul, z, Int.neg_mul, Int.one_mul]
  ·rw [h, h3, show dX (k + 1) = 0 by unfold dX; rw [if_neg (by omega), if_neg (by omega)], show dY (k + 1) = -1 by unfold dY; rw [if_neg (by omega), if_pos (by omega)], Int.zero_mul, z, Int.neg_mul, Int.one_mul]
  ·rw [h, h4, show dX (k + 1) = 1 by unfold dX; rw [if_pos (by omega)], show dY (k + 1) = 0 by unfold dY; rw [if_neg (by omega), if_neg (by omega)], Int.zero_mul, z, Int.one_mul]
theorem sum_ok {q r : Nat} (hq : q < 32) (hr : r ≤ 2 * q + 2) : fadd (fi (-(q : Int))) (fi r) = some (fi (-(q : Int) + r)) ∧ fadd (fi ((q : Int) + 1)) (fi (-(r : Int))) = some (fi ((q : Int) + 1 + -(r : Int))) := by
 have := allB_spec (allB_spec sums q hq) r (by omega)
 unfold sumOk at this
 simpa only [Bool.and_eq_true, decide_eq_true_eq] using this
structure Small (x : Int) : Prop where
  plain : fadd (fi x) 0 = some (fi x)
  whole : floatToIntVal .f64 (fi x) .i64 = some x
  ge : fcmp .geq (fi x) 13920626448202203136 = true
  le : fcmp .leq (fi x) 4697254411347427328 = true
  eq : fcmp .eql (fi x) (fi x) = true
  ne : x ≠ 0 → fcmp .neq (fi x) 0 = true
  sub0 : fsub (fi x) (fi x) = some (fi 0)
  subm : fsub (fi x) (fi (x + 1)) = some (fi (-1))
  subp : fsub (fi x) (fi (x - 1)) = some (fi 1)
theorem small {x : Int} (h0 : -65 ≤ x) (h1 : x ≤ 65) : Small x := by
 have := allB_spec smalls (x + 65).toNat (by omega)
 unfold smallOk at this
 rw [show (((x + 65).toNat : Nat) : Int) - 65 = x by omega] at this
 simp only [Bool.and_eq_true, Bool.or_eq_true, decide_eq_true_eq] at this
 obtain ⟨⟨⟨⟨⟨⟨⟨⟨a, b⟩, c⟩, d⟩, e⟩, f⟩, g⟩, i⟩, j⟩ := this
 exact ⟨a, b, c, d, e, fun h => f.resolve_left h, g, i, j⟩
theorem leg_ok {k r : Nat} (hk : k < 128) (hr : r + 1 ≤ long k) : ∃ m, cmul (wF k) (fi (r + 1 : Nat), 0) = some m ∧ cadd (fi (cX k), fi (cY k)) m = some (fi (pX k (r + 1)), fi (pY k (r + 1))) := by
 unfold long at hr
 refine ⟨_, turn_ok (by omega), ?_⟩
 obtain ⟨s1, s2⟩ := sum_ok (q := k / 4) (r := r + 1) (by omega) (by omega)
 have z : fi 0 = 0 := by decide +kernel
 have pl : ∀ x : Int, -65 ≤ x → x ≤ 65 → fadd (fi x) (fi 0) = some (fi x) := fun x h0 h1 => by rw [z]; exact (small h0 h1).plain
 have h : k % 4 = 0 ∨ k % 4 = 1 ∨ k % 4 = 2 ∨ k % 4 = 3 := by omega
 have t1 : fadd (fi (cX k)) (fi (dX k * (r + 1 : Nat))) = some (fi (pX k (r + 1))) := by
  unfold pX
  rcases h with h | h | h | h
  ·rw [show dX k = 1 by unfold dX; rw [if_pos h], show cX k = -((k / 4 : Nat) : Int) by unfold cX; rw [if_pos h], Int.one_mul]; exact s1
  ·rw [show dX k = 0 by unfold dX; rw [if_neg (by omega), if_neg (by omega)], show cX k = ((k / 4 : Nat) : Int) + 1 by unfold cX; rw [if_neg (by omega), if_neg (by omega)], Int.zero_mul, Int.add_zero]; exact pl _ (by omega) (by omega)
  ·rw [show dX k = -1 by unfold dX; rw [if_neg (by omega), if_pos h], show cX k = ((k / 4 : Nat) : Int) + 1 by unfold cX; rw [if_neg (by omega), if_neg (by omega)], Int.neg_mul, Int.one_mul]; exact s2
  ·rw [show dX k = 0 by unfold dX; rw [if_neg (by omega), if_neg (by omega)], show cX k = -((k / 4 : Nat) : Int) - 1 by unfold cX; rw [if_neg (by omega), if_pos h], Int.zero_mul, Int.add_zero]; exact pl _ (by omega) (by omega)
 have t2 : fadd (fi (cY k)) (fi (dY k * (r + 1 : Nat))) = some (fi (pY k (r + 1))) := by
  unfold pY
  rcases h with h | h | h | h
  ·rw [show dY k = 0 by unfold dY; rw [if_neg (by omega), if_neg (by omega)], show cY k = -((k / 4 : Nat) : Int) by unfold cY; rw [if_pos (.inl h)], Int.zero_mul, Int.add_zero]; exact pl _ (by omega) (by omega)
  ·rw [show dY k = 1 by unfold dY; rw [if_pos h], show cY k = -((k / 4 : Nat) : Int) by unfold cY; rw [if_pos (.inr h)], Int.one_mul]; exact s1
  ·rw [show dY k = 0 by unfold dY; rw [if_neg (by omega), if_neg (by omega)], show cY k = ((k / 4 : Nat) : Int) + 1 by unfold cY; rw [if_neg (by omega)], Int.zero_mul, Int.add_zero]; exact pl _ (by omega) (by omega)
  ·rw [show dY k = -1 by unfold dY; rw [if_neg (by omega), if_pos h], show cY k = ((k / 4 : Nat) : Int) + 1 by unfold cY; rw [if_neg (by omega)], Int.neg_mul, Int.one_mul]; exact s2
 unfold cadd
 simp only [t1, t2, Option.bind_some, Option.map_some]
theorem pX_small {k r : Nat} (hk : k < 128) (hr : r ≤ long k) : -64 ≤ pX k r ∧ pX k r ≤ 64 := by
 unfold pX cX dX
 unfold long at hr
 have h : k % 4 = 0 ∨ k % 4 = 1 ∨ k % 4 = 2 ∨ k % 4 = 3 := by omega
 rcases h with h | h | h | h <;> simp only [h] <;> simp <;> omega
theorem pY_small {k r : Nat} (hk : k < 128) (hr : r ≤ long k) : -64 ≤ pY k r ∧ pY k r ≤ 64 := by
 unfold pY cY dY
 unfold long at hr
 have h : k % 4 = 0 ∨ k % 4 = 1 ∨ k % 4 = 2 ∨ k % 4 = 3 := by omega
 rcases h with h | h | h | h <;> simp only [h] <;> simp <;> omega
end Go.Pl

/- The four spots: walks. -/
namespace Go.Proofs.Ytcfecmoagfgnaaa
open Go.Vc Go.Pl

theorem plain_any {S : List Snap} {H : List Chunk} {w : World} (ho : Own S H w) {x y : Int} (hx : Small x) (hy : Small y) : Calls Try.prog 166 #[cx (fi x, fi y)] w (Ret fun v w' => v = cx (fi x, fi y) ∧ Own S H w') := by
 refine enter (G := Own S H) ho Try.func166 rfl Try.ntmps166 rfl ?_
 refine VC.sr ?_
 refine VL.assign rfl ?_
 refine VL.nn ?_
 refine VC.sr ?_
 refine VL.move rfl ?_
 refine VL.real rfl ?_
 refine VL.farith (op := .add) (by decide) rfl rfl hx.plain ?_
 refine VL.move rfl ?_
 refine VL.imag rfl ?_
 refine VL.farith (op := .add) (by decide) rfl rfl hy.plain ?_
 refine VL.complex rfl rfl ?_
 refine VL.assign rfl ?_
 refine VL.nn ?_
 refine VC.ret ?_
 refine VX.ret1 rfl rfl (fun we hw => ?_)
 exact ⟨rfl, hw⟩

theorem whole_any {S : List Snap} {H : List Chunk} {w : World} (ho : Own S H w) {x y : Int} (hx : Small x) (hy : Small y) : Calls Try.prog 158 #[cx (fi x, fi y)] w (Ret fun v w' => v = .tuple #[cx (fi x, fi y), .bool true] ∧ Own S H w') := by
 refine enter (G := Own S H) ho Try.func158 rfl Try.ntmps158 rfl ?_
 refine VC.sr ?_
 refine VL.assign rfl ?_
 refine VL.assign rfl ?_
 refine VL.nn ?_
 refine VC.sr ?_
 refine VL.move rfl ?_
 refine VL.real rfl ?_
 refine VL.move rfl ?_
 refine VL.imag rfl ?_
 refine VL.assign rfl ?_
 refine VL.assign rfl ?_
 refine VL.nn ?_
 refine VC.seq ?_
 refine VC.sr ?_
 refine VL.move rfl ?_
 refine VL.fcmp (op := .geq) (by decide) rfl rfl hx.ge ?_
 refine VL.move rfl ?_
 refine VL.go rfl rfl rfl ?_
 refine VL.move rfl ?_
 refine VL.go rfl rfl rfl ?_
 refine VL.fcmp (op := .leq) (by decide) rfl rfl hx.le ?_
 refine VL.pick_t rfl rfl ?_
 refine VL.move rfl ?_
 refine VL.go rfl rfl rfl ?_
 refine VL.move rfl ?_
 refine VL.go rfl rfl rfl ?_
 refine VL.fcmp (op := .geq) (by decide) rfl rfl hy.ge ?_
 refine VL.pick_t rfl rfl ?_
 refine VL.move rfl ?_
 refine VL.go rfl rfl rfl ?_
 refine VL.move rfl ?_
 refine VL.go rfl rfl rfl ?_
 refine VL.fcmp (op := .leq) (by decide) rfl rfl hy.le ?_
 refine VL.pick_t rfl rfl ?_
 refine VL.not rfl ?_
 refine VL.nn ?_
 refine VC.no rfl ?_
 refine VC.skip ?_
 refine VX.next ?_
 refine VC.sr ?_
 refine VL.move rfl ?_
 refine VL.ftoi (by rw [Try.underlying233]; rfl) Try.underlying3 rfl hx.whole ?_
 refine VL.move rfl ?_
 refine VL.ftoi (by rw [Try.underlying233]; rfl) Try.underlying3 rfl hy.whole ?_
 refine VL.assign rfl ?_
 refine VL.assign rfl ?_
 refine VL.nn ?_
 refine VC.sr ?_
 refine VL.move rfl ?_
 refine VL.itof (by rw [Try.underlying3]; rfl) Try.underlying233 rfl ?_
 refine VL.move rfl ?_
 refine VL.itof (by rw [Try.underlying3]; rfl) Try.underlying233 rfl ?_
 refine VL.complex rfl rfl ?_
 refine VL.move rfl ?_
 refine VL.itof (by rw [Try.underlying3]; rfl) Try.underlying233 rfl ?_
 refine VL.move rfl ?_
 refine VL.fcmp (op := .eql) (by decide) rfl rfl hx.eq ?_
 refine VL.move rfl ?_
 refine VL.go rfl rfl rfl ?_
 refine VL.move rfl ?_
 refine VL.go rfl rfl rfl ?_
 refine VL.itof (by rw [Try.underlying3]; rfl) Try.underlying233 rfl ?_
 refine VL.go rfl rfl rfl ?_
 refine VL.move rfl ?_
 refine VL.go rfl rfl rfl ?_
 refine VL.fcmp (op := .eql) (by decide) rfl rfl hy.eq ?_
 refine VL.pick_t rfl rfl ?_
 refine VL.assign rfl ?_
 refine VL.assign rfl ?_
 refine VL.nn ?_
 refine VC.ret ?_
 refine VX.ret2 rfl rfl rfl (fun we hw => ?_)
 exact ⟨rfl, hw⟩

theorem z0 : fi 0 = 0 := by decide +kernel
theorem newv {P : Program} {n : Nat} {Q : Exit → Act → World → Prop} {σ : Sl} {G : World → Prop} {ops : Array Oper} {l : List Oper} {d : Nat} {v v' : Value} (e : v = v') (h : VL P n ops Q l ((d, v') :: σ) G) : VL P n ops Q l ((d, v) :: σ) G := e ▸ h
theorem leg_is {k q : Nat} (hk : k < 128) (h1 : 1 ≤ q) (hq : q ≤ long k) : ∃ m, cmul (wF k) (fi q, 0) = some m ∧ cadd (fi (cX k), fi (cY k)) m = some (fi (pX k q), fi (pY k q)) := by
 obtain ⟨r, rfl⟩ : ∃ r, q = r + 1 := ⟨q - 1, by omega⟩
 exact leg_ok hk hq
/-- What is left at leg j; where one is. -/
def remN (k q j : Nat) : Nat := if j ≤ k then base k + q - base j else 0
def atX (k q j : Nat) : Int := if j ≤ k then cX j else pX k q
def atY (k q j : Nat) : Int := if j ≤ k then cY j else pY k q

theorem spot_any {S : List Snap} {H : List Chunk} {w : World} (ho : Own S H w) {k q : Nat} (hk : k < 128) (h1 : 1 ≤ q) (hq : q ≤ long k) (hn : base k + q ≤ 4095) : Calls Try.prog 157 #[.int .i64 ((base k + q : Nat) : Int)] w (Ret fun v w' => v = .tuple #[cx (fi (pX k q), fi (pY k q)), .bool true] ∧ Own S H w') := by
 refine enter (G := Own S H) ho Try.func157 rfl Try.ntmps157 rfl ?_
 refine VC.sr ?_
 refine VL.assign rfl ?_
 refine VL.assign rfl ?_
 refine VL.nn ?_
 refine VC.seq ?_
 refine VC.sr ?_
 refine VL.move rfl ?_
 refine VL.lss rfl rfl ?_
 refine VL.no (by omega) ?_
 refine VL.move rfl ?_
 refine VL.go rfl rfl rfl ?_
 refine VL.move rfl ?_
 refine VL.go rfl rfl rfl ?_
 refine VL.gtr rfl rfl ?_
 refine VL.no (by omega) ?_
 refine VL.pick_f rfl rfl ?_
 refine VL.nn ?_
 refine VC.no rfl ?_
 refine VC.skip ?_
 refine VX.next ?_
 refine VC.sr ?_
 refine VL.assign rfl ?_
 refine VL.assign rfl ?_
 refine VL.nn ?_
 refine VC.seq ?_
 refine VC.sr ?_
 refine VL.assign rfl ?_
 refine VL.nn ?_
 refine VC.block ?_
 refine VC.loop (X := Nat) (fun j => [(0, .int .i64 ((remN k q j : Nat) : Int)), (4, cx (fi (atX k q j), fi (atY k q j))), (5, cx (wF j)), (6, .int .i64 ((j : Nat) : Int))]) (fun j w' => j ≤ k + 1 ∧ Own S H w') (fun j => k + 2 - j) 0 ⟨?_, ?_, rfl, rfl, trivial⟩ (fun w' h => ⟨Nat.zero_le _, h⟩) (fun j => VC.fact fun hi => ?_)
 ·show some _ = some _
  rw [show remN k q 0 = base k + q from if_pos (Nat.zero_le _)]
 ·show some _ = some _
  rw [show atX k q 0 = 0 from if_pos (Nat.zero_le _), show atY k q 0 = 0 from if_pos (Nat.zero_le _), z0]
 ·skip
  refine VC.seq ?_
  refine VC.seq ?_
  rcases (show j < k ∨ j = k ∨ j = k + 1 by omega) with hj | hj | hj
  ·have hb := base_mono (show j ≤ k by omega)
   have hb2 := base_mono (show j + 1 ≤ k by omega)
   have hb3 := base_succ j
   obtain ⟨m, hm1, hm2⟩ := leg_is (k := j) (q := long j) (by omega) (by unfold long; omega) (Nat.le_refl _)
   rw [show remN k q j = base k + q - base j from if_pos (by omega), show atX k q j = cX j from if_pos (by omega), show atY k q j = cY j from if_pos (by omega)]
   refine VC.region ?_
   refine VL.move rfl ?_
   refine VL.gtr rfl rfl ?_
   refine VL.yes (by omega) ?_
   refine VL.nn ?_
   refine VC.yes rfl ?_
   refine VC.skip ?_
   refine VX.next ?_
   refine VC.seq ?_
   refine VC.block ?_
   refine VC.sr ?_
   refine VL.move rfl ?_
   refine VL.quo rfl rfl (by omega) (by omega) (by simp only [InR]; omega) ?_
   refine VL.add rfl rfl (by simp only [InR]; omega) ?_
   refine VL.move rfl ?_
   refine VL.min2 rfl rfl ?_
   refine newv (v' := .int .i64 ((long j : Nat) : Int)) (by congr 1; unfold long at *; omega) ?_
   refine VL.assign rfl ?_
   refine VL.nn ?_
   refine VC.sr ?_
   refine VL.move rfl ?_
   refine VL.move rfl ?_
   refine VL.move rfl ?_
   refine VL.itof (by rw [Try.underlying3]; rfl) Try.underlying233 rfl ?_
   refine VL.complex rfl rfl ?_
   refine VL.cmul rfl rfl hm1 ?_
   refine VL.cadd rfl rfl hm2 ?_
   refine VL.assign rfl ?_
   refine VL.nn ?_
   refine VC.sr ?_
   refine VL.move rfl ?_
   refine VL.move rfl ?_
   refine VL.sub rfl rfl (by simp only [InR]; omega) ?_
   refine VL.assign rfl ?_
   refine VL.nn ?_
   refine VC.region ?_
   refine VL.move rfl ?_
   refine VL.cmul (b := (0, 4607182418800017408)) rfl rfl (wF_step j) ?_
   refine VL.assign rfl ?_
   refine VL.nil ?_
   refine VX.block_normal ?_
   refine VX.next ?_
   refine VC.region ?_
   refine VL.move rfl ?_
   refine VL.add rfl rfl (by simp only [InR]; omega) ?_
   refine VL.assign rfl ?_
   refine VL.nil ?_
   refine VX.round (j + 1) ⟨?_, ?_, rfl, rfl, trivial⟩ (fun w' h => ⟨by omega, h⟩) (by omega)
   ·show some _ = some _
    rw [show remN k q (j + 1) = base k + q - base (j + 1) from if_pos (by omega)]
    congr 2
    omega
   ·show some _ = some _
    rw [show atX k q (j + 1) = cX (j + 1) from if_pos (by omega), show atY k q (j + 1) = cY (j + 1) from if_pos (by omega), cX_succ, cY_succ]
  ·subst hj
   obtain ⟨m, hm1, hm2⟩ := leg_is (k := j) (q := q) (by omega) h1 hq
   rw [show remN j q j = base j + q - base j from if_pos (Nat.le_refl _), show atX j q j = cX j from if_pos (Nat.le_refl _), show atY j q j = cY j from if_pos (Nat.le_refl _)]
   refine VC.region ?_
   refine VL.move rfl ?_
   refine VL.gtr rfl rfl ?_
   refine VL.yes (by omega) ?_
   refine VL.nn ?_
   refine VC.yes rfl ?_
   refine VC.skip ?_
   refine VX.next ?_
   refine VC.seq ?_
   refine VC.block ?_
   refine VC.sr ?_
   refine VL.move rfl ?_
   refine VL.quo rfl rfl (by omega) (by omega) (by simp only [InR]; omega) ?_
   refine VL.add rfl rfl (by simp only [InR]; omega) ?_
   refine VL.move rfl ?_
   refine VL.min2 rfl rfl ?_
   refine newv (v' := .int .i64 ((q : Nat) : Int)) (by congr 1; unfold long at *; omega) ?_
   refine VL.assign rfl ?_
   refine VL.nn ?_
   refine VC.sr ?_
   refine VL.move rfl ?_
   refine VL.move rfl ?_
   refine VL.move rfl ?_
   refine VL.itof (by rw [Try.underlying3]; rfl) Try.underlying233 rfl ?_
   refine VL.complex rfl rfl ?_
   refine VL.cmul rfl rfl hm1 ?_
   refine VL.cadd rfl rfl hm2 ?_
   refine VL.assign rfl ?_
   refine VL.nn ?_
   refine VC.sr ?_
   refine VL.move rfl ?_
   refine VL.move rfl ?_
   refine VL.sub rfl rfl (by simp only [InR]; omega) ?_
   refine VL.assign rfl ?_
   refine VL.nn ?_
   refine VC.region ?_
   refine VL.move rfl ?_
   refine VL.cmul (b := (0, 4607182418800017408)) rfl rfl (wF_step j) ?_
   refine VL.assign rfl ?_
   refine VL.nil ?_
   refine VX.block_normal ?_
   refine VX.next ?_
   refine VC.region ?_
   refine VL.move rfl ?_
   refine VL.add rfl rfl (by simp only [InR]; omega) ?_
   refine VL.assign rfl ?_
   refine VL.nil ?_
   refine VX.round (j + 1) ⟨?_, ?_, rfl, rfl, trivial⟩ (fun w' h => ⟨by omega, h⟩) (by omega)
   ·show some _ = some _
    rw [show remN j q (j + 1) = 0 from if_neg (by omega)]
    congr 2
    omega
   ·show some _ = some _
    rw [show atX j q (j + 1) = pX j q from if_neg (by omega), show atY j q (j + 1) = pY j q from if_neg (by omega)]
  ·subst hj
   rw [show remN k q (k + 1) = 0 from if_neg (by omega), show atX k q (k + 1) = pX k q from if_neg (by omega), show atY k q (k + 1) = pY k q from if_neg (by omega)]
   refine VC.region ?_
   refine VL.move rfl ?_
   refine VL.gtr rfl rfl ?_
   refine VL.no (by omega) ?_
   refine VL.nn ?_
   refine VC.no rfl ?_
   refine VC.exit ?_
   refine VX.then_exit ?_
   refine VX.then_exit ?_
   refine VX.block_here ?_
   refine VX.next ?_
   refine VC.sr ?_
   refine VL.move rfl ?_
   refine VL.call Try.func166 rfl (by decide) rfl (fun w' hw => plain_any hw (small (by have := pX_small hk hq; omega) (by have := pX_small hk hq; omega)) (small (by have := pY_small hk hq; omega) (by have := pY_small hk hq; omega))) (fun v => ?_)
   refine VL.fact fun ev => ?_
   subst ev
   refine VL.assign rfl ?_
   refine VL.assign rfl ?_
   refine VL.nn ?_
   refine VC.ret ?_
   refine VX.ret2 rfl rfl rfl (fun we hw => ?_)
   exact ⟨rfl, hw⟩

theorem spot_zero {S : List Snap} {H : List Chunk} {w : World} (ho : Own S H w)  : Calls Try.prog 157 #[.int .i64 0] w (Ret fun v w' => v = .tuple #[cx (fi 0, fi 0), .bool true] ∧ Own S H w') := by
 refine enter (G := Own S H) ho Try.func157 rfl Try.ntmps157 rfl ?_
 refine VC.sr ?_
 refine VL.assign rfl ?_
 refine VL.assign rfl ?_
 refine VL.nn ?_
 refine VC.seq ?_
 refine VC.sr ?_
 refine VL.move rfl ?_
 refine VL.lss rfl rfl ?_
 refine VL.no (by omega) ?_
 refine VL.move rfl ?_
 refine VL.go rfl rfl rfl ?_
 refine VL.move rfl ?_
 refine VL.go rfl rfl rfl ?_
 refine VL.gtr rfl rfl ?_
 refine VL.no (by omega) ?_
 refine VL.pick_f rfl rfl ?_
 refine VL.nn ?_
 refine VC.no rfl ?_
 refine VC.skip ?_
 refine VX.next ?_
 refine VC.sr ?_
 refine VL.assign rfl ?_
 refine VL.assign rfl ?_
 refine VL.nn ?_
 refine VC.seq ?_
 refine VC.sr ?_
 refine VL.assign rfl ?_
 refine VL.nn ?_
 refine VC.block ?_
 refine VC.loop (X := Unit) (fun j => [(0, .int .i64 0), (4, cx (fi 0, fi 0))]) (fun j w' => Own S H w') (fun j => 0) () ⟨rfl, by show some _ = some _; rw [z0], trivial⟩ (fun w' h => h) (fun j => ?_)
 ·skip
  refine VC.seq ?_
  refine VC.sr ?_
  refine VL.move rfl ?_
  refine VL.gtr rfl rfl ?_
  refine VL.no (by omega) ?_
  refine VL.nn ?_
  refine VC.no rfl ?_
  refine VC.exit ?_
  refine VX.then_exit ?_
  refine VX.then_exit ?_
  refine VX.block_here ?_
  refine VX.next ?_
  refine VC.sr ?_
  refine VL.move rfl ?_
  refine VL.call Try.func166 rfl (by decide) rfl (fun w' hw => plain_any hw (small (by omega) (by omega)) (small (by omega) (by omega))) (fun v => ?_)
  refine VL.fact fun ev => ?_
  subst ev
  refine VL.assign rfl ?_
  refine VL.assign rfl ?_
  refine VL.nn ?_
  refine VC.ret ?_
  refine VX.ret2 rfl rfl rfl (fun we hw => ?_)
  exact ⟨rfl, hw⟩

/-- The four spots. -/
def spX : Nat → Int
  | 1 => 1
  | 2 => 1
  | _ => 0
def spY : Nat → Int
  | 2 => 1
  | 3 => 1
  | _ => 0
abbrev spotV (k : Nat) : Value := cx (fi (spX k), fi (spY k))
theorem spX_small (k : Nat) : Small (spX k) := by unfold spX; split <;> exact small (by decide) (by decide)
theorem spY_small (k : Nat) : Small (spY k) := by unfold spY; split <;> exact small (by decide) (by decide)

theorem spot4 {S : List Snap} {H : List Chunk} {w : World} (ho : Own S H w) (k : Nat) (hk : k < 4) : Calls Try.prog 157 #[.int .i64 (k : Int)] w (Ret fun v w' => v = .tuple #[spotV k, .bool true] ∧ Own S H w') := by
 rcases (show k = 0 ∨ k = 1 ∨ k = 2 ∨ k = 3 by omega) with rfl | rfl | rfl | rfl
 ·exact spot_zero ho
 ·exact spot_any ho (k := 0) (q := 1) (by decide) (by decide) (by decide) (by decide)
 ·exact spot_any ho (k := 1) (q := 1) (by decide) (by decide) (by decide) (by decide)
 ·exact spot_any ho (k := 2) (q := 1) (by decide) (by decide) (by decide) (by decide)
/-- How far two of the spots lie from each other. -/
def farN (i j : Nat) : Nat := if i = j then 0 else 1
theorem spot_sub {i j : Nat} (hi : i < 4) (hj : j < 4) : csub (fi (spX i), fi (spY i)) (fi (spX j), fi (spY j)) = some (fi (spX i - spX j), fi (spY i - spY j)) := by
 have h : allB 4 (fun i => allB 4 (fun j => decide (csub (fi (spX i), fi (spY i)) (fi (spX j), fi (spY j)) = some (fi (spX i - spX j), fi (spY i - spY j))))) = true := by decide +kernel
 exact of_decide_eq_true (allB_spec (allB_spec h i hi) j hj)
theorem spot_far {i j : Nat} (hi : i < 4) (hj : j < 4) : max (max (max (spX i - spX j) (0 - (spX i - spX j))) (spY i - spY j)) (0 - (spY i - spY j)) = (farN i j : Nat) := by
 have h : allB 4 (fun i => allB 4 (fun j => decide (max (max (max (spX i - spX j) (0 - (spX i - spX j))) (spY i - spY j)) (0 - (spY i - spY j)) = (farN i j : Nat)))) = true := by decide +kernel
 exact of_decide_eq_true (allB_spec (allB_spec h i hi) j hj)
theorem spot_in (k : Nat) : (0 ≤ spX k ∧ spX k ≤ 1) ∧ 0 ≤ spY k ∧ spY k ≤ 1 := by unfold spX spY; refine ⟨?_, ?_⟩ <;> split <;> decide

theorem far_w {S : List Snap} {H : List Chunk} {w : World} (ho : Own S H w) {i j : Nat} (hi : i < 4) (hj : j < 4) : Calls Try.prog 113 #[spotV i, spotV j] w (Ret fun v w' => v = .tuple #[.int .i64 ((farN i j : Nat) : Int), .bool true] ∧ Own S H w') := by
 have h1 := spot_in i
 have h2 := spot_in j
 have hu : Small (spX i - spX j) := small (by omega) (by omega)
 have hv : Small (spY i - spY j) := small (by omega) (by omega)
 refine enter (G := Own S H) ho Try.func113 rfl Try.ntmps113 rfl ?_
 refine VC.sr ?_
 refine VL.assign rfl ?_
 refine VL.assign rfl ?_
 refine VL.nn ?_
 refine VC.sr ?_
 refine VL.move rfl ?_
 refine VL.call Try.func158 rfl (by decide) rfl (fun w' hw => whole_any hw (spX_small i) (spY_small i)) (fun v => ?_)
 refine VL.fact fun ev1 => ?_
 subst ev1
 refine VL.move rfl ?_
 refine VL.extract rfl rfl ?_
 refine VL.extract rfl rfl ?_
 refine VL.assign rfl ?_
 refine VL.assign rfl ?_
 refine VL.nn ?_
 refine VC.sr ?_
 refine VL.move rfl ?_
 refine VL.call Try.func158 rfl (by decide) rfl (fun w' hw => whole_any hw (spX_small j) (spY_small j)) (fun v => ?_)
 refine VL.fact fun ev2 => ?_
 subst ev2
 refine VL.move rfl ?_
 refine VL.extract rfl rfl ?_
 refine VL.extract rfl rfl ?_
 refine VL.assign rfl ?_
 refine VL.assign rfl ?_
 refine VL.nn ?_
 refine VC.seq ?_
 refine VC.sr ?_
 refine VL.move rfl ?_
 refine VL.not rfl ?_
 refine VL.move rfl ?_
 refine VL.go rfl rfl rfl ?_
 refine VL.move rfl ?_
 refine VL.go rfl rfl rfl ?_
 refine VL.not rfl ?_
 refine VL.pick_f rfl rfl ?_
 refine VL.nn ?_
 refine VC.no rfl ?_
 refine VC.skip ?_
 refine VX.next ?_
 refine VC.sr ?_
 refine VL.move rfl ?_
 refine VL.move rfl ?_
 refine VL.csub rfl rfl (spot_sub hi hj) ?_
 refine VL.assign rfl ?_
 refine VL.nn ?_
 refine VC.sr ?_
 refine VL.move rfl ?_
 refine VL.real rfl ?_
 refine VL.ftoi (by rw [Try.underlying233]; rfl) Try.underlying3 rfl hu.whole ?_
 refine VL.move rfl ?_
 refine VL.imag rfl ?_
 refine VL.ftoi (by rw [Try.underlying233]; rfl) Try.underlying3 rfl hv.whole ?_
 refine VL.assign rfl ?_
 refine VL.assign rfl ?_
 refine VL.nn ?_
 refine VC.sr ?_
 refine VL.move rfl ?_
 refine VL.move rfl ?_
 refine VL.neg rfl (by simp only [InR]; omega) ?_
 refine VL.move rfl ?_
 refine VL.move rfl ?_
 refine VL.neg rfl (by simp only [InR]; omega) ?_
 refine VL.max4 rfl rfl rfl rfl ?_
 rw [spot_far hi hj]
 refine VL.assign rfl ?_
 refine VL.assign rfl ?_
 refine VL.nn ?_
 refine VC.ret ?_
 refine VX.ret2 rfl rfl rfl (fun we hw => ?_)
 exact ⟨rfl, hw⟩

/-- A server's number, off a device's. -/
def servN (a : Nat) : Nat := if 16 ≤ a then (a - 16) / 4 else a

theorem bagspot_w {S : List Snap} {H : List Chunk} {w : World} (ho : Own S H w) (a : Nat) (ha : a < 256) : Calls Try.prog 112 #[.int .u8 (a : Int)] w (Ret fun v w' => v = .tuple #[if servN a < 4 then spotV (servN a) else cx (0, 0), .bool (decide (servN a < 4))] ∧ Own S H w') := by
 refine enter (G := Own S H) ho Try.func112 rfl Try.ntmps112 rfl ?_
 refine VC.sr ?_
 refine VL.assign rfl ?_
 refine VL.assign rfl ?_
 refine VL.nn ?_
 refine VC.sr ?_
 refine VL.move rfl ?_
 refine VL.conv (by rw [Try.underlying5]; rfl) Try.underlying3 rfl (by simp only [InR]; omega) ?_
 refine VL.assign rfl ?_
 refine VL.nn ?_
 refine VC.seq ?_
 refine VC.sr ?_
 refine VL.move rfl ?_
 refine VL.geq rfl rfl ?_
 refine VL.case (fun h2 => ?_) (fun h2 => ?_)
 ·have e1 : servN a = (a - 16) / 4 := if_pos (by omega)
  refine VL.nn ?_
  refine VC.yes rfl ?_
  refine VC.region ?_
  refine VL.move rfl ?_
  refine VL.sub rfl rfl (by simp only [InR]; omega) ?_
  refine VL.conv (by rw [Try.underlying5]; rfl) Try.underlying3 rfl (by simp only [InR]; omega) ?_
  refine VL.quo rfl rfl (by omega) (by omega) (by simp only [InR]; omega) ?_
  refine newv (v' := .int .i64 (servN a : Nat)) (congrArg (Value.int .i64) (by rw [e1]; omega)) ?_
  refine VL.assign rfl ?_
  refine VL.nn ?_
  refine VC.seq ?_
  refine VC.sr ?_
  refine VL.move rfl ?_
  refine VL.geq rfl rfl ?_
  refine VL.case (fun h4 => ?_) (fun h4 => ?_)
  ·have h5 : ¬ servN a < 4 := by omega
   refine VL.nn ?_
   refine VC.yes rfl ?_
   refine VC.sr ?_
   refine VL.assign rfl ?_
   refine VL.assign rfl ?_
   refine VL.nn ?_
   refine VC.ret ?_
   refine VX.then_ret ?_
   refine VX.ret2 rfl rfl rfl (fun we hw => ?_)
   exact ⟨by rw [if_neg h5, decide_eq_false h5], hw⟩
  ·have h5 : servN a < 4 := by omega
   refine VL.nn ?_
   refine VC.no rfl ?_
   refine VC.skip ?_
   refine VX.next ?_
   refine VC.sr ?_
   refine VL.move rfl ?_
   refine VL.call Try.func157 rfl (by decide) rfl (fun w' hw => spot4 hw (servN a) h5) (fun v => ?_)
   refine VL.fact fun ev => ?_
   subst ev
   refine VL.extract rfl rfl ?_
   refine VL.extract rfl rfl ?_
   refine VL.assign rfl ?_
   refine VL.assign rfl ?_
   refine VL.nn ?_
   refine VC.ret ?_
   refine VX.ret2 rfl rfl rfl (fun we hw => ?_)
   exact ⟨by rw [if_pos h5, decide_eq_true h5]; rfl, hw⟩
 ·have e1 : servN a = a := if_neg (by omega)
  refine VL.nn ?_
  refine VC.no rfl ?_
  refine VC.skip ?_
  refine VX.next ?_
  refine VC.seq ?_
  refine VC.sr ?_
  refine VL.move rfl ?_
  refine VL.geq rfl rfl ?_
  refine VL.case (fun h4 => ?_) (fun h4 => ?_)
  ·have h5 : ¬ servN a < 4 := by omega
   refine VL.nn ?_
   refine VC.yes rfl ?_
   refine VC.sr ?_
   refine VL.assign rfl ?_
   refine VL.assign rfl ?_
   refine VL.nn ?_
   refine VC.ret ?_
   refine VX.then_ret ?_
   refine VX.ret2 rfl rfl rfl (fun we hw => ?_)
   exact ⟨by rw [if_neg h5, decide_eq_false h5], hw⟩
  ·have h5 : servN a < 4 := by omega
   refine VL.nn ?_
   refine VC.no rfl ?_
   refine VC.skip ?_
   refine VX.next ?_
   refine VC.sr ?_
   refine VL.move rfl ?_
   refine VL.call Try.func157 rfl (by decide) rfl (fun w' hw => (e1 ▸ spot4 hw (servN a) h5 : Calls Try.prog 157 #[.int .i64 (a : Int)] w' _)) (fun v => ?_)
   refine VL.fact fun ev => ?_
   subst ev
   refine VL.extract rfl rfl ?_
   refine VL.extract rfl rfl ?_
   refine VL.assign rfl ?_
   refine VL.assign rfl ?_
   refine VL.nn ?_
   refine VC.ret ?_
   refine VX.ret2 rfl rfl rfl (fun we hw => ?_)
   exact ⟨by rw [if_pos h5, decide_eq_true h5]; simp only [e1]; rfl, hw⟩

end Go.Proofs.Ytcfecmoagfgnaaa

/- The rules of the walks, continued: a region whose order is open, in which memory is made behind the operation that turns what is owned. -/
namespace Go.Vc
section
variable {P : Program} {n : Nat} {Q : Exit → Act → World → Prop} {ops : Array Oper} {S : List Snap} {H H' : List Chunk}
/-- How worlds may turn: ahead of that operation; behind it nothing that is there turns. -/
def Turn2 (K : List Nat) : Bool → World → World → Prop
  | false, w, w' => Snap.ok ⟨w, K⟩ w'
  | true, w, w' => Snap.ok ⟨w, []⟩ w'
theorem Turn2.rfl_ {K : List Nat} {ph : Bool} {w : World} : Turn2 K ph w w := by cases ph <;> exact Snap.ok_refl _ _
theorem okNil {w w' : World} (h : Snap.ok ⟨w, []⟩ w') (K : List Nat) : Snap.ok ⟨w, K⟩ w' := ⟨h.os, h.tape, h.output, h.size, fun k hk _ => h.block k hk (by simp)⟩
theorem fact_stays2 {K : List Nat} (F : List (SFact K)) (hg : ∀ f ∈ F, f.late = true → ∀ v w w', Snap.ok ⟨w, []⟩ w' → f.f v w → f.f v w') : ∀ ph i v w w', Turn2 K ph w w' → (lateOf F i = true → ph = true) → factOf (F.map (·.f)) i v w → factOf (F.map (·.f)) i v w' := by
 intro ph i v w w' hs hl h
 unfold factOf at h ⊢
 rw [List.getElem?_map] at h ⊢
 cases hf : F[i]? with
 | none => trivial
 | some f =>
  simp [hf, lateOf] at h hl ⊢
  cases hfl : f.late with
  | true =>
   have := hl hfl
   subst this
   exact hg f (List.mem_of_getElem? hf) hfl v w w' hs h
  | false =>
   cases ph with
   | true => exact f.st hfl v w w' (okNil hs K) h
   | false => exact f.st hfl v w w' hs h
theorem obS2 {kk : Nat} {F : List (SFact (keys H))} {σ : Sl} {i : Nat} {I : Ins} {o : Oper} (hok : insOk ops i I = true) (hn : decide ((I.pre.map (·.1)).Nodup) = true) (hk : Nat.beq i kk = false)
  (h : ∀ ph w0, Still S H ph w0 → EachV F w0 I.pre [] (fun τ => VL P n ops (Post n Q (Still S H) (Turn2 (keys H)) (factOf (F.map (·.f)) i) o.dst ph ph w0) [o] (τ ++ only σ I.bas) (fun w => w = w0))) :
  Ob P n ops Q (Still S H) (Turn2 (keys H)) kk (F.map (·.f)) σ i I o :=
 ⟨hok, fun ph w0 vals hJ _ _ _ _ hF => by
  have h1 := EachV.spec I.pre [] _ (h ph w0 hJ) hF
  intro a w ha hw
  have h2 := h1 a w (ha.back (of_decide_eq_true hn)) hw
  have e : (ph || Nat.beq i kk) = ph := by rw [hk, Bool.or_false]
  rw [e]
  exact h2⟩
theorem obK2 {kk : Nat} {F : List (SFact (keys H))} {σ : Sl} {I : Ins} {o : Oper} (hok : insOk ops kk I = true) (hn : decide ((I.pre.map (·.1)).Nodup) = true)
  (h : ∀ w0, Own S H w0 → EachV F w0 I.pre [] (fun τ => VL P n ops (Post n Q (Still S H) (Turn2 (keys H)) (factOf (F.map (·.f)) kk) o.dst false true w0) [o] (τ ++ only σ I.bas) (fun w => w = w0))) :
  Ob P n ops Q (Still S H) (Turn2 (keys H)) kk (F.map (·.f)) σ kk I o :=
 ⟨hok, fun ph w0 vals hJ h1 _ _ _ hF => by
  have hp : ph = false := h1 rfl
  subst hp
  have h1 := EachV.spec I.pre [] _ (h w0 hJ) hF
  intro a w ha hw
  have h2 := h1 a w (ha.back (of_decide_eq_true hn)) hw
  rw [Nat.beq_refl]
  exact h2⟩
/-- It waits for that operation. -/
theorem obA2 {kk : Nat} {F : List (SFact (keys H))} {σ : Sl} {i : Nat} {I : Ins} {o : Oper} (hok : insOk ops i I = true) (hn : decide ((I.pre.map (·.1)).Nodup) = true) (hk : waits o kk = true)
  (h : ∀ w0, Still S H true w0 → EachV F w0 I.pre [] (fun τ => VL P n ops (Post n Q (Still S H) (Turn2 (keys H)) (factOf (F.map (·.f)) i) o.dst true true w0) [o] (τ ++ only σ I.bas) (fun w => w = w0))) :
  Ob P n ops Q (Still S H) (Turn2 (keys H)) kk (F.map (·.f)) σ i I o :=
 ⟨hok, fun ph w0 vals hJ _ _ _ h4 hF => by
  have hp : ph = true := h4 hk
  subst hp
  have h1 := EachV.spec I.pre [] _ (h w0 hJ) hF
  intro a w ha hw
  exact h1 a w (ha.back (of_decide_eq_true hn)) hw⟩
theorem VL.finS2 {f : Fact} {d : Nat} {ph : Bool} {w0 : World} {σ : Sl} {v : Value} (hO : Still S H ph w0) (hv : look σ d = some v) (h : f v w0) :
  VL P n ops (Post n Q (Still S H) (Turn2 (keys H)) f (some d) ph ph w0) [] σ (fun w => w = w0) :=
 VL.fin hv fun w e => by subst e; exact ⟨h, Turn2.rfl_, hO⟩
theorem VL.finK2 {f : Fact} {d : Nat} {w0 : World} {σ : Sl} {v : Value} (hv : look σ d = some v) {G : World → Prop} (hG : ∀ w, G w → Own (⟨w0, keys H⟩ :: S) H' w) (h : ∀ w, G w → f v w) :
  VL P n ops (Post n Q (Still S H) (Turn2 (keys H)) f (some d) false true w0) [] σ G :=
 VL.fin hv fun w hw => ⟨h w hw, ((hG w hw).after (List.mem_cons_self ..)).1, fun s hs => ((hG w hw).snap s (List.mem_cons_of_mem _ hs)).1⟩
theorem Snap.ok_trans {s : Snap} {w w' : World} (h : s.ok w) (h2 : Snap.ok ⟨w, []⟩ w') : s.ok w' :=
 ⟨h2.os.trans h.os, h2.tape.trans h.tape, h2.output.trans h.output, Nat.le_trans h.size h2.size, fun k hk hk2 => (h2.block k (Nat.lt_of_lt_of_le hk h.size) (by simp)).trans (h.block k hk hk2)⟩
theorem VL.finA2 {f : Fact} {d : Nat} {w0 : World} {σ : Sl} {v : Value} (hO : Still S H true w0) (hv : look σ d = some v) {G : World → Prop} (hG : ∀ w, G w → Snap.ok ⟨w0, []⟩ w) (h : ∀ w, G w → f v w) :
  VL P n ops (Post n Q (Still S H) (Turn2 (keys H)) f (some d) true true w0) [] σ G :=
 VL.fin hv fun w hw => ⟨h w hw, hG w hw, fun s hs => Snap.ok_trans (hO s hs) (hG w hw)⟩
theorem VC.anyT2 {id : Nat} {l : List Oper} {σ : Sl} (m kk : Nat) (F : List (SFact (keys H))) (hgr : ∀ f ∈ F, f.late = true → ∀ v w w', Snap.ok ⟨w, []⟩ w' → f.f v w → f.f v w') (Is : List Ins) (outs : List (Nat × Nat)) (bas : List Nat)
  (hmix : P.follows .mixedOrders = true) (hp : plainRegion l.toArray = true) (htl : tailed l.toArray m = true) (hkm : Nat.blt kk m = true) (hml : Nat.ble m l.length = true)
  (hlate : (F.zipIdx.all fun (f, i) => !f.late || Nat.beq i kk || match l[i]? with | some o => waits o kk | none => true) = true)
  (houts : outs.all (fun (d, j) => Nat.blt j m && match l[j]? with | some p => (match p.dst with | some d' => Nat.beq d d' | none => false) | none => false) = true)
  (hbas : bas.all (fun t => (l.take m).all fun p => match p.dst with | some d => !Nat.beq d t | none => true) = true) (hn : decide ((outs.map (·.1)).Nodup) = true)
  (hobs : Obs P n l.toArray Q (Still S H) (Turn2 (keys H)) kk (F.map (·.f)) σ 0 Is (l.take m))
  (hend : ∀ w0, Still S H true w0 → EachV F w0 outs [] (fun τ => VL P n l.toArray Q (l.drop m) (τ ++ only σ bas) (fun w => w = w0))) :
  VC P n Q (.region id l.toArray true) σ (Own S H) :=
 VC.anyT (Still S H) (Turn2 (keys H)) m kk (F.map (·.f)) Is outs bas hmix hp htl (by left; simp [Nat.blt, Nat.ble_eq] at hkm; omega) (by simpa [Nat.ble_eq] using hml) (fun _ h => h.drew) (lateOf F) (fun i o hi hl => by
  unfold lateOf at hl
  cases hf : F[i]? with
  | none => simp [hf] at hl
  | some f =>
   simp only [hf] at hl
   have h1 := List.all_eq_true.1 hlate (f, i) (by rw [List.mem_zipIdx_iff_getElem?]; simpa using hf)
   simp only [hl, hi, Bool.not_true, Bool.false_or, Bool.or_eq_true] at h1
   rcases h1 with h1 | h1
   ·exact .inl (Nat.eq_of_beq_eq_true h1)
   ·exact .inr h1) (fact_stays2 F hgr) houts hbas hobs (fun vals a w ha ⟨h1, h2⟩ => (hend w (by rw [hkm] at h2; exact h2)).spec outs [] _ h1 a w (ha.back (of_decide_eq_true hn)) rfl)

/-- What is owned stays where nothing that is there turns. -/
theorem Own.later {w w' : World} (h : Own S H w) (hs : Snap.ok ⟨w, []⟩ w') : Own S H w' := by
 have := Own.grow (A := []) h hs.os hs.tape hs.output hs.size (fun k hk => hs.block k hk (by simp)) (by simp [keys]) (by simp [keys]) (by simp)
 simpa using this
/-- Blocks that are as they were. -/
def memo (w0 : World) (ks : List Nat) : Chunk := ⟨ks, fun _ w => ∀ k ∈ ks, w.heap[k]? = w0.heap[k]?, fun _ _ w w' h _ _ hφ k hk => by rw [h k hk]; exact hφ k hk⟩
theorem keys_memo (w0 : World) (ks : List Nat) : keys [memo w0 ks] = ks := by simp [keys, memo]
theorem Own.memo {w : World} (h : Own S H w) : Own [⟨w, keys H⟩] [Vc.memo w (keys H)] w :=
 ⟨by rw [keys_memo]; exact h.nodup, by rw [keys_memo]; exact h.lt, fun c hc => by
  rw [List.mem_singleton] at hc
  subst hc
  exact fun _ _ => rfl, fun s hs => by
  rw [List.mem_singleton] at hs
  subst hs
  exact ⟨Snap.ok_refl _ _, fun k hk => .inl (by rw [keys_memo] at hk; exact hk)⟩⟩
theorem grown {w w' : World} {ks : List Nat} (h : Own [⟨w, ks⟩] [Vc.memo w ks] w') : Snap.ok ⟨w, []⟩ w' := by
 obtain ⟨h1, _⟩ := h.snap ⟨w, ks⟩ (by simp)
 have h2 : ∀ k ∈ ks, w'.heap[k]? = w.heap[k]? := h.holds (Vc.memo w ks) (by simp)
 exact ⟨h1.os, h1.tape, h1.output, h1.size, fun k hk _ => by
  by_cases hm : k ∈ ks
  ·exact h2 k hm
  ·exact h1.block k hk hm⟩
/-- A slice of bytes in a block of bytes. -/
def BytesT (K : List Nat) (w : World) (p : Option Addr) (l : List UInt8) (c : Nat) : Prop := Bytes K w p l c ∧ (0 < c → ∀ a, p = some a → ∃ cs fr, w.heap[a.block]? = some (.cells cs 5 fr))
def bytesTF {K : List Nat} (l : List UInt8) : SFact K :=
  ⟨fun v w => ∃ p c, v = .slice p l.length c ∧ BytesT K w p l c, false, fun _ v w w' hs ⟨p, c, e, h1, h2⟩ => ⟨p, c, e, Arr.after (s := ⟨w, K⟩) h1 Mono.byte ⟨hs, fun _ hk => .inl hk⟩, fun hc a ea => by
    obtain ⟨cs, fr, h3⟩ := h2 hc a ea
    obtain ⟨_, h4, h5, _⟩ := h1.at_ a ea hc
    exact ⟨cs, fr, (hs.block _ h5 h4).trans h3⟩⟩⟩
/-- It lies apart from a row of something else. -/
theorem BytesT.apart {w : World} {X : Type} {R : Rel X} {hR : Mono R} {e : TypeId} {sz : Nat} {g : Option Nat} {c c' : Nat} {ys : List X} {p : Option Addr} {l : List UInt8} (h : BytesT (keys H) w p l c) (ho : Own S (arow e sz R hR g c' ys :: H) w) (he : e ≠ 5) : Bytes (keys (arow e sz R hR g c' ys :: H)) w p l c := by
 obtain ⟨h1, h2⟩ := h
 obtain ⟨a1, a2, a3, a4⟩ := h1
 refine ⟨a1, a2, a3, fun a ea hc => ?_⟩
 obtain ⟨b1, b2, b3, b4⟩ := a4 a ea hc
 refine ⟨b1, ?_, b3, b4⟩
 rw [keys_cons, List.mem_append]
 rintro (hk | hk)
 ·have hg : g = some a.block := by simpa [arow] using hk
  subst hg
  obtain ⟨_, ⟨hrow, _⟩, _⟩ := ho.holds (arow e sz R hR (some a.block) c' ys) (by simp)
  rcases hrow.2 with ⟨e1, _⟩ | ⟨g1, cap1, cur, e1, _, e3, _⟩
  ·simp [rowV] at e1
  ·simp [rowV] at e1
   obtain ⟨rfl, rfl⟩ := e1
   obtain ⟨cs, fr, h3⟩ := h2 hc a ea
   rw [e3] at h3
   cases h3
   exact he rfl
 ·exact b2 hk
end
end Go.Vc

/- bag: lay. -/
namespace Go.Proofs.Ytcfecmoagfgnaaa
open Go.Vc Go.Pl

theorem pktW_zero {l : List UInt8} : pktW l = 0 ↔ (pktR l).isSome = true := by
 unfold pktW
 constructor
 ·intro h
  split at h
  ·rename_i h1; exact h1
  ·split at h <;> cases h
 ·intro h; rw [if_pos h]
/-- A packet's bytes, laid at a time. -/
def layP (l : List UInt8) (now : Nat) : Par := ⟨((pktR l).getD pkt0).src, ((pktR l).getD pkt0).dst, min (now + 1 + farN (servN ((pktR l).getD pkt0).src) (servN ((pktR l).getD pkt0).dst)) 4294967295, l⟩
theorem layP_ok (l : List UInt8) (now : Nat) : (layP l now).ok := ⟨(pktR_ok l).src, (pktR_ok l).dst, by show min _ _ < 4294967296; omega⟩
theorem inr_u64c {n : Int} (h0 : 0 ≤ n) (h : n ≤ 8589934592) : InR .u64 n := ⟨h0, Int.le_trans h (by decide)⟩
theorem farN_le (i j : Nat) : farN i j ≤ 1 := by unfold farN; split <;> decide
theorem spot_yes {S : List Snap} {H : List Chunk} {w : World} (ho : Own S H w) (a : Nat) (ha : a < 256) (h : servN a < 4) : Calls Try.prog 112 #[.int .u8 (a : Int)] w (Ret fun v w' => v = .tuple #[spotV (servN a), .bool true] ∧ Own S H w') :=
 calls_mono (bagspot_w ho a ha) fun v w' ⟨e, h2⟩ => ⟨by rw [e, if_pos h, decide_eq_true h], h2⟩

/-- Bytes, cloned: they lie in a block of bytes. -/
theorem cloneT_some {S : List Snap} {H : List Chunk} {w : World} (ho : Own S H w) {a : Addr} {l : List UInt8} {c : Nat} (hA : Bytes (keys H) w (some a) l c) (hl : l.length ≤ 140737488351232) : Calls Try.prog 109 #[.slice (some a) l.length c] w (Ret fun v w' => ∃ p' c', v = .slice p' l.length c' ∧ Own S H w' ∧ BytesT (keys H) w' p' l c') := by
 refine enter (G := Own (⟨w, keys H⟩ :: S) H) ho.keep Try.func109 rfl Try.ntmps109 rfl ?_
 refine VC.sr ?_
 refine VL.assign rfl ?_
 refine VL.nn ?_
 refine VC.seq ?_
 refine VC.sr ?_
 refine VL.move rfl ?_
 refine VL.eqnil Try.underlying24 rfl rfl ?_
 refine VL.nn ?_
 refine VC.no rfl ?_
 refine VC.skip ?_
 refine VX.next ?_
 refine VC.sr ?_
 refine VL.lit el24 rfl rfl rfl (by simp) (by simp [ok1]) (fun g => ?_)
 refine VL.move rfl ?_
 refine VL.append 0 el24 rfl rfl rfl rfl (fun _ h => (hA.now (s := ⟨w, keys H⟩) Mono.byte h.drop (by repeat (first | exact List.mem_cons_self .. | apply List.mem_cons_of_mem))).bytes) (by simp) (ok1_bytes l) (by omega) (by omega) (fun g1 c1 => ?_)
 refine VL.assign rfl ?_
 refine VL.nn ?_
 refine VC.ret ?_
 refine VX.ret1 rfl rfl (fun we hw => ?_)
 have hb := hw.letBytes (l := l) (by omega) (by simp)
 refine ⟨_, _, by simp [rowV], hw.drop.lose, hb, fun _ a ea => ?_⟩
 obtain ⟨hrow, _⟩ := hw.holds (row 5 1 g1 (0 + l.length) c1 ([] ++ l.map bv)) (by simp)
 cases g1 with
 | none => cases ea
 | some g1 =>
  cases ea
  rcases hrow.2 with ⟨e1, _⟩ | ⟨g2, cap1, cur, e1, _, e3, _⟩
  ·simp [rowV] at e1
  ·simp [rowV] at e1
   obtain ⟨rfl, rfl⟩ := e1
   exact ⟨_, _, e3⟩

theorem cloneT_nil {S : List Snap} {H : List Chunk} {w : World} (ho : Own S H w) {c : Nat} : Calls Try.prog 109 #[.slice none 0 c] w (Ret fun v w' => v = .slice none 0 0 ∧ Own S H w') := by
 refine enter (G := Own (⟨w, keys H⟩ :: S) H) ho.keep Try.func109 rfl Try.ntmps109 rfl ?_
 refine VC.sr ?_
 refine VL.assign rfl ?_
 refine VL.nn ?_
 refine VC.seq ?_
 refine VC.sr ?_
 refine VL.move rfl ?_
 refine VL.eqnil Try.underlying24 rfl rfl ?_
 refine VL.nn ?_
 refine VC.yes rfl ?_
 refine VC.sr ?_
 refine VL.assign rfl ?_
 refine VL.nn ?_
 refine VC.ret ?_
 refine VX.then_ret ?_
 refine VX.ret1 rfl rfl (fun we hw => ?_)
 exact ⟨rfl, hw.subA⟩

theorem cloneA {S : List Snap} {H : List Chunk} {w : World} (ho : Own S H w) {p : Option Addr} {l : List UInt8} {c : Nat} (hA : Bytes (keys H) w p l c) (hl : l.length ≤ 140737488351232) {K' : List Nat} (hK : ∀ k ∈ K', k ∈ keys H) : Calls Try.prog 109 #[.slice p l.length c] w (Ret fun v w' => ∃ p' c', v = .slice p' l.length c' ∧ Snap.ok ⟨w, []⟩ w' ∧ BytesT K' w' p' l c') := by
 have hA' : Bytes (keys [memo w (keys H)]) w p l c := by rw [keys_memo]; exact hA
 cases p with
 | none =>
  have h1 := hA.nil rfl
  have h2 := hA.le
  obtain rfl : l = [] := List.eq_nil_of_length_eq_zero (by omega)
  exact calls_mono (cloneT_nil ho.memo (c := c)) fun v w' ⟨e, h3⟩ => ⟨none, 0, e, grown h3, Arr.none, fun h => by omega⟩
 | some a =>
  refine calls_mono (cloneT_some ho.memo hA' hl) fun v w' ⟨p', c', e, h3, h4, h5⟩ => ?_
  rw [keys_memo] at h4
  exact ⟨p', c', e, grown h3, h4.keysTo Mono.byte hK, h5⟩

theorem lay_yes {S : List Snap} {H : List Chunk} {w : World} (ho : Own S H w) {xs : List Par} {p : Option Addr} {c : Nat} (hX : Arr 4 parR (keys H) w p xs c) (hl : xs.length ≤ 1000) {l : List UInt8} {p1 : Option Addr} {c1 : Nat} (hA : Bytes (keys H) w p1 l c1) {now : Nat} (hnow : now < 4294967296) (h1 : pktW l = 0) (h2 : servN ((pktR l).getD pkt0).src < 4) (h3 : servN ((pktR l).getD pkt0).dst < 4) (h4 : xs.length < 64) (hb : l.length ≤ 140737488351232) : Calls Try.prog 42 #[.slice p xs.length c, .slice p1 l.length c1, .int .u32 (now : Int)] w (Ret fun v w' => ∃ q d, v = .tuple #[.slice q (xs ++ [(layP l now)]).length d, .bool true] ∧ Own S H w' ∧ Arr 4 parR (keys H) w' q (xs ++ [(layP l now)]) d) := by
 have hfn := farN_le (servN ((pktR l).getD pkt0).src) (servN ((pktR l).getD pkt0).dst)
 have hmn : min (now + 1 + farN (servN ((pktR l).getD pkt0).src) (servN ((pktR l).getD pkt0).dst)) 4294967295 < 4294967296 := by omega
 refine enter (G := Own (⟨w, keys H⟩ :: S) H) ho.keep Try.func42 rfl Try.ntmps42 rfl ?_
 refine VC.sr ?_
 refine VL.assign rfl ?_
 refine VL.assign rfl ?_
 refine VL.nn ?_
 refine VC.sr ?_
 refine VL.move rfl ?_
 refine VL.call Try.func81 rfl (by decide) rfl (fun w' hw => getPkt_w hw (hA.nowA (s := ⟨w, _⟩) Mono.byte hw)) (fun v => ?_)
 refine VL.at (fun w1 h1w => ?_)
 obtain ⟨q3, d4, p6, c7, rfl, hO2, hB5, hA8⟩ := h1w
 refine VL.toOwn hO2 ?_
 refine VL.move rfl ?_
 refine VL.extract rfl rfl ?_
 refine VL.extract rfl rfl ?_
 refine VL.alloc (L := pktL) (ps := (pktV (pkt0) none 0 none 0)) zero118 rfl rfl (fun g9 => ?_)
 refine VL.store (L := pktL) (qs := (pktV (((pktR l).getD pkt0)) q3 d4 p6 c7)) (ps' := (pktV (((pktR l).getD pkt0)) q3 d4 p6 c7)) 0 0 6 rfl rfl rfl (.inl kd118) rfl rfl (pktV_len (pktR_ok l)) (pktV_ok1 (((pktR l).getD pkt0)) q3 d4 p6 c7) rfl rfl ?_
 refine VL.set0 ?_
 refine VL.assign rfl ?_
 refine VL.nn ?_
 refine VC.sr ?_
 refine VL.fieldAddr rfl fo118_0 rfl ?_
 refine VL.load (v := .int .u8 (((pktR l).getD pkt0).src)) 0 0 rfl kd5 (fun _ h => h) rfl rfl rfl ?_
 refine VL.call Try.func112 rfl (by decide) rfl (fun w' hw => spot_yes hw (((pktR l).getD pkt0).src) (pktR_ok l).src h2) (fun v => ?_)
 refine VL.fact fun e10 => ?_
 subst e10
 refine VL.move rfl ?_
 refine VL.extract rfl rfl ?_
 refine VL.extract rfl rfl ?_
 refine VL.assign rfl ?_
 refine VL.assign rfl ?_
 refine VL.nn ?_
 refine VC.sr ?_
 refine VL.fieldAddr rfl fo118_1 rfl ?_
 refine VL.load (v := .int .u8 (((pktR l).getD pkt0).dst)) 0 1 rfl kd5 (fun _ h => h) rfl rfl rfl ?_
 refine VL.call Try.func112 rfl (by decide) rfl (fun w' hw => spot_yes hw (((pktR l).getD pkt0).dst) (pktR_ok l).dst h3) (fun v => ?_)
 refine VL.fact fun e11 => ?_
 subst e11
 refine VL.move rfl ?_
 refine VL.extract rfl rfl ?_
 refine VL.extract rfl rfl ?_
 refine VL.assign rfl ?_
 refine VL.assign rfl ?_
 refine VL.nn ?_
 refine VC.seq ?_
 refine VC.sr ?_
 refine VL.move rfl ?_
 refine VL.neq rfl rfl ?_
 refine VL.no (by omega) ?_
 refine VL.move rfl ?_
 refine VL.go rfl rfl rfl ?_
 refine VL.move rfl ?_
 refine VL.go rfl rfl rfl ?_
 refine VL.not rfl ?_
 refine VL.pick_f rfl rfl ?_
 refine VL.move rfl ?_
 refine VL.go rfl rfl rfl ?_
 refine VL.move rfl ?_
 refine VL.go rfl rfl rfl ?_
 refine VL.not rfl ?_
 refine VL.pick_f rfl rfl ?_
 refine VL.move rfl ?_
 refine VL.go rfl rfl rfl ?_
 refine VL.move rfl ?_
 refine VL.go rfl rfl rfl ?_
 refine VL.len Try.underlying47 rfl rfl ?_
 refine VL.go rfl rfl rfl ?_
 refine VL.geq rfl rfl ?_
 refine VL.no (by omega) ?_
 refine VL.pick_f rfl rfl ?_
 refine VL.nn ?_
 refine VC.no rfl ?_
 refine VC.skip ?_
 refine VX.next ?_
 refine VC.sr ?_
 refine VL.move rfl ?_
 refine VL.move rfl ?_
 refine VL.call Try.func113 rfl (by decide) rfl (fun w' hw => far_w hw h2 h3) (fun v => ?_)
 refine VL.fact fun e12 => ?_
 subst e12
 refine VL.move rfl ?_
 refine VL.extract rfl rfl ?_
 refine VL.extract rfl rfl ?_
 refine VL.assign rfl ?_
 refine VL.assign rfl ?_
 refine VL.nn ?_
 refine VC.sr ?_
 refine VL.move rfl ?_
 refine VL.conv (by rw [Try.underlying48]; rfl) Try.underlying22 rfl (inr_u64 (by omega)) ?_
 refine VL.add rfl rfl (inr_u64c (by omega) (by omega)) ?_
 refine VL.newv (v' := .int .u64 ((now + 1 : Nat) : Int)) (congrArg (Value.int .u64) (by omega)) ?_
 refine VL.move rfl ?_
 refine VL.conv (by rw [Try.underlying3]; rfl) Try.underlying22 rfl (inr_u64c (by omega) (by omega)) ?_
 refine VL.add rfl rfl (inr_u64c (by omega) (by omega)) ?_
 refine VL.newv (v' := .int .u64 ((now + 1 + farN (servN ((pktR l).getD pkt0).src) (servN ((pktR l).getD pkt0).dst) : Nat) : Int)) (congrArg (Value.int .u64) (by omega)) ?_
 refine VL.min2 rfl rfl ?_
 refine VL.newv (v' := .int .u64 ((min (now + 1 + farN (servN ((pktR l).getD pkt0).src) (servN ((pktR l).getD pkt0).dst)) 4294967295 : Nat) : Int)) (congrArg (Value.int .u64) (by omega)) ?_
 refine VL.assign rfl ?_
 refine VL.nn ?_
 refine VC.seq ?_
 refine VC.turn (G' := Own (⟨w, keys H⟩ :: S) (blk g9 118 pktL (pktV (((pktR l).getD pkt0)) q3 d4 p6 c7) :: H)) (fun _ h => h.subA) ?_
 refine VC.letCells 0 rfl (fun w13 hO15 hF14 => ?_)
 apply VC.anyT2 10 1 (F := [eqF _, lateF (fun v w' => ∃ g c', v = rowV g xs.length c' ∧ Own (⟨w, keys H⟩ :: S) (arow 50 4 parR Mono_par g c' xs :: (H)) w'), eqF _, eqF _, eqF _, eqF _, eqF _, eqF _, eqF _, bytesTF l]) ?gr8 [⟨[], [0]⟩, ⟨[(64, 0)], []⟩, ⟨[], [8]⟩, ⟨[(66, 2)], []⟩, ⟨[], [8]⟩, ⟨[(68, 4)], []⟩, ⟨[], [16]⟩, ⟨[(70, 6)], []⟩, ⟨[], [1]⟩, ⟨[(72, 8), (65, 1)], []⟩] [(65, 1), (67, 3), (69, 5), (71, 7), (73, 9)] [0, 1, 2, 6, 7, 8, 9, 10, 11, 12, 13, 14, 17, 18, 19, 20, 21, 22, 23, 24, 25, 26, 27, 28, 29, 30, 31, 32, 33, 34, 35, 36, 37, 38, 39, 40, 41, 42, 43, 44, 45, 46, 47, 48, 49, 50, 51, 52, 53, 54, 55, 56, 57, 58, 59, 60, 61, 62, 63, 74, 75, 76] rfl (by kernel_rfl) (by kernel_rfl) rfl rfl (by kernel_rfl) (by kernel_rfl) (by kernel_rfl) rfl ?obs8 ?end8
 case gr8 =>
  intro f hf hl7 v w1 w2 hs h
  simp only [List.mem_cons, List.not_mem_nil, or_false] at hf
  rcases hf with rfl | rfl | rfl | rfl | rfl | rfl | rfl | rfl | rfl | rfl <;> first | (cases hl7; done) | skip
  obtain ⟨g, c', e, h2⟩ := h
  exact ⟨g, c', e, h2.later hs⟩
 case obs8 =>
  refine Obs.cons ?_ ?_
  ·refine obS2 (by kernel_rfl) rfl rfl (fun ph8 w8 hO8 => ?_)
   refine VL.move rfl ?_
   exact VL.finS2 hO8 rfl rfl
  refine Obs.cons ?_ ?_
  ·refine obK2 (by kernel_rfl) rfl (fun w8 hO8 => ?_)
   rintro _ rfl
   refine VL.toOwn hO8 ?_
   refine VL.call Try.func110 rfl (by decide) rfl (fun w' hw => clone_p hw (hX.nowA (s := ⟨w, _⟩) Mono_par hw) hl) (fun v => ?_)
   refine VL.at (fun w9 h1w => ?_)
   obtain ⟨g9, c9, rfl, hO9⟩ := h1w
   refine VL.toOwn hO9 ?_
   exact VL.finK2 rfl (fun _ h => h.subA) (fun _ h => ⟨_, _, rfl, h.subA⟩)
  refine Obs.cons ?_ ?_
  ·refine obS2 (by kernel_rfl) rfl rfl (fun ph8 w8 hO8 => ?_)
   refine VL.fieldAddr rfl fo118_0 rfl ?_
   exact VL.finS2 hO8 rfl rfl
  refine Obs.cons ?_ ?_
  ·refine obS2 (by kernel_rfl) rfl rfl (fun ph8 w8 hO8 => ?_)
   rintro _ rfl
   refine VL.loadF (s := ⟨w13, _⟩) (v := .int .u8 (((pktR l).getD pkt0).src)) 0 rfl kd5 hF14 (fun _ e => e ▸ Still.ok hO8 (by repeat (first | exact List.mem_cons_self .. | apply List.mem_cons_of_mem))) rfl rfl ?_
   exact VL.finS2 hO8 rfl rfl
  refine Obs.cons ?_ ?_
  ·refine obS2 (by kernel_rfl) rfl rfl (fun ph8 w8 hO8 => ?_)
   refine VL.fieldAddr rfl fo118_1 rfl ?_
   exact VL.finS2 hO8 rfl rfl
  refine Obs.cons ?_ ?_
  ·refine obS2 (by kernel_rfl) rfl rfl (fun ph8 w8 hO8 => ?_)
   rintro _ rfl
   refine VL.loadF (s := ⟨w13, _⟩) (v := .int .u8 (((pktR l).getD pkt0).dst)) 1 rfl kd5 hF14 (fun _ e => e ▸ Still.ok hO8 (by repeat (first | exact List.mem_cons_self .. | apply List.mem_cons_of_mem))) rfl rfl ?_
   exact VL.finS2 hO8 rfl rfl
  refine Obs.cons ?_ ?_
  ·refine obS2 (by kernel_rfl) rfl rfl (fun ph8 w8 hO8 => ?_)
   refine VL.move rfl ?_
   exact VL.finS2 hO8 rfl rfl
  refine Obs.cons ?_ ?_
  ·refine obS2 (by kernel_rfl) rfl rfl (fun ph8 w8 hO8 => ?_)
   rintro _ rfl
   refine VL.conv (by rw [Try.underlying22]; rfl) Try.underlying48 rfl (by have hlt := hmn; simp only [InR]; omega) ?_
   exact VL.finS2 hO8 rfl rfl
  refine Obs.cons ?_ ?_
  ·refine obS2 (by kernel_rfl) rfl rfl (fun ph8 w8 hO8 => ?_)
   refine VL.move rfl ?_
   exact VL.finS2 hO8 rfl rfl
  refine Obs.cons ?_ ?_
  ·refine obA2 (by kernel_rfl) rfl (by kernel_rfl) (fun w8 hO8 => ?_)
   rintro _ rfl _ ⟨g8, c8, rfl, hR8⟩
   refine VL.call Try.func109 rfl (by decide) rfl (fun w' e => by subst e; exact cloneA hR8 (hA.nowA (s := ⟨w, _⟩) Mono.byte hR8) hb (fun k hk => by rw [keys_cons]; exact List.mem_append_right _ hk)) (fun v => ?_)
   refine VL.at (fun w9 h1w => ?_)
   obtain ⟨p9, c9, rfl, hg9, hB9⟩ := h1w
   exact VL.finA2 hO8 rfl (fun w e => by subst e; exact hg9) (fun w e => by subst e; exact ⟨_, _, rfl, hB9⟩)
  exact Obs.nil
 case end8 =>
  intro w8 hO8
  rintro _ ⟨g8, c8, rfl, hR8⟩ _ rfl _ rfl _ rfl _ ⟨p8, c9, rfl, hB8⟩
  have hB8' := hB8.apart hR8 (by decide)
  refine VL.toOwn hR8 ?_
  refine VL.build (zs := parZ) (L := parFL) [(0, [.int .u8 (((pktR l).getD pkt0).src)]), (1, [.int .u8 (((pktR l).getD pkt0).dst)]), (2, [.int .u32 ((min (now + 1 + farN (servN ((pktR l).getD pkt0).src) (servN ((pktR l).getD pkt0).dst)) 4294967295 : Nat))]), (3, [.slice p8 (l).length c9])] plan50 rfl ⟨⟨rfl, ⟨_, rfl, rfl⟩, rfl⟩, ⟨⟨rfl, ⟨_, rfl, rfl⟩, rfl⟩, ⟨⟨rfl, ⟨_, rfl, rfl⟩, rfl⟩, ⟨⟨rfl, ⟨_, rfl, rfl⟩, rfl⟩, trivial⟩⟩⟩⟩ rfl ?_
  refine VL.newv (v' := .agg (cat (parV ((layP l now)) p8 c9)).toArray) rfl ?_
  refine VL.lit el47 rfl rfl rfl (by intro v hv; simp only [List.mem_singleton] at hv; subst hv; rfl) (by rw [show [Value.agg (cat (parV (layP l now) p8 c9)).toArray].flatMap (·.cells.toList) = (cat (parV (layP l now) p8 c9)) by simp [Value.cells]]; exact parV_ok1 _ _ _) (fun gl => ?_)
  refine VL.letRow parR [(layP l now)] rfl (fun w' hw => one_par (layP_ok l now) (hB8'.nowA (s := ⟨w8, _⟩) Mono.byte hw)) (fun wl hOl hAl => ?_)
  refine VL.appends (R := parR) (hR := Mono_par) (ys := xs) (zs := [(layP l now)]) 0 el47 rfl rfl rfl (fun _ h => h) rfl (fun _ hw => hAl.nowA (s := ⟨wl, _⟩) Mono_par hw) parR_ok1 (by simp only [List.length_cons, List.length_nil]; omega) (fun gv2 cv2 => ?_) (by simp only [List.length_cons, List.length_nil]; omega)
  refine VL.set0 ?_
  refine VL.assign rfl ?_
  refine VL.assign rfl ?_
  refine VL.nn ?_
  refine VC.ret ?_
  refine VX.ret2 rfl rfl rfl (fun we hw => ?_)
  have h7 := hw
  exact ⟨_, _, rfl, h7.drop.subA, h7.letArr⟩

end Go.Proofs.Ytcfecmoagfgnaaa

