/- The statement BagPlays is proved, for every input: part 15 of 19 of the texts that it needs. -/
import Derived.Test.YtcfecmoagfgnaaaMbplAN
/- The four spots: the reference walks. -/
namespace Go.Proofs.Ytcfecmoagfgnaaa
open Go.Vc Go.Pl

def iv (x : Int) : Value := .int .i64 x
def intR : Rel Int := fun _ _ vs x => vs = [iv x]
theorem Mono_int : Mono intR := fun _ _ _ _ _ _ h => h
/-- One row of the numbers' parts: k legs and r more. -/
def col (f : Nat → Nat → Int) : Nat → List Int
  | 0 => []
  | k + 1 => col f k ++ (List.range (long k)).map (f k)
def colr (f : Nat → Nat → Int) (k r : Nat) : List Int := col f k ++ (List.range r).map (f k)
theorem col_length (f : Nat → Nat → Int) : ∀ k, (col f k).length = base k
 | 0 => rfl
 | k + 1 => by rw [col, List.length_append, col_length f k, base_succ]; simp
theorem colr_length (f : Nat → Nat → Int) (k r : Nat) : (colr f k r).length = base k + r := by
 unfold colr; rw [List.length_append, col_length]; simp
theorem colr_next (f : Nat → Nat → Int) (k r : Nat) : colr f k (r + 1) = colr f k r ++ [f k r] := by
 unfold colr; rw [List.range_succ, List.map_append, List.append_assoc]; rfl
theorem colr_zero (f : Nat → Nat → Int) (k : Nat) : colr f k 0 = col f k := by unfold colr; simp
theorem colr_done (f : Nat → Nat → Int) (k : Nat) : colr f k (long k) = colr f (k + 1) 0 := by rw [colr_zero, col]; rfl
theorem col_get (f : Nat → Nat → Int) {k r : Nat} (hr : r < long k) : ∀ {K : Nat}, k < K → (col f K)[base k + r]? = some (f k r)
 | 0, h => by omega
 | K + 1, h => by
  rw [col]
  by_cases e : k = K
  ·subst e
   rw [List.getElem?_append_right (by rw [col_length]; omega), col_length, Nat.add_sub_cancel_left, List.getElem?_map, List.getElem?_range hr]; rfl
  ·have h1 := base_mono (show k + 1 ≤ K by omega)
   have h2 := base_succ k
   rw [List.getElem?_append_left (by rw [col_length]; omega)]
   exact col_get f hr (by omega)
theorem pX_next (k r : Nat) : pX k r + dX k = pX k (r + 1) := by
 unfold pX
 rw [Int.natCast_succ, Int.mul_add, Int.mul_one, Int.add_assoc]
theorem pY_next (k r : Nat) : pY k r + dY k = pY k (r + 1) := by
 unfold pY
 rw [Int.natCast_succ, Int.mul_add, Int.mul_one, Int.add_assoc]
theorem pX_zero (k : Nat) : pX k 0 = cX k := by unfold pX; simp
theorem pY_zero (k : Nat) : pY k 0 = cY k := by unfold pY; simp
theorem dX_small (k : Nat) : -1 ≤ dX k ∧ dX k ≤ 1 := by unfold dX; split <;> (try split) <;> omega
theorem dY_small (k : Nat) : -1 ≤ dY k ∧ dY k ≤ 1 := by unfold dY; split <;> (try split) <;> omega
theorem Arr.ofInts {S : List Snap} {H : List Chunk} {w : World} {g : Option Nat} {m c : Nat} {l : List Int} (h : Own S (row 3 1 g m c (l.map iv) :: H) w) (hm : m = l.length) : Arr 1 intR (keys H) w (g.map fun g => ⟨g, 0, none⟩) l c :=
 h.letGo hm (fun j y hj => by
  have hlt := (List.getElem?_eq_some_iff.1 hj).1
  have e := (List.getElem?_eq_some_iff.1 hj).2
  show _ = _
  rw [Nat.mul_one, List.drop_eq_getElem_cons (by simpa using hlt), List.take_succ_cons, List.take_zero, List.getElem_map, e])

theorem spots_any {S : List Snap} {H : List Chunk} {w : World} (ho : Own S H w)  : Calls Try.prog 159 #[] w (Ret fun v w' => ∃ K p c q d, 4095 < base K ∧ v = .tuple #[.slice p (col pX K).length c, .slice q (col pY K).length d] ∧ Arr 1 intR (keys H) w' p (col pX K) c ∧ Arr 1 intR (keys H) w' q (col pY K) d ∧ Own S H w') := by
 refine enter (G := Own (⟨w, keys H⟩ :: S) H) ho.keep Try.func159 rfl Try.ntmps159 rfl ?_
 refine VC.sr ?_
 refine VL.assign rfl ?_
 refine VL.assign rfl ?_
 refine VL.nn ?_
 refine VC.sr ?_
 refine VL.assign rfl ?_
 refine VL.assign rfl ?_
 refine VL.nn ?_
 refine VC.sr ?_
 refine VL.assign rfl ?_
 refine VL.assign rfl ?_
 refine VL.assign rfl ?_
 refine VL.assign rfl ?_
 refine VL.nn ?_
 refine VC.seq ?_
 refine VC.sr ?_
 refine VL.assign rfl ?_
 refine VL.nn ?_
 refine VC.block ?_
 refine VC.turn (G' := Own (⟨w, keys H⟩ :: S) (row 3 1 none 0 0 [] :: row 3 1 none 0 0 [] :: H)) (fun w' h => (h.row_nil 3 1).row_nil 3 1) ?_
 refine VC.loop (X := Nat × Option Nat × Nat × Option Nat × Nat) (fun (k, gx, c, gy, d) => [(2, rowV gx (base k) c), (3, rowV gy (base k) d), (4, .int .i64 (pX k 0)), (5, .int .i64 (pY k 0)), (6, .int .i64 (dX k)), (7, .int .i64 (dY k)), (8, .int .i64 ((k + 2 : Nat) : Int))]) (fun (k, gx, c, gy, d) w' => (k ≤ 128 ∧ Own (⟨w, keys H⟩ :: S) (row 3 1 gx (base k) c ((colr pX k 0).map iv) :: row 3 1 gy (base k) d ((colr pY k 0).map iv) :: H) w')) (fun (k, _) => 129 - k) (0, none, 0, none, 0) ⟨rfl, rfl, rfl, rfl, rfl, rfl, rfl, trivial⟩ (fun w' h => ⟨by decide, h⟩) (fun (k, gx, c, gy, d) => VC.fact fun hk => ?_)
 ·skip
  refine VC.seq ?_
  refine VC.sr ?_
  refine VL.move rfl ?_
  refine VL.len Try.underlying234 rfl rfl ?_
  refine VL.leq rfl rfl ?_
  refine VL.case (fun h4_2 => ?_) (fun h4_2 => ?_)
  ·have hk2 : k < 128 := leg_lt (n := base k) (r := 0) rfl (by omega)
   refine VL.nn ?_
   refine VC.yes rfl ?_
   refine VC.skip ?_
   refine VX.next ?_
   refine VC.seq ?_
   refine VC.block ?_
   refine VC.seq ?_
   refine VC.sr ?_
   refine VL.assign rfl ?_
   refine VL.nn ?_
   refine VC.block ?_
   refine VC.loop (X := Nat × Option Nat × Nat × Option Nat × Nat) (fun (r, gx, c, gy, d) => [(2, rowV gx (base k + r) c), (3, rowV gy (base k + r) d), (4, .int .i64 (pX k r)), (5, .int .i64 (pY k r)), (6, .int .i64 (dX k)), (7, .int .i64 (dY k)), (8, .int .i64 ((k + 2 : Nat) : Int)), (9, .int .i64 (r : Int))]) (fun (r, gx, c, gy, d) w' => (r ≤ long k ∧ Own (⟨w, keys H⟩ :: S) (row 3 1 gx (base k + r) c ((colr pX k r).map iv) :: row 3 1 gy (base k + r) d ((colr pY k r).map iv) :: H) w')) (fun (r, _) => long k - r) (0, gx, c, gy, d) ⟨rfl, rfl, rfl, rfl, rfl, rfl, rfl, rfl, trivial⟩ (fun w' h => ⟨Nat.zero_le _, h⟩) (fun (r, gx, c, gy, d) => VC.fact fun hr => ?_)
   ·skip
    refine VC.seq ?_
    refine VC.sr ?_
    refine VL.move rfl ?_
    refine VL.move rfl ?_
    refine VL.quo rfl rfl (by omega) (by omega) (by simp only [InR]; omega) ?_
    refine VL.lss rfl rfl ?_
    refine VL.case (fun h7_3 => ?_) (fun h7_3 => ?_)
    ·have hr2 : r < long k := by unfold long; omega
     have hl64 : long k ≤ 64 := by unfold long; omega
     have hx1 := pX_small hk2 (Nat.le_of_lt hr2)
     have hy1 := pY_small hk2 (Nat.le_of_lt hr2)
     have hdx := dX_small k
     have hdy := dY_small k
     refine VL.nn ?_
     refine VC.yes rfl ?_
     refine VC.skip ?_
     refine VX.next ?_
     refine VC.seq ?_
     refine VC.block ?_
     refine VC.sr ?_
     refine VL.move rfl ?_
     refine VL.move rfl ?_
     refine VL.lit el234 rfl rfl rfl (by simp [Value.cells]) (by intro u hu; simp [Value.cells] at hu; subst hu; rfl) (fun gl => ?_)
     refine VL.append 1 el234 rfl rfl rfl rfl (fun _ h => h.rowCells 0 rfl) (by simp [Value.cells]) (by intro u hu; simp [Value.cells] at hu; subst hu; rfl) (by omega) (by omega) (fun g1 c1 => ?_)
     refine VL.turn (fun w' h => h.drop) ?_
     refine VL.assign rfl ?_
     refine VL.nn ?_
     refine VC.sr ?_
     refine VL.move rfl ?_
     refine VL.move rfl ?_
     refine VL.lit el234 rfl rfl rfl (by simp [Value.cells]) (by intro u hu; simp [Value.cells] at hu; subst hu; rfl) (fun gl => ?_)
     refine VL.append 2 el234 rfl rfl rfl rfl (fun _ h => h.rowCells 0 rfl) (by simp [Value.cells]) (by intro u hu; simp [Value.cells] at hu; subst hu; rfl) (by omega) (by omega) (fun g2 c2 => ?_)
     refine VL.turn (fun w' h => h.drop) ?_
     refine VL.assign rfl ?_
     refine VL.nn ?_
     refine VC.sr ?_
     refine VL.move rfl ?_
     refine VL.move rfl ?_
     refine VL.add rfl rfl (by simp only [InR]; omega) ?_
     rw [pX_next]
     refine VL.assign rfl ?_
     refine VL.nn ?_
     refine VC.region ?_
     refine VL.move rfl ?_
     refine VL.move rfl ?_
     refine VL.add rfl rfl (by simp only [InR]; omega) ?_
     rw [pY_next]
     refine VL.assign rfl ?_
     refine VL.nil ?_
     refine VX.block_normal ?_
     refine VX.next ?_
     refine VC.region ?_
     refine VL.move rfl ?_
     refine VL.add rfl rfl (by simp only [InR]; omega) ?_
     refine VL.assign rfl ?_
     refine VL.nil ?_
     refine VX.round (r + 1, g1, c1, g2, c2) ⟨rfl, rfl, rfl, rfl, rfl, rfl, rfl, rfl, trivial⟩ (fun w' h => ⟨by omega, ?_⟩) (by show long k - (r + 1) < long k - r; omega)
     rw [colr_next, colr_next, List.map_append, List.map_append]
     exact h
    ·obtain rfl : r = long k := by unfold long at *; omega
     refine VL.nn ?_
     refine VC.no rfl ?_
     refine VC.exit ?_
     refine VX.then_exit ?_
     refine VX.then_exit ?_
     refine VX.block_here ?_
     refine VX.next ?_
     refine VC.sr ?_
     refine VL.move rfl ?_
     refine VL.assign rfl ?_
     refine VL.nn ?_
     refine VC.sr ?_
     refine VL.move rfl ?_
     refine VL.neg rfl (by have := dY_small k; simp only [InR]; omega) ?_
     refine VL.assign rfl ?_
     refine VL.nn ?_
     refine VC.region ?_
     refine VL.move rfl ?_
     refine VL.assign rfl ?_
     refine VL.nil ?_
     refine VX.block_normal ?_
     refine VX.next ?_
     refine VC.region ?_
     refine VL.move rfl ?_
     refine VL.add rfl rfl (by simp only [InR]; omega) ?_
     refine VL.assign rfl ?_
     refine VL.nil ?_
     have hb := base_succ k
     refine VX.round (k + 1, gx, c, gy, d) ⟨?_, ?_, ?_, ?_, ?_, ?_, ?_, trivial⟩ (fun w' h => ⟨by omega, ?_⟩) (by show 129 - (k + 1) < 129 - k; omega)
     ·show some _ = some _; rw [hb]
     ·show some _ = some _; rw [hb]
     ·show some _ = some _; rw [pX_zero (k + 1), cX_succ]
     ·show some _ = some _; rw [pY_zero (k + 1), cY_succ]
     ·show some _ = some _; rw [dX_succ]
     ·show some _ = some _; rw [dY_succ]
     ·show some _ = some _; congr 2
     ·rw [hb, ← colr_done, ← colr_done]; exact h
  ·refine VL.nn ?_
   refine VC.no rfl ?_
   refine VC.exit ?_
   refine VX.then_exit ?_
   refine VX.then_exit ?_
   refine VX.block_here ?_
   refine VX.next ?_
   refine VC.sr ?_
   refine VL.move rfl ?_
   refine VL.move rfl ?_
   refine VL.assign rfl ?_
   refine VL.assign rfl ?_
   refine VL.nn ?_
   refine VC.ret ?_
   refine VX.ret2 rfl rfl rfl (fun we hw => ?_)
   have hA := Arr.ofInts hw (colr_length pX k 0).symm
   have hw2 := hw.drop.keep
   have hB := Arr.ofInts hw.drop (colr_length pY k 0).symm
   have hA2 := hA.now (s := ⟨we, _⟩) Mono_int hw2.drop (List.mem_cons_self ..)
   rw [colr_zero] at hA2
   rw [colr_zero] at hB
   exact ⟨k, _, c, _, d, by omega, by rw [col_length, col_length]; rfl, hA2, hB, hw.drop.drop.lose⟩

theorem point_any {S : List Snap} {H : List Chunk} {w : World} (ho : Own S H w) (x y : Int) : Calls Try.prog 160 #[.int .i64 x, .int .i64 y] w (Ret fun v w' => v = cx (fi x, fi y) ∧ Own S H w') := by
 refine enter (G := Own S H) ho Try.func160 rfl Try.ntmps160 rfl ?_
 refine VC.sr ?_
 refine VL.assign rfl ?_
 refine VL.nn ?_
 refine VC.sr ?_
 refine VL.move rfl ?_
 refine VL.itof (by rw [Try.underlying3]; rfl) Try.underlying233 rfl ?_
 refine VL.move rfl ?_
 refine VL.itof (by rw [Try.underlying3]; rfl) Try.underlying233 rfl ?_
 refine VL.complex rfl rfl ?_
 refine VL.assign rfl ?_
 refine VL.nn ?_
 refine VC.ret ?_
 refine VX.ret1 rfl rfl (fun we hw => ?_)
 exact ⟨rfl, hw⟩

theorem refspot_any {S : List Snap} {H : List Chunk} {w : World} (ho : Own S H w) {k r : Nat} (hr : r < long k) (hn : base k + r ≤ 4095) : Calls Try.prog 114 #[.int .i64 ((base k + r : Nat) : Int)] w (Ret fun v w' => v = .tuple #[cx (fi (pX k r), fi (pY k r)), .bool true] ∧ Own S H w') := by
 refine enter (G := Own (⟨w, keys H⟩ :: S) H) ho.keep Try.func114 rfl Try.ntmps114 rfl ?_
 refine VC.sr ?_
 refine VL.assign rfl ?_
 refine VL.assign rfl ?_
 refine VL.nn ?_
 refine VC.seq ?_
 refine VC.sr ?_
 refine VL.move rfl ?_
 refine VL.lss rfl rfl ?_
 refine VL.no (by omega) ?_
 refine VL.move rfl ?_
 refine VL.go rfl rfl rfl ?_
 refine VL.move rfl ?_
 refine VL.go rfl rfl rfl ?_
 refine VL.gtr rfl rfl ?_
 refine VL.no (by omega) ?_
 refine VL.pick_f rfl rfl ?_
 refine VL.nn ?_
 refine VC.no rfl ?_
 refine VC.skip ?_
 refine VX.next ?_
 refine VC.sr ?_
 refine VL.call Try.func159 rfl (by decide) rfl (fun w' hw => spots_any hw) (fun v => ?_)
 refine VL.at (fun w1 h1w => ?_)
 obtain ⟨K, p, c, q, d, hK, rfl, hA, hB, hO⟩ := h1w
 have hkK : k < K := by
  by_cases h : k < K
  ·exact h
  ·have := base_mono (show K ≤ k by omega)
   omega
 have hX := col_get pX hr hkK
 have hY := col_get pY hr hkK
 refine VL.toOwn hO ?_
 refine VL.move rfl ?_
 refine VL.extract rfl rfl ?_
 refine VL.extract rfl rfl ?_
 refine VL.assign rfl ?_
 refine VL.assign rfl ?_
 refine VL.nn ?_
 refine VC.seq ?_
 apply VC.anyA 1011 (F := [eqF _, eqF _, eqF _, eqF _, eqF _, eqF _, eqF _, eqF _, eqF _, eqF _, eqF _]) [⟨[], [4]⟩, ⟨[], [0]⟩, ⟨[(16, 0), (17, 1)], []⟩, ⟨[(18, 2)], []⟩, ⟨[], [5]⟩, ⟨[], [0]⟩, ⟨[(20, 4), (21, 5)], []⟩, ⟨[(22, 6)], []⟩, ⟨[(19, 3), (23, 7)], []⟩, ⟨[(24, 8)], []⟩, ⟨[], []⟩] [(2, 9), (3, 10)] [0, 6, 7, 8, 9, 10, 11, 12, 13, 14, 15] rfl (by kernel_rfl) (by kernel_rfl) (by kernel_rfl) (by kernel_rfl) rfl ?obs4 ?end4
 case obs4 =>
  refine Obs.cons ?_ ?_
  ·refine obS (by kernel_rfl) rfl rfl (fun ph4 w4 hO4 => ?_)
   refine VL.move rfl ?_
   exact VL.finS hO4 rfl rfl
  refine Obs.cons ?_ ?_
  ·refine obS (by kernel_rfl) rfl rfl (fun ph4 w4 hO4 => ?_)
   refine VL.move rfl ?_
   exact VL.finS hO4 rfl rfl
  refine Obs.cons ?_ ?_
  ·refine obS (by kernel_rfl) rfl rfl (fun ph4 w4 hO4 => ?_)
   rintro _ rfl _ rfl
   refine VL.index rfl rfl Try.underlying234 sz234 (xs := col pX K) hA (by omega) (by rw [col_length]; omega) ?_
   exact VL.finS hO4 rfl rfl
  refine Obs.cons ?_ ?_
  ·refine ob (by kernel_rfl) rfl (by kernel_rfl) rfl (fun w4 hO4 => ?_)
   rintro _ rfl
   refine VL.elem (s := ⟨w1, keys H⟩) (base k + r) 0 rfl kd3 (fun _ e => e ▸ hO4) (List.mem_cons_self ..) Mono_int hA hX rfl (by decide) (fun vs v hl hr hv => ?_)
   rw [show vs = [iv (pX k r)] from hr] at hv
   simp at hv
   subst hv
   exact VL.finS hO4 rfl rfl
  refine Obs.cons ?_ ?_
  ·refine obS (by kernel_rfl) rfl rfl (fun ph4 w4 hO4 => ?_)
   refine VL.move rfl ?_
   exact VL.finS hO4 rfl rfl
  refine Obs.cons ?_ ?_
  ·refine obS (by kernel_rfl) rfl rfl (fun ph4 w4 hO4 => ?_)
   refine VL.move rfl ?_
   exact VL.finS hO4 rfl rfl
  refine Obs.cons ?_ ?_
  ·refine obS (by kernel_rfl) rfl rfl (fun ph4 w4 hO4 => ?_)
   rintro _ rfl _ rfl
   refine VL.index rfl rfl Try.underlying234 sz234 (xs := col pY K) hB (by omega) (by rw [col_length]; omega) ?_
   exact VL.finS hO4 rfl rfl
  refine Obs.cons ?_ ?_
  ·refine ob (by kernel_rfl) rfl (by kernel_rfl) rfl (fun w4 hO4 => ?_)
   rintro _ rfl
   refine VL.elem (s := ⟨w1, keys H⟩) (base k + r) 0 rfl kd3 (fun _ e => e ▸ hO4) (List.mem_cons_self ..) Mono_int hB hY rfl (by decide) (fun vs v hl hr hv => ?_)
   rw [show vs = [iv (pY k r)] from hr] at hv
   simp at hv
   subst hv
   exact VL.finS hO4 rfl rfl
  refine Obs.cons ?_ ?_
  ·refine ob (by kernel_rfl) rfl (by kernel_rfl) rfl (fun w4 hO4 => ?_)
   rintro _ rfl _ rfl
   refine VL.toOwn hO4 ?_
   refine VL.call Try.func160 rfl (by decide) rfl (fun w' hw => point_any hw _ _) (fun v => ?_)
   refine VL.fact fun e => ?_
   subst e
   exact VL.finO rfl (fun _ h => h) (fun _ h => rfl)
  refine Obs.cons ?_ ?_
  ·refine obS (by kernel_rfl) rfl rfl (fun ph4 w4 hO4 => ?_)
   rintro _ rfl
   refine VL.assign rfl ?_
   exact VL.finS hO4 rfl rfl
  refine Obs.cons ?_ ?_
  ·refine obS (by kernel_rfl) rfl rfl (fun ph4 w4 hO4 => ?_)
   refine VL.assign rfl ?_
   exact VL.finS hO4 rfl rfl
  exact Obs.nil
 case end4 =>
  intro w4 hO4
  rintro _ rfl _ rfl
  refine VX.toOwn hO4 ?_
  refine VX.next ?_
  refine VC.ret ?_
  refine VX.ret2 rfl rfl rfl (fun we hw => ?_)
  exact ⟨rfl, hw.lose.lose.lose⟩

theorem neq_no {x : Nat} (h : fcmp .eql x x = true) : fcmp .neq x x = false := by
 have e : (ford x x == some .eq) = true := h
 show (ford x x != some .eq) = false
 rw [bne, e]; rfl

theorem refspot4 {S : List Snap} {H : List Chunk} {w : World} (ho : Own S H w) (k : Nat) (hk : k < 4) : Calls Try.prog 114 #[.int .i64 (k : Int)] w (Ret fun v w' => v = .tuple #[spotV k, .bool true] ∧ Own S H w') := by
 rcases (show k = 0 ∨ k = 1 ∨ k = 2 ∨ k = 3 by omega) with rfl | rfl | rfl | rfl
 ·exact refspot_any ho (k := 0) (r := 0) (by decide) (by decide)
 ·exact refspot_any ho (k := 1) (r := 0) (by decide) (by decide)
 ·exact refspot_any ho (k := 2) (r := 0) (by decide) (by decide)
 ·exact refspot_any ho (k := 2) (r := 1) (by decide) (by decide)

theorem parts_any {S : List Snap} {H : List Chunk} {w : World} (ho : Own S H w) {x y : Int} (hx : Small x) (hy : Small y) : Calls Try.prog 161 #[cx (fi x, fi y)] w (Ret fun v w' => v = .tuple #[.int .i64 x, .int .i64 y, .bool true] ∧ Own S H w') := by
 refine enter (G := Own S H) ho Try.func161 rfl Try.ntmps161 rfl ?_
 refine VC.sr ?_
 refine VL.assign rfl ?_
 refine VL.assign rfl ?_
 refine VL.assign rfl ?_
 refine VL.nn ?_
 refine VC.sr ?_
 refine VL.move rfl ?_
 refine VL.real rfl ?_
 refine VL.move rfl ?_
 refine VL.imag rfl ?_
 refine VL.assign rfl ?_
 refine VL.assign rfl ?_
 refine VL.nn ?_
 refine VC.seq ?_
 refine VC.sr ?_
 refine VL.move rfl ?_
 refine VL.fcmp (op := .geq) (by decide) rfl rfl hx.ge ?_
 refine VL.move rfl ?_
 refine VL.go rfl rfl rfl ?_
 refine VL.move rfl ?_
 refine VL.go rfl rfl rfl ?_
 refine VL.fcmp (op := .leq) (by decide) rfl rfl hx.le ?_
 refine VL.pick_t rfl rfl ?_
 refine VL.move rfl ?_
 refine VL.go rfl rfl rfl ?_
 refine VL.move rfl ?_
 refine VL.go rfl rfl rfl ?_
 refine VL.fcmp (op := .geq) (by decide) rfl rfl hy.ge ?_
 refine VL.pick_t rfl rfl ?_
 refine VL.move rfl ?_
 refine VL.go rfl rfl rfl ?_
 refine VL.move rfl ?_
 refine VL.go rfl rfl rfl ?_
 refine VL.fcmp (op := .leq) (by decide) rfl rfl hy.le ?_
 refine VL.pick_t rfl rfl ?_
 refine VL.not rfl ?_
 refine VL.nn ?_
 refine VC.no rfl ?_
 refine VC.skip ?_
 refine VX.next ?_
 refine VC.sr ?_
 refine VL.move rfl ?_
 refine VL.ftoi (by rw [Try.underlying233]; rfl) Try.underlying3 rfl hx.whole ?_
 refine VL.move rfl ?_
 refine VL.ftoi (by rw [Try.underlying233]; rfl) Try.underlying3 rfl hy.whole ?_
 refine VL.assign rfl ?_
 refine VL.assign rfl ?_
 refine VL.nn ?_
 refine VC.seq ?_
 refine VC.sr ?_
 refine VL.move rfl ?_
 refine VL.itof (by rw [Try.underlying3]; rfl) Try.underlying233 rfl ?_
 refine VL.move rfl ?_
 refine VL.fcmp (op := .neq) (by decide) rfl rfl (neq_no hx.eq) ?_
 refine VL.move rfl ?_
 refine VL.go rfl rfl rfl ?_
 refine VL.move rfl ?_
 refine VL.go rfl rfl rfl ?_
 refine VL.itof (by rw [Try.underlying3]; rfl) Try.underlying233 rfl ?_
 refine VL.go rfl rfl rfl ?_
 refine VL.move rfl ?_
 refine VL.go rfl rfl rfl ?_
 refine VL.fcmp (op := .neq) (by decide) rfl rfl (neq_no hy.eq) ?_
 refine VL.pick_f rfl rfl ?_
 refine VL.nn ?_
 refine VC.no rfl ?_
 refine VC.skip ?_
 refine VX.next ?_
 refine VC.sr ?_
 refine VL.move rfl ?_
 refine VL.move rfl ?_
 refine VL.assign rfl ?_
 refine VL.assign rfl ?_
 refine VL.assign rfl ?_
 refine VL.nn ?_
 refine VC.ret ?_
 refine VX.ret3 rfl rfl rfl rfl (fun we hw => ?_)
 exact ⟨rfl, hw⟩

theorem abs_any {S : List Snap} {H : List Chunk} {w : World} (ho : Own S H w) {x : Int} (hx : -1000 ≤ x) (hx2 : x ≤ 1000) : Calls Try.prog 162 #[.int .i64 x] w (Ret fun v w' => v = .int .i64 (max x (0 - x)) ∧ Own S H w') := by
 refine enter (G := Own S H) ho Try.func162 rfl Try.ntmps162 rfl ?_
 refine VC.sr ?_
 refine VL.assign rfl ?_
 refine VL.nn ?_
 refine VC.seq ?_
 refine VC.sr ?_
 refine VL.move rfl ?_
 refine VL.lss rfl rfl ?_
 refine VL.case (fun h1 => ?_) (fun h1 => ?_)
 ·refine VL.nn ?_
  refine VC.yes rfl ?_
  refine VC.sr ?_
  refine VL.move rfl ?_
  refine VL.neg rfl (by simp only [InR]; omega) ?_
  refine VL.assign rfl ?_
  refine VL.nn ?_
  refine VC.ret ?_
  refine VX.then_ret ?_
  refine VX.ret1 rfl rfl (fun we hw => ?_)
  exact ⟨congrArg (Value.int .i64) (by omega), hw⟩
 ·refine VL.nn ?_
  refine VC.no rfl ?_
  refine VC.skip ?_
  refine VX.next ?_
  refine VC.sr ?_
  refine VL.move rfl ?_
  refine VL.assign rfl ?_
  refine VL.nn ?_
  refine VC.ret ?_
  refine VX.ret1 rfl rfl (fun we hw => ?_)
  exact ⟨congrArg (Value.int .i64) (by omega), hw⟩

theorem refFar_w {S : List Snap} {H : List Chunk} {w : World} (ho : Own S H w) {i j : Nat} (hi : i < 4) (hj : j < 4) : Calls Try.prog 115 #[spotV i, spotV j] w (Ret fun v w' => v = .tuple #[.int .i64 ((farN i j : Nat) : Int), .bool true] ∧ Own S H w') := by
 have h1 := spot_in i
 have h2 := spot_in j
 refine enter (G := Own S H) ho Try.func115 rfl Try.ntmps115 rfl ?_
 refine VC.sr ?_
 refine VL.assign rfl ?_
 refine VL.assign rfl ?_
 refine VL.nn ?_
 refine VC.sr ?_
 refine VL.move rfl ?_
 refine VL.call Try.func161 rfl (by decide) rfl (fun w' hw => parts_any hw (spX_small i) (spY_small i)) (fun v => ?_)
 refine VL.fact fun ev1 => ?_
 subst ev1
 refine VL.move rfl ?_
 refine VL.extract rfl rfl ?_
 refine VL.extract rfl rfl ?_
 refine VL.extract rfl rfl ?_
 refine VL.assign rfl ?_
 refine VL.assign rfl ?_
 refine VL.assign rfl ?_
 refine VL.nn ?_
 refine VC.sr ?_
 refine VL.move rfl ?_
 refine VL.call Try.func161 rfl (by decide) rfl (fun w' hw => parts_any hw (spX_small j) (spY_small j)) (fun v => ?_)
 refine VL.fact fun ev2 => ?_
 subst ev2
 refine VL.move rfl ?_
 refine VL.extract rfl rfl ?_
 refine VL.extract rfl rfl ?_
 refine VL.extract rfl rfl ?_
 refine VL.assign rfl ?_
 refine VL.assign rfl ?_
 refine VL.assign rfl ?_
 refine VL.nn ?_
 refine VC.seq ?_
 refine VC.sr ?_
 refine VL.move rfl ?_
 refine VL.not rfl ?_
 refine VL.move rfl ?_
 refine VL.go rfl rfl rfl ?_
 refine VL.move rfl ?_
 refine VL.go rfl rfl rfl ?_
 refine VL.not rfl ?_
 refine VL.pick_f rfl rfl ?_
 refine VL.nn ?_
 refine VC.no rfl ?_
 refine VC.skip ?_
 refine VX.next ?_
 refine VC.sr ?_
 refine VL.move rfl ?_
 refine VL.move rfl ?_
 refine VL.sub rfl rfl (by simp only [InR]; omega) ?_
 refine VL.call Try.func162 rfl (by decide) rfl (fun w' hw => abs_any hw (by omega) (by omega)) (fun v => ?_)
 refine VL.fact fun ev3 => ?_
 subst ev3
 refine VL.move rfl ?_
 refine VL.move rfl ?_
 refine VL.sub rfl rfl (by simp only [InR]; omega) ?_
 refine VL.call Try.func162 rfl (by decide) rfl (fun w' hw => abs_any hw (by omega) (by omega)) (fun v => ?_)
 refine VL.fact fun ev4 => ?_
 subst ev4
 refine VL.max2 rfl rfl ?_
 refine newv (v' := .int .i64 ((farN i j : Nat) : Int)) (congrArg (Value.int .i64) (by have := spot_far hi hj; omega)) ?_
 refine VL.assign rfl ?_
 refine VL.assign rfl ?_
 refine VL.nn ?_
 refine VC.ret ?_
 refine VX.ret2 rfl rfl rfl (fun we hw => ?_)
 exact ⟨rfl, hw⟩

end Go.Proofs.Ytcfecmoagfgnaaa

/- bag: the reference: one parcel and another, bags, lay. -/
namespace Go.Proofs.Ytcfecmoagfgnaaa
open Go.Vc Go.Pl

theorem one_w {S : List Snap} {H : List Chunk} {w : World} (ho : Own S H w) {x : Par} (hx : x.ok) {p : Option Addr} {c : Nat} (hA : Bytes (keys H) w p x.bytes c) {p2 : Option Addr} {c2 : Nat} (hB : Bytes (keys H) w p2 x.bytes c2) : Calls Try.prog 45 #[.agg (cat (parV x p c)).toArray, .agg (cat (parV x p2 c2)).toArray] w (Ret fun v w' => v = .bool true ∧ Own S H w') := by
 refine enter (G := Own (⟨w, keys H⟩ :: S) H) ho.keep Try.func45 rfl Try.ntmps45 rfl ?_
 refine VC.sr ?_
 refine VL.box (L := parL) (ps := (parV (x) p c)) rfl rfl (parV_len hx) (fun g1 => ?_)
 refine VL.box (L := parL) (ps := (parV (x) p2 c2)) rfl rfl (parV_len hx) (fun g2 => ?_)
 refine VL.assign rfl ?_
 refine VL.nn ?_
 refine VC.sr ?_
 refine VL.fieldAddr rfl fo50_0 rfl ?_
 refine VL.load (v := .int .u8 (x.src)) 1 0 rfl kd5 (fun _ h => h) rfl rfl rfl ?_
 refine VL.fieldAddr rfl fo50_0 rfl ?_
 refine VL.load (v := .int .u8 (x.src)) 0 0 rfl kd5 (fun _ h => h) rfl rfl rfl ?_
 refine VL.eql rfl rfl ?_
 refine VL.yes (rfl) ?_
 refine VL.move rfl ?_
 refine VL.go rfl rfl rfl ?_
 refine VL.fieldAddr rfl fo50_1 rfl ?_
 refine VL.go rfl rfl rfl ?_
 refine VL.load (v := .int .u8 (x.dst)) 1 1 rfl kd5 (fun _ h => h) rfl rfl rfl ?_
 refine VL.go rfl rfl rfl ?_
 refine VL.fieldAddr rfl fo50_1 rfl ?_
 refine VL.go rfl rfl rfl ?_
 refine VL.load (v := .int .u8 (x.dst)) 0 1 rfl kd5 (fun _ h => h) rfl rfl rfl ?_
 refine VL.go rfl rfl rfl ?_
 refine VL.eql rfl rfl ?_
 refine VL.yes (rfl) ?_
 refine VL.pick_t rfl rfl ?_
 refine VL.move rfl ?_
 refine VL.go rfl rfl rfl ?_
 refine VL.fieldAddr rfl fo50_2 rfl ?_
 refine VL.go rfl rfl rfl ?_
 refine VL.load (v := .int .u32 (x.due)) 1 2 rfl kd48 (fun _ h => h) rfl rfl rfl ?_
 refine VL.go rfl rfl rfl ?_
 refine VL.fieldAddr rfl fo50_2 rfl ?_
 refine VL.go rfl rfl rfl ?_
 refine VL.load (v := .int .u32 (x.due)) 0 2 rfl kd48 (fun _ h => h) rfl rfl rfl ?_
 refine VL.go rfl rfl rfl ?_
 refine VL.eql rfl rfl ?_
 refine VL.yes (rfl) ?_
 refine VL.pick_t rfl rfl ?_
 refine VL.move rfl ?_
 refine VL.go rfl rfl rfl ?_
 refine VL.fieldAddr rfl fo50_3 rfl ?_
 refine VL.go rfl rfl rfl ?_
 refine VL.load (v := .slice p (x.bytes).length c) 1 3 rfl kd24 (fun _ h => h) rfl rfl rfl ?_
 refine VL.go rfl rfl rfl ?_
 refine VL.fieldAddr rfl fo50_3 rfl ?_
 refine VL.go rfl rfl rfl ?_
 refine VL.load (v := .slice p2 (x.bytes).length c2) 0 3 rfl kd24 (fun _ h => h) rfl rfl rfl ?_
 refine VL.go rfl rfl rfl ?_
 refine VL.call Try.func27 rfl (by decide) rfl (fun w' hw => bytes_T hw (hA.nowA (s := ⟨w, _⟩) Mono.byte hw) (hB.nowA (s := ⟨w, _⟩) Mono.byte hw) rfl) (fun v => ?_)
 refine VL.fact fun e3 => ?_
 subst e3
 refine VL.pick_t rfl rfl ?_
 refine VL.assign rfl ?_
 refine VL.nn ?_
 refine VC.ret ?_
 refine VX.ret1 rfl rfl (fun we hw => ?_)
 exact ⟨rfl, hw.drop.drop.subA⟩

/-- A parcel's value, with its slice. -/
def parF {K : List Nat} (y : Par) : SFact K :=
  ⟨fun v w => ∃ p c, v = .agg (cat (parV y p c)).toArray ∧ y.ok ∧ Bytes K w p y.bytes c, false,
   fun _ _ w _ hs ⟨p, c, e, h0, h1⟩ => ⟨p, c, e, h0, Arr.after (s := ⟨w, K⟩) h1 Mono.byte ⟨hs, fun _ hk => .inl hk⟩⟩⟩

theorem sameBags_w {S : List Snap} {H : List Chunk} {w : World} (ho : Own S H w) {xs : List Par} {p : Option Addr} {c : Nat} (hX : Arr 4 parR (keys H) w p xs c) {p2 : Option Addr} {c2 : Nat} (hY : Arr 4 parR (keys H) w p2 xs c2) : Calls Try.prog 47 #[.slice p xs.length c, .slice p2 xs.length c2] w (Ret fun v w' => v = .bool true ∧ Own S H w') := by
 have hsm := hX.small
 refine enter (G := Own (⟨w, keys H⟩ :: S) H) ho.keep Try.func47 rfl Try.ntmps47 rfl ?_
 refine VC.sr ?_
 refine VL.assign rfl ?_
 refine VL.nn ?_
 refine VC.seq ?_
 refine VC.sr ?_
 refine VL.move rfl ?_
 refine VL.len Try.underlying47 rfl rfl ?_
 refine VL.move rfl ?_
 refine VL.len Try.underlying47 rfl rfl ?_
 refine VL.neq rfl rfl ?_
 refine VL.no (by omega) ?_
 refine VL.nn ?_
 refine VC.no rfl ?_
 refine VC.skip ?_
 refine VX.next ?_
 refine VC.seq ?_
 refine VC.sr ?_
 refine VL.assign rfl ?_
 refine VL.nn ?_
 refine VC.block ?_
 refine VC.loop (X := Nat) (fun i => [(0, .slice p xs.length c), (1, .slice p2 xs.length c2), (5, .int .i64 (i : Int))]) (fun i w' => i ≤ xs.length ∧ Own (⟨w, keys H⟩ :: S) H w') (fun i => xs.length - i) 0 ⟨rfl, rfl, rfl, trivial⟩ (fun w' h => ⟨Nat.zero_le _, h.subA⟩) (fun i => VC.fact fun hi => ?_)
 ·skip
  refine VC.seq ?_
  refine VC.sr ?_
  refine VL.move rfl ?_
  refine VL.move rfl ?_
  refine VL.len Try.underlying47 rfl rfl ?_
  refine VL.lss rfl rfl ?_
  refine VL.case (fun h4 => ?_) (fun h4 => ?_)
  ·have hlt : i < xs.length := by omega
   refine VL.nn ?_
   refine VC.yes rfl ?_
   refine VC.skip ?_
   refine VX.next ?_
   refine VC.seq ?_
   refine VC.block ?_
   refine VC.seq ?_
   apply VC.anyTA 8 1010 (F := [eqF _, eqF _, eqF _, parF (xs[i]'hlt), eqF _, eqF _, eqF _, parF (xs[i]'hlt)]) [⟨[], [0]⟩, ⟨[], [5]⟩, ⟨[(17, 0), (18, 1)], []⟩, ⟨[(19, 2)], []⟩, ⟨[], [1]⟩, ⟨[], [5]⟩, ⟨[(21, 4), (22, 5)], []⟩, ⟨[(23, 6)], []⟩] [(20, 3), (24, 7)] [0, 1, 4, 5, 6, 7, 8, 9, 10, 11, 12, 13, 14, 15, 16, 25, 26] rfl (by kernel_rfl) (by kernel_rfl) rfl rfl (by kernel_rfl) (by kernel_rfl) (by kernel_rfl) rfl ?obs6 ?end6
   case obs6 =>
    refine Obs.cons ?_ ?_
    ·refine obS (by kernel_rfl) rfl rfl (fun ph6 w6 hO6 => ?_)
     refine VL.move rfl ?_
     exact VL.finS hO6 rfl rfl
    refine Obs.cons ?_ ?_
    ·refine obS (by kernel_rfl) rfl rfl (fun ph6 w6 hO6 => ?_)
     refine VL.move rfl ?_
     exact VL.finS hO6 rfl rfl
    refine Obs.cons ?_ ?_
    ·refine obS (by kernel_rfl) rfl rfl (fun ph6 w6 hO6 => ?_)
     rintro _ rfl _ rfl
     refine VL.index (xs := xs) rfl rfl Try.underlying47 sz47 hX (by omega) (by have hi := hlt; omega) ?_
     exact VL.finS hO6 rfl rfl
    refine Obs.cons ?_ ?_
    ·refine ob (by kernel_rfl) rfl (by kernel_rfl) rfl (fun w6 hO6 => ?_)
     rintro _ rfl
     refine VL.elems (s := ⟨w, _⟩) (m := 4) (i) 0 rfl kd50 (fun _ e => e ▸ hO6) (by repeat (first | exact List.mem_cons_self .. | apply List.mem_cons_of_mem)) hX (List.getElem?_eq_getElem hlt) (by simp) (by decide) (fun vs hl hr => ?_)
     obtain ⟨p9, c9, hy9, rfl, hA9⟩ := hr
     refine VL.newv (v' := .agg (cat (parV (xs[i]'hlt) p9 c9)).toArray) (by rw [List.drop_zero, List.take_of_length_le (by rw [hl]; decide)]) ?_
     exact VL.finS hO6 rfl ⟨_, _, rfl, hy9, hA9.nowA (s := ⟨w, _⟩) Mono.byte hO6⟩
    refine Obs.cons ?_ ?_
    ·refine obS (by kernel_rfl) rfl rfl (fun ph6 w6 hO6 => ?_)
     refine VL.move rfl ?_
     exact VL.finS hO6 rfl rfl
    refine Obs.cons ?_ ?_
    ·refine obS (by kernel_rfl) rfl rfl (fun ph6 w6 hO6 => ?_)
     refine VL.move rfl ?_
     exact VL.finS hO6 rfl rfl
    refine Obs.cons ?_ ?_
    ·refine obS (by kernel_rfl) rfl rfl (fun ph6 w6 hO6 => ?_)
     rintro _ rfl _ rfl
     refine VL.index (xs := xs) rfl rfl Try.underlying47 sz47 hY (by omega) (by have hi := hlt; omega) ?_
     exact VL.finS hO6 rfl rfl
    refine Obs.cons ?_ ?_
    ·refine ob (by kernel_rfl) rfl (by kernel_rfl) rfl (fun w6 hO6 => ?_)
     rintro _ rfl
     refine VL.elems (s := ⟨w, _⟩) (m := 4) (i) 0 rfl kd50 (fun _ e => e ▸ hO6) (by repeat (first | exact List.mem_cons_self .. | apply List.mem_cons_of_mem)) hY (List.getElem?_eq_getElem hlt) (by simp) (by decide) (fun vs hl hr => ?_)
     obtain ⟨p9, c9, hy9, rfl, hA9⟩ := hr
     refine VL.newv (v' := .agg (cat (parV (xs[i]'hlt) p9 c9)).toArray) (by rw [List.drop_zero, List.take_of_length_le (by rw [hl]; decide)]) ?_
     exact VL.finS hO6 rfl ⟨_, _, rfl, hy9, hA9.nowA (s := ⟨w, _⟩) Mono.byte hO6⟩
    exact Obs.nil
   case end6 =>
    intro w6 hO6
    rintro _ ⟨pa3, ca3, rfl, hya3, hAa3⟩ _ ⟨pa7, ca7, rfl, hya7, hAa7⟩
    refine VL.toOwn hO6 ?_
    refine VL.call Try.func45 rfl (by decide) rfl (fun w' hw => one_w hw hya3 (hAa3.nowA (s := ⟨w6, _⟩) Mono.byte hw) (hAa7.nowA (s := ⟨w6, _⟩) Mono.byte hw)) (fun v => ?_)
    refine VL.fact fun e1 => ?_
    subst e1
    refine VL.not rfl ?_
    refine VL.nn ?_
    refine VC.no rfl ?_
    refine VC.skip ?_
    refine VX.block_normal ?_
    refine VX.next ?_
    refine VC.region ?_
    refine VL.move rfl ?_
    refine VL.add rfl rfl (by simp only [InR]; omega) ?_
    refine VL.assign rfl ?_
    refine VL.nil ?_
    refine VX.round (i + 1) ⟨rfl, rfl, rfl, trivial⟩ (fun w' h => ⟨by omega, h.subA⟩) (by show xs.length - (i + 1) < xs.length - i; omega)
  ·have hie : i = xs.length := by omega
   refine VL.nn ?_
   refine VC.no rfl ?_
   refine VC.exit ?_
   refine VX.then_exit ?_
   refine VX.then_exit ?_
   refine VX.block_here ?_
   refine VX.next ?_
   refine VC.sr ?_
   refine VL.assign rfl ?_
   refine VL.nn ?_
   refine VC.ret ?_
   refine VX.ret1 rfl rfl (fun we hw => ?_)
   exact ⟨rfl, hw.subA⟩

theorem serverW {S : List Snap} {H : List Chunk} {w : World} (ho : Own S H w) (a : Nat) (ha : a < 256) : Calls Try.prog 48 #[.int .u8 (a : Int)] w (Ret fun v w' => v = .tuple #[.int .i64 (servN a : Nat), .bool (decide (servN a < 4))] ∧ Own S H w') := by
 by_cases h : servN a < 4
 ·rw [decide_eq_true h]; exact server_y ho a ha h
 ·rw [decide_eq_false h]; exact server_n ho a ha h

theorem refLay_no1 {S : List Snap} {H : List Chunk} {w : World} (ho : Own S H w) {xs : List Par} {p : Option Addr} {c : Nat} (hX : Arr 4 parR (keys H) w p xs c) (hl : xs.length ≤ 1000) {l : List UInt8} {p1 : Option Addr} {c1 : Nat} (hA : Bytes (keys H) w p1 l c1) {now : Nat} (hnow : now < 4294967296) (h1 : ¬ pktW l = 0) : Calls Try.prog 43 #[.slice p xs.length c, .slice p1 l.length c1, .int .u32 (now : Int)] w (Ret fun v w' => ∃ q d, v = .tuple #[.slice q xs.length d, .bool false] ∧ Own S H w' ∧ Arr 4 parR (keys H) w' q xs d) := by
 refine enter (G := Own (⟨w, keys H⟩ :: S) H) ho.keep Try.func43 rfl Try.ntmps43 rfl ?_
 refine VC.sr ?_
 refine VL.assign rfl ?_
 refine VL.assign rfl ?_
 refine VL.nn ?_
 refine VC.sr ?_
 refine VL.move rfl ?_
 refine VL.call Try.func82 rfl (by decide) rfl (fun w' hw => readPkt_w hw (hA.nowA (s := ⟨w, _⟩) Mono.byte hw)) (fun v => ?_)
 refine VL.at (fun w1 h1w => ?_)
 obtain ⟨q3, d4, p6, c7, rfl, hO2, hB5, hA8⟩ := h1w
 refine VL.toOwn hO2 ?_
 refine VL.move rfl ?_
 refine VL.extract rfl rfl ?_
 refine VL.extract rfl rfl ?_
 refine VL.alloc (L := pktL) (ps := (pktV (pkt0) none 0 none 0)) zero118 rfl rfl (fun g9 => ?_)
 refine VL.store (L := pktL) (qs := (pktV (((pktR l).getD pkt0)) q3 d4 p6 c7)) (ps' := (pktV (((pktR l).getD pkt0)) q3 d4 p6 c7)) 0 0 6 rfl rfl rfl (.inl kd118) rfl rfl (pktV_len (pktR_ok l)) (pktV_ok1 (((pktR l).getD pkt0)) q3 d4 p6 c7) rfl rfl ?_
 refine VL.set0 ?_
 refine VL.assign rfl ?_
 refine VL.nn ?_
 refine VC.sr ?_
 refine VL.fieldAddr rfl fo118_0 rfl ?_
 refine VL.load (v := .int .u8 (((pktR l).getD pkt0).src)) 0 0 rfl kd5 (fun _ h => h) rfl rfl rfl ?_
 refine VL.call Try.func48 rfl (by decide) rfl (fun w' hw => serverW hw (((pktR l).getD pkt0).src) (pktR_ok l).src) (fun v => ?_)
 refine VL.fact fun e10 => ?_
 subst e10
 refine VL.move rfl ?_
 refine VL.extract rfl rfl ?_
 refine VL.extract rfl rfl ?_
 refine VL.assign rfl ?_
 refine VL.assign rfl ?_
 refine VL.nn ?_
 refine VC.sr ?_
 refine VL.fieldAddr rfl fo118_1 rfl ?_
 refine VL.load (v := .int .u8 (((pktR l).getD pkt0).dst)) 0 1 rfl kd5 (fun _ h => h) rfl rfl rfl ?_
 refine VL.call Try.func48 rfl (by decide) rfl (fun w' hw => serverW hw (((pktR l).getD pkt0).dst) (pktR_ok l).dst) (fun v => ?_)
 refine VL.fact fun e11 => ?_
 subst e11
 refine VL.move rfl ?_
 refine VL.extract rfl rfl ?_
 refine VL.extract rfl rfl ?_
 refine VL.assign rfl ?_
 refine VL.assign rfl ?_
 refine VL.nn ?_
 refine VC.seq ?_
 refine VC.sr ?_
 refine VL.move rfl ?_
 refine VL.neq rfl rfl ?_
 refine VL.yes (by omega) ?_
 refine VL.move rfl ?_
 refine VL.pass rfl rfl rfl rfl rfl ?_
 refine VL.pass rfl rfl rfl rfl rfl ?_
 refine VL.pick_t rfl rfl ?_
 refine VL.move rfl ?_
 refine VL.pass rfl rfl rfl rfl rfl ?_
 refine VL.pass rfl rfl rfl rfl rfl ?_
 refine VL.pick_t rfl rfl ?_
 refine VL.move rfl ?_
 refine VL.pass rfl rfl rfl rfl rfl ?_
 refine VL.pass rfl rfl rfl rfl rfl ?_
 refine VL.pass rfl rfl rfl rfl rfl ?_
 refine VL.pick_t rfl rfl ?_
 refine VL.nn ?_
 refine VC.yes rfl ?_
 refine VC.sr ?_
 refine VL.move rfl ?_
 refine VL.assign rfl ?_
 refine VL.assign rfl ?_
 refine VL.nn ?_
 refine VC.ret ?_
 refine VX.then_ret ?_
 refine VX.ret2 rfl rfl rfl (fun we hw => ?_)
 exact ⟨_, _, rfl, hw.drop.subA, (hX.nowA (s := ⟨w, _⟩) Mono_par hw.drop)⟩

theorem refLay_no2 {S : List Snap} {H : List Chunk} {w : World} (ho : Own S H w) {xs : List Par} {p : Option Addr} {c : Nat} (hX : Arr 4 parR (keys H) w p xs c) (hl : xs.length ≤ 1000) {l : List UInt8} {p1 : Option Addr} {c1 : Nat} (hA : Bytes (keys H) w p1 l c1) {now : Nat} (hnow : now < 4294967296) (h1 : pktW l = 0) (h2 : ¬ servN ((pktR l).getD pkt0).src < 4) : Calls Try.prog 43 #[.slice p xs.length c, .slice p1 l.length c1, .int .u32 (now : Int)] w (Ret fun v w' => ∃ q d, v = .tuple #[.slice q xs.length d, .bool false] ∧ Own S H w' ∧ Arr 4 parR (keys H) w' q xs d) := by
 refine enter (G := Own (⟨w, keys H⟩ :: S) H) ho.keep Try.func43 rfl Try.ntmps43 rfl ?_
 refine VC.sr ?_
 refine VL.assign rfl ?_
 refine VL.assign rfl ?_
 refine VL.nn ?_
 refine VC.sr ?_
 refine VL.move rfl ?_
 refine VL.call Try.func82 rfl (by decide) rfl (fun w' hw => readPkt_w hw (hA.nowA (s := ⟨w, _⟩) Mono.byte hw)) (fun v => ?_)
 refine VL.at (fun w1 h1w => ?_)
 obtain ⟨q3, d4, p6, c7, rfl, hO2, hB5, hA8⟩ := h1w
 refine VL.toOwn hO2 ?_
 refine VL.move rfl ?_
 refine VL.extract rfl rfl ?_
 refine VL.extract rfl rfl ?_
 refine VL.alloc (L := pktL) (ps := (pktV (pkt0) none 0 none 0)) zero118 rfl rfl (fun g9 => ?_)
 refine VL.store (L := pktL) (qs := (pktV (((pktR l).getD pkt0)) q3 d4 p6 c7)) (ps' := (pktV (((pktR l).getD pkt0)) q3 d4 p6 c7)) 0 0 6 rfl rfl rfl (.inl kd118) rfl rfl (pktV_len (pktR_ok l)) (pktV_ok1 (((pktR l).getD pkt0)) q3 d4 p6 c7) rfl rfl ?_
 refine VL.set0 ?_
 refine VL.assign rfl ?_
 refine VL.nn ?_
 refine VC.sr ?_
 refine VL.fieldAddr rfl fo118_0 rfl ?_
 refine VL.load (v := .int .u8 (((pktR l).getD pkt0).src)) 0 0 rfl kd5 (fun _ h => h) rfl rfl rfl ?_
 refine VL.call Try.func48 rfl (by decide) rfl (fun w' hw => server_n hw (((pktR l).getD pkt0).src) (pktR_ok l).src h2) (fun v => ?_)
 refine VL.fact fun e10 => ?_
 subst e10
 refine VL.move rfl ?_
 refine VL.extract rfl rfl ?_
 refine VL.extract rfl rfl ?_
 refine VL.assign rfl ?_
 refine VL.assign rfl ?_
 refine VL.nn ?_
 refine VC.sr ?_
 refine VL.fieldAddr rfl fo118_1 rfl ?_
 refine VL.load (v := .int .u8 (((pktR l).getD pkt0).dst)) 0 1 rfl kd5 (fun _ h => h) rfl rfl rfl ?_
 refine VL.call Try.func48 rfl (by decide) rfl (fun w' hw => serverW hw (((pktR l).getD pkt0).dst) (pktR_ok l).dst) (fun v => ?_)
 refine VL.fact fun e11 => ?_
 subst e11
 refine VL.move rfl ?_
 refine VL.extract rfl rfl ?_
 refine VL.extract rfl rfl ?_
 refine VL.assign rfl ?_
 refine VL.assign rfl ?_
 refine VL.nn ?_
 refine VC.seq ?_
 refine VC.sr ?_
 refine VL.move rfl ?_
 refine VL.neq rfl rfl ?_
 refine VL.no (by omega) ?_
 refine VL.move rfl ?_
 refine VL.go rfl rfl rfl ?_
 refine VL.move rfl ?_
 refine VL.go rfl rfl rfl ?_
 refine VL.not rfl ?_
 refine VL.pick_f rfl rfl ?_
 refine VL.move rfl ?_
 refine VL.pass rfl rfl rfl rfl rfl ?_
 refine VL.pass rfl rfl rfl rfl rfl ?_
 refine VL.pick_t rfl rfl ?_
 refine VL.move rfl ?_
 refine VL.pass rfl rfl rfl rfl rfl ?_
 refine VL.pass rfl rfl rfl rfl rfl ?_
 refine VL.pass rfl rfl rfl rfl rfl ?_
 refine VL.pick_t rfl rfl ?_
 refine VL.nn ?_
 refine VC.yes rfl ?_
 refine VC.sr ?_
 refine VL.move rfl ?_
 refine VL.assign rfl ?_
 refine VL.assign rfl ?_
 refine VL.nn ?_
 refine VC.ret ?_
 refine VX.then_ret ?_
 refine VX.ret2 rfl rfl rfl (fun we hw => ?_)
 exact ⟨_, _, rfl, hw.drop.subA, (hX.nowA (s := ⟨w, _⟩) Mono_par hw.drop)⟩

theorem refLay_no3 {S : List Snap} {H : List Chunk} {w : World} (ho : Own S H w) {xs : List Par} {p : Option Addr} {c : Nat} (hX : Arr 4 parR (keys H) w p xs c) (hl : xs.length ≤ 1000) {l : List UInt8} {p1 : Option Addr} {c1 : Nat} (hA : Bytes (keys H) w p1 l c1) {now : Nat} (hnow : now < 4294967296) (h1 : pktW l = 0) (h2 : servN ((pktR l).getD pkt0).src < 4) (h3 : ¬ servN ((pktR l).getD pkt0).dst < 4) : Calls Try.prog 43 #[.slice p xs.length c, .slice p1 l.length c1, .int .u32 (now : Int)] w (Ret fun v w' => ∃ q d, v = .tuple #[.slice q xs.length d, .bool false] ∧ Own S H w' ∧ Arr 4 parR (keys H) w' q xs d) := by
 refine enter (G := Own (⟨w, keys H⟩ :: S) H) ho.keep Try.func43 rfl Try.ntmps43 rfl ?_
 refine VC.sr ?_
 refine VL.assign rfl ?_
 refine VL.assign rfl ?_
 refine VL.nn ?_
 refine VC.sr ?_
 refine VL.move rfl ?_
 refine VL.call Try.func82 rfl (by decide) rfl (fun w' hw => readPkt_w hw (hA.nowA (s := ⟨w, _⟩) Mono.byte hw)) (fun v => ?_)
 refine VL.at (fun w1 h1w => ?_)
 obtain ⟨q3, d4, p6, c7, rfl, hO2, hB5, hA8⟩ := h1w
 refine VL.toOwn hO2 ?_
 refine VL.move rfl ?_
 refine VL.extract rfl rfl ?_
 refine VL.extract rfl rfl ?_
 refine VL.alloc (L := pktL) (ps := (pktV (pkt0) none 0 none 0)) zero118 rfl rfl (fun g9 => ?_)
 refine VL.store (L := pktL) (qs := (pktV (((pktR l).getD pkt0)) q3 d4 p6 c7)) (ps' := (pktV (((pktR l).getD pkt0)) q3 d4 p6 c7)) 0 0 6 rfl rfl rfl (.inl kd118) rfl rfl (pktV_len (pktR_ok l)) (pktV_ok1 (((pktR l).getD pkt0)) q3 d4 p6 c7) rfl rfl ?_
 refine VL.set0 ?_
 refine VL.assign rfl ?_
 refine VL.nn ?_
 refine VC.sr ?_
 refine VL.fieldAddr rfl fo118_0 rfl ?_
 refine VL.load (v := .int .u8 (((pktR l).getD pkt0).src)) 0 0 rfl kd5 (fun _ h => h) rfl rfl rfl ?_
 refine VL.call Try.func48 rfl (by decide) rfl (fun w' hw => server_y hw (((pktR l).getD pkt0).src) (pktR_ok l).src h2) (fun v => ?_)
 refine VL.fact fun e10 => ?_
 subst e10
 refine VL.move rfl ?_
 refine VL.extract rfl rfl ?_
 refine VL.extract rfl rfl ?_
 refine VL.assign rfl ?_
 refine VL.assign rfl ?_
 refine VL.nn ?_
 refine VC.sr ?_
 refine VL.fieldAddr rfl fo118_1 rfl ?_
 refine VL.load (v := .int .u8 (((pktR l).getD pkt0).dst)) 0 1 rfl kd5 (fun _ h => h) rfl rfl rfl ?_
 refine VL.call Try.func48 rfl (by decide) rfl (fun w' hw => server_n hw (((pktR l).getD pkt0).dst) (pktR_ok l).dst h3) (fun v => ?_)
 refine VL.fact fun e11 => ?_
 subst e11
 refine VL.move rfl ?_
 refine VL.extract rfl rfl ?_
 refine VL.extract rfl rfl ?_
 refine VL.assign rfl ?_
 refine VL.assign rfl ?_
 refine VL.nn ?_
 refine VC.seq ?_
 refine VC.sr ?_
 refine VL.move rfl ?_
 refine VL.neq rfl rfl ?_
 refine VL.no (by omega) ?_
 refine VL.move rfl ?_
 refine VL.go rfl rfl rfl ?_
 refine VL.move rfl ?_
 refine VL.go rfl rfl rfl ?_
 refine VL.not rfl ?_
 refine VL.pick_f rfl rfl ?_
 refine VL.move rfl ?_
 refine VL.go rfl rfl rfl ?_
 refine VL.move rfl ?_
 refine VL.go rfl rfl rfl ?_
 refine VL.not rfl ?_
 refine VL.pick_f rfl rfl ?_
 refine VL.move rfl ?_
 refine VL.pass rfl rfl rfl rfl rfl ?_
 refine VL.pass rfl rfl rfl rfl rfl ?_
 refine VL.pass rfl rfl rfl rfl rfl ?_
 refine VL.pick_t rfl rfl ?_
 refine VL.nn ?_
 refine VC.yes rfl ?_
 refine VC.sr ?_
 refine VL.move rfl ?_
 refine VL.assign rfl ?_
 refine VL.assign rfl ?_
 refine VL.nn ?_
 refine VC.ret ?_
 refine VX.then_ret ?_
 refine VX.ret2 rfl rfl rfl (fun we hw => ?_)
 exact ⟨_, _, rfl, hw.drop.subA, (hX.nowA (s := ⟨w, _⟩) Mono_par hw.drop)⟩

theorem refLay_no4 {S : List Snap} {H : List Chunk} {w : World} (ho : Own S H w) {xs : List Par} {p : Option Addr} {c : Nat} (hX : Arr 4 parR (keys H) w p xs c) (hl : xs.length ≤ 1000) {l : List UInt8} {p1 : Option Addr} {c1 : Nat} (hA : Bytes (keys H) w p1 l c1) {now : Nat} (hnow : now < 4294967296) (h1 : pktW l = 0) (h2 : servN ((pktR l).getD pkt0).src < 4) (h3 : servN ((pktR l).getD pkt0).dst < 4) (h4 : 64 ≤ xs.length) : Calls Try.prog 43 #[.slice p xs.length c, .slice p1 l.length c1, .int .u32 (now : Int)] w (Ret fun v w' => ∃ q d, v = .tuple #[.slice q xs.length d, .bool false] ∧ Own S H w' ∧ Arr 4 parR (keys H) w' q xs d) := by
 refine enter (G := Own (⟨w, keys H⟩ :: S) H) ho.keep Try.func43 rfl Try.ntmps43 rfl ?_
 refine VC.sr ?_
 refine VL.assign rfl ?_
 refine VL.assign rfl ?_
 refine VL.nn ?_
 refine VC.sr ?_
 refine VL.move rfl ?_
 refine VL.call Try.func82 rfl (by decide) rfl (fun w' hw => readPkt_w hw (hA.nowA (s := ⟨w, _⟩) Mono.byte hw)) (fun v => ?_)
 refine VL.at (fun w1 h1w => ?_)
 obtain ⟨q3, d4, p6, c7, rfl, hO2, hB5, hA8⟩ := h1w
 refine VL.toOwn hO2 ?_
 refine VL.move rfl ?_
 refine VL.extract rfl rfl ?_
 refine VL.extract rfl rfl ?_
 refine VL.alloc (L := pktL) (ps := (pktV (pkt0) none 0 none 0)) zero118 rfl rfl (fun g9 => ?_)
 refine VL.store (L := pktL) (qs := (pktV (((pktR l).getD pkt0)) q3 d4 p6 c7)) (ps' := (pktV (((pktR l).getD pkt0)) q3 d4 p6 c7)) 0 0 6 rfl rfl rfl (.inl kd118) rfl rfl (pktV_len (pktR_ok l)) (pktV_ok1 (((pktR l).getD pkt0)) q3 d4 p6 c7) rfl rfl ?_
 refine VL.set0 ?_
 refine VL.assign rfl ?_
 refine VL.nn ?_
 refine VC.sr ?_
 refine VL.fieldAddr rfl fo118_0 rfl ?_
 refine VL.load (v := .int .u8 (((pktR l).getD pkt0).src)) 0 0 rfl kd5 (fun _ h => h) rfl rfl rfl ?_
 refine VL.call Try.func48 rfl (by decide) rfl (fun w' hw => server_y hw (((pktR l).getD pkt0).src) (pktR_ok l).src h2) (fun v => ?_)
 refine VL.fact fun e10 => ?_
 subst e10
 refine VL.move rfl ?_
 refine VL.extract rfl rfl ?_
 refine VL.extract rfl rfl ?_
 refine VL.assign rfl ?_
 refine VL.assign rfl ?_
 refine VL.nn ?_
 refine VC.sr ?_
 refine VL.fieldAddr rfl fo118_1 rfl ?_
 refine VL.load (v := .int .u8 (((pktR l).getD pkt0).dst)) 0 1 rfl kd5 (fun _ h => h) rfl rfl rfl ?_
 refine VL.call Try.func48 rfl (by decide) rfl (fun w' hw => server_y hw (((pktR l).getD pkt0).dst) (pktR_ok l).dst h3) (fun v => ?_)
 refine VL.fact fun e11 => ?_
 subst e11
 refine VL.move rfl ?_
 refine VL.extract rfl rfl ?_
 refine VL.extract rfl rfl ?_
 refine VL.assign rfl ?_
 refine VL.assign rfl ?_
 refine VL.nn ?_
 refine VC.seq ?_
 refine VC.sr ?_
 refine VL.move rfl ?_
 refine VL.neq rfl rfl ?_
 refine VL.no (by omega) ?_
 refine VL.move rfl ?_
 refine VL.go rfl rfl rfl ?_
 refine VL.move rfl ?_
 refine VL.go rfl rfl rfl ?_
 refine VL.not rfl ?_
 refine VL.pick_f rfl rfl ?_
 refine VL.move rfl ?_
 refine VL.go rfl rfl rfl ?_
 refine VL.move rfl ?_
 refine VL.go rfl rfl rfl ?_
 refine VL.not rfl ?_
 refine VL.pick_f rfl rfl ?_
 refine VL.move rfl ?_
 refine VL.go rfl rfl rfl ?_
 refine VL.move rfl ?_
 refine VL.go rfl rfl rfl ?_
 refine VL.len Try.underlying47 rfl rfl ?_
 refine VL.go rfl rfl rfl ?_
 refine VL.geq rfl rfl ?_
 refine VL.yes (by omega) ?_
 refine VL.pick_f rfl rfl ?_
 refine VL.nn ?_
 refine VC.yes rfl ?_
 refine VC.sr ?_
 refine VL.move rfl ?_
 refine VL.assign rfl ?_
 refine VL.assign rfl ?_
 refine VL.nn ?_
 refine VC.ret ?_
 refine VX.then_ret ?_
 refine VX.ret2 rfl rfl rfl (fun we hw => ?_)
 exact ⟨_, _, rfl, hw.drop.subA, (hX.nowA (s := ⟨w, _⟩) Mono_par hw.drop)⟩

theorem refLay_yes {S : List Snap} {H : List Chunk} {w : World} (ho : Own S H w) {xs : List Par} {p : Option Addr} {c : Nat} (hX : Arr 4 parR (keys H) w p xs c) (hl : xs.length ≤ 1000) {l : List UInt8} {p1 : Option Addr} {c1 : Nat} (hA : Bytes (keys H) w p1 l c1) {now : Nat} (hnow : now < 4294967296) (h1 : pktW l = 0) (h2 : servN ((pktR l).getD pkt0).src < 4) (h3 : servN ((pktR l).getD pkt0).dst < 4) (h4 : xs.length < 64) : Calls Try.prog 43 #[.slice p xs.length c, .slice p1 l.length c1, .int .u32 (now : Int)] w (Ret fun v w' => ∃ q d, v = .tuple #[.slice q (xs ++ [(layP l now)]).length d, .bool true] ∧ Own S H w' ∧ Arr 4 parR (keys H) w' q (xs ++ [(layP l now)]) d) := by
 have hfn := farN_le (servN ((pktR l).getD pkt0).src) (servN ((pktR l).getD pkt0).dst)
 refine enter (G := Own (⟨w, keys H⟩ :: S) H) ho.keep Try.func43 rfl Try.ntmps43 rfl ?_
 refine VC.sr ?_
 refine VL.assign rfl ?_
 refine VL.assign rfl ?_
 refine VL.nn ?_
 refine VC.sr ?_
 refine VL.move rfl ?_
 refine VL.call Try.func82 rfl (by decide) rfl (fun w' hw => readPkt_w hw (hA.nowA (s := ⟨w, _⟩) Mono.byte hw)) (fun v => ?_)
 refine VL.at (fun w1 h1w => ?_)
 obtain ⟨q3, d4, p6, c7, rfl, hO2, hB5, hA8⟩ := h1w
 refine VL.toOwn hO2 ?_
 refine VL.move rfl ?_
 refine VL.extract rfl rfl ?_
 refine VL.extract rfl rfl ?_
 refine VL.alloc (L := pktL) (ps := (pktV (pkt0) none 0 none 0)) zero118 rfl rfl (fun g9 => ?_)
 refine VL.store (L := pktL) (qs := (pktV (((pktR l).getD pkt0)) q3 d4 p6 c7)) (ps' := (pktV (((pktR l).getD pkt0)) q3 d4 p6 c7)) 0 0 6 rfl rfl rfl (.inl kd118) rfl rfl (pktV_len (pktR_ok l)) (pktV_ok1 (((pktR l).getD pkt0)) q3 d4 p6 c7) rfl rfl ?_
 refine VL.set0 ?_
 refine VL.assign rfl ?_
 refine VL.nn ?_
 refine VC.sr ?_
 refine VL.fieldAddr rfl fo118_0 rfl ?_
 refine VL.load (v := .int .u8 (((pktR l).getD pkt0).src)) 0 0 rfl kd5 (fun _ h => h) rfl rfl rfl ?_
 refine VL.call Try.func48 rfl (by decide) rfl (fun w' hw => server_y hw (((pktR l).getD pkt0).src) (pktR_ok l).src h2) (fun v => ?_)
 refine VL.fact fun e10 => ?_
 subst e10
 refine VL.move rfl ?_
 refine VL.extract rfl rfl ?_
 refine VL.extract rfl rfl ?_
 refine VL.assign rfl ?_
 refine VL.assign rfl ?_
 refine VL.nn ?_
 refine VC.sr ?_
 refine VL.fieldAddr rfl fo118_1 rfl ?_
 refine VL.load (v := .int .u8 (((pktR l).getD pkt0).dst)) 0 1 rfl kd5 (fun _ h => h) rfl rfl rfl ?_
 refine VL.call Try.func48 rfl (by decide) rfl (fun w' hw => server_y hw (((pktR l).getD pkt0).dst) (pktR_ok l).dst h3) (fun v => ?_)
 refine VL.fact fun e11 => ?_
 subst e11
 refine VL.move rfl ?_
 refine VL.extract rfl rfl ?_
 refine VL.extract rfl rfl ?_
 refine VL.assign rfl ?_
 refine VL.assign rfl ?_
 refine VL.nn ?_
 refine VC.seq ?_
 refine VC.sr ?_
 refine VL.move rfl ?_
 refine VL.neq rfl rfl ?_
 refine VL.no (by omega) ?_
 refine VL.move rfl ?_
 refine VL.go rfl rfl rfl ?_
 refine VL.move rfl ?_
 refine VL.go rfl rfl rfl ?_
 refine VL.not rfl ?_
 refine VL.pick_f rfl rfl ?_
 refine VL.move rfl ?_
 refine VL.go rfl rfl rfl ?_
 refine VL.move rfl ?_
 refine VL.go rfl rfl rfl ?_
 refine VL.not rfl ?_
 refine VL.pick_f rfl rfl ?_
 refine VL.move rfl ?_
 refine VL.go rfl rfl rfl ?_
 refine VL.move rfl ?_
 refine VL.go rfl rfl rfl ?_
 refine VL.len Try.underlying47 rfl rfl ?_
 refine VL.go rfl rfl rfl ?_
 refine VL.geq rfl rfl ?_
 refine VL.no (by omega) ?_
 refine VL.pick_f rfl rfl ?_
 refine VL.nn ?_
 refine VC.no rfl ?_
 refine VC.skip ?_
 refine VX.next ?_
 refine VC.sr ?_
 refine VL.move rfl ?_
 refine VL.call Try.func114 rfl (by decide) rfl (fun w' hw => refspot4 hw (servN (((pktR l).getD pkt0).src)) h2) (fun v => ?_)
 refine VL.fact fun e12 => ?_
 subst e12
 refine VL.move rfl ?_
 refine VL.extract rfl rfl ?_
 refine VL.extract rfl rfl ?_
 refine VL.assign rfl ?_
 refine VL.assign rfl ?_
 refine VL.nn ?_
 refine VC.sr ?_
 refine VL.move rfl ?_
 refine VL.call Try.func114 rfl (by decide) rfl (fun w' hw => refspot4 hw (servN (((pktR l).getD pkt0).dst)) h3) (fun v => ?_)
 refine VL.fact fun e13 => ?_
 subst e13
 refine VL.move rfl ?_
 refine VL.extract rfl rfl ?_
 refine VL.extract rfl rfl ?_
 refine VL.assign rfl ?_
 refine VL.assign rfl ?_
 refine VL.nn ?_
 refine VC.sr ?_
 refine VL.move rfl ?_
 refine VL.move rfl ?_
 refine VL.call Try.func115 rfl (by decide) rfl (fun w' hw => refFar_w hw h2 h3) (fun v => ?_)
 refine VL.fact fun e14 => ?_
 subst e14
 refine VL.move rfl ?_
 refine VL.extract rfl rfl ?_
 refine VL.extract rfl rfl ?_
 refine VL.assign rfl ?_
 refine VL.assign rfl ?_
 refine VL.nn ?_
 refine VC.sr ?_
 refine VL.move rfl ?_
 refine VL.conv (by rw [Try.underlying48]; rfl) Try.underlying3 rfl (by simp only [InR]; omega) ?_
 refine VL.add rfl rfl (by simp only [InR]; omega) ?_
 refine VL.newv (v' := .int .i64 ((now + 1 : Nat) : Int)) (congrArg (Value.int .i64) (by omega)) ?_
 refine VL.move rfl ?_
 refine VL.add rfl rfl (by simp only [InR]; omega) ?_
 refine VL.newv (v' := .int .i64 ((now + 1 + farN (servN ((pktR l).getD pkt0).src) (servN ((pktR l).getD pkt0).dst) : Nat) : Int)) (congrArg (Value.int .i64) (by omega)) ?_
 refine VL.assign rfl ?_
 refine VL.nn ?_
 refine VC.seq ?_
 refine VC.sr ?_
 refine VL.move rfl ?_
 refine VL.gtr rfl rfl ?_
 refine VL.case (fun h10 => ?_) (fun h10 => ?_)
 ·have hm7 : min (now + 1 + farN (servN ((pktR l).getD pkt0).src) (servN ((pktR l).getD pkt0).dst)) 4294967295 = 4294967295 := by omega
  refine VL.nn ?_
  refine VC.yes rfl ?_
  refine VC.region ?_
  refine VL.assign rfl ?_
  refine VL.nn ?_
  refine VC.sr ?_
  refine VL.assign rfl ?_
  refine VL.nn ?_
  refine VC.seq ?_
  refine VC.turn (fun w' h => newRowP h) ?_
  refine VC.region ?_
  refine VL.move rfl ?_
  refine VL.move rfl ?_
  refine VL.appends (R := parR) (hR := Mono_par) (ys := ([] : List Par)) (zs := xs) 0 el47 rfl rfl rfl (fun _ h => h) rfl (fun _ hw => hX.nowA (s := ⟨w, _⟩) Mono_par hw) parR_ok1 (by simp only [List.length_nil]; omega) (fun gv1 cv1 => ?_) (by simp only [List.length_nil]; omega)
  refine VL.set0 ?_
  refine VL.assign rfl ?_
  refine VL.nn ?_
  refine VC.sr ?_
  refine VL.move rfl ?_
  refine VL.fieldAddr rfl fo118_0 rfl ?_
  refine VL.load (v := .int .u8 (((pktR l).getD pkt0).src)) 1 0 rfl kd5 (fun _ h => h) rfl rfl rfl ?_
  refine VL.fieldAddr rfl fo118_1 rfl ?_
  refine VL.load (v := .int .u8 (((pktR l).getD pkt0).dst)) 1 1 rfl kd5 (fun _ h => h) rfl rfl rfl ?_
  refine VL.move rfl ?_
  refine VL.conv (by rw [Try.underlying3]; rfl) Try.underlying48 rfl (by simp only [InR]; omega) ?_
  refine VL.newv (v' := .int .u32 ((min (now + 1 + farN (servN ((pktR l).getD pkt0).src) (servN ((pktR l).getD pkt0).dst)) 4294967295 : Nat) : Int)) (congrArg (Value.int .u32) (by omega)) ?_
  refine VL.move rfl ?_
  refine VL.build (zs := parZ) (L := parFL) [(0, [.int .u8 (((pktR l).getD pkt0).src)]), (1, [.int .u8 (((pktR l).getD pkt0).dst)]), (2, [.int .u32 ((min (now + 1 + farN (servN ((pktR l).getD pkt0).src) (servN ((pktR l).getD pkt0).dst)) 4294967295 : Nat))]), (3, [.slice p1 (l).length c1])] plan50 rfl ⟨⟨rfl, ⟨_, rfl, rfl⟩, rfl⟩, ⟨⟨rfl, ⟨_, rfl, rfl⟩, rfl⟩, ⟨⟨rfl, ⟨_, rfl, rfl⟩, rfl⟩, ⟨⟨rfl, ⟨_, rfl, rfl⟩, rfl⟩, trivial⟩⟩⟩⟩ rfl ?_
  refine VL.newv (v' := .agg (cat (parV ((layP l now)) p1 c1)).toArray) rfl ?_
  refine VL.lit el47 rfl rfl rfl (by intro v hv; simp only [List.mem_singleton] at hv; subst hv; rfl) (by rw [show [Value.agg (cat (parV (layP l now) p1 c1)).toArray].flatMap (·.cells.toList) = (cat (parV (layP l now) p1 c1)) by simp [Value.cells]]; exact parV_ok1 _ _ _) (fun gl => ?_)
  refine VL.letRow parR [(layP l now)] rfl (fun w' hw => one_par (layP_ok l now) (hA.nowA (s := ⟨w, _⟩) Mono.byte hw)) (fun wl hOl hAl => ?_)
  refine VL.appends (R := parR) (hR := Mono_par) (ys := xs) (zs := [(layP l now)]) 0 el47 rfl rfl rfl (fun _ h => h) rfl (fun _ hw => hAl.nowA (s := ⟨wl, _⟩) Mono_par hw) parR_ok1 (by simp only [List.length_cons, List.length_nil]; omega) (fun gv2 cv2 => ?_) (by simp only [List.length_cons, List.length_nil]; omega)
  refine VL.set0 ?_
  refine VL.assign rfl ?_
  refine VL.assign rfl ?_
  refine VL.nn ?_
  refine VC.ret ?_
  refine VX.ret2 rfl rfl rfl (fun we hw => ?_)
  have h7 := (ownDropK 1 hw)
  exact ⟨_, _, rfl, h7.drop.subA, h7.letArr⟩
 ·have hm7 : min (now + 1 + farN (servN ((pktR l).getD pkt0).src) (servN ((pktR l).getD pkt0).dst)) 4294967295 = now + 1 + farN (servN ((pktR l).getD pkt0).src) (servN ((pktR l).getD pkt0).dst) := by omega
  refine VL.nn ?_
  refine VC.no rfl ?_
  refine VC.skip ?_
  refine VX.next ?_
  refine VC.sr ?_
  refine VL.assign rfl ?_
  refine VL.nn ?_
  refine VC.seq ?_
  refine VC.turn (fun w' h => newRowP h) ?_
  refine VC.region ?_
  refine VL.move rfl ?_
  refine VL.move rfl ?_
  refine VL.appends (R := parR) (hR := Mono_par) (ys := ([] : List Par)) (zs := xs) 0 el47 rfl rfl rfl (fun _ h => h) rfl (fun _ hw => hX.nowA (s := ⟨w, _⟩) Mono_par hw) parR_ok1 (by simp only [List.length_nil]; omega) (fun gv1 cv1 => ?_) (by simp only [List.length_nil]; omega)
  refine VL.set0 ?_
  refine VL.assign rfl ?_
  refine VL.nn ?_
  refine VC.sr ?_
  refine VL.move rfl ?_
  refine VL.fieldAddr rfl fo118_0 rfl ?_
  refine VL.load (v := .int .u8 (((pktR l).getD pkt0).src)) 1 0 rfl kd5 (fun _ h => h) rfl rfl rfl ?_
  refine VL.fieldAddr rfl fo118_1 rfl ?_
  refine VL.load (v := .int .u8 (((pktR l).getD pkt0).dst)) 1 1 rfl kd5 (fun _ h => h) rfl rfl rfl ?_
  refine VL.move rfl ?_
  refine VL.conv (by rw [Try.underlying3]; rfl) Try.underlying48 rfl (by simp only [InR]; omega) ?_
  refine VL.newv (v' := .int .u32 ((min (now + 1 + farN (servN ((pktR l).getD pkt0).src) (servN ((pktR l).getD pkt0).dst)) 4294967295 : Nat) : Int)) (congrArg (Value.int .u32) (by omega)) ?_
  refine VL.move rfl ?_
  refine VL.build (zs := parZ) (L := parFL) [(0, [.int .u8 (((pktR l).getD pkt0).src)]), (1, [.int .u8 (((pktR l).getD pkt0).dst)]), (2, [.int .u32 ((min (now + 1 + farN (servN ((pktR l).getD pkt0).src) (servN ((pktR l).getD pkt0).dst)) 4294967295 : Nat))]), (3, [.slice p1 (l).length c1])] plan50 rfl ⟨⟨rfl, ⟨_, rfl, rfl⟩, rfl⟩, ⟨⟨rfl, ⟨_, rfl, rfl⟩, rfl⟩, ⟨⟨rfl, ⟨_, rfl, rfl⟩, rfl⟩, ⟨⟨rfl, ⟨_, rfl, rfl⟩, rfl⟩, trivial⟩⟩⟩⟩ rfl ?_
  refine VL.newv (v' := .agg (cat (parV ((layP l now)) p1 c1)).toArray) rfl ?_
  refine VL.lit el47 rfl rfl rfl (by intro v hv; simp only [List.mem_singleton] at hv; subst hv; rfl) (by rw [show [Value.agg (cat (parV (layP l now) p1 c1)).toArray].flatMap (·.cells.toList) = (cat (parV (layP l now) p1 c1)) by simp [Value.cells]]; exact parV_ok1 _ _ _) (fun gl => ?_)
  refine VL.letRow parR [(layP l now)] rfl (fun w' hw => one_par (layP_ok l now) (hA.nowA (s := ⟨w, _⟩) Mono.byte hw)) (fun wl hOl hAl => ?_)
  refine VL.appends (R := parR) (hR := Mono_par) (ys := xs) (zs := [(layP l now)]) 0 el47 rfl rfl rfl (fun _ h => h) rfl (fun _ hw => hAl.nowA (s := ⟨wl, _⟩) Mono_par hw) parR_ok1 (by simp only [List.length_cons, List.length_nil]; omega) (fun gv2 cv2 => ?_) (by simp only [List.length_cons, List.length_nil]; omega)
  refine VL.set0 ?_
  refine VL.assign rfl ?_
  refine VL.assign rfl ?_
  refine VL.nn ?_
  refine VC.ret ?_
  refine VX.ret2 rfl rfl rfl (fun we hw => ?_)
  have h7 := (ownDropK 1 hw)
  exact ⟨_, _, rfl, h7.drop.subA, h7.letArr⟩

end Go.Proofs.Ytcfecmoagfgnaaa

