/- The spiral: the reference walks, the examples. -/
import Derived.Test.YtmhmhdnbobllfaaSpo2
import Derived.Test.YtmhmhdnbobllfaaVcAny
import Derived.Test.YtmhmhdnbobllfaaVcSet
namespace Go.Proofs.Ytmhmhdnbobllfaa
open Go.Vc Go.Pl

def iv (x : Int) : Value := .int .i64 x
def intR : Rel Int := fun _ _ vs x => vs = [iv x]
theorem Mono_int : Mono intR := fun _ _ _ _ _ _ h => h
/-- One row of the numbers' parts: k legs and r more. -/
def col (f : Nat → Nat → Int) : Nat → List Int
  | 0 => []
  | k + 1 => col f k ++ (List.range (long k)).map (f k)
def colr (f : Nat → Nat → Int) (k r : Nat) : List Int := col f k ++ (List.range r).map (f k)
theorem col_length (f : Nat → Nat → Int) : ∀ k, (col f k).length = base k
  | 0 => rfl
  | k + 1 => by rw [col, List.length_append, col_length f k, base_succ]; simp
theorem colr_length (f : Nat → Nat → Int) (k r : Nat) : (colr f k r).length = base k + r := by
  unfold colr; rw [List.length_append, col_length]; simp
theorem colr_next (f : Nat → Nat → Int) (k r : Nat) : colr f k (r + 1) = colr f k r ++ [f k r] := by
  unfold colr; rw [List.range_succ, List.map_append, List.append_assoc]; rfl
theorem colr_zero (f : Nat → Nat → Int) (k : Nat) : colr f k 0 = col f k := by unfold colr; simp
theorem colr_done (f : Nat → Nat → Int) (k : Nat) : colr f k (long k) = colr f (k + 1) 0 := by rw [colr_zero, col]; rfl
theorem col_get (f : Nat → Nat → Int) {k r : Nat} (hr : r < long k) : ∀ {K : Nat}, k < K → (col f K)[base k + r]? = some (f k r)
  | 0, h => by omega
  | K + 1, h => by
    rw [col]
    by_cases e : k = K
    · subst e
      rw [List.getElem?_append_right (by rw [col_length]; omega), col_length, Nat.add_sub_cancel_left, List.getElem?_map, List.getElem?_range hr]; rfl
    · have h1 := base_mono (show k + 1 ≤ K by omega)
      have h2 := base_succ k
      rw [List.getElem?_append_left (by rw [col_length]; omega)]
      exact col_get f hr (by omega)
theorem pX_next (k r : Nat) : pX k r + dX k = pX k (r + 1) := by
  unfold pX
  rw [Int.natCast_succ, Int.mul_add, Int.mul_one, Int.add_assoc]
theorem pY_next (k r : Nat) : pY k r + dY k = pY k (r + 1) := by
  unfold pY
  rw [Int.natCast_succ, Int.mul_add, Int.mul_one, Int.add_assoc]
theorem pX_zero (k : Nat) : pX k 0 = cX k := by unfold pX; simp
theorem pY_zero (k : Nat) : pY k 0 = cY k := by unfold pY; simp
theorem dX_small (k : Nat) : -1 ≤ dX k ∧ dX k ≤ 1 := by unfold dX; split <;> (try split) <;> omega
theorem dY_small (k : Nat) : -1 ≤ dY k ∧ dY k ≤ 1 := by unfold dY; split <;> (try split) <;> omega
theorem ok1_ints (l : List Int) : ok1 (l.map iv) := fun v hv => by
  obtain ⟨b, _, rfl⟩ := List.mem_map.1 hv
  rfl
theorem Arr.ofInts {S : List Snap} {H : List Chunk} {w : World} {g : Option Nat} {m c : Nat} {l : List Int} (h : Own S (row 3 1 g m c (l.map iv) :: H) w) (hm : m = l.length) : Arr 1 intR (keys H) w (g.map fun g => ⟨g, 0, none⟩) l c :=
  h.letGo hm (fun j y hj => by
    have hlt := (List.getElem?_eq_some_iff.1 hj).1
    have e := (List.getElem?_eq_some_iff.1 hj).2
    show _ = _
    rw [Nat.mul_one, List.drop_eq_getElem_cons (by simpa using hlt), List.take_succ_cons, List.take_zero, List.getElem_map, e])

theorem spots_any {S : List Snap} {H : List Chunk} {w : World} (ho : Own S H w)  : Calls Try.prog 13 #[] w (Ret fun v w' => ∃ K p c q d, 4095 < base K ∧ v = .tuple #[.slice p (col pX K).length c, .slice q (col pY K).length d] ∧ Arr 1 intR (keys H) w' p (col pX K) c ∧ Arr 1 intR (keys H) w' q (col pY K) d ∧ Own S H w') := by
  refine enter (G := Own (⟨w, keys H⟩ :: S) H) ho.keep Try.func13 rfl Try.ntmps13 rfl ?_
  refine VC.seq ?_
  refine VC.region ?_
  refine VL.assign rfl ?_
  refine VL.assign rfl ?_
  refine VL.nil ?_
  refine VX.next ?_
  refine VC.seq ?_
  refine VC.region ?_
  refine VL.assign rfl ?_
  refine VL.assign rfl ?_
  refine VL.nil ?_
  refine VX.next ?_
  refine VC.seq ?_
  refine VC.region ?_
  refine VL.assign rfl ?_
  refine VL.assign rfl ?_
  refine VL.assign rfl ?_
  refine VL.assign rfl ?_
  refine VL.nil ?_
  refine VX.next ?_
  refine VC.seq ?_
  refine VC.seq ?_
  refine VC.region ?_
  refine VL.assign rfl ?_
  refine VL.nil ?_
  refine VX.next ?_
  refine VC.block ?_
  refine VC.turn (G' := Own (⟨w, keys H⟩ :: S) (row 3 1 none 0 0 [] :: row 3 1 none 0 0 [] :: H)) (fun w' h => (h.row_nil 3 1).row_nil 3 1) ?_
  refine VC.loop (X := Nat × Option Nat × Nat × Option Nat × Nat) (fun (k, gx, c, gy, d) => [(2, rowV gx (base k) c), (3, rowV gy (base k) d), (4, .int .i64 (pX k 0)), (5, .int .i64 (pY k 0)), (6, .int .i64 (dX k)), (7, .int .i64 (dY k)), (8, .int .i64 ((k + 2 : Nat) : Int))]) (fun (k, gx, c, gy, d) w' => (k ≤ 128 ∧ Own (⟨w, keys H⟩ :: S) (row 3 1 gx (base k) c ((colr pX k 0).map iv) :: row 3 1 gy (base k) d ((colr pY k 0).map iv) :: H) w')) (fun (k, _) => 129 - k) (0, none, 0, none, 0) ⟨rfl, rfl, rfl, rfl, rfl, rfl, rfl, trivial⟩ (fun w' h => ⟨by decide, h⟩) (fun (k, gx, c, gy, d) => VC.fact fun hk => ?_)
  · skip
    refine VC.seq ?_
    refine VC.seq ?_
    refine VC.region ?_
    refine VL.move rfl ?_
    refine VL.len Try.underlying34 rfl rfl ?_
    refine VL.leq rfl rfl ?_
    refine VL.case (fun h4_2 => ?_) (fun h4_2 => ?_)
    · have hk2 : k < 128 := leg_lt (n := base k) (r := 0) rfl (by omega)
      refine VL.nil ?_
      refine VX.next ?_
      refine VC.yes rfl ?_
      refine VC.skip ?_
      refine VX.next ?_
      refine VC.seq ?_
      refine VC.block ?_
      refine VC.seq ?_
      refine VC.seq ?_
      refine VC.region ?_
      refine VL.assign rfl ?_
      refine VL.nil ?_
      refine VX.next ?_
      refine VC.block ?_
      refine VC.loop (X := Nat × Option Nat × Nat × Option Nat × Nat) (fun (r, gx, c, gy, d) => [(2, rowV gx (base k + r) c), (3, rowV gy (base k + r) d), (4, .int .i64 (pX k r)), (5, .int .i64 (pY k r)), (6, .int .i64 (dX k)), (7, .int .i64 (dY k)), (8, .int .i64 ((k + 2 : Nat) : Int)), (9, .int .i64 (r : Int))]) (fun (r, gx, c, gy, d) w' => (r ≤ long k ∧ Own (⟨w, keys H⟩ :: S) (row 3 1 gx (base k + r) c ((colr pX k r).map iv) :: row 3 1 gy (base k + r) d ((colr pY k r).map iv) :: H) w')) (fun (r, _) => long k - r) (0, gx, c, gy, d) ⟨rfl, rfl, rfl, rfl, rfl, rfl, rfl, rfl, trivial⟩ (fun w' h => ⟨Nat.zero_le _, h⟩) (fun (r, gx, c, gy, d) => VC.fact fun hr => ?_)
      · skip
        refine VC.seq ?_
        refine VC.seq ?_
        refine VC.region ?_
        refine VL.move rfl ?_
        refine VL.move rfl ?_
        refine VL.quo rfl rfl (by omega) (by omega) (by simp only [InR]; omega) ?_
        refine VL.lss rfl rfl ?_
        refine VL.case (fun h7_3 => ?_) (fun h7_3 => ?_)
        · have hr2 : r < long k := by unfold long; omega
          have hl64 : long k ≤ 64 := by unfold long; omega
          have hx1 := pX_small hk2 (Nat.le_of_lt hr2)
          have hy1 := pY_small hk2 (Nat.le_of_lt hr2)
          have hdx := dX_small k
          have hdy := dY_small k
          refine VL.nil ?_
          refine VX.next ?_
          refine VC.yes rfl ?_
          refine VC.skip ?_
          refine VX.next ?_
          refine VC.seq ?_
          refine VC.block ?_
          refine VC.seq ?_
          refine VC.region ?_
          refine VL.move rfl ?_
          refine VL.move rfl ?_
          refine VL.lit el34 rfl rfl rfl (by simp [Value.cells]) (by intro u hu; simp [Value.cells] at hu; subst hu; rfl) (fun gl => ?_)
          refine VL.append 1 el34 rfl rfl rfl rfl (fun _ h => h.rowCells 0 rfl) (by simp [Value.cells]) (by intro u hu; simp [Value.cells] at hu; subst hu; rfl) (by omega) (by omega) (fun g1 c1 => ?_)
          refine VL.turn (fun w' h => h.drop) ?_
          refine VL.assign rfl ?_
          refine VL.nil ?_
          refine VX.next ?_
          refine VC.seq ?_
          refine VC.region ?_
          refine VL.move rfl ?_
          refine VL.move rfl ?_
          refine VL.lit el34 rfl rfl rfl (by simp [Value.cells]) (by intro u hu; simp [Value.cells] at hu; subst hu; rfl) (fun gl => ?_)
          refine VL.append 2 el34 rfl rfl rfl rfl (fun _ h => h.rowCells 0 rfl) (by simp [Value.cells]) (by intro u hu; simp [Value.cells] at hu; subst hu; rfl) (by omega) (by omega) (fun g2 c2 => ?_)
          refine VL.turn (fun w' h => h.drop) ?_
          refine VL.assign rfl ?_
          refine VL.nil ?_
          refine VX.next ?_
          refine VC.seq ?_
          refine VC.region ?_
          refine VL.move rfl ?_
          refine VL.move rfl ?_
          refine VL.add rfl rfl (by simp only [InR]; omega) ?_
          rw [pX_next]
          refine VL.assign rfl ?_
          refine VL.nil ?_
          refine VX.next ?_
          refine VC.region ?_
          refine VL.move rfl ?_
          refine VL.move rfl ?_
          refine VL.add rfl rfl (by simp only [InR]; omega) ?_
          rw [pY_next]
          refine VL.assign rfl ?_
          refine VL.nil ?_
          refine VX.block_normal ?_
          refine VX.next ?_
          refine VC.region ?_
          refine VL.move rfl ?_
          refine VL.add rfl rfl (by simp only [InR]; omega) ?_
          refine VL.assign rfl ?_
          refine VL.nil ?_
          refine VX.round (r + 1, g1, c1, g2, c2) ⟨rfl, rfl, rfl, rfl, rfl, rfl, rfl, rfl, trivial⟩ (fun w' h => ⟨by omega, ?_⟩) (by show long k - (r + 1) < long k - r; omega)
          rw [colr_next, colr_next, List.map_append, List.map_append]
          exact h
        · obtain rfl : r = long k := by unfold long at *; omega
          refine VL.nil ?_
          refine VX.next ?_
          refine VC.no rfl ?_
          refine VC.exit ?_
          refine VX.then_exit ?_
          refine VX.then_exit ?_
          refine VX.block_here ?_
          refine VX.next ?_
          refine VC.seq ?_
          refine VC.region ?_
          refine VL.move rfl ?_
          refine VL.assign rfl ?_
          refine VL.nil ?_
          refine VX.next ?_
          refine VC.seq ?_
          refine VC.region ?_
          refine VL.move rfl ?_
          refine VL.neg rfl (by have := dY_small k; simp only [InR]; omega) ?_
          refine VL.assign rfl ?_
          refine VL.nil ?_
          refine VX.next ?_
          refine VC.region ?_
          refine VL.move rfl ?_
          refine VL.assign rfl ?_
          refine VL.nil ?_
          refine VX.block_normal ?_
          refine VX.next ?_
          refine VC.region ?_
          refine VL.move rfl ?_
          refine VL.add rfl rfl (by simp only [InR]; omega) ?_
          refine VL.assign rfl ?_
          refine VL.nil ?_
          have hb := base_succ k
          refine VX.round (k + 1, gx, c, gy, d) ⟨?_, ?_, ?_, ?_, ?_, ?_, ?_, trivial⟩ (fun w' h => ⟨by omega, ?_⟩) (by show 129 - (k + 1) < 129 - k; omega)
          · show some _ = some _; rw [hb]
          · show some _ = some _; rw [hb]
          · show some _ = some _; rw [pX_zero (k + 1), cX_succ]
          · show some _ = some _; rw [pY_zero (k + 1), cY_succ]
          · show some _ = some _; rw [dX_succ]
          · show some _ = some _; rw [dY_succ]
          · show some _ = some _; congr 2
          · rw [hb, ← colr_done, ← colr_done]; exact h
    · refine VL.nil ?_
      refine VX.next ?_
      refine VC.no rfl ?_
      refine VC.exit ?_
      refine VX.then_exit ?_
      refine VX.then_exit ?_
      refine VX.block_here ?_
      refine VX.next ?_
      refine VC.seq ?_
      refine VC.region ?_
      refine VL.move rfl ?_
      refine VL.move rfl ?_
      refine VL.assign rfl ?_
      refine VL.assign rfl ?_
      refine VL.nil ?_
      refine VX.next ?_
      refine VC.ret ?_
      refine VX.ret2 rfl rfl rfl (fun we hw => ?_)
      have hA := Arr.ofInts hw (colr_length pX k 0).symm
      have hw2 := hw.drop.keep
      have hB := Arr.ofInts hw.drop (colr_length pY k 0).symm
      have hA2 := hA.now (s := ⟨we, _⟩) Mono_int hw2.drop (List.mem_cons_self ..)
      rw [colr_zero] at hA2
      rw [colr_zero] at hB
      exact ⟨k, _, c, _, d, by omega, by rw [col_length, col_length]; rfl, hA2, hB, hw.drop.drop.lose⟩

theorem refspot_any {S : List Snap} {H : List Chunk} {w : World} (ho : Own S H w) {k r : Nat} (hr : r < long k) (hn : base k + r ≤ 4095) : Calls Try.prog 7 #[.int .i64 ((base k + r : Nat) : Int)] w (Ret fun v w' => v = .tuple #[cx (fi (pX k r), fi (pY k r)), .bool true] ∧ Own S H w') := by
  refine enter (G := Own (⟨w, keys H⟩ :: S) H) ho.keep Try.func7 rfl Try.ntmps7 rfl ?_
  refine VC.seq ?_
  refine VC.region ?_
  refine VL.assign rfl ?_
  refine VL.assign rfl ?_
  refine VL.nil ?_
  refine VX.next ?_
  refine VC.seq ?_
  refine VC.seq ?_
  refine VC.region ?_
  refine VL.move rfl ?_
  refine VL.lss rfl rfl ?_
  refine VL.no (by omega) ?_
  refine VL.move rfl ?_
  refine VL.go rfl rfl rfl ?_
  refine VL.move rfl ?_
  refine VL.go rfl rfl rfl ?_
  refine VL.gtr rfl rfl ?_
  refine VL.no (by omega) ?_
  refine VL.pick_f rfl rfl ?_
  refine VL.nil ?_
  refine VX.next ?_
  refine VC.no rfl ?_
  refine VC.skip ?_
  refine VX.next ?_
  refine VC.seq ?_
  refine VC.region ?_
  refine VL.call Try.func13 rfl (by decide) rfl (fun w' hw => spots_any hw) (fun v => ?_)
  refine VL.at (fun w1 h1w => ?_)
  obtain ⟨K, p, c, q, d, hK, rfl, hA, hB, hO⟩ := h1w
  have hkK : k < K := by
    by_cases h : k < K
    · exact h
    · have := base_mono (show K ≤ k by omega)
      omega
  have hX := col_get pX hr hkK
  have hY := col_get pY hr hkK
  refine VL.toOwn hO ?_
  refine VL.move rfl ?_
  refine VL.extract rfl rfl ?_
  refine VL.extract rfl rfl ?_
  refine VL.assign rfl ?_
  refine VL.assign rfl ?_
  refine VL.nil ?_
  refine VX.next ?_
  refine VC.seq ?_
  apply VC.anyA 1011 (F := [eqF _, eqF _, eqF _, eqF _, eqF _, eqF _, eqF _, eqF _, eqF _, eqF _, eqF _]) [⟨[], [4]⟩, ⟨[], [0]⟩, ⟨[(16, 0), (17, 1)], []⟩, ⟨[(18, 2)], []⟩, ⟨[], [5]⟩, ⟨[], [0]⟩, ⟨[(20, 4), (21, 5)], []⟩, ⟨[(22, 6)], []⟩, ⟨[(19, 3), (23, 7)], []⟩, ⟨[(24, 8)], []⟩, ⟨[], []⟩] [(2, 9), (3, 10)] [0, 6, 7, 8, 9, 10, 11, 12, 13, 14, 15] rfl (by kernel_rfl) (by kernel_rfl) (by kernel_rfl) (by kernel_rfl) rfl ?obs4 ?end4
  case obs4 =>
    refine Obs.cons ?_ ?_
    · refine obS (by kernel_rfl) rfl rfl (fun ph4 w4 hO4 => ?_)
      refine VL.move rfl ?_
      exact VL.finS hO4 rfl rfl
    refine Obs.cons ?_ ?_
    · refine obS (by kernel_rfl) rfl rfl (fun ph4 w4 hO4 => ?_)
      refine VL.move rfl ?_
      exact VL.finS hO4 rfl rfl
    refine Obs.cons ?_ ?_
    · refine obS (by kernel_rfl) rfl rfl (fun ph4 w4 hO4 => ?_)
      rintro _ rfl _ rfl
      refine VL.index rfl rfl Try.underlying34 sz34 (xs := col pX K) hA (by omega) (by rw [col_length]; omega) ?_
      exact VL.finS hO4 rfl rfl
    refine Obs.cons ?_ ?_
    · refine ob (by kernel_rfl) rfl (by kernel_rfl) rfl (fun w4 hO4 => ?_)
      rintro _ rfl
      refine VL.elem (s := ⟨w1, keys H⟩) (base k + r) 0 rfl kd3 (fun _ e => e ▸ hO4) (List.mem_cons_self ..) Mono_int hA hX rfl (by decide) (fun vs v hl hr hv => ?_)
      rw [show vs = [iv (pX k r)] from hr] at hv
      simp at hv
      subst hv
      exact VL.finS hO4 rfl rfl
    refine Obs.cons ?_ ?_
    · refine obS (by kernel_rfl) rfl rfl (fun ph4 w4 hO4 => ?_)
      refine VL.move rfl ?_
      exact VL.finS hO4 rfl rfl
    refine Obs.cons ?_ ?_
    · refine obS (by kernel_rfl) rfl rfl (fun ph4 w4 hO4 => ?_)
      refine VL.move rfl ?_
      exact VL.finS hO4 rfl rfl
    refine Obs.cons ?_ ?_
    · refine obS (by kernel_rfl) rfl rfl (fun ph4 w4 hO4 => ?_)
      rintro _ rfl _ rfl
      refine VL.index rfl rfl Try.underlying34 sz34 (xs := col pY K) hB (by omega) (by rw [col_length]; omega) ?_
      exact VL.finS hO4 rfl rfl
    refine Obs.cons ?_ ?_
    · refine ob (by kernel_rfl) rfl (by kernel_rfl) rfl (fun w4 hO4 => ?_)
      rintro _ rfl
      refine VL.elem (s := ⟨w1, keys H⟩) (base k + r) 0 rfl kd3 (fun _ e => e ▸ hO4) (List.mem_cons_self ..) Mono_int hB hY rfl (by decide) (fun vs v hl hr hv => ?_)
      rw [show vs = [iv (pY k r)] from hr] at hv
      simp at hv
      subst hv
      exact VL.finS hO4 rfl rfl
    refine Obs.cons ?_ ?_
    · refine ob (by kernel_rfl) rfl (by kernel_rfl) rfl (fun w4 hO4 => ?_)
      rintro _ rfl _ rfl
      refine VL.toOwn hO4 ?_
      refine VL.call Try.func14 rfl (by decide) rfl (fun w' hw => point_any hw _ _) (fun v => ?_)
      refine VL.fact fun e => ?_
      subst e
      exact VL.finO rfl (fun _ h => h) (fun _ h => rfl)
    refine Obs.cons ?_ ?_
    · refine obS (by kernel_rfl) rfl rfl (fun ph4 w4 hO4 => ?_)
      rintro _ rfl
      refine VL.assign rfl ?_
      exact VL.finS hO4 rfl rfl
    refine Obs.cons ?_ ?_
    · refine obS (by kernel_rfl) rfl rfl (fun ph4 w4 hO4 => ?_)
      refine VL.assign rfl ?_
      exact VL.finS hO4 rfl rfl
    exact Obs.nil
  case end4 =>
    intro w4 hO4
    rintro _ rfl _ rfl
    refine VX.toOwn hO4 ?_
    refine VX.next ?_
    refine VC.ret ?_
    refine VX.ret2 rfl rfl rfl (fun we hw => ?_)
    exact ⟨rfl, hw.lose.lose.lose⟩

theorem refspot_out {S : List Snap} {H : List Chunk} {w : World} (ho : Own S H w) {n : Int} (hn : n < 0 ∨ 4095 < n) : Calls Try.prog 7 #[.int .i64 n] w (Ret fun v w' => v = .tuple #[cx (0, 0), .bool false] ∧ Own S H w') := by
  refine enter (G := Own S H) ho Try.func7 rfl Try.ntmps7 rfl ?_
  refine VC.seq ?_
  refine VC.region ?_
  refine VL.assign rfl ?_
  refine VL.assign rfl ?_
  refine VL.nil ?_
  refine VX.next ?_
  refine VC.seq ?_
  refine VC.seq ?_
  refine VC.region ?_
  refine VL.move rfl ?_
  refine VL.lss rfl rfl ?_
  refine VL.case (fun h1_1 => ?_) (fun h1_1 => ?_)
  · refine VL.move rfl ?_
    refine VL.pass rfl rfl rfl rfl rfl ?_
    refine VL.pass rfl rfl rfl rfl rfl ?_
    refine VL.pick_t rfl rfl ?_
    refine VL.nil ?_
    refine VX.next ?_
    refine VC.yes rfl ?_
    refine VC.seq ?_
    refine VC.region ?_
    refine VL.assign rfl ?_
    refine VL.assign rfl ?_
    refine VL.nil ?_
    refine VX.next ?_
    refine VC.ret ?_
    refine VX.then_ret ?_
    refine VX.ret2 rfl rfl rfl (fun we hw => ?_)
    exact ⟨rfl, hw⟩
  · refine VL.move rfl ?_
    refine VL.go rfl rfl rfl ?_
    refine VL.move rfl ?_
    refine VL.go rfl rfl rfl ?_
    refine VL.gtr rfl rfl ?_
    refine VL.yes (by omega) ?_
    refine VL.pick_f rfl rfl ?_
    refine VL.nil ?_
    refine VX.next ?_
    refine VC.yes rfl ?_
    refine VC.seq ?_
    refine VC.region ?_
    refine VL.assign rfl ?_
    refine VL.assign rfl ?_
    refine VL.nil ?_
    refine VX.next ?_
    refine VC.ret ?_
    refine VX.then_ret ?_
    refine VX.ret2 rfl rfl rfl (fun we hw => ?_)
    exact ⟨rfl, hw⟩

end Go.Proofs.Ytmhmhdnbobllfaa
