/- The spiral: walks. -/
import Derived.Test.YtmhmhdnbobllfaaFr
import Derived.Test.YtmhmhdnbobllfaaPlSpot
namespace Go.Proofs.Ytmhmhdnbobllfaa
open Go.Vc Go.Pl

theorem n00 : fcmp .neq (fi 0) 0 = false := by decide +kernel
theorem q00 : floatBits .quo .f64 4607182418800017408 (fi 0) = some 9218868437227405312 := by decide +kernel
theorem g00 : fcmp .gtr 9218868437227405312 0 = true := by decide +kernel

theorem plain_any {S : List Snap} {H : List Chunk} {w : World} (ho : Own S H w) {x y : Int} (hx : Small x) (hy : Small y) : Calls Try.prog 12 #[cx (fi x, fi y)] w (Ret fun v w' => v = cx (fi x, fi y) ∧ Own S H w') := by
  refine enter (G := Own S H) ho Try.func12 rfl Try.ntmps12 rfl ?_
  refine VC.seq ?_
  refine VC.region ?_
  refine VL.assign rfl ?_
  refine VL.nil ?_
  refine VX.next ?_
  refine VC.seq ?_
  refine VC.region ?_
  refine VL.move rfl ?_
  refine VL.real rfl ?_
  refine VL.farith (op := .add) (by decide) rfl rfl hx.plain ?_
  refine VL.move rfl ?_
  refine VL.imag rfl ?_
  refine VL.farith (op := .add) (by decide) rfl rfl hy.plain ?_
  refine VL.complex rfl rfl ?_
  refine VL.assign rfl ?_
  refine VL.nil ?_
  refine VX.next ?_
  refine VC.ret ?_
  refine VX.ret1 rfl rfl (fun we hw => ?_)
  exact ⟨rfl, hw⟩

theorem point_any {S : List Snap} {H : List Chunk} {w : World} (ho : Own S H w) (x y : Int) : Calls Try.prog 14 #[.int .i64 x, .int .i64 y] w (Ret fun v w' => v = cx (fi x, fi y) ∧ Own S H w') := by
  refine enter (G := Own S H) ho Try.func14 rfl Try.ntmps14 rfl ?_
  refine VC.seq ?_
  refine VC.region ?_
  refine VL.assign rfl ?_
  refine VL.nil ?_
  refine VX.next ?_
  refine VC.seq ?_
  refine VC.region ?_
  refine VL.move rfl ?_
  refine VL.itof (by rw [Try.underlying3]; rfl) Try.underlying30 rfl ?_
  refine VL.move rfl ?_
  refine VL.itof (by rw [Try.underlying3]; rfl) Try.underlying30 rfl ?_
  refine VL.complex rfl rfl ?_
  refine VL.assign rfl ?_
  refine VL.nil ?_
  refine VX.next ?_
  refine VC.ret ?_
  refine VX.ret1 rfl rfl (fun we hw => ?_)
  exact ⟨rfl, hw⟩

theorem whole_any {S : List Snap} {H : List Chunk} {w : World} (ho : Own S H w) {x y : Int} (hx : Small x) (hy : Small y) : Calls Try.prog 15 #[cx (fi x, fi y)] w (Ret fun v w' => v = .tuple #[cx (fi x, fi y), .bool true] ∧ Own S H w') := by
  refine enter (G := Own S H) ho Try.func15 rfl Try.ntmps15 rfl ?_
  refine VC.seq ?_
  refine VC.region ?_
  refine VL.assign rfl ?_
  refine VL.assign rfl ?_
  refine VL.nil ?_
  refine VX.next ?_
  refine VC.seq ?_
  refine VC.region ?_
  refine VL.move rfl ?_
  refine VL.real rfl ?_
  refine VL.move rfl ?_
  refine VL.imag rfl ?_
  refine VL.assign rfl ?_
  refine VL.assign rfl ?_
  refine VL.nil ?_
  refine VX.next ?_
  refine VC.seq ?_
  refine VC.seq ?_
  refine VC.region ?_
  refine VL.move rfl ?_
  refine VL.fcmp (op := .geq) (by decide) rfl rfl hx.ge ?_
  refine VL.move rfl ?_
  refine VL.go rfl rfl rfl ?_
  refine VL.move rfl ?_
  refine VL.go rfl rfl rfl ?_
  refine VL.fcmp (op := .leq) (by decide) rfl rfl hx.le ?_
  refine VL.pick_t rfl rfl ?_
  refine VL.move rfl ?_
  refine VL.go rfl rfl rfl ?_
  refine VL.move rfl ?_
  refine VL.go rfl rfl rfl ?_
  refine VL.fcmp (op := .geq) (by decide) rfl rfl hy.ge ?_
  refine VL.pick_t rfl rfl ?_
  refine VL.move rfl ?_
  refine VL.go rfl rfl rfl ?_
  refine VL.move rfl ?_
  refine VL.go rfl rfl rfl ?_
  refine VL.fcmp (op := .leq) (by decide) rfl rfl hy.le ?_
  refine VL.pick_t rfl rfl ?_
  refine VL.not rfl ?_
  refine VL.nil ?_
  refine VX.next ?_
  refine VC.no rfl ?_
  refine VC.skip ?_
  refine VX.next ?_
  refine VC.seq ?_
  refine VC.region ?_
  refine VL.move rfl ?_
  refine VL.ftoi (by rw [Try.underlying30]; rfl) Try.underlying3 rfl hx.whole ?_
  refine VL.move rfl ?_
  refine VL.ftoi (by rw [Try.underlying30]; rfl) Try.underlying3 rfl hy.whole ?_
  refine VL.assign rfl ?_
  refine VL.assign rfl ?_
  refine VL.nil ?_
  refine VX.next ?_
  refine VC.seq ?_
  refine VC.region ?_
  refine VL.move rfl ?_
  refine VL.itof (by rw [Try.underlying3]; rfl) Try.underlying30 rfl ?_
  refine VL.move rfl ?_
  refine VL.itof (by rw [Try.underlying3]; rfl) Try.underlying30 rfl ?_
  refine VL.complex rfl rfl ?_
  refine VL.move rfl ?_
  refine VL.itof (by rw [Try.underlying3]; rfl) Try.underlying30 rfl ?_
  refine VL.move rfl ?_
  refine VL.fcmp (op := .eql) (by decide) rfl rfl hx.eq ?_
  refine VL.move rfl ?_
  refine VL.go rfl rfl rfl ?_
  refine VL.move rfl ?_
  refine VL.go rfl rfl rfl ?_
  refine VL.itof (by rw [Try.underlying3]; rfl) Try.underlying30 rfl ?_
  refine VL.go rfl rfl rfl ?_
  refine VL.move rfl ?_
  refine VL.go rfl rfl rfl ?_
  refine VL.fcmp (op := .eql) (by decide) rfl rfl hy.eq ?_
  refine VL.pick_t rfl rfl ?_
  refine VL.assign rfl ?_
  refine VL.assign rfl ?_
  refine VL.nil ?_
  refine VX.next ?_
  refine VC.ret ?_
  refine VX.ret2 rfl rfl rfl (fun we hw => ?_)
  exact ⟨rfl, hw⟩

theorem neat00 {S : List Snap} {H : List Chunk} {w : World} (ho : Own S H w)  : Calls Try.prog 8 #[cx (fi 0, fi 0)] w (Ret fun v w' => v = .bool true ∧ Own S H w') := by
  refine enter (G := Own S H) ho Try.func8 rfl Try.ntmps8 rfl ?_
  refine VC.seq ?_
  refine VC.region ?_
  refine VL.assign rfl ?_
  refine VL.nil ?_
  refine VX.next ?_
  refine VC.seq ?_
  refine VC.region ?_
  refine VL.move rfl ?_
  refine VL.real rfl ?_
  refine VL.fcmp (op := .neq) (by decide) rfl rfl n00 ?_
  refine VL.move rfl ?_
  refine VL.go rfl rfl rfl ?_
  refine VL.move rfl ?_
  refine VL.go rfl rfl rfl ?_
  refine VL.real rfl ?_
  refine VL.go rfl rfl rfl ?_
  refine VL.farith (op := .quo) (by decide) rfl rfl q00 ?_
  refine VL.go rfl rfl rfl ?_
  refine VL.fcmp (op := .gtr) (by decide) rfl rfl g00 ?_
  refine VL.pick_f rfl rfl ?_
  refine VL.move rfl ?_
  refine VL.go rfl rfl rfl ?_
  refine VL.move rfl ?_
  refine VL.go rfl rfl rfl ?_
  refine VL.imag rfl ?_
  refine VL.go rfl rfl rfl ?_
  refine VL.fcmp (op := .neq) (by decide) rfl rfl n00 ?_
  refine VL.go rfl rfl rfl ?_
  refine VL.move rfl ?_
  refine VL.go rfl rfl rfl ?_
  refine VL.move rfl ?_
  refine VL.go rfl rfl rfl ?_
  refine VL.imag rfl ?_
  refine VL.go rfl rfl rfl ?_
  refine VL.farith (op := .quo) (by decide) rfl rfl q00 ?_
  refine VL.go rfl rfl rfl ?_
  refine VL.fcmp (op := .gtr) (by decide) rfl rfl g00 ?_
  refine VL.go rfl rfl rfl ?_
  refine VL.pick_f rfl rfl ?_
  refine VL.pick_t rfl rfl ?_
  refine VL.assign rfl ?_
  refine VL.nil ?_
  refine VX.next ?_
  refine VC.ret ?_
  refine VX.ret1 rfl rfl (fun we hw => ?_)
  exact ⟨rfl, hw⟩

theorem neat01 {S : List Snap} {H : List Chunk} {w : World} (ho : Own S H w) {y : Int} (hy : Small y) (h1 : y ≠ 0) : Calls Try.prog 8 #[cx (fi 0, fi y)] w (Ret fun v w' => v = .bool true ∧ Own S H w') := by
  refine enter (G := Own S H) ho Try.func8 rfl Try.ntmps8 rfl ?_
  refine VC.seq ?_
  refine VC.region ?_
  refine VL.assign rfl ?_
  refine VL.nil ?_
  refine VX.next ?_
  refine VC.seq ?_
  refine VC.region ?_
  refine VL.move rfl ?_
  refine VL.real rfl ?_
  refine VL.fcmp (op := .neq) (by decide) rfl rfl n00 ?_
  refine VL.move rfl ?_
  refine VL.go rfl rfl rfl ?_
  refine VL.move rfl ?_
  refine VL.go rfl rfl rfl ?_
  refine VL.real rfl ?_
  refine VL.go rfl rfl rfl ?_
  refine VL.farith (op := .quo) (by decide) rfl rfl q00 ?_
  refine VL.go rfl rfl rfl ?_
  refine VL.fcmp (op := .gtr) (by decide) rfl rfl g00 ?_
  refine VL.pick_f rfl rfl ?_
  refine VL.move rfl ?_
  refine VL.go rfl rfl rfl ?_
  refine VL.move rfl ?_
  refine VL.go rfl rfl rfl ?_
  refine VL.imag rfl ?_
  refine VL.go rfl rfl rfl ?_
  refine VL.fcmp (op := .neq) (by decide) rfl rfl (hy.ne h1) ?_
  refine VL.go rfl rfl rfl ?_
  refine VL.move rfl ?_
  refine VL.pass rfl rfl rfl rfl rfl ?_
  refine VL.pass rfl rfl rfl rfl rfl ?_
  refine VL.pass rfl rfl rfl rfl rfl ?_
  refine VL.pass rfl rfl rfl rfl rfl ?_
  refine VL.go rfl rfl rfl ?_
  refine VL.pick_t rfl rfl ?_
  refine VL.pick_t rfl rfl ?_
  refine VL.assign rfl ?_
  refine VL.nil ?_
  refine VX.next ?_
  refine VC.ret ?_
  refine VX.ret1 rfl rfl (fun we hw => ?_)
  exact ⟨rfl, hw⟩

theorem neat10 {S : List Snap} {H : List Chunk} {w : World} (ho : Own S H w) {x : Int} (hx : Small x) (h0 : x ≠ 0)  : Calls Try.prog 8 #[cx (fi x, fi 0)] w (Ret fun v w' => v = .bool true ∧ Own S H w') := by
  refine enter (G := Own S H) ho Try.func8 rfl Try.ntmps8 rfl ?_
  refine VC.seq ?_
  refine VC.region ?_
  refine VL.assign rfl ?_
  refine VL.nil ?_
  refine VX.next ?_
  refine VC.seq ?_
  refine VC.region ?_
  refine VL.move rfl ?_
  refine VL.real rfl ?_
  refine VL.fcmp (op := .neq) (by decide) rfl rfl (hx.ne h0) ?_
  refine VL.move rfl ?_
  refine VL.pass rfl rfl rfl rfl rfl ?_
  refine VL.pass rfl rfl rfl rfl rfl ?_
  refine VL.pass rfl rfl rfl rfl rfl ?_
  refine VL.pass rfl rfl rfl rfl rfl ?_
  refine VL.pick_t rfl rfl ?_
  refine VL.move rfl ?_
  refine VL.go rfl rfl rfl ?_
  refine VL.move rfl ?_
  refine VL.go rfl rfl rfl ?_
  refine VL.imag rfl ?_
  refine VL.go rfl rfl rfl ?_
  refine VL.fcmp (op := .neq) (by decide) rfl rfl n00 ?_
  refine VL.go rfl rfl rfl ?_
  refine VL.move rfl ?_
  refine VL.go rfl rfl rfl ?_
  refine VL.move rfl ?_
  refine VL.go rfl rfl rfl ?_
  refine VL.imag rfl ?_
  refine VL.go rfl rfl rfl ?_
  refine VL.farith (op := .quo) (by decide) rfl rfl q00 ?_
  refine VL.go rfl rfl rfl ?_
  refine VL.fcmp (op := .gtr) (by decide) rfl rfl g00 ?_
  refine VL.go rfl rfl rfl ?_
  refine VL.pick_f rfl rfl ?_
  refine VL.pick_t rfl rfl ?_
  refine VL.assign rfl ?_
  refine VL.nil ?_
  refine VX.next ?_
  refine VC.ret ?_
  refine VX.ret1 rfl rfl (fun we hw => ?_)
  exact ⟨rfl, hw⟩

theorem neat11 {S : List Snap} {H : List Chunk} {w : World} (ho : Own S H w) {x : Int} (hx : Small x) (h0 : x ≠ 0) {y : Int} (hy : Small y) (h1 : y ≠ 0) : Calls Try.prog 8 #[cx (fi x, fi y)] w (Ret fun v w' => v = .bool true ∧ Own S H w') := by
  refine enter (G := Own S H) ho Try.func8 rfl Try.ntmps8 rfl ?_
  refine VC.seq ?_
  refine VC.region ?_
  refine VL.assign rfl ?_
  refine VL.nil ?_
  refine VX.next ?_
  refine VC.seq ?_
  refine VC.region ?_
  refine VL.move rfl ?_
  refine VL.real rfl ?_
  refine VL.fcmp (op := .neq) (by decide) rfl rfl (hx.ne h0) ?_
  refine VL.move rfl ?_
  refine VL.pass rfl rfl rfl rfl rfl ?_
  refine VL.pass rfl rfl rfl rfl rfl ?_
  refine VL.pass rfl rfl rfl rfl rfl ?_
  refine VL.pass rfl rfl rfl rfl rfl ?_
  refine VL.pick_t rfl rfl ?_
  refine VL.move rfl ?_
  refine VL.go rfl rfl rfl ?_
  refine VL.move rfl ?_
  refine VL.go rfl rfl rfl ?_
  refine VL.imag rfl ?_
  refine VL.go rfl rfl rfl ?_
  refine VL.fcmp (op := .neq) (by decide) rfl rfl (hy.ne h1) ?_
  refine VL.go rfl rfl rfl ?_
  refine VL.move rfl ?_
  refine VL.pass rfl rfl rfl rfl rfl ?_
  refine VL.pass rfl rfl rfl rfl rfl ?_
  refine VL.pass rfl rfl rfl rfl rfl ?_
  refine VL.pass rfl rfl rfl rfl rfl ?_
  refine VL.go rfl rfl rfl ?_
  refine VL.pick_t rfl rfl ?_
  refine VL.pick_t rfl rfl ?_
  refine VL.assign rfl ?_
  refine VL.nil ?_
  refine VX.next ?_
  refine VC.ret ?_
  refine VX.ret1 rfl rfl (fun we hw => ?_)
  exact ⟨rfl, hw⟩

theorem neat_any {S : List Snap} {H : List Chunk} {w : World} (ho : Own S H w) {x y : Int} (hx : Small x) (hy : Small y) : Calls Try.prog 8 #[cx (fi x, fi y)] w (Ret fun v w' => v = .bool true ∧ Own S H w') := by
  by_cases h0 : x = 0
  · subst h0
    by_cases h1 : y = 0
    · subst h1; exact neat00 ho
    · exact neat01 ho hy h1
  · by_cases h1 : y = 0
    · subst h1; exact neat10 ho hx h0
    · exact neat11 ho hx h0 hy h1

theorem place_any {S : List Snap} {H : List Chunk} {w : World} (ho : Own S H w) {x y n : Int} (hx0 : -64 ≤ x) (hx1 : x ≤ 64) (hy0 : -64 ≤ y) (hy1 : y ≤ 64) (hpl : placeI x y = n) (h0 : 0 ≤ n) (h1 : n ≤ 4095) : Calls Try.prog 9 #[cx (fi x, fi y)] w (Ret fun v w' => v = .tuple #[.int .i64 n, .bool true] ∧ Own S H w') := by
  have hx := small (x := x) (by omega) (by omega)
  have hy := small (x := y) (by omega) (by omega)
  have hq0 : 0 ≤ ring x y ∧ ring x y ≤ 64 := by unfold ring; omega
  have hm0 : 0 ≤ (2 * ring x y + 1) * (2 * ring x y + 1) ∧ (2 * ring x y + 1) * (2 * ring x y + 1) ≤ 16641 := by
    obtain ⟨a, b⟩ := hq0
    generalize ring x y = q at *
    exact ⟨Int.mul_nonneg (by omega) (by omega), by have := Int.mul_le_mul (show 2 * q + 1 ≤ 129 by omega) (show 2 * q + 1 ≤ 129 by omega) (by omega) (by omega); omega⟩
  refine enter (G := Own S H) ho Try.func9 rfl Try.ntmps9 rfl ?_
  refine VC.seq ?_
  refine VC.region ?_
  refine VL.assign rfl ?_
  refine VL.assign rfl ?_
  refine VL.nil ?_
  refine VX.next ?_
  refine VC.seq ?_
  refine VC.region ?_
  refine VL.move rfl ?_
  refine VL.call Try.func15 rfl (by decide) rfl (fun w' hw => whole_any hw hx hy) (fun v => ?_)
  refine VL.fact fun ev => ?_
  subst ev
  refine VL.move rfl ?_
  refine VL.extract rfl rfl ?_
  refine VL.extract rfl rfl ?_
  refine VL.assign rfl ?_
  refine VL.assign rfl ?_
  refine VL.nil ?_
  refine VX.next ?_
  refine VC.seq ?_
  refine VC.seq ?_
  refine VC.region ?_
  refine VL.move rfl ?_
  refine VL.not rfl ?_
  refine VL.nil ?_
  refine VX.next ?_
  refine VC.no rfl ?_
  refine VC.skip ?_
  refine VX.next ?_
  refine VC.seq ?_
  refine VC.region ?_
  refine VL.move rfl ?_
  refine VL.real rfl ?_
  refine VL.ftoi (by rw [Try.underlying30]; rfl) Try.underlying3 rfl hx.whole ?_
  refine VL.move rfl ?_
  refine VL.imag rfl ?_
  refine VL.ftoi (by rw [Try.underlying30]; rfl) Try.underlying3 rfl hy.whole ?_
  refine VL.assign rfl ?_
  refine VL.assign rfl ?_
  refine VL.nil ?_
  refine VX.next ?_
  refine VC.seq ?_
  refine VC.region ?_
  refine VL.move rfl ?_
  refine VL.move rfl ?_
  refine VL.neg rfl (by simp only [InR]; omega) ?_
  refine VL.move rfl ?_
  refine VL.move rfl ?_
  refine VL.neg rfl (by simp only [InR]; omega) ?_
  refine VL.max4 rfl rfl rfl rfl ?_
  rw [show max (max (max x (0 - x)) y) (0 - y) = ring x y from rfl]
  generalize hq : ring x y = q at *
  refine VL.assign rfl ?_
  refine VL.nil ?_
  refine VX.next ?_
  refine VC.seq ?_
  refine VC.seq ?_
  refine VC.region ?_
  refine VL.move rfl ?_
  refine VL.gtr rfl rfl ?_
  refine VL.no (by omega) ?_
  refine VL.nil ?_
  refine VX.next ?_
  refine VC.no rfl ?_
  refine VC.skip ?_
  refine VX.next ?_
  refine VC.seq ?_
  refine VC.region ?_
  refine VL.move rfl ?_
  refine VL.mul rfl rfl (by simp only [InR]; omega) ?_
  refine VL.add rfl rfl (by simp only [InR]; omega) ?_
  refine VL.move rfl ?_
  refine VL.mul rfl rfl (by simp only [InR]; omega) ?_
  refine VL.add rfl rfl (by simp only [InR]; omega) ?_
  refine VL.mul rfl rfl (by simp only [InR]; omega) ?_
  generalize hm : (2 * q + 1) * (2 * q + 1) = m at *
  refine VL.assign rfl ?_
  refine VL.nil ?_
  refine VX.next ?_
  refine VC.seq ?_
  refine VC.block ?_
  refine VC.seq ?_
  refine VC.region ?_
  refine VL.move rfl ?_
  refine VL.move rfl ?_
  refine VL.neg rfl (by simp only [InR]; omega) ?_
  refine VL.eql rfl rfl ?_
  refine VL.case (fun h10_3 => ?_) (fun h10_3 => ?_)
  · refine VL.assign rfl ?_
    refine VL.nil ?_
    refine VX.next ?_
    refine VC.yes rfl ?_
    refine VC.region ?_
    refine VL.move rfl ?_
    refine VL.move rfl ?_
    refine VL.add rfl rfl (by simp only [InR]; omega) ?_
    refine VL.move rfl ?_
    refine VL.sub rfl rfl (by simp only [InR]; omega) ?_
    refine VL.sub rfl rfl (by simp only [InR]; omega) ?_
    refine VL.assign rfl ?_
    refine VL.nil ?_
    refine VX.block_normal ?_
    refine VX.next ?_
    refine VC.seq ?_
    refine VC.seq ?_
    have hr : placeI x y = m - (1 + q - x) := by unfold placeI; rw [hq, hm, if_pos h10_3]
    rw [hpl] at hr
    refine VC.region ?_
    refine VL.move rfl ?_
    refine VL.gtr rfl rfl ?_
    refine VL.no (by omega) ?_
    refine VL.nil ?_
    refine VX.next ?_
    refine VC.no rfl ?_
    refine VC.skip ?_
    refine VX.next ?_
    refine VC.seq ?_
    refine VC.region ?_
    refine VL.move rfl ?_
    refine VL.assign rfl ?_
    refine VL.assign rfl ?_
    refine VL.nil ?_
    refine VX.next ?_
    refine VC.ret ?_
    refine VX.ret2 rfl rfl rfl (fun we hw => ?_)
    exact ⟨by rw [← hr], hw⟩
  · refine VL.assign rfl ?_
    refine VL.nil ?_
    refine VX.next ?_
    refine VC.no rfl ?_
    refine VC.seq ?_
    refine VC.region ?_
    refine VL.move rfl ?_
    refine VL.move rfl ?_
    refine VL.neg rfl (by simp only [InR]; omega) ?_
    refine VL.eql rfl rfl ?_
    refine VL.case (fun h12_3 => ?_) (fun h12_3 => ?_)
    · refine VL.assign rfl ?_
      refine VL.nil ?_
      refine VX.next ?_
      refine VC.yes rfl ?_
      refine VC.region ?_
      refine VL.move rfl ?_
      refine VL.move rfl ?_
      refine VL.mul rfl rfl (by simp only [InR]; omega) ?_
      refine VL.add rfl rfl (by simp only [InR]; omega) ?_
      refine VL.move rfl ?_
      refine VL.add rfl rfl (by simp only [InR]; omega) ?_
      refine VL.move rfl ?_
      refine VL.add rfl rfl (by simp only [InR]; omega) ?_
      refine VL.sub rfl rfl (by simp only [InR]; omega) ?_
      refine VL.assign rfl ?_
      refine VL.nil ?_
      refine VX.block_normal ?_
      refine VX.next ?_
      refine VC.seq ?_
      refine VC.seq ?_
      have hr : placeI x y = m - (1 + 2 * q + y + q) := by unfold placeI; rw [hq, hm, if_neg h10_3, if_pos h12_3]
      rw [hpl] at hr
      refine VC.region ?_
      refine VL.move rfl ?_
      refine VL.gtr rfl rfl ?_
      refine VL.no (by omega) ?_
      refine VL.nil ?_
      refine VX.next ?_
      refine VC.no rfl ?_
      refine VC.skip ?_
      refine VX.next ?_
      refine VC.seq ?_
      refine VC.region ?_
      refine VL.move rfl ?_
      refine VL.assign rfl ?_
      refine VL.assign rfl ?_
      refine VL.nil ?_
      refine VX.next ?_
      refine VC.ret ?_
      refine VX.ret2 rfl rfl rfl (fun we hw => ?_)
      exact ⟨by rw [← hr], hw⟩
    · refine VL.assign rfl ?_
      refine VL.nil ?_
      refine VX.next ?_
      refine VC.no rfl ?_
      refine VC.seq ?_
      refine VC.region ?_
      refine VL.move rfl ?_
      refine VL.move rfl ?_
      refine VL.eql rfl rfl ?_
      refine VL.case (fun h14_2 => ?_) (fun h14_2 => ?_)
      · refine VL.assign rfl ?_
        refine VL.nil ?_
        refine VX.next ?_
        refine VC.yes rfl ?_
        refine VC.region ?_
        refine VL.move rfl ?_
        refine VL.move rfl ?_
        refine VL.mul rfl rfl (by simp only [InR]; omega) ?_
        refine VL.add rfl rfl (by simp only [InR]; omega) ?_
        refine VL.move rfl ?_
        refine VL.add rfl rfl (by simp only [InR]; omega) ?_
        refine VL.move rfl ?_
        refine VL.add rfl rfl (by simp only [InR]; omega) ?_
        refine VL.sub rfl rfl (by simp only [InR]; omega) ?_
        refine VL.assign rfl ?_
        refine VL.nil ?_
        refine VX.block_normal ?_
        refine VX.next ?_
        refine VC.seq ?_
        refine VC.seq ?_
        have hr : placeI x y = m - (1 + 4 * q + x + q) := by unfold placeI; rw [hq, hm, if_neg h10_3, if_neg h12_3, if_pos h14_2]
        rw [hpl] at hr
        refine VC.region ?_
        refine VL.move rfl ?_
        refine VL.gtr rfl rfl ?_
        refine VL.no (by omega) ?_
        refine VL.nil ?_
        refine VX.next ?_
        refine VC.no rfl ?_
        refine VC.skip ?_
        refine VX.next ?_
        refine VC.seq ?_
        refine VC.region ?_
        refine VL.move rfl ?_
        refine VL.assign rfl ?_
        refine VL.assign rfl ?_
        refine VL.nil ?_
        refine VX.next ?_
        refine VC.ret ?_
        refine VX.ret2 rfl rfl rfl (fun we hw => ?_)
        exact ⟨by rw [← hr], hw⟩
      · refine VL.assign rfl ?_
        refine VL.nil ?_
        refine VX.next ?_
        refine VC.no rfl ?_
        refine VC.region ?_
        refine VL.move rfl ?_
        refine VL.move rfl ?_
        refine VL.mul rfl rfl (by simp only [InR]; omega) ?_
        refine VL.add rfl rfl (by simp only [InR]; omega) ?_
        refine VL.move rfl ?_
        refine VL.add rfl rfl (by simp only [InR]; omega) ?_
        refine VL.move rfl ?_
        refine VL.sub rfl rfl (by simp only [InR]; omega) ?_
        refine VL.sub rfl rfl (by simp only [InR]; omega) ?_
        refine VL.assign rfl ?_
        refine VL.nil ?_
        refine VX.block_normal ?_
        refine VX.next ?_
        refine VC.seq ?_
        refine VC.seq ?_
        have hr : placeI x y = m - (1 + 6 * q + q - y) := by unfold placeI; rw [hq, hm, if_neg h10_3, if_neg h12_3, if_neg h14_2]
        rw [hpl] at hr
        refine VC.region ?_
        refine VL.move rfl ?_
        refine VL.gtr rfl rfl ?_
        refine VL.no (by omega) ?_
        refine VL.nil ?_
        refine VX.next ?_
        refine VC.no rfl ?_
        refine VC.skip ?_
        refine VX.next ?_
        refine VC.seq ?_
        refine VC.region ?_
        refine VL.move rfl ?_
        refine VL.assign rfl ?_
        refine VL.assign rfl ?_
        refine VL.nil ?_
        refine VX.next ?_
        refine VC.ret ?_
        refine VX.ret2 rfl rfl rfl (fun we hw => ?_)
        exact ⟨by rw [← hr], hw⟩

end Go.Proofs.Ytmhmhdnbobllfaa
