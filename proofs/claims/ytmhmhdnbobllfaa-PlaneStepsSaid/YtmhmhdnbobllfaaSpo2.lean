/- The spiral: walks, continued. -/
import Derived.Test.YtmhmhdnbobllfaaSpo
namespace Go.Proofs.Ytmhmhdnbobllfaa
open Go.Vc Go.Pl

theorem z0 : fi 0 = 0 := by decide +kernel
theorem newv {P : Program} {n : Nat} {Q : Exit → Act → World → Prop} {σ : Sl} {G : World → Prop} {ops : Array Oper} {l : List Oper} {d : Nat} {v v' : Value} (e : v = v') (h : VL P n ops Q l ((d, v') :: σ) G) : VL P n ops Q l ((d, v) :: σ) G := e ▸ h
theorem leg_is {k q : Nat} (hk : k < 128) (h1 : 1 ≤ q) (hq : q ≤ long k) : ∃ m, cmul (wF k) (fi q, 0) = some m ∧ cadd (fi (cX k), fi (cY k)) m = some (fi (pX k q), fi (pY k q)) := by
  obtain ⟨r, rfl⟩ : ∃ r, q = r + 1 := ⟨q - 1, by omega⟩
  exact leg_ok hk hq
/-- What is left at leg j; where one is. -/
def remN (k q j : Nat) : Nat := if j ≤ k then base k + q - base j else 0
def atX (k q j : Nat) : Int := if j ≤ k then cX j else pX k q
def atY (k q j : Nat) : Int := if j ≤ k then cY j else pY k q

theorem spot_any {S : List Snap} {H : List Chunk} {w : World} (ho : Own S H w) {k q : Nat} (hk : k < 128) (h1 : 1 ≤ q) (hq : q ≤ long k) (hn : base k + q ≤ 4095) : Calls Try.prog 6 #[.int .i64 ((base k + q : Nat) : Int)] w (Ret fun v w' => v = .tuple #[cx (fi (pX k q), fi (pY k q)), .bool true] ∧ Own S H w') := by
  refine enter (G := Own S H) ho Try.func6 rfl Try.ntmps6 rfl ?_
  refine VC.seq ?_
  refine VC.region ?_
  refine VL.assign rfl ?_
  refine VL.assign rfl ?_
  refine VL.nil ?_
  refine VX.next ?_
  refine VC.seq ?_
  refine VC.seq ?_
  refine VC.region ?_
  refine VL.move rfl ?_
  refine VL.lss rfl rfl ?_
  refine VL.no (by omega) ?_
  refine VL.move rfl ?_
  refine VL.go rfl rfl rfl ?_
  refine VL.move rfl ?_
  refine VL.go rfl rfl rfl ?_
  refine VL.gtr rfl rfl ?_
  refine VL.no (by omega) ?_
  refine VL.pick_f rfl rfl ?_
  refine VL.nil ?_
  refine VX.next ?_
  refine VC.no rfl ?_
  refine VC.skip ?_
  refine VX.next ?_
  refine VC.seq ?_
  refine VC.region ?_
  refine VL.assign rfl ?_
  refine VL.assign rfl ?_
  refine VL.nil ?_
  refine VX.next ?_
  refine VC.seq ?_
  refine VC.seq ?_
  refine VC.region ?_
  refine VL.assign rfl ?_
  refine VL.nil ?_
  refine VX.next ?_
  refine VC.block ?_
  refine VC.loop (X := Nat) (fun j => [(0, .int .i64 ((remN k q j : Nat) : Int)), (4, cx (fi (atX k q j), fi (atY k q j))), (5, cx (wF j)), (6, .int .i64 ((j : Nat) : Int))]) (fun j w' => j ≤ k + 1 ∧ Own S H w') (fun j => k + 2 - j) 0 ⟨?_, ?_, rfl, rfl, trivial⟩ (fun w' h => ⟨Nat.zero_le _, h⟩) (fun j => VC.fact fun hi => ?_)
  · show some _ = some _
    rw [show remN k q 0 = base k + q from if_pos (Nat.zero_le _)]
  · show some _ = some _
    rw [show atX k q 0 = 0 from if_pos (Nat.zero_le _), show atY k q 0 = 0 from if_pos (Nat.zero_le _), z0]
  · skip
    refine VC.seq ?_
    refine VC.seq ?_
    rcases (show j < k ∨ j = k ∨ j = k + 1 by omega) with hj | hj | hj
    · have hb := base_mono (show j ≤ k by omega)
      have hb2 := base_mono (show j + 1 ≤ k by omega)
      have hb3 := base_succ j
      obtain ⟨m, hm1, hm2⟩ := leg_is (k := j) (q := long j) (by omega) (by unfold long; omega) (Nat.le_refl _)
      rw [show remN k q j = base k + q - base j from if_pos (by omega), show atX k q j = cX j from if_pos (by omega), show atY k q j = cY j from if_pos (by omega)]
      refine VC.region ?_
      refine VL.move rfl ?_
      refine VL.gtr rfl rfl ?_
      refine VL.yes (by omega) ?_
      refine VL.nil ?_
      refine VX.next ?_
      refine VC.yes rfl ?_
      refine VC.skip ?_
      refine VX.next ?_
      refine VC.seq ?_
      refine VC.block ?_
      refine VC.seq ?_
      refine VC.region ?_
      refine VL.move rfl ?_
      refine VL.quo rfl rfl (by omega) (by omega) (by simp only [InR]; omega) ?_
      refine VL.add rfl rfl (by simp only [InR]; omega) ?_
      refine VL.move rfl ?_
      refine VL.min2 rfl rfl ?_
      refine newv (v' := .int .i64 ((long j : Nat) : Int)) (by congr 1; unfold long at *; omega) ?_
      refine VL.assign rfl ?_
      refine VL.nil ?_
      refine VX.next ?_
      refine VC.seq ?_
      refine VC.region ?_
      refine VL.move rfl ?_
      refine VL.move rfl ?_
      refine VL.move rfl ?_
      refine VL.itof (by rw [Try.underlying3]; rfl) Try.underlying30 rfl ?_
      refine VL.complex rfl rfl ?_
      refine VL.cmul rfl rfl hm1 ?_
      refine VL.cadd rfl rfl hm2 ?_
      refine VL.assign rfl ?_
      refine VL.nil ?_
      refine VX.next ?_
      refine VC.seq ?_
      refine VC.region ?_
      refine VL.move rfl ?_
      refine VL.move rfl ?_
      refine VL.sub rfl rfl (by simp only [InR]; omega) ?_
      refine VL.assign rfl ?_
      refine VL.nil ?_
      refine VX.next ?_
      refine VC.region ?_
      refine VL.move rfl ?_
      refine VL.cmul (b := (0, 4607182418800017408)) rfl rfl (wF_step j) ?_
      refine VL.assign rfl ?_
      refine VL.nil ?_
      refine VX.block_normal ?_
      refine VX.next ?_
      refine VC.region ?_
      refine VL.move rfl ?_
      refine VL.add rfl rfl (by simp only [InR]; omega) ?_
      refine VL.assign rfl ?_
      refine VL.nil ?_
      refine VX.round (j + 1) ⟨?_, ?_, rfl, rfl, trivial⟩ (fun w' h => ⟨by omega, h⟩) (by omega)
      · show some _ = some _
        rw [show remN k q (j + 1) = base k + q - base (j + 1) from if_pos (by omega)]
        congr 2
        omega
      · show some _ = some _
        rw [show atX k q (j + 1) = cX (j + 1) from if_pos (by omega), show atY k q (j + 1) = cY (j + 1) from if_pos (by omega), cX_succ, cY_succ]
    · subst hj
      obtain ⟨m, hm1, hm2⟩ := leg_is (k := j) (q := q) (by omega) h1 hq
      rw [show remN j q j = base j + q - base j from if_pos (Nat.le_refl _), show atX j q j = cX j from if_pos (Nat.le_refl _), show atY j q j = cY j from if_pos (Nat.le_refl _)]
      refine VC.region ?_
      refine VL.move rfl ?_
      refine VL.gtr rfl rfl ?_
      refine VL.yes (by omega) ?_
      refine VL.nil ?_
      refine VX.next ?_
      refine VC.yes rfl ?_
      refine VC.skip ?_
      refine VX.next ?_
      refine VC.seq ?_
      refine VC.block ?_
      refine VC.seq ?_
      refine VC.region ?_
      refine VL.move rfl ?_
      refine VL.quo rfl rfl (by omega) (by omega) (by simp only [InR]; omega) ?_
      refine VL.add rfl rfl (by simp only [InR]; omega) ?_
      refine VL.move rfl ?_
      refine VL.min2 rfl rfl ?_
      refine newv (v' := .int .i64 ((q : Nat) : Int)) (by congr 1; unfold long at *; omega) ?_
      refine VL.assign rfl ?_
      refine VL.nil ?_
      refine VX.next ?_
      refine VC.seq ?_
      refine VC.region ?_
      refine VL.move rfl ?_
      refine VL.move rfl ?_
      refine VL.move rfl ?_
      refine VL.itof (by rw [Try.underlying3]; rfl) Try.underlying30 rfl ?_
      refine VL.complex rfl rfl ?_
      refine VL.cmul rfl rfl hm1 ?_
      refine VL.cadd rfl rfl hm2 ?_
      refine VL.assign rfl ?_
      refine VL.nil ?_
      refine VX.next ?_
      refine VC.seq ?_
      refine VC.region ?_
      refine VL.move rfl ?_
      refine VL.move rfl ?_
      refine VL.sub rfl rfl (by simp only [InR]; omega) ?_
      refine VL.assign rfl ?_
      refine VL.nil ?_
      refine VX.next ?_
      refine VC.region ?_
      refine VL.move rfl ?_
      refine VL.cmul (b := (0, 4607182418800017408)) rfl rfl (wF_step j) ?_
      refine VL.assign rfl ?_
      refine VL.nil ?_
      refine VX.block_normal ?_
      refine VX.next ?_
      refine VC.region ?_
      refine VL.move rfl ?_
      refine VL.add rfl rfl (by simp only [InR]; omega) ?_
      refine VL.assign rfl ?_
      refine VL.nil ?_
      refine VX.round (j + 1) ⟨?_, ?_, rfl, rfl, trivial⟩ (fun w' h => ⟨by omega, h⟩) (by omega)
      · show some _ = some _
        rw [show remN j q (j + 1) = 0 from if_neg (by omega)]
        congr 2
        omega
      · show some _ = some _
        rw [show atX j q (j + 1) = pX j q from if_neg (by omega), show atY j q (j + 1) = pY j q from if_neg (by omega)]
    · subst hj
      rw [show remN k q (k + 1) = 0 from if_neg (by omega), show atX k q (k + 1) = pX k q from if_neg (by omega), show atY k q (k + 1) = pY k q from if_neg (by omega)]
      refine VC.region ?_
      refine VL.move rfl ?_
      refine VL.gtr rfl rfl ?_
      refine VL.no (by omega) ?_
      refine VL.nil ?_
      refine VX.next ?_
      refine VC.no rfl ?_
      refine VC.exit ?_
      refine VX.then_exit ?_
      refine VX.then_exit ?_
      refine VX.block_here ?_
      refine VX.next ?_
      refine VC.seq ?_
      refine VC.region ?_
      refine VL.move rfl ?_
      refine VL.call Try.func12 rfl (by decide) rfl (fun w' hw => plain_any hw (small (by have := pX_small hk hq; omega) (by have := pX_small hk hq; omega)) (small (by have := pY_small hk hq; omega) (by have := pY_small hk hq; omega))) (fun v => ?_)
      refine VL.fact fun ev => ?_
      subst ev
      refine VL.assign rfl ?_
      refine VL.assign rfl ?_
      refine VL.nil ?_
      refine VX.next ?_
      refine VC.ret ?_
      refine VX.ret2 rfl rfl rfl (fun we hw => ?_)
      exact ⟨rfl, hw⟩

theorem spot_zero {S : List Snap} {H : List Chunk} {w : World} (ho : Own S H w)  : Calls Try.prog 6 #[.int .i64 0] w (Ret fun v w' => v = .tuple #[cx (fi 0, fi 0), .bool true] ∧ Own S H w') := by
  refine enter (G := Own S H) ho Try.func6 rfl Try.ntmps6 rfl ?_
  refine VC.seq ?_
  refine VC.region ?_
  refine VL.assign rfl ?_
  refine VL.assign rfl ?_
  refine VL.nil ?_
  refine VX.next ?_
  refine VC.seq ?_
  refine VC.seq ?_
  refine VC.region ?_
  refine VL.move rfl ?_
  refine VL.lss rfl rfl ?_
  refine VL.no (by omega) ?_
  refine VL.move rfl ?_
  refine VL.go rfl rfl rfl ?_
  refine VL.move rfl ?_
  refine VL.go rfl rfl rfl ?_
  refine VL.gtr rfl rfl ?_
  refine VL.no (by omega) ?_
  refine VL.pick_f rfl rfl ?_
  refine VL.nil ?_
  refine VX.next ?_
  refine VC.no rfl ?_
  refine VC.skip ?_
  refine VX.next ?_
  refine VC.seq ?_
  refine VC.region ?_
  refine VL.assign rfl ?_
  refine VL.assign rfl ?_
  refine VL.nil ?_
  refine VX.next ?_
  refine VC.seq ?_
  refine VC.seq ?_
  refine VC.region ?_
  refine VL.assign rfl ?_
  refine VL.nil ?_
  refine VX.next ?_
  refine VC.block ?_
  refine VC.loop (X := Unit) (fun j => [(0, .int .i64 0), (4, cx (fi 0, fi 0))]) (fun j w' => Own S H w') (fun j => 0) () ⟨rfl, by show some _ = some _; rw [z0], trivial⟩ (fun w' h => h) (fun j => ?_)
  · skip
    refine VC.seq ?_
    refine VC.seq ?_
    refine VC.region ?_
    refine VL.move rfl ?_
    refine VL.gtr rfl rfl ?_
    refine VL.no (by omega) ?_
    refine VL.nil ?_
    refine VX.next ?_
    refine VC.no rfl ?_
    refine VC.exit ?_
    refine VX.then_exit ?_
    refine VX.then_exit ?_
    refine VX.block_here ?_
    refine VX.next ?_
    refine VC.seq ?_
    refine VC.region ?_
    refine VL.move rfl ?_
    refine VL.call Try.func12 rfl (by decide) rfl (fun w' hw => plain_any hw (small (by omega) (by omega)) (small (by omega) (by omega))) (fun v => ?_)
    refine VL.fact fun ev => ?_
    subst ev
    refine VL.assign rfl ?_
    refine VL.assign rfl ?_
    refine VL.nil ?_
    refine VX.next ?_
    refine VC.ret ?_
    refine VX.ret2 rfl rfl rfl (fun we hw => ?_)
    exact ⟨rfl, hw⟩

theorem spot_out {S : List Snap} {H : List Chunk} {w : World} (ho : Own S H w) {n : Int} (hn : n < 0 ∨ 4095 < n) : Calls Try.prog 6 #[.int .i64 n] w (Ret fun v w' => v = .tuple #[cx (0, 0), .bool false] ∧ Own S H w') := by
  refine enter (G := Own S H) ho Try.func6 rfl Try.ntmps6 rfl ?_
  refine VC.seq ?_
  refine VC.region ?_
  refine VL.assign rfl ?_
  refine VL.assign rfl ?_
  refine VL.nil ?_
  refine VX.next ?_
  refine VC.seq ?_
  refine VC.seq ?_
  refine VC.region ?_
  refine VL.move rfl ?_
  refine VL.lss rfl rfl ?_
  refine VL.case (fun h1_1 => ?_) (fun h1_1 => ?_)
  · refine VL.move rfl ?_
    refine VL.pass rfl rfl rfl rfl rfl ?_
    refine VL.pass rfl rfl rfl rfl rfl ?_
    refine VL.pick_t rfl rfl ?_
    refine VL.nil ?_
    refine VX.next ?_
    refine VC.yes rfl ?_
    refine VC.seq ?_
    refine VC.region ?_
    refine VL.assign rfl ?_
    refine VL.assign rfl ?_
    refine VL.nil ?_
    refine VX.next ?_
    refine VC.ret ?_
    refine VX.then_ret ?_
    refine VX.ret2 rfl rfl rfl (fun we hw => ?_)
    exact ⟨rfl, hw⟩
  · refine VL.move rfl ?_
    refine VL.go rfl rfl rfl ?_
    refine VL.move rfl ?_
    refine VL.go rfl rfl rfl ?_
    refine VL.gtr rfl rfl ?_
    refine VL.yes (by omega) ?_
    refine VL.pick_f rfl rfl ?_
    refine VL.nil ?_
    refine VX.next ?_
    refine VC.yes rfl ?_
    refine VC.seq ?_
    refine VC.region ?_
    refine VL.assign rfl ?_
    refine VL.assign rfl ?_
    refine VL.nil ?_
    refine VX.next ?_
    refine VC.ret ?_
    refine VX.then_ret ?_
    refine VX.ret2 rfl rfl rfl (fun we hw => ?_)
    exact ⟨rfl, hw⟩

end Go.Proofs.Ytmhmhdnbobllfaa
