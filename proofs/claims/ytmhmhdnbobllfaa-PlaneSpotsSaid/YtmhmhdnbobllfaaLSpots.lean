/- The statement PlaneSpots. -/
import Derived.Test.YtmhmhdnbobllfaaSpo4
import Derived.Test.YtmhmhdnbobllfaaHeads
set_option maxRecDepth 100000
namespace Go.Proofs.Ytmhmhdnbobllfaa.planeSpots
open Go.ChangeShapes Go.WideShapes Go.ChangeAt Go.RowKit Go.Vc Go.Pl

theorem own : ownKnob Try.prog.godebug = none := by kernel_rfl

theorem lifted (os : Os) (started : os.Started) (H : Type) (enc : TypeId × Value → H) :
    ReturnsInHanded {} Try.checked os 3 .any (Rows.planeSpotsSpec.pre6 enc Try.prog Try.f3 Rows.planeSpotsRow.domain false) (Rows.planeSpotsSpec.post enc Try.prog Try.f3 false true false false) := by
  refine law_of (C := Try.checked) (tb := 4) started own (by kernel_rfl) Try.func3
    (ChangeSpec.witness6 (enc := enc) (C := Try.checked) false ⟨#[], #[.int .i64 0], []⟩ 8 (by kernel_rfl) (by kernel_rfl) (by kernel_rfl) (by kernel_rfl)) rfl (by kernel_rfl) Try.underlying4 (by kernel_rfl) (by kernel_rfl) ?_
  intro W base args ds ps hval0 hAA hsz
  have hval : ∀ (j : Nat) t v, Try.f3.params[j]? = some t → args[j]? = some v → Value.okWide Try.prog W .any base t v := hval0
  have hA : DataW.TrodAll enc Try.prog W 0 (fun _ => true) true Try.f3.params.toList args.toList ds ps := hAA
  rw [Try.params3] at hA hval
  obtain ⟨v0, vs0, d0, ds0, p0, q0, hargs, rfl, rfl, h0, r0⟩ := trodAll_cons hA
  obtain ⟨rfl, rfl, rfl⟩ := trodAll_nil r0
  obtain rfl : args = #[v0] := by cases args; simp_all
  obtain ⟨a0, rfl, rfl, rfl, w0⟩ := open_int Try.underlying3 (hval 0 3 v0 rfl rfl) h0
  exact ⟨rfl, spots_any' (Own.start W) a0⟩

theorem closed : joinedFacts Try.prog 3 Try.f3 Rows.planeSpotsSpec Rows.planeSpotsRow = true := by
  unfold joinedFacts
  rw [mayEnter_is, liftsFinal_is, make_is]
  kernel_rfl

theorem over : Rows.planeSpotsRow.holds Try.pinned (OpenSpec.ofChange Rows.planeSpotsSpec) :=
  OpenClaim.holds_of_wide 3 Try.f3 rfl rfl rfl rfl rfl rfl rfl ⟨rfl, rfl, rfl, rfl, rfl⟩ rfl rfl rfl rfl rfl (by kernel_rfl) Try.func3 closed
    (of_decide_eq_true (by kernel_rfl)) (by unfold Func.isWrapper; first | (rw [if_pos (by decide +kernel)]; kernel_rfl) | (rw [if_neg (by decide +kernel)]; exact ⟨rfl, rfl⟩))
    (fun os started H enc _ => lifted os started H enc)

/-- The statement. -/
theorem proved : Rows.PlaneSpotsSaid :=
  over
end Go.Proofs.Ytmhmhdnbobllfaa.planeSpots
