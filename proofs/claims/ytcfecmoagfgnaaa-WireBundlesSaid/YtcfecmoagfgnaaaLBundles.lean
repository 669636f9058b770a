/- The statement WireBundles. -/
import Derived.Test.YtcfecmoagfgnaaaRef7
import Derived.Test.YtcfecmoagfgnaaaHeads
set_option maxRecDepth 100000
namespace Go.Proofs.Ytcfecmoagfgnaaa.wireBundles
open Go.ChangeShapes Go.WideShapes Go.ChangeAt Go.RowKit Go.Vc Go.Pl

theorem own : ownKnob Try.prog.godebug = none := by kernel_rfl

theorem lifted (os : Os) (started : os.Started) (H : Type) (enc : TypeId × Value → H) :
    ReturnsInHanded {} Try.checked os 14 .any (Rows.wireBundlesSpec.pre6 enc Try.prog Try.f14 Rows.wireBundlesRow.domain false) (Rows.wireBundlesSpec.post enc Try.prog Try.f14 false true false false) := by
  refine law_of (C := Try.checked) (tb := 4) started own (by kernel_rfl) Try.func14
    (ChangeSpec.witness6 (enc := enc) (C := Try.checked) false ⟨#[], #[.agg (cat (bundleV bundle0)).toArray], []⟩ 8 (by kernel_rfl) (by kernel_rfl) (by kernel_rfl) (by kernel_rfl)) rfl (by kernel_rfl) Try.underlying4 (by kernel_rfl) (by kernel_rfl) ?_
  intro W base args ds ps hval0 hAA hsz
  have hval : ∀ (j : Nat) t v, Try.f14.params[j]? = some t → args[j]? = some v → Value.okWide Try.prog W .any base t v := hval0
  have hA : DataW.TrodAll enc Try.prog W 0 (fun _ => true) true Try.f14.params.toList args.toList ds ps := hAA
  rw [Try.params14] at hA hval
  obtain ⟨v0, vs0, d0, ds0, p0, q0, hargs, rfl, rfl, h0, r0⟩ := trodAll_cons hA
  obtain ⟨rfl, rfl, rfl⟩ := trodAll_nil r0
  obtain rfl : args = #[v0] := by cases args; simp_all
  obtain ⟨cs0, x0, rfl, hx0, rfl⟩ := Opens.struct Try.underlying82 open82 (hval 0 82 v0 rfl rfl) h0
  exact ⟨rfl, wireBundles_w (Own.start W) (by simp) hx0⟩

theorem closed : joinedFacts Try.prog 14 Try.f14 Rows.wireBundlesSpec Rows.wireBundlesRow = true := by
  unfold joinedFacts
  rw [mayEnter_is, liftsFinal_is, make_is]
  kernel_rfl

theorem over : Rows.wireBundlesRow.holds Try.pinned (OpenSpec.ofChange Rows.wireBundlesSpec) :=
  OpenClaim.holds_of_wide 14 Try.f14 rfl rfl rfl rfl rfl rfl rfl ⟨rfl, rfl, rfl, rfl, rfl⟩ rfl rfl rfl rfl rfl (by kernel_rfl) Try.func14 closed
    (of_decide_eq_true (by kernel_rfl)) (by unfold Func.isWrapper; first | (rw [if_pos (by decide +kernel)]; kernel_rfl) | (rw [if_neg (by decide +kernel)]; exact ⟨rfl, rfl⟩))
    (fun os started H enc _ => lifted os started H enc)

/-- The statement. -/
theorem proved : Rows.WireBundlesSaid :=
  over
end Go.Proofs.Ytcfecmoagfgnaaa.wireBundles
