/- The statement OctetOwn. -/
import Derived.Test.YtcfecmoagfgnaaaOct8
import Derived.Test.YtcfecmoagfgnaaaHeads
set_option maxRecDepth 100000
namespace Go.Proofs.Ytcfecmoagfgnaaa.octetOwn
open Go.ChangeShapes Go.WideShapes Go.ChangeAt Go.RowKit Go.Vc Go.Pl

theorem own : ownKnob Try.prog.godebug = none := by kernel_rfl

theorem lifted (os : Os) (started : os.Started) (H : Type) (enc : TypeId × Value → H) :
    ReturnsInHanded {} Try.checked os 7 .any (Rows.octetOwnSpec.pre6 enc Try.prog Try.f7 Rows.octetOwnRow.domain false) (Rows.octetOwnSpec.post enc Try.prog Try.f7 false true false false) := by
  refine law_of (C := Try.checked) (tb := 4) started own (by kernel_rfl) Try.func7
    (ChangeSpec.witness6 (enc := enc) (C := Try.checked) false ⟨#[], #[.slice none 0 0], []⟩ 8 (by kernel_rfl) (by kernel_rfl) (by kernel_rfl) (by kernel_rfl)) rfl (by kernel_rfl) Try.underlying4 (by kernel_rfl) (by kernel_rfl) ?_
  intro W base args ds ps hval0 hAA hsz
  have hval : ∀ (j : Nat) t v, Try.f7.params[j]? = some t → args[j]? = some v → Value.okWide Try.prog W .any base t v := hval0
  have hA : DataW.TrodAll enc Try.prog W 0 (fun _ => true) true Try.f7.params.toList args.toList ds ps := hAA
  rw [Try.params7] at hA hval
  obtain ⟨v0, vs0, d0, ds0, p0, q0, hargs, rfl, rfl, h0, r0⟩ := trodAll_cons hA
  obtain ⟨rfl, rfl, rfl⟩ := trodAll_nil r0
  obtain rfl : args = #[v0] := by cases args; simp_all
  obtain ⟨p0, l0, c0, rfl, hA0⟩ := Opens.value Try.underlying31 (Opens.slice (sz := 1) Try.underlying31 (by kernel_rfl) (by decide) (Opens.slice (sz := 1) Try.underlying24 (by kernel_rfl) (by decide) (Opens.u8 Try.underlying5))) (hval 0 31 v0 rfl rfl) h0
  exact ⟨rfl, own_any (Own.start W) hA0⟩

theorem closed : joinedFacts Try.prog 7 Try.f7 Rows.octetOwnSpec Rows.octetOwnRow = true := by
  unfold joinedFacts
  rw [mayEnter_is, liftsFinal_is, make_is]
  kernel_rfl

theorem over : Rows.octetOwnRow.holds Try.pinned (OpenSpec.ofChange Rows.octetOwnSpec) :=
  OpenClaim.holds_of_wide 7 Try.f7 rfl rfl rfl rfl rfl rfl rfl ⟨rfl, rfl, rfl, rfl, rfl⟩ rfl rfl rfl rfl rfl (by kernel_rfl) Try.func7 closed
    (of_decide_eq_true (by kernel_rfl)) (by unfold Func.isWrapper; first | (rw [if_pos (by decide +kernel)]; kernel_rfl) | (rw [if_neg (by decide +kernel)]; exact ⟨rfl, rfl⟩))
    (fun os started H enc _ => lifted os started H enc)

/-- The statement. -/
theorem proved : Rows.OctetOwnSaid :=
  over
end Go.Proofs.Ytcfecmoagfgnaaa.octetOwn
