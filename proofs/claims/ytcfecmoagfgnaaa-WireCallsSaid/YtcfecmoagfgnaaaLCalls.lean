/- The statement WireCalls. -/
import Derived.Test.YtcfecmoagfgnaaaRef8
import Derived.Test.YtcfecmoagfgnaaaFr3
import Derived.Test.YtcfecmoagfgnaaaHeads
set_option maxRecDepth 100000
namespace Go.Proofs.Ytcfecmoagfgnaaa.wireCalls
open Go.ChangeShapes Go.WideShapes Go.ChangeAt Go.RowKit Go.Vc Go.Pl

theorem own : ownKnob Try.prog.godebug = none := by kernel_rfl

theorem lifted (os : Os) (started : os.Started) (H : Type) (enc : TypeId × Value → H) :
    ReturnsInHanded {} Try.checked os 17 .any (Rows.wireCallsSpec.pre6 enc Try.prog Try.f17 Rows.wireCallsRow.domain false) (Rows.wireCallsSpec.post enc Try.prog Try.f17 false true false false) := by
  refine law_of (C := Try.checked) (tb := 4) started own (by kernel_rfl) Try.func17
    (ChangeSpec.witness6 (enc := enc) (C := Try.checked) false ⟨#[], #[.agg (cat (calV cal0 none 0 none 0)).toArray], []⟩ 8 (by kernel_rfl) (by kernel_rfl) (by kernel_rfl) (by kernel_rfl)) rfl (by kernel_rfl) Try.underlying4 (by kernel_rfl) (by kernel_rfl) ?_
  intro W base args ds ps hval0 hAA hsz
  have hval : ∀ (j : Nat) t v, Try.f17.params[j]? = some t → args[j]? = some v → Value.okWide Try.prog W .any base t v := hval0
  have hA : DataW.TrodAll enc Try.prog W 0 (fun _ => true) true Try.f17.params.toList args.toList ds ps := hAA
  rw [Try.params17] at hA hval
  obtain ⟨v0, vs0, d0, ds0, p0, q0, hargs, rfl, rfl, h0, r0⟩ := trodAll_cons hA
  obtain ⟨rfl, rfl, rfl⟩ := trodAll_nil r0
  obtain rfl : args = #[v0] := by cases args; simp_all
  obtain ⟨cs0, x0, rfl, q0, d0, p0, c0, hx0, rfl, hV0, hA0⟩ := Opens.struct Try.underlying110 open110 (hval 0 110 v0 rfl rfl) h0
  exact ⟨rfl, wireCalls_w (Own.start W) hx0 hV0 hA0⟩

theorem closed : joinedFacts Try.prog 17 Try.f17 Rows.wireCallsSpec Rows.wireCallsRow = true := by
  unfold joinedFacts
  rw [mayEnter_is, liftsFinal_is, make_is]
  kernel_rfl

theorem over : Rows.wireCallsRow.holds Try.pinned (OpenSpec.ofChange Rows.wireCallsSpec) :=
  OpenClaim.holds_of_wide 17 Try.f17 rfl rfl rfl rfl rfl rfl rfl ⟨rfl, rfl, rfl, rfl, rfl⟩ rfl rfl rfl rfl rfl (by kernel_rfl) Try.func17 closed
    (of_decide_eq_true (by kernel_rfl)) (by unfold Func.isWrapper; first | (rw [if_pos (by decide +kernel)]; kernel_rfl) | (rw [if_neg (by decide +kernel)]; exact ⟨rfl, rfl⟩))
    (fun os started H enc _ => lifted os started H enc)

/-- The statement. -/
theorem proved : Rows.WireCallsSaid :=
  over
end Go.Proofs.Ytcfecmoagfgnaaa.wireCalls
