/- The statement OctetCut. -/
import Derived.Test.YtcfecmoagfgnaaaOct6
import Derived.Test.YtcfecmoagfgnaaaHeads
set_option maxRecDepth 100000
namespace Go.Proofs.Ytcfecmoagfgnaaa.octetCut
open Go.ChangeShapes Go.WideShapes Go.ChangeAt Go.RowKit Go.Vc Go.Pl

theorem own : ownKnob Try.prog.godebug = none := by kernel_rfl

theorem lifted (os : Os) (started : os.Started) (H : Type) (enc : TypeId × Value → H) :
    ReturnsInHanded {} Try.checked os 6 .any (Rows.octetCutSpec.pre6 enc Try.prog Try.f6 Rows.octetCutRow.domain false) (Rows.octetCutSpec.post enc Try.prog Try.f6 false true false false) := by
  refine law_of (C := Try.checked) (tb := 4) started own (by kernel_rfl) Try.func6
    (ChangeSpec.witness6 (enc := enc) (C := Try.checked) false ⟨#[], #[.slice none 0 0, .int .i64 0, .slice none 0 0], []⟩ 8 (by kernel_rfl) (by kernel_rfl) (by kernel_rfl) (by kernel_rfl)) rfl (by kernel_rfl) Try.underlying4 (by kernel_rfl) (by kernel_rfl) ?_
  intro W base args ds ps hval0 hAA hsz
  have hval : ∀ (j : Nat) t v, Try.f6.params[j]? = some t → args[j]? = some v → Value.okWide Try.prog W .any base t v := hval0
  have hA : DataW.TrodAll enc Try.prog W 0 (fun _ => true) true Try.f6.params.toList args.toList ds ps := hAA
  rw [Try.params6] at hA hval
  obtain ⟨v0, vs0, d0, ds0, p0, q0, hargs, rfl, rfl, h0, r0⟩ := trodAll_cons hA
  obtain ⟨v1, vs1, d1, ds1, p1, q1, rfl, rfl, rfl, h1, r1⟩ := trodAll_cons r0
  obtain ⟨v2, vs2, d2, ds2, p2, q2, rfl, rfl, rfl, h2, r2⟩ := trodAll_cons r1
  obtain ⟨rfl, rfl, rfl⟩ := trodAll_nil r2
  obtain rfl : args = #[v0, v1, v2] := by cases args; simp_all
  obtain ⟨p0, l0, c0, rfl, hA0⟩ := Opens.value Try.underlying31 (Opens.slice (sz := 1) Try.underlying31 (by kernel_rfl) (by decide) (Opens.slice (sz := 1) Try.underlying24 (by kernel_rfl) (by decide) (Opens.u8 Try.underlying5))) (hval 0 31 v0 rfl rfl) h0
  obtain ⟨a1, rfl, rfl, rfl, w1⟩ := open_int Try.underlying3 (hval 1 3 v1 rfl rfl) h1
  obtain ⟨p2, l2, c2, rfl, hA2⟩ := Opens.value Try.underlying24 (Opens.slice (sz := 1) Try.underlying24 (by kernel_rfl) (by decide) (Opens.u8 Try.underlying5)) (hval 2 24 v2 rfl rfl) h2
  exact ⟨rfl, cut_any (Own.start W) hA0 a1 hA2⟩

theorem closed : joinedFacts Try.prog 6 Try.f6 Rows.octetCutSpec Rows.octetCutRow = true := by
  unfold joinedFacts
  rw [mayEnter_is, liftsFinal_is, make_is]
  kernel_rfl

theorem over : Rows.octetCutRow.holds Try.pinned (OpenSpec.ofChange Rows.octetCutSpec) :=
  OpenClaim.holds_of_wide 6 Try.f6 rfl rfl rfl rfl rfl rfl rfl ⟨rfl, rfl, rfl, rfl, rfl⟩ rfl rfl rfl rfl rfl (by kernel_rfl) Try.func6 closed
    (of_decide_eq_true (by kernel_rfl)) (by unfold Func.isWrapper; first | (rw [if_pos (by decide +kernel)]; kernel_rfl) | (rw [if_neg (by decide +kernel)]; exact ⟨rfl, rfl⟩))
    (fun os started H enc _ => lifted os started H enc)

/-- The statement. -/
theorem proved : Rows.OctetCutSaid :=
  over
end Go.Proofs.Ytcfecmoagfgnaaa.octetCut
