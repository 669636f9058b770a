/- Calls as arguments, opened. -/
import Derived.Test.YtcfecmoagfgnaaaFr2
import Derived.Test.YtcfecmoagfgnaaaPut5
namespace Go.Proofs.Ytcfecmoagfgnaaa
open Go.Vc Go.Pl

open Go.ChangeShapes Go.WideShapes Go.ChangeAt Go.RowKit
section
variable {Hh : Type} {enc : TypeId × Value → Hh} {W : World}
def calR' : Rel Cal := fun K w vs x => ∃ q d p c, x.ok ∧ vs = cat (calV x q d p c) ∧ Arr 162 bundleR' K w q x.bundles d ∧ Bytes K w p x.letter.body c
theorem open110 : Opens enc Try.prog W 110 calR' := by
  intro fuel cs x h
  obtain ⟨hl, m, hz0, hz1, hz2, hz3, hz4, hz5, _⟩ := openFields [(5, 0, 1), (68, 1, 1), (5, 2, 1), (68, 3, 1), (108, 4, 1), (72, 5, 167)] Try.underlying110 (by kernel_rfl) h
  rw [show Try.prog.cellsOf 110 = 172 by kernel_rfl] at hl
  obtain ⟨z0, hz0⟩ := hz0
  obtain ⟨y0, ho0, hy0⟩ := (openU8 Try.underlying5) _ _ _ hz0
  obtain ⟨z1, hz1⟩ := hz1
  obtain ⟨y1, ho1, hy1⟩ := (openU16 Try.underlying68) _ _ _ hz1
  obtain ⟨z2, hz2⟩ := hz2
  obtain ⟨y2, ho2, hy2⟩ := (openU8 Try.underlying5) _ _ _ hz2
  obtain ⟨z3, hz3⟩ := hz3
  obtain ⟨y3, ho3, hy3⟩ := (openU16 Try.underlying68) _ _ _ hz3
  obtain ⟨z4, hz4⟩ := hz4
  obtain ⟨y4, p4, c4, hy4, hA4⟩ := (Opens.slice (sz := 162) Try.underlying108 (by kernel_rfl) (by decide) open82) _ _ _ hz4
  obtain ⟨z5, hz5⟩ := hz5
  obtain ⟨y5, p5, c5, ho5, hy5, hA5⟩ := open72 _ _ _ hz5
  have hbs : ∀ b ∈ y4, b.ok := fun b hb => by
    obtain ⟨i, hi⟩ := List.mem_iff_getElem?.1 hb
    obtain ⟨vs, a, _, _, h1, _⟩ := hA4.cell hi
    exact h1.1
  refine ⟨⟨y0, y1, y2, y3, y4, y5⟩, p4, c4, p5, c5, ⟨ho0, ho1, ho2, ho3, hbs, ho5⟩, ?_, hA4, hA5⟩
  have e0 : cs = cs.drop 0 := rfl
  have f0 := cutCells 0 1 hy0
  have f1 := cutCells 1 1 hy1
  have f2 := cutCells 2 1 hy2
  have f3 := cutCells 3 1 hy3
  have f4 := cutCells 4 1 hy4
  have f5 := cutCells 5 167 hy5
  have fe : cs.drop 172 = [] := List.drop_eq_nil_of_le (by omega)
  rw [e0, f0, f1, f2, f3, f4, f5, fe]
  simp only [cat, List.append_assoc, List.append_nil, List.nil_append]
end
end Go.Proofs.Ytcfecmoagfgnaaa
