/- Struct arguments, opened. -/
import Derived.Test.YtcfecmoagfgnaaaFr
import Derived.Test.YtcfecmoagfgnaaaSt3
import Derived.Test.YtcfecmoagfgnaaaGet3
namespace Go.Proofs.Ytcfecmoagfgnaaa
open Go.Vc Go.Pl

open Go.ChangeShapes Go.WideShapes Go.ChangeAt Go.RowKit
section
variable {Hh : Type} {enc : TypeId × Value → Hh} {P : Program} {W : World} {t : TypeId}
def natR (k : IntKind) (b : Nat) : Rel Nat := fun _ _ vs n => n < b ∧ vs = [.int k n]
def boolR : Rel Bool := fun _ _ vs b => vs = [.bool b]
def arrR (n : Nat) : Rel (List UInt8) := fun _ _ vs l => l.length = n ∧ vs = l.map bv
theorem openNat {k : IntKind} {b : Nat} (hb : ∀ n : Int, (Lit.int k n).wf = true → 0 ≤ n ∧ n < b) (ht : P.underlying t = some (.int k)) : Opens enc P W t (natR k b) := by
  intro fuel cs x h
  cases fuel with
  | zero => simp [DataW.trod] at h
  | succ n =>
    unfold DataW.trod at h
    rw [ht] at h
    split at h <;> simp_all
    rename_i k0 k n' heq
    subst heq
    obtain ⟨⟨rfl, hw⟩, _⟩ := h
    obtain ⟨h1, h2⟩ := hb _ hw
    refine ⟨n'.toNat, by omega, ?_⟩
    rw [Int.toNat_of_nonneg h1]
theorem openU8 (ht : P.underlying t = some (.int .u8)) : Opens enc P W t (natR .u8 256) := openNat (fun n h => by have := bounds_u8 h; omega) ht
theorem openU16 (ht : P.underlying t = some (.int .u16)) : Opens enc P W t (natR .u16 65536) := openNat (fun n h => by have := bounds_u16 h; omega) ht
theorem openU32 (ht : P.underlying t = some (.int .u32)) : Opens enc P W t (natR .u32 4294967296) := openNat (fun n h => by have := bounds_u32 h; omega) ht
theorem openBool (ht : P.underlying t = some .bool) : Opens enc P W t boolR := by
  intro fuel cs x h
  cases fuel with
  | zero => simp [DataW.trod] at h
  | succ n =>
    unfold DataW.trod at h
    rw [ht] at h
    split at h <;> simp_all
    rename_i b
    cases b
    · exact .inl rfl
    · exact .inr rfl
theorem openArr {n : Nat} {e : TypeId} (ht : P.underlying t = some (.array n e)) (he : P.underlying e = some (.int .u8)) (hc : P.cellsOf e = 1) (hn : P.cellsOf t = n) : Opens enc P W t (arrR n) := by
  intro fuel cs x h
  obtain ⟨xs, m, rfl, _, hl, hxl, hx⟩ := DataW.trod_array ht h
  rw [hn] at hl
  rw [hc] at hx
  have each : ∀ i, i < n → ∃ b : UInt8, (cs.drop (i * 1)).take 1 = [bv b] := by
    intro i hi
    have h1 := hx i hi
    rw [List.getElem?_eq_getElem (by omega)] at h1
    exact Opens.u8 (enc := enc) (W := W) he _ _ _ h1
  obtain ⟨l, h1, h2⟩ := pick_list n each
  refine ⟨l, h1, ?_⟩
  refine List.ext_getElem? fun i => ?_
  rw [List.getElem?_map]
  by_cases hi : i < n
  · have e1 := h2 i (l[i]'(by omega)) (List.getElem?_eq_getElem (by omega))
    rw [List.getElem?_eq_getElem (l := l) (by omega)]
    have e2 : ((cs.drop (i * 1)).take 1)[0]? = some (bv (l[i]'(by omega))) := by rw [e1]; rfl
    rw [List.getElem?_take_of_lt (by decide), List.getElem?_drop] at e2
    simpa using e2
  · rw [List.getElem?_eq_none (by omega), List.getElem?_eq_none (by omega)]; rfl
def FieldsAt (enc : TypeId × Value → Hh) (P : Program) (W : World) (fuel : Nat) (cs : List Value) : List (TypeId × Nat × Nat) → Prop
  | [] => True
  | e :: r => (∃ z, DataW.trod enc P W 0 (fun _ => true) true fuel e.1 ((cs.drop e.2.1).take e.2.2) = some z) ∧ FieldsAt enc P W fuel cs r
theorem openFields {fs : Array Field} {fuel : Nat} {cs : List Value} {x : DataW Hh × List MemPlace} (L : List (TypeId × Nat × Nat)) (ht : P.underlying t = some (.struct fs)) (hL : fs.toList.map (fun f => (f.type, f.offset, P.cellsOf f.type)) = L) (h : DataW.trod enc P W 0 (fun _ => true) true fuel t cs = some x) :
    cs.length = P.cellsOf t ∧ ∃ m, FieldsAt enc P W m cs L := by
  obtain ⟨xs, m, _, _, hl, hxl, hx⟩ := DataW.trod_struct ht h
  refine ⟨hl, m, ?_⟩
  subst hL
  have key : ∀ (gs : List Field), (∀ f ∈ gs, ∃ z, DataW.trod enc P W 0 (fun _ => true) true m f.type ((cs.drop f.offset).take (P.cellsOf f.type)) = some z) → FieldsAt enc P W m cs (gs.map (fun f => (f.type, f.offset, P.cellsOf f.type))) := by
    intro gs
    induction gs with
    | nil => intro _; trivial
    | cons g r ih => intro hg; exact ⟨hg g (by simp), ih fun f hf => hg f (by simp [hf])⟩
  refine key _ fun f hf => ?_
  obtain ⟨i, hi⟩ := List.mem_iff_getElem?.1 hf
  have hlt : i < xs.length := by
    have := (List.getElem?_eq_some_iff.1 hi).1
    simp at this hxl; omega
  have h1 := hx i f (by simpa using hi)
  rw [List.getElem?_eq_getElem hlt] at h1
  exact ⟨_, h1⟩
/-- Cells, cut where the fields begin. -/
theorem cutCells {cs a : List Value} (o n : Nat) (h : (cs.drop o).take n = a) : cs.drop o = a ++ cs.drop (o + n) := by
  rw [← h, ← List.drop_drop, List.take_append_drop]
theorem Opens.struct {fs : Array Field} {X : Type} {R : Rel X} {r : Reach} {base : Nat} {v : Value} {d : DataW Hh} {ps : List MemPlace} (ht : P.underlying t = some (.struct fs)) (h : Opens enc P W t R) (hval : Value.okWide P W r base t v) (hd : DataW.Trod enc P W 0 (fun _ => true) true t v d ps) :
    ∃ cs y, v = .agg cs.toArray ∧ R [] W cs y := by
  obtain ⟨fuel, hf⟩ := hd
  obtain ⟨y, hy⟩ := h _ _ _ hf
  unfold Value.okWide at hval
  rw [ht] at hval
  obtain ⟨cs, rfl, _⟩ := hval
  exact ⟨cs.toList, y, by simp, by simpa [Value.cells] using hy⟩
end
section
variable {Hh : Type} {enc : TypeId × Value → Hh} {W : World}

def headerR' : Rel Header := fun _ _ vs x => x.ok ∧ vs = cat (headerV x)
theorem open70 : Opens enc Try.prog W 70 headerR' := by
  intro fuel cs x h
  obtain ⟨hl, m, hz0, hz1, hz2, hz3, hz4, hz5, hz6, hz7, hz8, _⟩ := openFields [(44, 0, 32), (4, 32, 1), (44, 33, 32), (44, 65, 32), (44, 97, 32), (68, 129, 1), (44, 130, 32), (68, 162, 1), (68, 163, 1)] Try.underlying70 (by kernel_rfl) h
  rw [show Try.prog.cellsOf 70 = 164 by kernel_rfl] at hl
  obtain ⟨z0, hz0⟩ := hz0
  obtain ⟨y0, ho0, hy0⟩ := (openArr (n := 32) Try.underlying44 Try.underlying5 (by kernel_rfl) (by kernel_rfl)) _ _ _ hz0
  obtain ⟨z1, hz1⟩ := hz1
  obtain ⟨y1, hy1⟩ := (openBool Try.underlying4) _ _ _ hz1
  obtain ⟨z2, hz2⟩ := hz2
  obtain ⟨y2, ho2, hy2⟩ := (openArr (n := 32) Try.underlying44 Try.underlying5 (by kernel_rfl) (by kernel_rfl)) _ _ _ hz2
  obtain ⟨z3, hz3⟩ := hz3
  obtain ⟨y3, ho3, hy3⟩ := (openArr (n := 32) Try.underlying44 Try.underlying5 (by kernel_rfl) (by kernel_rfl)) _ _ _ hz3
  obtain ⟨z4, hz4⟩ := hz4
  obtain ⟨y4, ho4, hy4⟩ := (openArr (n := 32) Try.underlying44 Try.underlying5 (by kernel_rfl) (by kernel_rfl)) _ _ _ hz4
  obtain ⟨z5, hz5⟩ := hz5
  obtain ⟨y5, ho5, hy5⟩ := (openU16 Try.underlying68) _ _ _ hz5
  obtain ⟨z6, hz6⟩ := hz6
  obtain ⟨y6, ho6, hy6⟩ := (openArr (n := 32) Try.underlying44 Try.underlying5 (by kernel_rfl) (by kernel_rfl)) _ _ _ hz6
  obtain ⟨z7, hz7⟩ := hz7
  obtain ⟨y7, ho7, hy7⟩ := (openU16 Try.underlying68) _ _ _ hz7
  obtain ⟨z8, hz8⟩ := hz8
  obtain ⟨y8, ho8, hy8⟩ := (openU16 Try.underlying68) _ _ _ hz8
  refine ⟨⟨y0, y1, y2, y3, y4, y5, y6, y7, y8⟩, ⟨ho0, ho2, ho3, ho4, ho5, ho6, ho7, ho8⟩, ?_⟩
  have e0 : cs = cs.drop 0 := rfl
  have f0 := cutCells 0 32 hy0
  have f1 := cutCells 32 1 hy1
  have f2 := cutCells 33 32 hy2
  have f3 := cutCells 65 32 hy3
  have f4 := cutCells 97 32 hy4
  have f5 := cutCells 129 1 hy5
  have f6 := cutCells 130 32 hy6
  have f7 := cutCells 162 1 hy7
  have f8 := cutCells 163 1 hy8
  have fe : cs.drop 164 = [] := List.drop_eq_nil_of_le (by omega)
  rw [e0, f0, f1, f2, f3, f4, f5, f6, f7, f8, fe]
  simp only [cat, List.append_assoc, List.append_nil, List.nil_append]
def bundleR' : Rel Bundle := fun _ _ vs x => x.ok ∧ vs = cat (bundleV x)
theorem open82 : Opens enc Try.prog W 82 bundleR' := by
  intro fuel cs x h
  obtain ⟨hl, m, hz0, hz1, hz2, hz3, hz4, hz5, _⟩ := openFields [(5, 0, 1), (44, 1, 32), (44, 33, 32), (68, 65, 1), (44, 66, 32), (80, 98, 64)] Try.underlying82 (by kernel_rfl) h
  rw [show Try.prog.cellsOf 82 = 162 by kernel_rfl] at hl
  obtain ⟨z0, hz0⟩ := hz0
  obtain ⟨y0, ho0, hy0⟩ := (openU8 Try.underlying5) _ _ _ hz0
  obtain ⟨z1, hz1⟩ := hz1
  obtain ⟨y1, ho1, hy1⟩ := (openArr (n := 32) Try.underlying44 Try.underlying5 (by kernel_rfl) (by kernel_rfl)) _ _ _ hz1
  obtain ⟨z2, hz2⟩ := hz2
  obtain ⟨y2, ho2, hy2⟩ := (openArr (n := 32) Try.underlying44 Try.underlying5 (by kernel_rfl) (by kernel_rfl)) _ _ _ hz2
  obtain ⟨z3, hz3⟩ := hz3
  obtain ⟨y3, ho3, hy3⟩ := (openU16 Try.underlying68) _ _ _ hz3
  obtain ⟨z4, hz4⟩ := hz4
  obtain ⟨y4, ho4, hy4⟩ := (openArr (n := 32) Try.underlying44 Try.underlying5 (by kernel_rfl) (by kernel_rfl)) _ _ _ hz4
  obtain ⟨z5, hz5⟩ := hz5
  obtain ⟨y5, ho5, hy5⟩ := (openArr (n := 64) Try.underlying80 Try.underlying5 (by kernel_rfl) (by kernel_rfl)) _ _ _ hz5
  refine ⟨⟨y0, y1, y2, y3, y4, y5⟩, ⟨ho0, ho1, ho2, ho3, ho4, ho5⟩, ?_⟩
  have e0 : cs = cs.drop 0 := rfl
  have f0 := cutCells 0 1 hy0
  have f1 := cutCells 1 32 hy1
  have f2 := cutCells 33 32 hy2
  have f3 := cutCells 65 1 hy3
  have f4 := cutCells 66 32 hy4
  have f5 := cutCells 98 64 hy5
  have fe : cs.drop 162 = [] := List.drop_eq_nil_of_le (by omega)
  rw [e0, f0, f1, f2, f3, f4, f5, fe]
  simp only [cat, List.append_assoc, List.append_nil, List.nil_append]
theorem open202 : Opens enc Try.prog W 202 vouchR := by
  intro fuel cs x h
  obtain ⟨hl, m, hz0, hz1, _⟩ := openFields [(5, 0, 1), (80, 1, 64)] Try.underlying202 (by kernel_rfl) h
  rw [show Try.prog.cellsOf 202 = 65 by kernel_rfl] at hl
  obtain ⟨z0, hz0⟩ := hz0
  obtain ⟨y0, ho0, hy0⟩ := (openU8 Try.underlying5) _ _ _ hz0
  obtain ⟨z1, hz1⟩ := hz1
  obtain ⟨y1, ho1, hy1⟩ := (openArr (n := 64) Try.underlying80 Try.underlying5 (by kernel_rfl) (by kernel_rfl)) _ _ _ hz1
  refine ⟨⟨y0, y1⟩, ⟨ho0, ho1⟩, ?_⟩
  have e0 : cs = cs.drop 0 := rfl
  have f0 := cutCells 0 1 hy0
  have f1 := cutCells 1 64 hy1
  have fe : cs.drop 65 = [] := List.drop_eq_nil_of_le (by omega)
  rw [e0, f0, f1, fe]
  simp only [cat, List.append_assoc, List.append_nil, List.nil_append]
theorem vouch_at {vs : List Vouch} {p : Option Addr} {c : Nat} (h : Arr 65 vouchR [] W p vs c) {i : Nat} {v : Vouch} (hi : vs[i]? = some v) : v.ok := by
  obtain ⟨vs, a, _, _, h1, _⟩ := h.cell hi
  exact h1.1
def letterR' : Rel Letter := fun K w vs x => ∃ p c, x.ok ∧ vs = cat (letterV x p c) ∧ Bytes K w p x.body c
theorem open72 : Opens enc Try.prog W 72 letterR' := by
  intro fuel cs x h
  obtain ⟨hl, m, hz0, hz1, hz2, hz3, _⟩ := openFields [(5, 0, 1), (5, 1, 1), (70, 2, 164), (24, 166, 1)] Try.underlying72 (by kernel_rfl) h
  rw [show Try.prog.cellsOf 72 = 167 by kernel_rfl] at hl
  obtain ⟨z0, hz0⟩ := hz0
  obtain ⟨y0, ho0, hy0⟩ := (openU8 Try.underlying5) _ _ _ hz0
  obtain ⟨z1, hz1⟩ := hz1
  obtain ⟨y1, ho1, hy1⟩ := (openU8 Try.underlying5) _ _ _ hz1
  obtain ⟨z2, hz2⟩ := hz2
  obtain ⟨y2, ho2, hy2⟩ := open70 _ _ _ hz2
  obtain ⟨z3, hz3⟩ := hz3
  obtain ⟨y3, p3, c3, hy3, hA3⟩ := (Opens.slice (sz := 1) Try.underlying24 (by kernel_rfl) (by decide) (Opens.u8 Try.underlying5)) _ _ _ hz3
  refine ⟨⟨y0, y1, y2, y3⟩, p3, c3, ⟨ho0, ho1, ho2⟩, ?_, hA3⟩
  have e0 : cs = cs.drop 0 := rfl
  have f0 := cutCells 0 1 hy0
  have f1 := cutCells 1 1 hy1
  have f2 := cutCells 2 164 hy2
  have f3 := cutCells 166 1 hy3
  have fe : cs.drop 167 = [] := List.drop_eq_nil_of_le (by omega)
  rw [e0, f0, f1, f2, f3, fe]
  simp only [cat, List.append_assoc, List.append_nil, List.nil_append]
def objectR' : Rel Object := fun K w vs x => ∃ p c, x.ok ∧ vs = cat (objectV x p c) ∧ Arr 65 vouchR K w p x.vouches c
theorem open85 : Opens enc Try.prog W 85 objectR' := by
  intro fuel cs x h
  obtain ⟨hl, m, hz0, hz1, hz2, hz3, hz4, hz5, hz6, _⟩ := openFields [(5, 0, 1), (5, 1, 1), (44, 2, 32), (48, 34, 1), (48, 35, 1), (80, 36, 64), (83, 100, 1)] Try.underlying85 (by kernel_rfl) h
  rw [show Try.prog.cellsOf 85 = 101 by kernel_rfl] at hl
  obtain ⟨z0, hz0⟩ := hz0
  obtain ⟨y0, ho0, hy0⟩ := (openU8 Try.underlying5) _ _ _ hz0
  obtain ⟨z1, hz1⟩ := hz1
  obtain ⟨y1, ho1, hy1⟩ := (openU8 Try.underlying5) _ _ _ hz1
  obtain ⟨z2, hz2⟩ := hz2
  obtain ⟨y2, ho2, hy2⟩ := (openArr (n := 32) Try.underlying44 Try.underlying5 (by kernel_rfl) (by kernel_rfl)) _ _ _ hz2
  obtain ⟨z3, hz3⟩ := hz3
  obtain ⟨y3, ho3, hy3⟩ := (openU32 Try.underlying48) _ _ _ hz3
  obtain ⟨z4, hz4⟩ := hz4
  obtain ⟨y4, ho4, hy4⟩ := (openU32 Try.underlying48) _ _ _ hz4
  obtain ⟨z5, hz5⟩ := hz5
  obtain ⟨y5, ho5, hy5⟩ := (openArr (n := 64) Try.underlying80 Try.underlying5 (by kernel_rfl) (by kernel_rfl)) _ _ _ hz5
  obtain ⟨z6, hz6⟩ := hz6
  obtain ⟨y6, p6, c6, hy6, hA6⟩ := (Opens.slice (sz := 65) Try.underlying83 (by kernel_rfl) (by decide) open202) _ _ _ hz6
  have hvs : ∀ v ∈ y6, v.ok := fun v hv => by
    obtain ⟨i, hi⟩ := List.mem_iff_getElem?.1 hv
    exact vouch_at hA6 hi
  refine ⟨⟨y0, y1, y2, y3, y4, y5, y6⟩, p6, c6, ⟨ho0, ho1, ho2, ho3, ho4, ho5, hvs⟩, ?_, hA6⟩
  have e0 : cs = cs.drop 0 := rfl
  have f0 := cutCells 0 1 hy0
  have f1 := cutCells 1 1 hy1
  have f2 := cutCells 2 32 hy2
  have f3 := cutCells 34 1 hy3
  have f4 := cutCells 35 1 hy4
  have f5 := cutCells 36 64 hy5
  have f6 := cutCells 100 1 hy6
  have fe : cs.drop 101 = [] := List.drop_eq_nil_of_le (by omega)
  rw [e0, f0, f1, f2, f3, f4, f5, f6, fe]
  simp only [cat, List.append_assoc, List.append_nil, List.nil_append]
def itemR' : Rel Itm := fun K w vs x => ∃ p c q d, x.ok ∧ vs = cat (itemV x p c q d) ∧ Bytes K w p x.letter.body c ∧ Arr 65 vouchR K w q x.object.vouches d
theorem open87 : Opens enc Try.prog W 87 itemR' := by
  intro fuel cs x h
  obtain ⟨hl, m, hz0, hz1, hz2, hz3, hz4, hz5, _⟩ := openFields [(5, 0, 1), (5, 1, 1), (5, 2, 1), (72, 3, 167), (82, 170, 162), (85, 332, 101)] Try.underlying87 (by kernel_rfl) h
  rw [show Try.prog.cellsOf 87 = 433 by kernel_rfl] at hl
  obtain ⟨z0, hz0⟩ := hz0
  obtain ⟨y0, ho0, hy0⟩ := (openU8 Try.underlying5) _ _ _ hz0
  obtain ⟨z1, hz1⟩ := hz1
  obtain ⟨y1, ho1, hy1⟩ := (openU8 Try.underlying5) _ _ _ hz1
  obtain ⟨z2, hz2⟩ := hz2
  obtain ⟨y2, ho2, hy2⟩ := (openU8 Try.underlying5) _ _ _ hz2
  obtain ⟨z3, hz3⟩ := hz3
  obtain ⟨y3, p3, c3, ho3, hy3, hA3⟩ := open72 _ _ _ hz3
  obtain ⟨z4, hz4⟩ := hz4
  obtain ⟨y4, ho4, hy4⟩ := open82 _ _ _ hz4
  obtain ⟨z5, hz5⟩ := hz5
  obtain ⟨y5, p5, c5, ho5, hy5, hA5⟩ := open85 _ _ _ hz5
  refine ⟨⟨y0, y1, y2, y3, y4, y5⟩, p3, c3, p5, c5, ⟨ho0, ho1, ho2, ho3, ho4, ho5⟩, ?_, hA3, hA5⟩
  have e0 : cs = cs.drop 0 := rfl
  have f0 := cutCells 0 1 hy0
  have f1 := cutCells 1 1 hy1
  have f2 := cutCells 2 1 hy2
  have f3 := cutCells 3 167 hy3
  have f4 := cutCells 170 162 hy4
  have f5 := cutCells 332 101 hy5
  have fe : cs.drop 433 = [] := List.drop_eq_nil_of_le (by omega)
  rw [e0, f0, f1, f2, f3, f4, f5, fe]
  simp only [cat, List.append_assoc, List.append_nil, List.nil_append]
end
end Go.Proofs.Ytcfecmoagfgnaaa
