/- The rules of the walks, continued: a struct built out of its parts. -/
import Derived.Test.YtcfecmoagfgnaaaVcTail
import Derived.Laws.Tables
namespace Go.Vc

/-- Where parts of these sizes lie, one behind the other. -/
def placesL : Nat → List Nat → List (Nat × Nat)
  | _, [] => []
  | o, s :: r => (o, s) :: placesL (o + s) r

theorem placesL_get : ∀ (L : List Nat) (o i : Nat), (placesL o L)[i]? = (L[i]?).map fun s => (o + (L.take i).sum, s)
  | [], o, i => by simp [placesL]
  | s :: r, o, 0 => by simp [placesL]
  | s :: r, o, i + 1 => by
    simp only [placesL, List.getElem?_cons_succ, List.take_succ_cons, List.sum_cons]
    rw [placesL_get r (o + s) i]
    congr 1
    funext x
    rw [Nat.add_assoc]

def planOf (P : Program) (t : TypeId) : Option (List (Nat × Nat) × Array Value) :=
  match P.info? t, P.underlying t with
  | some it, some (.struct fields) =>
    match it.zero, fields.toList.mapM (fun f => (P.info? f.type).map fun i => (f.offset, i.size)) with
    | some z, some places => some (places, z.cells)
    | _, _ => none
  | _, _ => none

def setAll (ps : List (List Value)) : List (Nat × List Value) → List (List Value)
  | [] => ps
  | (i, q) :: r => setAll (ps.set i q) r

theorem fill_parts : ∀ (qs : List (Nat × List Value)) (vs : List (Nat × Value)) (L : List Nat) (ps : List (List Value)), ps.map List.length = L → vs.length = qs.length → (∀ (k : Nat) i v j q, vs[k]? = some (i, v) → qs[k]? = some (j, q) → i = j ∧ v.cells = q.toArray ∧ L[i]? = some q.length) →
    Instr.fill (fun i => (placesL 0 L)[i]?) (cat ps).toArray vs = some (cat (setAll ps qs)).toArray
  | [], [], L, ps, _, _, _ => by simp [Instr.fill, setAll]
  | [], _ :: _, _, _, _, h, _ => by simp at h
  | _ :: _, [], _, _, _, h, _ => by simp at h
  | (j, q) :: qs, (i, v) :: vs, L, ps, hL, hlen, h => by
    obtain ⟨rfl, hv, hi⟩ := h 0 i v j q rfl rfl
    have hsz : v.cells.size = q.length := by rw [hv]; simp
    have hilt : i < L.length := (List.getElem?_eq_some_iff.1 hi).1
    have hips : i < ps.length := by rw [← hL] at hilt; simpa using hilt
    have hpl : (ps[i]).length = q.length := by
      have := (List.getElem?_eq_some_iff.1 hi).2
      subst hL
      simpa using this
    have e := flatten_at ps i 1
    have h1 : (ps.drop i).take 1 = [ps[i]] := by
      rw [List.drop_eq_getElem_cons hips, List.take_succ_cons, List.take_zero]
    rw [h1] at e
    simp only [List.flatten_cons, List.flatten_nil, List.append_nil] at e
    have hlen1 := sum_take_length ps i
    rw [hL] at hlen1
    have htot : (cat ps).length = (L.take i).sum + (q.length + (ps.drop (i + 1)).flatten.length) := by
      rw [cat_eq, e, List.length_append, List.length_append, hlen1, hpl]
    unfold Instr.fill
    rw [placesL_get, hi]
    simp only [Option.map_some, Nat.zero_add]
    rw [if_neg (by simp [hsz]; omega)]
    have hs := set_seg v.cells.toList 0 (L.take i).sum (cat ps).toArray (by simp [hsz]; omega)
    have hz : (v.cells.zipIdx.foldl (fun cs (c, j) => cs.setIfInBounds ((L.take i).sum + j) c) (cat ps).toArray) = (cat (ps.set i q)).toArray := by
      rw [← Array.foldl_toList, Array.toList_zipIdx, hs]
      apply congrArg
      have hq : v.cells.toList = q := by rw [hv]
      have eset : (ps.set i q).flatten = (ps.take i).flatten ++ (q ++ (ps.drop (i + 1)).flatten) := by
        rw [List.set_eq_take_append_cons_drop, if_pos hips]
        simp
      rw [hq, Nat.add_zero, cat_eq (ps.set i q), eset, cat_eq ps, List.append_assoc, ← hlen1]
      congr 1
      · rw [e, List.take_left]
      · congr 1
        rw [← hpl, ← List.length_append, e, ← List.append_assoc, List.drop_left]
    rw [hz]
    refine fill_parts qs vs L (ps.set i q) ?_ (by simpa using hlen) (fun k a b c d h1 h2 => h (k + 1) a b c d (by simpa using h1) (by simpa using h2))
    rw [List.map_set, hL]
    have := (List.getElem?_eq_some_iff.1 hi).2
    rw [← this]; exact List.set_getElem_self hilt

/-- The parts' values: their cells. -/
def evq (σ : Sl) (L : List Nat) : List (Nat × Operand) → List (Nat × List Value) → Prop
  | [], [] => True
  | (i, x) :: r, (j, q) :: s => (i = j ∧ (∃ v, ev σ x = some v ∧ v.cells = q.toArray) ∧ L[i]? = some q.length) ∧ evq σ L r s
  | _, _ => False

theorem evq_spec {n : Nat} {σ : Sl} {a : Act} (ha : Agr n σ a) {L : List Nat} : ∀ (parts : List (Nat × Operand)) (qs : List (Nat × List Value)), evq σ L parts qs → parts.length = qs.length ∧ ∀ (k : Nat) i v j q, (parts.map fun (i, x) => (i, a.eval x))[k]? = some (i, v) → qs[k]? = some (j, q) → i = j ∧ v.cells = q.toArray ∧ L[i]? = some q.length
  | [], [], _ => ⟨rfl, by simp⟩
  | [], _ :: _, h => h.elim
  | _ :: _, [], h => h.elim
  | (i, x) :: r, (j, q) :: s, ⟨⟨h1, ⟨v, h2, h3⟩, h4⟩, h⟩ => by
    obtain ⟨e1, e2⟩ := evq_spec ha r s h
    refine ⟨by simp [e1], fun k i' v' j' q' hk hk' => ?_⟩
    cases k with
    | zero =>
      simp at hk hk'
      obtain ⟨rfl, rfl⟩ := hk
      obtain ⟨rfl, rfl⟩ := hk'
      rw [ha.ev h2]
      exact ⟨h1, h3, h4⟩
    | succ k => exact e2 k i' v' j' q' (by simpa using hk) (by simpa using hk')

theorem VL.build {P : Program} {n : Nat} {Q : Exit → Act → World → Prop} {σ : Sl} {G : World → Prop} {ops : Array Oper} {rest : List Oper} {d : Nat} {ty : TypeId} {pos : String} {aft : Array Edge}
    {t : TypeId} {L : List Nat} {zs ps : List (List Value)} {parts : List (Nat × Operand)} (qs : List (Nat × List Value)) (hplan : planOf P t = some (placesL 0 L, (cat zs).toArray)) (hL : zs.map List.length = L) (hq : evq σ L parts qs) (hp : setAll zs qs = ps)
    (h : VL P n ops Q rest ((d, .agg (cat ps).toArray) :: σ) G) (hdn : Nat.blt d n = true := by rfl) : VL P n ops Q (⟨some d, .build t parts.toArray, ty, pos, aft, none⟩ :: rest) σ G := by
  subst hp
  refine VL.val rfl rfl hdn (fun a w ha _ => ?_) h
  obtain ⟨e1, e2⟩ := evq_spec ha parts qs hq
  have hf := fill_parts qs (parts.map fun (i, x) => (i, a.eval x)) L zs hL (by simpa using e1) e2
  have hb : P.built t (parts.toArray.map fun (i, x) => (i, a.eval x)).toList = some (cat (setAll zs qs)).toArray := by
    unfold planOf at hplan
    unfold Program.built
    cases hi : P.info? t with
    | none => simp [hi] at hplan
    | some it =>
      cases hu : P.underlying t with
      | none => simp [hi, hu] at hplan
      | some dd =>
        cases dd <;> simp [hi, hu] at hplan ⊢
        rename_i fields
        cases hz : it.zero with
        | none => simp [hz] at hplan
        | some z =>
          cases hm : fields.toList.mapM (fun f => (P.info? f.type).map fun i => (f.offset, i.size)) with
          | none => simp [hz, hm] at hplan
          | some places =>
            simp [hz, hm] at hplan
            obtain ⟨rfl, hzc⟩ := hplan
            simp only [hzc]
            simpa using hf
  have hr := run_build (P := P) w t (parts.toArray.map fun (i, x) => (i, a.eval x)) _ hb
  simp only [execOp, Sem.run_bind, hr, Result.andThen_ok, Sem.run_pure]
end Go.Vc
