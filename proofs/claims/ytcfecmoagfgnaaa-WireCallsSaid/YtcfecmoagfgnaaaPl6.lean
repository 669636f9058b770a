/- Items: the error's number, kind for kind. -/
import Derived.Test.YtcfecmoagfgnaaaGet2
import Derived.Test.YtcfecmoagfgnaaaPl4
namespace Go.Vc
section
variable {P : Program} {n : Nat} {Q : Exit → Act → World → Prop} {ops : Array Oper}
/-- It kept what is owned, and tells nothing. -/
theorem VL.finO0 {S : List Snap} {H : List Chunk} {f : Fact} {w0 : World} {σ : Sl} {G : World → Prop} (hG : ∀ w, G w → Own (⟨w0, keys H⟩ :: S) H w) (h : ∀ w, G w → f undef w) :
    VL P n ops (Post n Q (Still S H) (Turn (keys H)) f none false false w0) [] σ G :=
  VL.fin0 fun w hw => ⟨h w hw, ((hG w hw).after (List.mem_cons_self ..)).1, (hG w hw).lose⟩
end
end Go.Vc
namespace Go.Proofs.Ytcfecmoagfgnaaa
open Go.Vc Go.Pl

/-- The first byte's reading. -/
abbrev W1 (l : List UInt8) : Nat := lenW (openP l) (openW l) 1
theorem W1_cases (l : List UInt8) : (∃ a r, openP l = a :: r ∧ a.length = 1 ∧ W1 l = 0) ∨ (¬ fitsP [some 1] (openP l) ∧ W1 l = 141) := by
  obtain ⟨h1, h2⟩ := takesW_open (ks := [some 1]) (by simp) l
  by_cases hf : fitsP [some 1] (openP l)
  · refine .inl ?_
    have e : W1 l = 0 := h1 hf
    cases hp : openP l with
    | nil => rw [hp] at hf; exact hf.elim
    | cons a r => rw [hp] at hf; exact ⟨a, r, rfl, hf.1 1 rfl, e⟩
  · exact .inr ⟨hf, h2 hf⟩
theorem item_w0 {l : List UInt8} (h : ((W1 l : Nat) : Int) ≠ 0) : itemR l = none ∧ itemW l = W1 l := by
  rcases W1_cases l with ⟨_, _, _, _, e⟩ | ⟨hf, e⟩
  · rw [e] at h; exact absurd rfl h
  · have h1 : itemR l = none := by unfold itemR; exact if_pos hf
    refine ⟨h1, ?_⟩
    unfold itemW
    rw [h1, if_neg (by simp), if_neg (fun h => hf h.1), e]
theorem item_head {l : List UInt8} (h : ¬ ((W1 l : Nat) : Int) ≠ 0) : ∃ a r, openP l = a :: r ∧ a.length = 1 ∧ W1 l = 0 := by
  rcases W1_cases l with h1 | ⟨_, e⟩
  · exact h1
  · exact absurd (by rw [e]; decide) h
theorem firstFits {a : List UInt8} {r : List (List UInt8)} (h : a.length = 1) : fitsP [some 1] (a :: r) := ⟨fun n e => by cases e; exact h, trivial⟩
theorem item_none {l : List UInt8} (h : ¬ ((W1 l : Nat) : Int) ≠ 0) (h1 : takeN (openP l) 1 ≠ 1) (h2 : takeN (openP l) 1 ≠ 2) (h3 : takeN (openP l) 1 ≠ 3) (h4 : takeN (openP l) 1 ≠ 4) (h5 : takeN (openP l) 1 ≠ 5) (h6 : takeN (openP l) 1 ≠ 6) : itemR l = none ∧ itemW l = 140 := by
  obtain ⟨a, r, e, ha, hw⟩ := item_head h
  have hf : fitsP [some 1] (openP l) := by rw [e]; exact firstFits ha
  have h0 : itemR l = none := by
    unfold itemR
    simp only
    rw [if_neg (not_not_intro hf), if_neg h1, if_neg (by rintro (x | x) <;> contradiction), if_neg h3, if_neg (by rintro (x | x) <;> contradiction)]
  refine ⟨h0, ?_⟩
  unfold itemW
  rw [h0, if_neg (by simp), if_pos ⟨hf, by show takeN (openP l) 1 = 0 ∨ 6 < takeN (openP l) 1; omega⟩]
/-- With a kind that is known: the error is 141. -/
theorem itemW_of {l : List UInt8} (h1 : 1 ≤ takeN (openP l) 1) (h2 : takeN (openP l) 1 ≤ 6) : itemW l = if (itemR l).isSome then 0 else 141 := by
  unfold itemW
  split
  · rfl
  · exact if_neg (by rintro ⟨_, h⟩; have h : takeN (openP l) 1 = 0 ∨ 6 < takeN (openP l) 1 := h; omega)
theorem end2 {α : Type} (f : List UInt8 → Option α) (r : List (List UInt8)) : endW (r.drop 1) (failW (nextW r 0) (if (f (nextP r)).isSome then 0 else 141)) = if (if r.length = 1 then f (nextP r) else none).isSome then 0 else 141 := by
  match r with
  | [] => exact rfl
  | [b] => rw [if_pos (show [b].length = 1 from rfl)]; rfl
  | b :: c :: s =>
    rw [if_neg (show ¬ (b :: c :: s).length = 1 by simp)]
    show (if (c :: s) = [] then _ else failW (failW (nextW (b :: c :: s) 0) (if (f b).isSome then 0 else 141)) 141) = 141
    rw [if_neg (by simp), nextW_cons, failW_0]
    split <;> rfl
theorem item_w1 {l : List UInt8} (h : ¬ ((W1 l : Nat) : Int) ≠ 0) (hk : takeN (openP l) 1 = 1) : endW (((openP l).drop 1).drop 1) (failW (nextW ((openP l).drop 1) (W1 l)) (if (letterR (nextP ((openP l).drop 1))).isSome then 0 else 141)) = itemW l ∧ ∀ y, itemR l = some y → y = ⟨1, 0, 0, (letterR (nextP ((openP l).drop 1))).getD letter0, bundle0, object0⟩ := by
  obtain ⟨a, r, e, ha, hw⟩ := item_head h
  have hf : fitsP [some 1] (openP l) := by rw [e]; exact firstFits ha
  have h0 : itemR l = (if r.length = 1 then letterR (nextP r) else none).map fun y => ⟨1, 0, 0, y, bundle0, object0⟩ := by
    unfold itemR
    simp only
    rw [if_neg (not_not_intro hf), if_pos hk, e]
    show (if r.length + 1 = 2 then _ else _) = _
    by_cases hl : r.length = 1
    · rw [if_pos (by omega), if_pos hl]; rfl
    · rw [if_neg (by omega), if_neg hl]; rfl
  rw [itemW_of (by omega) (by omega), h0, hw, e]
  refine ⟨(end2 letterR r).trans (by cases (if r.length = 1 then letterR (nextP r) else none) <;> rfl), fun y hy => ?_⟩
  obtain ⟨z, hz, rfl⟩ := Option.map_eq_some_iff.1 hy
  split at hz
  · show _ = Itm.mk 1 0 0 ((letterR (nextP r)).getD letter0) bundle0 object0
    rw [hz]; rfl
  · cases hz
theorem item_w5 {l : List UInt8} (h : ¬ ((W1 l : Nat) : Int) ≠ 0) (hk : takeN (openP l) 1 = 5 ∨ takeN (openP l) 1 = 6) : endW (((openP l).drop 1).drop 1) (failW (nextW ((openP l).drop 1) (W1 l)) (if (objectR (nextP ((openP l).drop 1))).isSome then 0 else 141)) = itemW l ∧ ∀ y, itemR l = some y → y = ⟨takeN (openP l) 1, 0, 0, letter0, bundle0, (objectR (nextP ((openP l).drop 1))).getD object0⟩ := by
  obtain ⟨a, r, e, ha, hw⟩ := item_head h
  have hf : fitsP [some 1] (openP l) := by rw [e]; exact firstFits ha
  have h0 : itemR l = (if r.length = 1 then objectR (nextP r) else none).map fun y => ⟨takeN (openP l) 1, 0, 0, letter0, bundle0, y⟩ := by
    unfold itemR
    simp only
    rw [if_neg (not_not_intro hf), if_neg (show ¬ itemK (openP l) = 1 by show ¬ takeN (openP l) 1 = 1; omega), if_neg (show ¬ (itemK (openP l) = 2 ∨ itemK (openP l) = 4) by show ¬ (takeN (openP l) 1 = 2 ∨ takeN (openP l) 1 = 4); omega), if_neg (show ¬ itemK (openP l) = 3 by show ¬ takeN (openP l) 1 = 3; omega), if_pos hk, e]
    show (if r.length + 1 = 2 then _ else _) = _
    by_cases hl : r.length = 1
    · rw [if_pos (by omega), if_pos hl]; rfl
    · rw [if_neg (by omega), if_neg hl]; rfl
  rw [itemW_of (by omega) (by omega), h0, hw]
  rw [e]
  refine ⟨(end2 objectR r).trans (by cases (if r.length = 1 then objectR (nextP r) else none) <;> rfl), fun y hy => ?_⟩
  obtain ⟨z, hz, rfl⟩ := Option.map_eq_some_iff.1 hy
  split at hz
  · show _ = Itm.mk (takeN (a :: r) 1) 0 0 letter0 bundle0 ((objectR (nextP r)).getD object0)
    rw [hz]; rfl
  · cases hz
theorem item_w2 {l : List UInt8} (h : ¬ ((W1 l : Nat) : Int) ≠ 0) (hk : takeN (openP l) 1 = 2 ∨ takeN (openP l) 1 = 4) : endW ((((openP l).drop 1).drop 1).drop 1) (failW (lenW (((openP l).drop 1).drop 1) (lenW ((openP l).drop 1) (W1 l) 1) 1) 0) = itemW l ∧ ∀ y, itemR l = some y → y = ⟨takeN (openP l) 1, takeN ((openP l).drop 1) 1, takeN (((openP l).drop 1).drop 1) 1, letter0, bundle0, object0⟩ := by
  obtain ⟨a, r, e, ha, hw⟩ := item_head h
  have hf : fitsP [some 1] (openP l) := by rw [e]; exact firstFits ha
  have h0 : itemR l = if fitsP [some 1, some 1, some 1] (openP l) ∧ (openP l).length = 3 then some ⟨takeN (openP l) 1, takeN ((openP l).drop 1) 1, takeN (((openP l).drop 1).drop 1) 1, letter0, bundle0, object0⟩ else none := by
    unfold itemR
    simp only
    rw [if_neg (not_not_intro hf), if_neg (show ¬ itemK (openP l) = 1 by show ¬ takeN (openP l) 1 = 1; omega), if_pos hk]
  refine ⟨?_, fun y hy => ?_⟩
  · rw [itemW_of (by omega) (by omega), h0, hw]
    rw [e]
    have h2 : fitsP [some 1, some 1, some 1] (a :: r) ↔ fitsP [some 1, some 1] r := ⟨fun x => x.2, fun x => ⟨fun n e => by cases e; exact ha, x⟩⟩
    obtain ⟨h3, h4⟩ := takesW_0 [some 1, some 1] r
    have e3 : lenW (r.drop 1) (lenW r 0 1) 1 = takesW [some 1, some 1] r 0 := rfl
    show endW ((r.drop 1).drop 1) (failW (lenW (r.drop 1) (lenW r 0 1) 1) 0) = _
    rw [e3]
    by_cases hg : fitsP [some 1, some 1] r
    · rw [h3 hg]
      match r, hg with
      | [b, c], hg => rw [if_pos (show fitsP [some 1, some 1, some 1] [a, b, c] ∧ [a, b, c].length = 3 from ⟨⟨fun n e => by cases e; exact ha, hg⟩, rfl⟩)]; rfl
      | b :: c :: d :: s, _ => rw [if_neg (show ¬ (fitsP [some 1, some 1, some 1] (a :: b :: c :: d :: s) ∧ (a :: b :: c :: d :: s).length = 3) from fun x => absurd x.2 (by simp))]; rfl
      | [_], hg => exact hg.2.elim
      | [], hg => exact hg.elim
    · rw [h4 hg, if_neg (show ¬ (fitsP [some 1, some 1, some 1] (a :: r) ∧ (a :: r).length = 3) from fun x => hg (h2.1 x.1))]
      exact endW_141 _
  · rw [h0] at hy
    split at hy
    · exact (Option.some.inj hy).symm
    · cases hy
theorem item_w3 {l : List UInt8} (h : ¬ ((W1 l : Nat) : Int) ≠ 0) (hk : takeN (openP l) 1 = 3) : endW ((((openP l).drop 1).drop 1).drop 1) (failW (nextW (((openP l).drop 1).drop 1) (lenW ((openP l).drop 1) (W1 l) 1)) (if (bundleR (nextP (((openP l).drop 1).drop 1))).isSome then 0 else 141)) = itemW l ∧ ∀ y, itemR l = some y → y = ⟨3, takeN ((openP l).drop 1) 1, 0, letter0, (bundleR (nextP (((openP l).drop 1).drop 1))).getD bundle0, object0⟩ := by
  obtain ⟨a, r, e, ha, hw⟩ := item_head h
  have hf : fitsP [some 1] (openP l) := by rw [e]; exact firstFits ha
  have h0 : itemR l = if fitsP [some 1, some 1, none] (openP l) ∧ (openP l).length = 3 then (bundleR (nextP (((openP l).drop 1).drop 1))).map (fun y => ⟨3, takeN ((openP l).drop 1) 1, 0, letter0, y, object0⟩) else none := by
    unfold itemR
    simp only
    rw [if_neg (not_not_intro hf), if_neg (show ¬ itemK (openP l) = 1 by show ¬ takeN (openP l) 1 = 1; omega), if_neg (show ¬ (itemK (openP l) = 2 ∨ itemK (openP l) = 4) by show ¬ (takeN (openP l) 1 = 2 ∨ takeN (openP l) 1 = 4); omega), if_pos (show itemK (openP l) = 3 from hk)]
  refine ⟨?_, fun y hy => ?_⟩
  · rw [itemW_of (by omega) (by omega), h0, hw]
    rw [e]
    show endW ((r.drop 1).drop 1) (failW (nextW (r.drop 1) (lenW r 0 1)) (if (bundleR (nextP (r.drop 1))).isSome then 0 else 141)) = _
    match r with
    | [] =>
      rw [if_neg (show ¬ (fitsP [some 1, some 1, none] [a] ∧ [a].length = 3) from fun x => absurd x.2 (by simp))]; rfl
    | b :: s =>
      rw [lenW_cons]
      show endW (s.drop 1) (failW (nextW s (if b.length = 1 then 0 else 141)) (if (bundleR (nextP s)).isSome then 0 else 141)) = if (if fitsP [some 1, some 1, none] (a :: b :: s) ∧ (a :: b :: s).length = 3 then (bundleR (nextP s)).map (fun y => (⟨3, takeN (b :: s) 1, 0, letter0, y, object0⟩ : Itm)) else none).isSome then 0 else 141
      by_cases hb : b.length = 1
      · rw [if_pos hb, end2 bundleR s]
        by_cases hl : s.length = 1
        · rw [if_pos hl]
          have hfit : fitsP [some 1, some 1, none] (a :: b :: s) := by
            match s, hl with
            | [c], _ => exact ⟨fun n e => by cases e; exact ha, fun n e => by cases e; exact hb, fun n e => (by cases e), trivial⟩
          rw [if_pos (show fitsP [some 1, some 1, none] (a :: b :: s) ∧ (a :: b :: s).length = 3 from ⟨hfit, by simp [hl]⟩)]
          cases bundleR (nextP s) <;> rfl
        · rw [if_neg hl, if_neg (show ¬ (fitsP [some 1, some 1, none] (a :: b :: s) ∧ (a :: b :: s).length = 3) from fun x => hl (by have h := x.2; simp only [List.length_cons] at h; omega))]; rfl
      · rw [if_neg hb, nextW_141, failW_pos (by decide), endW_141, if_neg (show ¬ (fitsP [some 1, some 1, none] (a :: b :: s) ∧ (a :: b :: s).length = 3) from fun x => hb (x.1.2.1 1 rfl))]; rfl
  · rw [h0] at hy
    split at hy
    · obtain ⟨z, hz, rfl⟩ := Option.map_eq_some_iff.1 hy
      rw [hz]; rfl
    · cases hy
/-- The end: what the number says. -/
theorem itemW_none {l : List UInt8} (h1 : 1 ≤ takeN (openP l) 1) (h2 : takeN (openP l) 1 ≤ 6) {n : Nat} (hn : ((n : Nat) : Int) ≠ 0) (h : n = itemW l) : itemR l = none ∧ itemW l = 141 := by
  rw [itemW_of h1 h2] at h
  obtain ⟨e1, e2⟩ := why_none hn h
  exact ⟨e1, by rw [itemW_of h1 h2, e1]; rfl⟩
theorem itemW_some {l : List UInt8} (h1 : 1 ≤ takeN (openP l) 1) (h2 : takeN (openP l) 1 ≤ 6) {n : Nat} (hn : ¬ ((n : Nat) : Int) ≠ 0) (h : n = itemW l) : ∃ x, itemR l = some x ∧ itemW l = 0 := by
  rw [itemW_of h1 h2] at h
  obtain ⟨x, e1⟩ := why_some hn h
  exact ⟨x, e1, by rw [itemW_of h1 h2, e1]; rfl⟩

end Go.Proofs.Ytcfecmoagfgnaaa
