/- Calls: their bytes; what bytes are read as. -/
import Derived.Test.YtcfecmoagfgnaaaRef4
namespace Go.Proofs.Ytcfecmoagfgnaaa
open Go.Vc Go.Pl

/-- What stands behind the kind and the number. -/
def callT (x : Cal) : List (List UInt8) :=
  if x.kind = 1 then x.bundles.map bundleB else if x.kind = 2 then [be 1 x.peer] else if x.kind = 3 then [(letterO x.letter).getD []] else [be 2 x.mark]
def callGood (x : Cal) : Bool :=
  if x.kind = 1 then decide (x.bundles.length ≤ 9 ∧ x.peer = 0 ∧ x.mark = 0 ∧ x.letter = letter0)
  else if x.kind = 2 then decide (x.mark = 0 ∧ x.bundles = [] ∧ x.letter = letter0)
  else if x.kind = 3 then (letterO x.letter).isSome && decide (x.peer = 0 ∧ x.mark = 0 ∧ x.bundles = [])
  else if x.kind = 4 then decide (x.peer = 0 ∧ x.bundles = [] ∧ x.letter = letter0)
  else false
def callP (x : Cal) : List (List UInt8) := be 1 x.kind :: be 2 x.seq :: callT x
def callO (x : Cal) : Option (List UInt8) := joinO (callP x) (callGood x)
def callRest (k seq : Nat) (c : List (List UInt8)) : Option Cal :=
  if k = 1 then (if c.length ≤ 9 ∧ ∀ p ∈ c, (bundleR p).isSome = true then some ⟨1, seq, 0, 0, c.map fun p => (bundleR p).getD bundle0, letter0⟩ else none)
  else if k = 2 then (if c.length = 1 ∧ (nextP c).length = 1 then some ⟨2, seq, takeN c 1, 0, [], letter0⟩ else none)
  else if k = 3 then (if c.length = 1 then (letterR (nextP c)).map fun y => ⟨3, seq, 0, 0, [], y⟩ else none)
  else if k = 4 then (if c.length = 1 ∧ (nextP c).length = 2 then some ⟨4, seq, 0, takeN c 2, [], letter0⟩ else none)
  else none
def callR (l : List UInt8) : Option Cal :=
  if fitsP [some 1, some 2] (openP l) then callRest (takeN (openP l) 1) (takeN ((openP l).drop 1) 2) (((openP l).drop 1).drop 1) else none
def callW (l : List UInt8) : Nat :=
  if (callR l).isSome then 0
  else if fitsP [some 1] (openP l) ∧ (takeN (openP l) 1 = 0 ∨ 4 < takeN (openP l) 1) then 140 else 141

theorem rest_some {k seq : Nat} {c : List (List UInt8)} {x : Cal} (hs : seq < 65536) (h : callRest k seq c = some x) : x.ok ∧ x.kind = k ∧ x.seq = seq ∧ callT x = c ∧ callGood x = true := by
  unfold callRest at h
  split at h
  · rename_i hk
    split at h
    · rename_i hc
      cases h
      refine ⟨⟨(by decide : 1 < 256), hs, (by decide : 0 < 256), (by decide : 0 < 65536), fun b hb => ?_, letter0_ok⟩, hk.symm, rfl, ?_, ?_⟩
      · obtain ⟨p, _, rfl⟩ := List.mem_map.1 hb
        exact bundleR_ok p
      · unfold callT
        rw [if_pos rfl, List.map_map]
        conv => rhs; rw [← List.map_id c]
        refine List.map_congr_left fun p hp => ?_
        obtain ⟨y, hy⟩ := Option.isSome_iff_exists.1 (hc.2 p hp)
        show bundleB ((bundleR p).getD bundle0) = p
        rw [hy]
        exact (bundleR_iff.1 hy).2
      · unfold callGood
        rw [if_pos rfl]
        exact decide_eq_true ⟨by simpa using hc.1, rfl, rfl, rfl⟩
    · cases h
  · split at h
    · rename_i hk
      split at h
      · rename_i hc
        cases h
        match c, hc with
        | [p], hc =>
          refine ⟨⟨(by decide : 2 < 256), hs, takeN_lt _ 1, (by decide : 0 < 65536), by simp, letter0_ok⟩, hk.symm, rfl, ?_, ?_⟩
          · unfold callT
            rw [if_neg (by simp), if_pos rfl]
            show [be 1 (takeN [p] 1)] = [p]
            rw [takeN_cons (show p.length = 1 from hc.2), be_take (show p.length = 1 from hc.2)]
          · unfold callGood
            rw [if_neg (by simp), if_pos rfl]
            exact decide_eq_true ⟨rfl, rfl, rfl⟩
      · cases h
    · split at h
      · rename_i hk
        split at h
        · rename_i hc
          obtain ⟨y, hy, rfl⟩ := Option.map_eq_some_iff.1 h
          obtain ⟨hy1, hy2⟩ := letterR_iff.1 hy
          refine ⟨⟨(by decide : 3 < 256), hs, (by decide : 0 < 256), (by decide : 0 < 65536), by simp, hy1⟩, hk.symm, rfl, ?_, ?_⟩
          · unfold callT
            rw [if_neg (by simp), if_neg (by simp), if_pos rfl]
            match c, hc with
            | [p], _ => show [(letterO y).getD []] = [p]; rw [show letterO y = some p from hy2]; rfl
          · unfold callGood
            rw [if_neg (by simp), if_neg (by simp), if_pos rfl]
            show ((letterO y).isSome && _) = true
            rw [hy2]; simp
        · cases h
      · split at h
        · rename_i hk
          split at h
          · rename_i hc
            cases h
            match c, hc with
            | [p], hc =>
              refine ⟨⟨(by decide : 4 < 256), hs, (by decide : 0 < 256), takeN_lt _ 2, by simp, letter0_ok⟩, hk.symm, rfl, ?_, ?_⟩
              · unfold callT
                rw [if_neg (by simp), if_neg (by simp), if_neg (by simp)]
                show [be 2 (takeN [p] 2)] = [p]
                rw [takeN_cons (show p.length = 2 from hc.2), be_take (show p.length = 2 from hc.2)]
              · unfold callGood
                rw [if_neg (by simp), if_neg (by simp), if_neg (by simp), if_pos rfl]
                exact decide_eq_true ⟨rfl, rfl, rfl⟩
          · cases h
        · cases h
theorem rest_of {x : Cal} (hx : x.ok) (hg : callGood x = true) : callRest x.kind x.seq (callT x) = some x := by
  obtain ⟨k, s, p, m, bs, l⟩ := x
  unfold callGood at hg
  unfold callRest callT
  simp only at hg ⊢
  split at hg
  · rename_i hk
    obtain ⟨h1, h2, h3, h4⟩ := of_decide_eq_true hg
    subst hk h2 h3 h4
    have e1 : ∀ b ∈ bs, bundleR (bundleB b) = some b := fun b hb => bundleR_iff.2 ⟨hx.bundles b hb, rfl⟩
    rw [if_pos rfl, if_pos rfl, if_pos ⟨by simpa using h1, fun p hp => by
      obtain ⟨b, hb, rfl⟩ := List.mem_map.1 hp
      rw [e1 b hb]; rfl⟩, List.map_map]
    have e2 : bs.map ((fun p => (bundleR p).getD bundle0) ∘ bundleB) = bs := by
      conv => rhs; rw [← List.map_id bs]
      refine List.map_congr_left fun b hb => ?_
      show (bundleR (bundleB b)).getD bundle0 = b
      rw [e1 b hb]; rfl
    rw [e2]
  · rename_i hk1
    split at hg
    · rename_i hk
      obtain ⟨h1, h2, h3⟩ := of_decide_eq_true hg
      subst hk h1 h2 h3
      have hp : p < 256 := hx.peer
      rw [if_neg hk1, if_pos rfl, if_neg hk1, if_pos rfl, if_pos ⟨rfl, be_length 1 p⟩, takeN_cons (be_length 1 p), num_be' (by omega)]
    · rename_i hk2
      split at hg
      · rename_i hk
        rw [Bool.and_eq_true] at hg
        obtain ⟨h0, hg⟩ := hg
        obtain ⟨h1, h2, h3⟩ := of_decide_eq_true hg
        subst hk h1 h2 h3
        obtain ⟨t, ht⟩ := Option.isSome_iff_exists.1 h0
        rw [if_neg hk1, if_neg hk2, if_pos rfl, if_neg hk1, if_neg hk2, if_pos rfl, if_pos (show [(letterO l).getD []].length = 1 from rfl), ht]
        show (letterR t).map _ = _
        rw [letterR_iff.2 ⟨hx.letter, ht⟩]; rfl
      · rename_i hk3
        split at hg
        · rename_i hk
          obtain ⟨h1, h2, h3⟩ := of_decide_eq_true hg
          subst hk h1 h2 h3
          have hm : m < 65536 := hx.mark
          rw [if_neg hk1, if_neg hk2, if_neg hk3, if_pos rfl, if_neg hk1, if_neg hk2, if_neg hk3, if_pos ⟨rfl, be_length 2 m⟩, takeN_cons (be_length 2 m), num_be' (by omega)]
        · cases hg
theorem callR_iff {l : List UInt8} {x : Cal} : callR l = some x ↔ x.ok ∧ callO x = some l := by
  unfold callR
  constructor
  · intro h
    split at h
    · rename_i hf
      have hne : openP l ≠ [] := fun e => by rw [e] at hf; exact hf.elim
      obtain ⟨hj1, hj2⟩ := join_open hne
      obtain ⟨h1, h2, h3, h4, h5⟩ := rest_some (takeN_lt _ 2) h
      refine ⟨h1, ?_⟩
      have e : callP x = openP l := by
        unfold callP
        rw [h2, h3, h4]
        generalize openP l = ps at *
        match ps, hf with
        | a :: b :: c, hf =>
          have ha := hf.1 1 rfl
          have hb := hf.2.1 2 rfl
          show be 1 (takeN (a :: b :: c) 1) :: be 2 (takeN (b :: c) 2) :: c = _
          rw [takeN_cons ha, be_take ha, takeN_cons hb, be_take hb]
        | [_], hf => exact hf.2.elim
        | [], hf => exact hf.elim
      unfold callO
      rw [e, joinO_some hj1 h5, hj2]
    · cases h
  · rintro ⟨h, h2⟩
    obtain ⟨h3, h4, rfl⟩ := joinO_eq h2
    have eo := open_join h3
    rw [eo]
    have hf : fitsP [some 1, some 2] (callP x) := ⟨fun n e => by cases e; exact be_length _ _, fun n e => by cases e; exact be_length _ _, trivial⟩
    rw [if_pos hf]
    have hk := h.kind
    have hs := h.seq
    show callRest (takeN (be 1 x.kind :: be 2 x.seq :: callT x) 1) (takeN (be 2 x.seq :: callT x) 2) (callT x) = some x
    rw [takeN_cons (be_length 1 _), takeN_cons (be_length 2 _), num_be' (by omega), num_be' (by omega)]
    exact rest_of h h4
theorem callR_ok (l : List UInt8) : ((callR l).getD cal0).ok := by
  cases h : callR l with
  | none => exact cal0_ok
  | some x => exact (callR_iff.1 h).1

/-! The error's number. -/
abbrev W2 (l : List UInt8) : Nat := lenW ((openP l).drop 1) (W1 l) 2
theorem W2_cases (l : List UInt8) : (∃ a b c, openP l = a :: b :: c ∧ fitsP [some 1, some 2] (openP l) ∧ W2 l = 0) ∨ (¬ fitsP [some 1, some 2] (openP l) ∧ W2 l = 141) := by
  obtain ⟨h1, h2⟩ := takesW_open (ks := [some 1, some 2]) (by simp) l
  by_cases hf : fitsP [some 1, some 2] (openP l)
  · refine .inl ?_
    have e : W2 l = 0 := h1 hf
    have hf' := hf
    cases hp : openP l with
    | nil => rw [hp] at hf; exact hf.elim
    | cons a r =>
      cases r with
      | nil => rw [hp] at hf; exact hf.2.elim
      | cons b c => rw [hp] at hf'; exact ⟨a, b, c, rfl, hf', e⟩
  · exact .inr ⟨hf, h2 hf⟩
theorem call_w0 {l : List UInt8} (h : ((W1 l : Nat) : Int) ≠ 0) : callR l = none ∧ callW l = W1 l := by
  rcases W1_cases l with ⟨_, _, _, _, e⟩ | ⟨hf, e⟩
  · rw [e] at h; exact absurd rfl h
  · have h1 : callR l = none := by
      unfold callR
      refine if_neg fun h => hf ?_
      generalize openP l = ps at *
      match ps, h with
      | a :: r, h => exact ⟨h.1, trivial⟩
      | [], h => exact h.elim
    refine ⟨h1, ?_⟩
    unfold callW
    rw [h1, if_neg (by simp), if_neg (fun h => hf h.1), e]
theorem call_bad {l : List UInt8} (h : ¬ ((W1 l : Nat) : Int) ≠ 0) (hk : takeN (openP l) 1 < 1 ∨ 4 < takeN (openP l) 1) : callR l = none ∧ callW l = 140 := by
  obtain ⟨a, r, e, ha, hw⟩ := item_head h
  have hf : fitsP [some 1] (openP l) := by rw [e]; exact firstFits ha
  have h0 : callR l = none := by
    unfold callR callRest
    split
    · rw [if_neg (by omega), if_neg (by omega), if_neg (by omega), if_neg (by omega)]
    · rfl
  refine ⟨h0, ?_⟩
  unfold callW
  rw [h0, if_neg (by simp), if_pos ⟨hf, by omega⟩]
theorem callW_of {l : List UInt8} (h1 : 1 ≤ takeN (openP l) 1) (h2 : takeN (openP l) 1 ≤ 4) : callW l = if (callR l).isSome then 0 else 141 := by
  unfold callW
  split
  · rfl
  · exact if_neg (by rintro ⟨_, h⟩; omega)
theorem end1n (n : Nat) (c : List (List UInt8)) : endW (c.drop 1) (failW (lenW c 0 n) 0) = if c.length = 1 ∧ (nextP c).length = n then 0 else 141 := by
  match c with
  | [] => rw [lenW_nil, if_neg (fun h => by simp at h)]; rfl
  | [p] =>
    rw [lenW_cons]
    by_cases hp : p.length = n
    · rw [if_pos hp, if_pos ⟨rfl, hp⟩]; rfl
    · rw [if_neg hp, if_neg (fun h => hp h.2)]; rfl
  | p :: q :: r =>
    rw [lenW_cons, if_neg (show ¬ ((p :: q :: r).length = 1 ∧ (nextP (p :: q :: r)).length = n) from fun h => by simp at h)]
    show (if (q :: r) = [] then _ else failW _ 141) = 141
    rw [if_neg (by simp)]
    by_cases hp : p.length = n
    · rw [if_pos hp]; rfl
    · rw [if_neg hp]; rfl
theorem call_w2 {l : List UInt8} (hk : takeN (openP l) 1 = 2) : endW ((((openP l).drop 1).drop 1).drop 1) (failW (lenW (((openP l).drop 1).drop 1) (W2 l) 1) 0) = callW l ∧ ∀ y, callR l = some y → y = ⟨takeN (openP l) 1, takeN ((openP l).drop 1) 2, takeN (((openP l).drop 1).drop 1) 1, 0, [], letter0⟩ := by
  rw [callW_of (by omega) (by omega)]
  rcases W2_cases l with ⟨a, b, c, e, hf, hw⟩ | ⟨hf, hw⟩
  · have h0 : callR l = if (((openP l).drop 1).drop 1).length = 1 ∧ (nextP (((openP l).drop 1).drop 1)).length = 1 then some ⟨2, takeN ((openP l).drop 1) 2, takeN (((openP l).drop 1).drop 1) 1, 0, [], letter0⟩ else none := by
      unfold callR callRest
      rw [if_pos hf, if_neg (by omega), if_pos hk]
    rw [h0, hw, end1n]
    refine ⟨?_, fun y hy => ?_⟩
    · by_cases hc : (((openP l).drop 1).drop 1).length = 1 ∧ (nextP (((openP l).drop 1).drop 1)).length = 1
      · rw [if_pos hc, if_pos hc]; rfl
      · rw [if_neg hc, if_neg hc]; rfl
    · split at hy
      · rw [hk]; exact (Option.some.inj hy).symm
      · cases hy
  · have h0 : callR l = none := if_neg hf
    rw [h0, hw, lenW_141]
    exact ⟨endW_141 _, fun y hy => by cases hy⟩
theorem call_w4 {l : List UInt8} (hk : takeN (openP l) 1 = 4) : endW ((((openP l).drop 1).drop 1).drop 1) (failW (lenW (((openP l).drop 1).drop 1) (W2 l) 2) 0) = callW l ∧ ∀ y, callR l = some y → y = ⟨takeN (openP l) 1, takeN ((openP l).drop 1) 2, 0, takeN (((openP l).drop 1).drop 1) 2, [], letter0⟩ := by
  rw [callW_of (by omega) (by omega)]
  rcases W2_cases l with ⟨a, b, c, e, hf, hw⟩ | ⟨hf, hw⟩
  · have h0 : callR l = if (((openP l).drop 1).drop 1).length = 1 ∧ (nextP (((openP l).drop 1).drop 1)).length = 2 then some ⟨4, takeN ((openP l).drop 1) 2, 0, takeN (((openP l).drop 1).drop 1) 2, [], letter0⟩ else none := by
      unfold callR callRest
      rw [if_pos hf, if_neg (by omega), if_neg (by omega), if_neg (by omega), if_pos hk]
    rw [h0, hw, end1n]
    refine ⟨?_, fun y hy => ?_⟩
    · by_cases hc : (((openP l).drop 1).drop 1).length = 1 ∧ (nextP (((openP l).drop 1).drop 1)).length = 2
      · rw [if_pos hc, if_pos hc]; rfl
      · rw [if_neg hc, if_neg hc]; rfl
    · split at hy
      · rw [hk]; exact (Option.some.inj hy).symm
      · cases hy
  · have h0 : callR l = none := if_neg hf
    rw [h0, hw, lenW_141]
    exact ⟨endW_141 _, fun y hy => by cases hy⟩
theorem call_w3 {l : List UInt8} (hk : takeN (openP l) 1 = 3) : endW ((((openP l).drop 1).drop 1).drop 1) (failW (nextW (((openP l).drop 1).drop 1) (W2 l)) (if (letterR (nextP (((openP l).drop 1).drop 1))).isSome then 0 else 141)) = callW l ∧ ∀ y, callR l = some y → y = ⟨takeN (openP l) 1, takeN ((openP l).drop 1) 2, 0, 0, [], (letterR (nextP (((openP l).drop 1).drop 1))).getD letter0⟩ := by
  rw [callW_of (by omega) (by omega)]
  rcases W2_cases l with ⟨a, b, c, e, hf, hw⟩ | ⟨hf, hw⟩
  · have h0 : callR l = (if (((openP l).drop 1).drop 1).length = 1 then letterR (nextP (((openP l).drop 1).drop 1)) else none).map fun y => ⟨3, takeN ((openP l).drop 1) 2, 0, 0, [], y⟩ := by
      unfold callR callRest
      rw [if_pos hf, if_neg (by omega), if_neg (by omega), if_pos hk]
      by_cases hc : (((openP l).drop 1).drop 1).length = 1
      · rw [if_pos hc, if_pos hc]
      · rw [if_neg hc, if_neg hc]; rfl
    rw [h0, hw]
    refine ⟨(end2 letterR _).trans (by cases (if (((openP l).drop 1).drop 1).length = 1 then letterR (nextP (((openP l).drop 1).drop 1)) else none) <;> rfl), fun y hy => ?_⟩
    obtain ⟨z, hz, rfl⟩ := Option.map_eq_some_iff.1 hy
    split at hz
    · rw [hz, hk]; rfl
    · cases hz
  · have h0 : callR l = none := if_neg hf
    rw [h0, hw, nextW_141]
    exact ⟨endW_141 _, fun y hy => by cases hy⟩
/-- Where the loop over bundles stands. -/
def CInv (c : List (List UInt8)) (bs : List Bundle) (ps : List (List UInt8)) (e : Nat) : Prop :=
  (∀ b ∈ bs, b.ok) ∧ bs.length ≤ 9 ∧ ((e = 0 ∧ ∃ d, c = d ++ ps ∧ d.map bundleR = bs.map some) ∨ (e = 141 ∧ ∃ p ∈ c, bundleR p = none))
theorem CInv.start (c : List (List UInt8)) : CInv c [] c 0 := ⟨by simp, by simp, .inl ⟨rfl, [], rfl, rfl⟩⟩
theorem CInv.step {c : List (List UInt8)} {bs : List Bundle} {p : List UInt8} {r : List (List UInt8)} (h : CInv c bs (p :: r) 0) (h8 : bs.length ≤ 8) : CInv c (bs ++ [(bundleR p).getD bundle0]) r (if (bundleR p).isSome then 0 else 141) := by
  obtain ⟨h1, h2, h3⟩ := h
  refine ⟨fun b hb => ?_, by simp; omega, ?_⟩
  · rcases List.mem_append.1 hb with hb | hb
    · exact h1 b hb
    · rw [List.mem_singleton] at hb; subst hb; exact bundleR_ok p
  · rcases h3 with ⟨_, d, hd, hm⟩ | ⟨h, _⟩
    · cases hp : bundleR p with
      | none => exact .inr ⟨rfl, p, by rw [hd]; simp, hp⟩
      | some b => exact .inl ⟨rfl, d ++ [p], by rw [hd]; simp, by simp [hm, hp]⟩
    · cases h
theorem call_w1 {l : List UInt8} {bs : List Bundle} {ps : List (List UInt8)} {e : Nat} (hk : takeN (openP l) 1 = 1) (h : CInv (((openP l).drop 1).drop 1) bs ps e) (hx : ps = [] ∨ 9 ≤ bs.length ∨ e ≠ 0) : endW ps (failW (W2 l) e) = callW l ∧ ∀ y, callR l = some y → y = ⟨takeN (openP l) 1, takeN ((openP l).drop 1) 2, 0, 0, bs, letter0⟩ := by
  rw [callW_of (by omega) (by omega)]
  obtain ⟨h1, h2, h3⟩ := h
  rcases W2_cases l with ⟨a, b, c, eo, hf, hw⟩ | ⟨hf, hw⟩
  · have h0 : callR l = if (((openP l).drop 1).drop 1).length ≤ 9 ∧ ∀ p ∈ ((openP l).drop 1).drop 1, (bundleR p).isSome = true then some ⟨1, takeN ((openP l).drop 1) 2, 0, 0, (((openP l).drop 1).drop 1).map fun p => (bundleR p).getD bundle0, letter0⟩ else none := by
      unfold callR callRest
      rw [if_pos hf, if_pos hk]
    rw [hw, hk]
    rcases h3 with ⟨rfl, d, hd, hm⟩ | ⟨rfl, p, hp, hpn⟩
    · have hlen : d.length = bs.length := by have := congrArg List.length hm; simpa using this
      by_cases hps : ps = []
      · subst hps
        rw [List.append_nil] at hd
        have hall : ∀ p ∈ d, (bundleR p).isSome = true := fun p hp => by
          have : bundleR p ∈ bs.map some := by rw [← hm]; exact List.mem_map.2 ⟨p, hp, rfl⟩
          obtain ⟨b, _, e⟩ := List.mem_map.1 this
          rw [← e]; rfl
        have e2 : d.map (fun p => (bundleR p).getD bundle0) = bs := by
          have := congrArg (List.map fun o : Option Bundle => o.getD bundle0) hm
          rw [List.map_map, List.map_map] at this
          refine this.trans ?_
          conv => rhs; rw [← List.map_id bs]
          exact List.map_congr_left fun _ _ => rfl
        have hr : callR l = some ⟨1, takeN ((openP l).drop 1) 2, 0, 0, bs, letter0⟩ := by
          rw [h0, hd, if_pos ⟨by omega, hall⟩, e2]
        rw [hr]
        exact ⟨rfl, fun y hy => (Option.some.inj hy).symm⟩
      · have h9 : 9 ≤ bs.length := by
          rcases hx with hx | hx | hx
          · exact absurd hx hps
          · exact hx
          · exact absurd rfl hx
        have hpl : 0 < ps.length := List.length_pos_iff.2 hps
        have hr : callR l = none := by
          rw [h0]
          exact if_neg (fun h => by have h1 := h.1; rw [hd, List.length_append] at h1; omega)
        rw [hr]
        refine ⟨?_, fun y hy => by cases hy⟩
        unfold endW
        rw [if_neg hps]; rfl
    · have hr : callR l = none := by
        rw [h0]
        exact if_neg (fun h => by have := h.2 p hp; rw [hpn] at this; cases this)
      rw [hr]
      exact ⟨endW_141 _, fun y hy => by cases hy⟩
  · have h0 : callR l = none := if_neg hf
    rw [h0, hw]
    exact ⟨endW_141 _, fun y hy => by cases hy⟩
theorem callW_none {l : List UInt8} (h1 : 1 ≤ takeN (openP l) 1) (h2 : takeN (openP l) 1 ≤ 4) {n : Nat} (hn : ((n : Nat) : Int) ≠ 0) (h : n = callW l) : callR l = none ∧ callW l = 141 := by
  rw [callW_of h1 h2] at h
  obtain ⟨e1, e2⟩ := why_none hn h
  exact ⟨e1, by rw [callW_of h1 h2, e1]; rfl⟩
theorem callW_some {l : List UInt8} (h1 : 1 ≤ takeN (openP l) 1) (h2 : takeN (openP l) 1 ≤ 4) {n : Nat} (hn : ¬ ((n : Nat) : Int) ≠ 0) (h : n = callW l) : ∃ x, callR l = some x ∧ callW l = 0 := by
  rw [callW_of h1 h2] at h
  obtain ⟨x, e1⟩ := why_some hn h
  exact ⟨x, e1, by rw [callW_of h1 h2, e1]; rfl⟩
end Go.Proofs.Ytcfecmoagfgnaaa
