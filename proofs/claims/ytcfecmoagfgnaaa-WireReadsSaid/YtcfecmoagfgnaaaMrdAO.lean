/- The statement WireReads is proved, for every input: part 15 of 27 of the texts that it needs. -/
import Derived.Test.YtcfecmoagfgnaaaMrdAN
/- Calls: their bytes; what bytes are read as. -/
namespace Go.Proofs.Ytcfecmoagfgnaaa
open Go.Vc Go.Pl

/-- What stands behind the kind and the number. -/
def callT (x : Cal) : List (List UInt8) :=
  if x.kind = 1 then x.bundles.map bundleB else if x.kind = 2 then [be 1 x.peer] else if x.kind = 3 then [(letterO x.letter).getD []] else [be 2 x.mark]
def callGood (x : Cal) : Bool :=
  if x.kind = 1 then decide (x.bundles.length ≤ 9 ∧ x.peer = 0 ∧ x.mark = 0 ∧ x.letter = letter0)
  else if x.kind = 2 then decide (x.mark = 0 ∧ x.bundles = [] ∧ x.letter = letter0)
  else if x.kind = 3 then (letterO x.letter).isSome && decide (x.peer = 0 ∧ x.mark = 0 ∧ x.bundles = [])
  else if x.kind = 4 then decide (x.peer = 0 ∧ x.bundles = [] ∧ x.letter = letter0)
  else false
def callP (x : Cal) : List (List UInt8) := be 1 x.kind :: be 2 x.seq :: callT x
def callO (x : Cal) : Option (List UInt8) := joinO (callP x) (callGood x)
def callRest (k seq : Nat) (c : List (List UInt8)) : Option Cal :=
  if k = 1 then (if c.length ≤ 9 ∧ ∀ p ∈ c, (bundleR p).isSome = true then some ⟨1, seq, 0, 0, c.map fun p => (bundleR p).getD bundle0, letter0⟩ else none)
  else if k = 2 then (if c.length = 1 ∧ (nextP c).length = 1 then some ⟨2, seq, takeN c 1, 0, [], letter0⟩ else none)
  else if k = 3 then (if c.length = 1 then (letterR (nextP c)).map fun y => ⟨3, seq, 0, 0, [], y⟩ else none)
  else if k = 4 then (if c.length = 1 ∧ (nextP c).length = 2 then some ⟨4, seq, 0, takeN c 2, [], letter0⟩ else none)
  else none
def callR (l : List UInt8) : Option Cal :=
  if fitsP [some 1, some 2] (openP l) then callRest (takeN (openP l) 1) (takeN ((openP l).drop 1) 2) (((openP l).drop 1).drop 1) else none
def callW (l : List UInt8) : Nat :=
  if (callR l).isSome then 0
  else if fitsP [some 1] (openP l) ∧ (takeN (openP l) 1 = 0 ∨ 4 < takeN (openP l) 1) then 140 else 141

theorem rest_some {k seq : Nat} {c : List (List UInt8)} {x : Cal} (hs : seq < 65536) (h : callRest k seq c = some x) : x.ok ∧ x.kind = k ∧ x.seq = seq ∧ callT x = c ∧ callGood x = true := by
 unfold callRest at h
 split at h
 ·rename_i hk
  split at h
  ·rename_i hc
   cases h
   refine ⟨⟨(by decide : 1 < 256), hs, (by decide : 0 < 256), (by decide : 0 < 65536), fun b hb => ?_, letter0_ok⟩, hk.symm, rfl, ?_, ?_⟩
   ·obtain ⟨p, _, rfl⟩ := List.mem_map.1 hb
    exact bundleR_ok p
   ·unfold callT
    rw [if_pos rfl, List.map_map]
    conv => rhs; rw [← List.map_id c]
    refine List.map_congr_left fun p hp => ?_
    obtain ⟨y, hy⟩ := Option.isSome_iff_exists.1 (hc.2 p hp)
    show bundleB ((bundleR p).getD bundle0) = p
    rw [hy]
    exact (bundleR_iff.1 hy).2
   ·unfold callGood
    rw [if_pos rfl]
    exact decide_eq_true ⟨by simpa using hc.1, rfl, rfl, rfl⟩
  ·cases h
 ·split at h
  ·rename_i hk
   split at h
   ·rename_i hc
    cases h
    match c, hc with
    | [p], hc =>
     refine ⟨⟨(by decide : 2 < 256), hs, takeN_lt _ 1, (by decide : 0 < 65536), by simp, letter0_ok⟩, hk.symm, rfl, ?_, ?_⟩
     ·unfold callT
      rw [if_neg (by simp), if_pos rfl]
      show [be 1 (takeN [p] 1)] = [p]
      rw [takeN_cons (show p.length = 1 from hc.2), be_take (show p.length = 1 from hc.2)]
     ·unfold callGood
      rw [if_neg (by simp), if_pos rfl]
      exact decide_eq_true ⟨rfl, rfl, rfl⟩
   ·cases h
  ·split at h
   ·rename_i hk
    split at h
    ·rename_i hc
     obtain ⟨y, hy, rfl⟩ := Option.map_eq_some_iff.1 h
     obtain ⟨hy1, hy2⟩ := letterR_iff.1 hy
     refine ⟨⟨(by decide : 3 < 256), hs, (by decide : 0 < 256), (by decide : 0 < 65536), by simp, hy1⟩, hk.symm, rfl, ?_, ?_⟩
     ·unfold callT
      rw [if_neg (by simp), if_neg (by simp), if_pos rfl]
      match c, hc with
      | [p], _ => show [(letterO y).getD []] = [p]; rw [show letterO y = some p from hy2]; rfl
     ·unfold callGood
      rw [if_neg (by simp), if_neg (by simp), if_pos rfl]
      show ((letterO y).isSome && _) = true
      rw [hy2]; simp
    ·cases h
   ·split at h
    ·rename_i hk
     split at h
     ·rename_i hc
      cases h
      match c, hc with
      | [p], hc =>
       refine ⟨⟨(by decide : 4 < 256), hs, (by decide : 0 < 256), takeN_lt _ 2, by simp, letter0_ok⟩, hk.symm, rfl, ?_, ?_⟩
       ·unfold callT
        rw [if_neg (by simp), if_neg (by simp), if_neg (by simp)]
        show [be 2 (takeN [p] 2)] = [p]
        rw [takeN_cons (show p.length = 2 from hc.2), be_take (show p.length = 2 from hc.2)]
       ·unfold callGood
        rw [if_neg (by simp), if_neg (by simp), if_neg (by simp), if_pos rfl]
        exact decide_eq_true ⟨rfl, rfl, rfl⟩
     ·cases h
    ·cases h
theorem rest_of {x : Cal} (hx : x.ok) (hg : callGood x = true) : callRest x.kind x.seq (callT x) = some x := by
 obtain ⟨k, s, p, m, bs, l⟩ := x
 unfold callGood at hg
 unfold callRest callT
 simp only at hg ⊢
 split at hg
 ·rename_i hk
  obtain ⟨h1, h2, h3, h4⟩ := of_decide_eq_true hg
  subst hk h2 h3 h4
  have e1 : ∀ b ∈ bs, bundleR (bundleB b) = some b := fun b hb => bundleR_iff.2 ⟨hx.bundles b hb, rfl⟩
  rw [if_pos rfl, if_pos rfl, if_pos ⟨by simpa using h1, fun p hp => by
   obtain ⟨b, hb, rfl⟩ := List.mem_map.1 hp
   rw [e1 b hb]; rfl⟩, List.map_map]
  have e2 : bs.map ((fun p => (bundleR p).getD bundle0) ∘ bundleB) = bs := by
   conv => rhs; rw [← List.map_id bs]
   refine List.map_congr_left fun b hb => ?_
   show (bundleR (bundleB b)).getD bundle0 = b
   rw [e1 b hb]; rfl
  rw [e2]
 ·rename_i hk1
  split at hg
  ·rename_i hk
   obtain ⟨h1, h2, h3⟩ := of_decide_eq_true hg
   subst hk h1 h2 h3
   have hp : p < 256 := hx.peer
   rw [if_neg hk1, if_pos rfl, if_neg hk1, if_pos rfl, if_pos ⟨rfl, be_length 1 p⟩, takeN_cons (be_length 1 p), num_be' (by omega)]
  ·rename_i hk2
   split at hg
   ·rename_i hk
    rw [Bool.and_eq_true] at hg
    obtain ⟨h0, hg⟩ := hg
    obtain ⟨h1, h2, h3⟩ := of_decide_eq_true hg
    subst hk h1 h2 h3
    obtain ⟨t, ht⟩ := Option.isSome_iff_exists.1 h0
    rw [if_neg hk1, if_neg hk2, if_pos rfl, if_neg hk1, if_neg hk2, if_pos rfl, if_pos (show [(letterO l).getD []].length = 1 from rfl), ht]
    show (letterR t).map _ = _
    rw [letterR_iff.2 ⟨hx.letter, ht⟩]; rfl
   ·rename_i hk3
    split at hg
    ·rename_i hk
     obtain ⟨h1, h2, h3⟩ := of_decide_eq_true hg
     subst hk h1 h2 h3
     have hm : m < 65536 := hx.mark
     rw [if_neg hk1, if_neg hk2, if_neg hk3, if_pos rfl, if_neg hk1, if_neg hk2, if_neg hk3, if_pos ⟨rfl, be_length 2 m⟩, takeN_cons (be_length 2 m), num_be' (by omega)]
    ·cases hg
theorem callR_iff {l : List UInt8} {x : Cal} : callR l = some x ↔ x.ok ∧ callO x = some l := by
 unfold callR
 constructor
 ·intro h
  split at h
  ·rename_i hf
   have hne : openP l ≠ [] := fun e => by rw [e] at hf; exact hf.elim
   obtain ⟨hj1, hj2⟩ := join_open hne
   obtain ⟨h1, h2, h3, h4, h5⟩ := rest_some (takeN_lt _ 2) h
   refine ⟨h1, ?_⟩
   have e : callP x = openP l := by
    unfold callP
    rw [h2, h3, h4]
    generalize openP l = ps at *
    match ps, hf with
    | a :: b :: c, hf =>
     have ha := hf.1 1 rfl
     have hb := hf.2.1 2 rfl
     show be 1 (takeN (a :: b :: c) 1) :: be 2 (takeN (b :: c) 2) :: c = _
     rw [takeN_cons ha, be_take ha, takeN_cons hb, be_take hb]
    | [_], hf => exact hf.2.elim
    | [], hf => exact hf.elim
   unfold callO
   rw [e, joinO_some hj1 h5, hj2]
  ·cases h
 ·rintro ⟨h, h2⟩
  obtain ⟨h3, h4, rfl⟩ := joinO_eq h2
  have eo := open_join h3
  rw [eo]
  have hf : fitsP [some 1, some 2] (callP x) := ⟨fun n e => by cases e; exact be_length _ _, fun n e => by cases e; exact be_length _ _, trivial⟩
  rw [if_pos hf]
  have hk := h.kind
  have hs := h.seq
  show callRest (takeN (be 1 x.kind :: be 2 x.seq :: callT x) 1) (takeN (be 2 x.seq :: callT x) 2) (callT x) = some x
  rw [takeN_cons (be_length 1 _), takeN_cons (be_length 2 _), num_be' (by omega), num_be' (by omega)]
  exact rest_of h h4
theorem callR_ok (l : List UInt8) : ((callR l).getD cal0).ok := by
 cases h : callR l with
 | none => exact cal0_ok
 | some x => exact (callR_iff.1 h).1

/-! The error's number. -/
abbrev W2 (l : List UInt8) : Nat := lenW ((openP l).drop 1) (W1 l) 2
theorem W2_cases (l : List UInt8) : (∃ a b c, openP l = a :: b :: c ∧ fitsP [some 1, some 2] (openP l) ∧ W2 l = 0) ∨ (¬ fitsP [some 1, some 2] (openP l) ∧ W2 l = 141) := by
 obtain ⟨h1, h2⟩ := takesW_open (ks := [some 1, some 2]) (by simp) l
 by_cases hf : fitsP [some 1, some 2] (openP l)
 ·refine .inl ?_
  have e : W2 l = 0 := h1 hf
  have hf' := hf
  cases hp : openP l with
  | nil => rw [hp] at hf; exact hf.elim
  | cons a r =>
   cases r with
   | nil => rw [hp] at hf; exact hf.2.elim
   | cons b c => rw [hp] at hf'; exact ⟨a, b, c, rfl, hf', e⟩
 ·exact .inr ⟨hf, h2 hf⟩
theorem call_w0 {l : List UInt8} (h : ((W1 l : Nat) : Int) ≠ 0) : callR l = none ∧ callW l = W1 l := by
 rcases W1_cases l with ⟨_, _, _, _, e⟩ | ⟨hf, e⟩
 ·rw [e] at h; exact absurd rfl h
 ·have h1 : callR l = none := by
   unfold callR
   refine if_neg fun h => hf ?_
   generalize openP l = ps at *
   match ps, h with
   | a :: r, h => exact ⟨h.1, trivial⟩
   | [], h => exact h.elim
  refine ⟨h1, ?_⟩
  unfold callW
  rw [h1, if_neg (by simp), if_neg (fun h => hf h.1), e]
theorem call_bad {l : List UInt8} (h : ¬ ((W1 l : Nat) : Int) ≠ 0) (hk : takeN (openP l) 1 < 1 ∨ 4 < takeN (openP l) 1) : callR l = none ∧ callW l = 140 := by
 obtain ⟨a, r, e, ha, hw⟩ := item_head h
 have hf : fitsP [some 1] (openP l) := by rw [e]; exact firstFits ha
 have h0 : callR l = none := by
  unfold callR callRest
  split
  ·rw [if_neg (by omega), if_neg (by omega), if_neg (by omega), if_neg (by omega)]
  ·rfl
 refine ⟨h0, ?_⟩
 unfold callW
 rw [h0, if_neg (by simp), if_pos ⟨hf, by omega⟩]
theorem callW_of {l : List UInt8} (h1 : 1 ≤ takeN (openP l) 1) (h2 : takeN (openP l) 1 ≤ 4) : callW l = if (callR l).isSome then 0 else 141 := by
 unfold callW
 split
 ·rfl
 ·exact if_neg (by rintro ⟨_, h⟩; omega)
theorem end1n (n : Nat) (c : List (List UInt8)) : endW (c.drop 1) (failW (lenW c 0 n) 0) = if c.length = 1 ∧ (nextP c).length = n then 0 else 141 := by
 match c with
 | [] => rw [lenW_nil, if_neg (fun h => by simp at h)]; rfl
 | [p] =>
  rw [lenW_cons]
  by_cases hp : p.length = n
  ·rw [if_pos hp, if_pos ⟨rfl, hp⟩]; rfl
  ·rw [if_neg hp, if_neg (fun h => hp h.2)]; rfl
 | p :: q :: r =>
  rw [lenW_cons, if_neg (show ¬ ((p :: q :: r).length = 1 ∧ (nextP (p :: q :: r)).length = n) from fun h => by simp at h)]
  show (if (q :: r) = [] then _ else failW _ 141) = 141
  rw [if_neg (by simp)]
  by_cases hp : p.length = n
  ·rw [if_pos hp]; rfl
  ·rw [if_neg hp]; rfl
theorem call_w2 {l : List UInt8} (hk : takeN (openP l) 1 = 2) : endW ((((openP l).drop 1).drop 1).drop 1) (failW (lenW (((openP l).drop 1).drop 1) (W2 l) 1) 0) = callW l ∧ ∀ y, callR l = some y → y = ⟨takeN (openP l) 1, takeN ((openP l).drop 1) 2, takeN (((openP l).drop 1).drop 1) 1, 0, [], letter0⟩ := by
 rw [callW_of (by omega) (by omega)]
 rcases W2_cases l with ⟨a, b, c, e, hf, hw⟩ | ⟨hf, hw⟩
 ·have h0 : callR l = if (((openP l).drop 1).drop 1).length = 1 ∧ (nextP (((openP l).drop 1).drop 1)).length = 1 then some ⟨2, takeN ((openP l).drop 1) 2, takeN (((openP l).drop 1).drop 1) 1, 0, [], letter0⟩ else none := by
   unfold callR callRest
   rw [if_pos hf, if_neg (by omega), if_pos hk]
  rw [h0, hw, end1n]
  refine ⟨?_, fun y hy => ?_⟩
  ·by_cases hc : (((openP l).drop 1).drop 1).length = 1 ∧ (nextP (((openP l).drop 1).drop 1)).length = 1
   ·rw [if_pos hc, if_pos hc]; rfl
   ·rw [if_neg hc, if_neg hc]; rfl
  ·split at hy
   ·rw [hk]; exact (Option.some.inj hy).symm
   ·cases hy
 ·have h0 : callR l = none := if_neg hf
  rw [h0, hw, lenW_141]
  exact ⟨endW_141 _, fun y hy => by cases hy⟩
theorem call_w4 {l : List UInt8} (hk : takeN (openP l) 1 = 4) : endW ((((openP l).drop 1).drop 1).drop 1) (failW (lenW (((openP l).drop 1).drop 1) (W2 l) 2) 0) = callW l ∧ ∀ y, callR l = some y → y = ⟨takeN (openP l) 1, takeN ((openP l).drop 1) 2, 0, takeN (((openP l).drop 1).drop 1) 2, [], letter0⟩ := by
 rw [callW_of (by omega) (by omega)]
 rcases W2_cases l with ⟨a, b, c, e, hf, hw⟩ | ⟨hf, hw⟩
 ·have h0 : callR l = if (((openP l).drop 1).drop 1).length = 1 ∧ (nextP (((openP l).drop 1).drop 1)).length = 2 then some ⟨4, takeN ((openP l).drop 1) 2, 0, takeN (((openP l).drop 1).drop 1) 2, [], letter0⟩ else none := by
   unfold callR callRest
   rw [if_pos hf, if_neg (by omega), if_neg (by omega), if_neg (by omega), if_pos hk]
  rw [h0, hw, end1n]
  refine ⟨?_, fun y hy => ?_⟩
  ·by_cases hc : (((openP l).drop 1).drop 1).length = 1 ∧ (nextP (((openP l).drop 1).drop 1)).length = 2
   ·rw [if_pos hc, if_pos hc]; rfl
   ·rw [if_neg hc, if_neg hc]; rfl
  ·split at hy
   ·rw [hk]; exact (Option.some.inj hy).symm
   ·cases hy
 ·have h0 : callR l = none := if_neg hf
  rw [h0, hw, lenW_141]
  exact ⟨endW_141 _, fun y hy => by cases hy⟩
theorem call_w3 {l : List UInt8} (hk : takeN (openP l) 1 = 3) : endW ((((openP l).drop 1).drop 1).drop 1) (failW (nextW (((openP l).drop 1).drop 1) (W2 l)) (if (letterR (nextP (((openP l).drop 1).drop 1))).isSome then 0 else 141)) = callW l ∧ ∀ y, callR l = some y → y = ⟨takeN (openP l) 1, takeN ((openP l).drop 1) 2, 0, 0, [], (letterR (nextP (((openP l).drop 1).drop 1))).getD letter0⟩ := by
 rw [callW_of (by omega) (by omega)]
 rcases W2_cases l with ⟨a, b, c, e, hf, hw⟩ | ⟨hf, hw⟩
 ·have h0 : callR l = (if (((openP l).drop 1).drop 1).length = 1 then letterR (nextP (((openP l).drop 1).drop 1)) else none).map fun y => ⟨3, takeN ((openP l).drop 1) 2, 0, 0, [], y⟩ := by
   unfold callR callRest
   rw [if_pos hf, if_neg (by omega), if_neg (by omega), if_pos hk]
   by_cases hc : (((openP l).drop 1).drop 1).length = 1
   ·rw [if_pos hc, if_pos hc]
   ·rw [if_neg hc, if_neg hc]; rfl
  rw [h0, hw]
  refine ⟨(end2 letterR _).trans (by cases (if (((openP l).drop 1).drop 1).length = 1 then letterR (nextP (((openP l).drop 1).drop 1)) else none) <;> rfl), fun y hy => ?_⟩
  obtain ⟨z, hz, rfl⟩ := Option.map_eq_some_iff.1 hy
  split at hz
  ·rw [hz, hk]; rfl
  ·cases hz
 ·have h0 : callR l = none := if_neg hf
  rw [h0, hw, nextW_141]
  exact ⟨endW_141 _, fun y hy => by cases hy⟩
/-- Where the loop over bundles stands. -/
def CInv (c : List (List UInt8)) (bs : List Bundle) (ps : List (List UInt8)) (e : Nat) : Prop :=
  (∀ b ∈ bs, b.ok) ∧ bs.length ≤ 9 ∧ ((e = 0 ∧ ∃ d, c = d ++ ps ∧ d.map bundleR = bs.map some) ∨ (e = 141 ∧ ∃ p ∈ c, bundleR p = none))
theorem CInv.start (c : List (List UInt8)) : CInv c [] c 0 := ⟨by simp, by simp, .inl ⟨rfl, [], rfl, rfl⟩⟩
theorem CInv.step {c : List (List UInt8)} {bs : List Bundle} {p : List UInt8} {r : List (List UInt8)} (h : CInv c bs (p :: r) 0) (h8 : bs.length ≤ 8) : CInv c (bs ++ [(bundleR p).getD bundle0]) r (if (bundleR p).isSome then 0 else 141) := by
 obtain ⟨h1, h2, h3⟩ := h
 refine ⟨fun b hb => ?_, by simp; omega, ?_⟩
 ·rcases List.mem_append.1 hb with hb | hb
  ·exact h1 b hb
  ·rw [List.mem_singleton] at hb; subst hb; exact bundleR_ok p
 ·rcases h3 with ⟨_, d, hd, hm⟩ | ⟨h, _⟩
  ·cases hp : bundleR p with
   | none => exact .inr ⟨rfl, p, by rw [hd]; simp, hp⟩
   | some b => exact .inl ⟨rfl, d ++ [p], by rw [hd]; simp, by simp [hm, hp]⟩
  ·cases h
theorem call_w1 {l : List UInt8} {bs : List Bundle} {ps : List (List UInt8)} {e : Nat} (hk : takeN (openP l) 1 = 1) (h : CInv (((openP l).drop 1).drop 1) bs ps e) (hx : ps = [] ∨ 9 ≤ bs.length ∨ e ≠ 0) : endW ps (failW (W2 l) e) = callW l ∧ ∀ y, callR l = some y → y = ⟨takeN (openP l) 1, takeN ((openP l).drop 1) 2, 0, 0, bs, letter0⟩ := by
 rw [callW_of (by omega) (by omega)]
 obtain ⟨h1, h2, h3⟩ := h
 rcases W2_cases l with ⟨a, b, c, eo, hf, hw⟩ | ⟨hf, hw⟩
 ·have h0 : callR l = if (((openP l).drop 1).drop 1).length ≤ 9 ∧ ∀ p ∈ ((openP l).drop 1).drop 1, (bundleR p).isSome = true then some ⟨1, takeN ((openP l).drop 1) 2, 0, 0, (((openP l).drop 1).drop 1).map fun p => (bundleR p).getD bundle0, letter0⟩ else none := by
   unfold callR callRest
   rw [if_pos hf, if_pos hk]
  rw [hw, hk]
  rcases h3 with ⟨rfl, d, hd, hm⟩ | ⟨rfl, p, hp, hpn⟩
  ·have hlen : d.length = bs.length := by have := congrArg List.length hm; simpa using this
   by_cases hps : ps = []
   ·subst hps
    rw [List.append_nil] at hd
    have hall : ∀ p ∈ d, (bundleR p).isSome = true := fun p hp => by
     have : bundleR p ∈ bs.map some := by rw [← hm]; exact List.mem_map.2 ⟨p, hp, rfl⟩
     obtain ⟨b, _, e⟩ := List.mem_map.1 this
     rw [← e]; rfl
    have e2 : d.map (fun p => (bundleR p).getD bundle0) = bs := by
     have := congrArg (List.map fun o : Option Bundle => o.getD bundle0) hm
     rw [List.map_map, List.map_map] at this
     refine this.trans ?_
     conv => rhs; rw [← List.map_id bs]
     exact List.map_congr_left fun _ _ => rfl
    have hr : callR l = some ⟨1, takeN ((openP l).drop 1) 2, 0, 0, bs, letter0⟩ := by
     rw [h0, hd, if_pos ⟨by omega, hall⟩, e2]
    rw [hr]
    exact ⟨rfl, fun y hy => (Option.some.inj hy).symm⟩
   ·have h9 : 9 ≤ bs.length := by
     rcases hx with hx | hx | hx
     ·exact absurd hx hps
     ·exact hx
     ·exact absurd rfl hx
    have hpl : 0 < ps.length := List.length_pos_iff.2 hps
    have hr : callR l = none := by
     rw [h0]
     exact if_neg (fun h => by have h1 := h.1; rw [hd, List.length_append] at h1; omega)
    rw [hr]
    refine ⟨?_, fun y hy => by cases hy⟩
    unfold endW
    rw [if_neg hps]; rfl
  ·have hr : callR l = none := by
    rw [h0]
    exact if_neg (fun h => by have := h.2 p hp; rw [hpn] at this; cases this)
   rw [hr]
   exact ⟨endW_141 _, fun y hy => by cases hy⟩
 ·have h0 : callR l = none := if_neg hf
  rw [h0, hw]
  exact ⟨endW_141 _, fun y hy => by cases hy⟩
theorem callW_none {l : List UInt8} (h1 : 1 ≤ takeN (openP l) 1) (h2 : takeN (openP l) 1 ≤ 4) {n : Nat} (hn : ((n : Nat) : Int) ≠ 0) (h : n = callW l) : callR l = none ∧ callW l = 141 := by
 rw [callW_of h1 h2] at h
 obtain ⟨e1, e2⟩ := why_none hn h
 exact ⟨e1, by rw [callW_of h1 h2, e1]; rfl⟩
theorem callW_some {l : List UInt8} (h1 : 1 ≤ takeN (openP l) 1) (h2 : takeN (openP l) 1 ≤ 4) {n : Nat} (hn : ¬ ((n : Nat) : Int) ≠ 0) (h : n = callW l) : ∃ x, callR l = some x ∧ callW l = 0 := by
 rw [callW_of h1 h2] at h
 obtain ⟨x, e1⟩ := why_some hn h
 exact ⟨x, e1, by rw [callW_of h1 h2, e1]; rfl⟩
end Go.Proofs.Ytcfecmoagfgnaaa

/- wire: bytes of calls. -/
namespace Go.Proofs.Ytcfecmoagfgnaaa
open Go.Vc Go.Pl

theorem Mono_bundle : Mono bundleR' := fun _ _ _ _ _ _ h => h
theorem callO_none {x : Cal} (h : callGood x = false) : none = callO x := by unfold callO; rw [h]; exact none_joinO _
theorem callO_1 {x : Cal} (hk : x.kind = 1) (h : callGood x = true) : joinO ([be 1 x.kind, be 2 x.seq] ++ x.bundles.map bundleB) true = callO x := by
 unfold callO callP callT; rw [h, if_pos hk]; rfl
theorem callO_2 {x : Cal} (hk : x.kind = 2) (h : callGood x = true) : joinO [be 1 x.kind, be 2 x.seq, be 1 x.peer] true = callO x := by
 unfold callO callP callT; rw [h, if_neg (by omega), if_pos hk]
theorem callO_3 {x : Cal} (hk : x.kind = 3) (h : callGood x = true) : joinO [be 1 x.kind, be 2 x.seq, (letterO x.letter).getD []] true = callO x := by
 unfold callO callP callT; rw [h, if_neg (by omega), if_neg (by omega), if_pos hk]
theorem callO_4 {x : Cal} (hk : x.kind = 4) (h : callGood x = true) : joinO [be 1 x.kind, be 2 x.seq, be 2 x.mark] true = callO x := by
 unfold callO callP callT; rw [h, if_neg (by omega), if_neg (by omega), if_neg (by omega)]
theorem bundle_next {bs : List Bundle} {i : Nat} (h : i < bs.length) : (bs.take i).map bundleB ++ [bundleB (bs[i]'h)] = (bs.take (i + 1)).map bundleB := by
 rw [List.take_succ_eq_append_getElem h, List.map_append]; rfl
end Go.Proofs.Ytcfecmoagfgnaaa

/- wire: lists of items, written. -/
namespace Go.Proofs.Ytcfecmoagfgnaaa
open Go.Vc Go.Pl

theorem items_next {xs : List Itm} {i : Nat} (h : i < xs.length) : itemsP (xs.take i) ++ [(itemO (xs[i]'h)).getD []] = itemsP (xs.take (i + 1)) := by
 unfold itemsP; rw [List.take_succ_eq_append_getElem h, List.map_append]; rfl
theorem itemsP_length (xs : List Itm) : (itemsP xs).length = xs.length := by unfold itemsP; rw [List.length_map]

end Go.Proofs.Ytcfecmoagfgnaaa

/- Packets: their bytes; what bytes are read as. -/
namespace Go.Pl

structure Pkt where
  src : Nat
  dst : Nat
  kind : Nat
  chain : List Object
  body : List UInt8
  sig : List UInt8
structure Pkt.ok (x : Pkt) : Prop where
  src : x.src < 256
  dst : x.dst < 256
  kind : x.kind < 256
  chain : ∀ i ∈ x.chain, i.ok
  sig : x.sig.length = 64
def pkt0 : Pkt := ⟨0, 0, 0, [], [], zeros 64⟩
theorem pkt0_ok : pkt0.ok := ⟨by decide, by decide, by decide, by simp [pkt0], rfl⟩

def chainP (xs : List Object) : List (List UInt8) := xs.map fun x => (objectO x).getD []
def chainGood (xs : List Object) : Bool := decide (xs.length ≤ 4) && xs.all fun x => (objectO x).isSome
def chainO (xs : List Object) : Option (List UInt8) := joinO (chainP xs) (chainGood xs)
def kindIn (k : Nat) : Bool := decide (1 ≤ k) && decide (k ≤ 4)
def pktP (x : Pkt) : List (List UInt8) := [be 1 x.src, be 1 x.dst, be 1 x.kind, (chainO x.chain).getD [], x.body, x.sig]
def pktO (x : Pkt) : Option (List UInt8) := joinO (pktP x) ((chainO x.chain).isSome && kindIn x.kind)
def restObjs (c : List (List UInt8)) : Option (List Object) :=
  if c.length ≤ 4 ∧ ∀ p ∈ c, (objectR p).isSome = true then some (c.map fun p => (objectR p).getD object0) else none
def chainR (l : List UInt8) : Option (List Object) := if l = [0] ∨ openP l ≠ [] then restObjs (openP l) else none
abbrev pktK : List (Option Nat) := [some 1, some 1, some 1, none, none, some 64]
/-- The fourth piece and the ones behind it. -/
abbrev at1 (ps : List (List UInt8)) : List (List UInt8) := ps.drop 1
abbrev at2 (ps : List (List UInt8)) : List (List UInt8) := (ps.drop 1).drop 1
abbrev at3 (ps : List (List UInt8)) : List (List UInt8) := ((ps.drop 1).drop 1).drop 1
abbrev at4 (ps : List (List UInt8)) : List (List UInt8) := (((ps.drop 1).drop 1).drop 1).drop 1
abbrev at5 (ps : List (List UInt8)) : List (List UInt8) := ((((ps.drop 1).drop 1).drop 1).drop 1).drop 1
def pktOf (a : List (List UInt8)) (xs : List Object) : Pkt := ⟨takeN a 1, takeN (at1 a) 1, takeN (at2 a) 1, xs, nextP (at4 a), takeB 64 (at5 a)⟩
abbrev pktC (l : List UInt8) : Prop := fitsP pktK (openP l) ∧ (openP l).length = 6 ∧ kindIn (takeN (at2 (openP l)) 1) = true
def pktR (l : List UInt8) : Option Pkt := if pktC l then (chainR (nextP (at3 (openP l)))).map (pktOf (openP l)) else none
/-- The kind is a byte, and none of them. -/
def kindBad (ps : List (List UInt8)) : Prop := 2 < ps.length ∧ (nextP (at2 ps)).length = 1 ∧ kindIn (num (nextP (at2 ps))) = false
instance (ps : List (List UInt8)) : Decidable (kindBad ps) := by unfold kindBad; infer_instance
def pktW (l : List UInt8) : Nat := if (pktR l).isSome then 0 else if kindBad (openP l) then 140 else 141

theorem objects_back {xs : List Object} (h : ∀ x ∈ xs, x.ok) (h2 : ∀ x ∈ xs, (objectO x).isSome = true) : (∀ p ∈ chainP xs, (objectR p).isSome = true) ∧ (chainP xs).map (fun p => (objectR p).getD object0) = xs := by
 have e1 : ∀ x ∈ xs, objectR ((objectO x).getD []) = some x := fun x hx => by
  obtain ⟨l, hl⟩ := Option.isSome_iff_exists.1 (h2 x hx)
  rw [hl]; exact objectR_iff.2 ⟨h x hx, hl⟩
 constructor
 ·intro p hp
  obtain ⟨x, hx, rfl⟩ := List.mem_map.1 hp
  rw [e1 x hx]; rfl
 ·unfold chainP
  rw [List.map_map]
  conv => rhs; rw [← List.map_id xs]
  refine List.map_congr_left fun x hx => ?_
  show (objectR ((objectO x).getD [])).getD object0 = x
  rw [e1 x hx]; rfl
theorem chainGood_iff {xs : List Object} : chainGood xs = true ↔ xs.length ≤ 4 ∧ ∀ x ∈ xs, (objectO x).isSome = true := by
 unfold chainGood
 rw [Bool.and_eq_true, decide_eq_true_iff, List.all_eq_true]
theorem objectR_ok (l : List UInt8) : ((objectR l).getD object0).ok := by
 cases h : objectR l with
 | none => exact object0_ok
 | some x => exact (objectR_iff.1 h).1
theorem restObjs_iff {c : List (List UInt8)} {xs : List Object} : restObjs c = some xs ↔ (∀ x ∈ xs, x.ok) ∧ chainGood xs = true ∧ chainP xs = c := by
 unfold restObjs
 constructor
 ·intro h
  split at h
  ·rename_i hc
   cases h
   have e1 : ∀ p ∈ c, objectO ((objectR p).getD object0) = some p := fun p hp => by
    obtain ⟨y, hy⟩ := Option.isSome_iff_exists.1 (hc.2 p hp)
    rw [hy]; exact (objectR_iff.1 hy).2
   refine ⟨fun x hx => ?_, chainGood_iff.2 ⟨by simpa using hc.1, fun x hx => ?_⟩, ?_⟩
   ·obtain ⟨p, _, rfl⟩ := List.mem_map.1 hx
    exact objectR_ok p
   ·obtain ⟨p, hp, rfl⟩ := List.mem_map.1 hx
    rw [e1 p hp]; rfl
   ·unfold chainP
    rw [List.map_map]
    conv => rhs; rw [← List.map_id c]
    refine List.map_congr_left fun p hp => ?_
    show (objectO ((objectR p).getD object0)).getD [] = p
    rw [e1 p hp]; rfl
  ·cases h
 ·rintro ⟨h1, h2, rfl⟩
  obtain ⟨h3, h4⟩ := chainGood_iff.1 h2
  obtain ⟨h5, h6⟩ := objects_back h1 h4
  rw [if_pos ⟨by unfold chainP; simpa using h3, h5⟩, h6]
theorem openP_zero : openP [0] = [] := rfl
theorem chainR_iff {l : List UInt8} {xs : List Object} : chainR l = some xs ↔ (∀ x ∈ xs, x.ok) ∧ chainO xs = some l := by
 unfold chainR
 constructor
 ·intro h
  split at h
  ·rename_i hc
   obtain ⟨h1, h2, h3⟩ := restObjs_iff.1 h
   refine ⟨h1, ?_⟩
   unfold chainO
   rcases hc with rfl | hne
   ·rw [h3, openP_zero, joinO_some (by decide) h2]; rfl
   ·obtain ⟨hj1, hj2⟩ := join_open hne
    rw [h3, joinO_some hj1 h2, hj2]
  ·cases h
 ·rintro ⟨h1, h2⟩
  obtain ⟨h3, h4, rfl⟩ := joinO_eq h2
  have eo := open_join h3
  rw [if_pos, eo]
  ·exact restObjs_iff.2 ⟨h1, h4, rfl⟩
  ·cases hc : chainP xs with
   | nil => exact .inl rfl
   | cons a r => right; rw [← hc, eo, hc]; simp
theorem kindIn_of {k : Nat} : kindIn k = true ↔ 1 ≤ k ∧ k ≤ 4 := by unfold kindIn; simp
theorem pktR_iff {l : List UInt8} {x : Pkt} : pktR l = some x ↔ x.ok ∧ pktO x = some l := by
 unfold pktR
 constructor
 ·intro h
  split at h
  ·rename_i hc
   obtain ⟨xs, hxs, rfl⟩ := Option.map_eq_some_iff.1 h
   obtain ⟨h1, h2⟩ := chainR_iff.1 hxs
   obtain ⟨hf, hl, hk⟩ := hc
   have hne : openP l ≠ [] := fun e => by rw [e] at hl; cases hl
   obtain ⟨hj1, hj2⟩ := join_open hne
   refine ⟨⟨takeN_lt _ 1, takeN_lt _ 1, takeN_lt _ 1, h1, takeB_length _ _⟩, ?_⟩
   have e : pktP (pktOf (openP l) xs) = openP l := by
    unfold pktP pktOf
    simp only
    rw [h2]
    generalize openP l = ps at *
    match ps, hl, hf with
    | [a, b, c, d, e, f], _, hf =>
     have ha := hf.1 1 rfl
     have hb := hf.2.1 1 rfl
     have hc := hf.2.2.1 1 rfl
     have hg := hf.2.2.2.2.2.1 64 rfl
     show [be 1 (takeN [a, b, c, d, e, f] 1), be 1 (takeN [b, c, d, e, f] 1), be 1 (takeN [c, d, e, f] 1), d, e, takeB 64 [f]] = _
     rw [takeN_cons ha, be_take ha, takeN_cons hb, be_take hb, takeN_cons hc, be_take hc, takeB_cons hg]
   unfold pktO
   rw [e, show (pktOf (openP l) xs).chain = xs from rfl, h2, joinO_some hj1 (by rw [show (pktOf (openP l) xs).kind = takeN (at2 (openP l)) 1 from rfl, hk]; rfl), hj2]
  ·cases h
 ·rintro ⟨h, h2⟩
  obtain ⟨h3, h4, rfl⟩ := joinO_eq h2
  have eo := open_join h3
  rw [Bool.and_eq_true] at h4
  obtain ⟨t, ht⟩ := Option.isSome_iff_exists.1 h4.1
  have hs := h.src
  have hd := h.dst
  have hk := h.kind
  have n1 : takeN (pktP x) 1 = x.src := (takeN_cons (be_length 1 _)).trans (num_be' (by omega))
  have n2 : takeN (at1 (pktP x)) 1 = x.dst := (takeN_cons (be_length 1 _)).trans (num_be' (by omega))
  have n3 : takeN (at2 (pktP x)) 1 = x.kind := (takeN_cons (be_length 1 _)).trans (num_be' (by omega))
  have n4 : nextP (at3 (pktP x)) = t := by show (chainO x.chain).getD [] = t; rw [ht]; rfl
  have n5 : nextP (at4 (pktP x)) = x.body := rfl
  have n6 : takeB 64 (at5 (pktP x)) = x.sig := takeB_cons h.sig
  have hc : pktC (joinB (pktP x)) := by
   unfold pktC
   rw [eo, n3]
   exact ⟨⟨fun n e => by cases e; exact be_length _ _, fun n e => by cases e; exact be_length _ _, fun n e => by cases e; exact be_length _ _, (fun n e => by cases e), (fun n e => by cases e), fun n e => by cases e; exact h.sig, trivial⟩, rfl, h4.2⟩
  rw [if_pos hc, eo, n4, chainR_iff.2 ⟨h.chain, ht⟩]
  show some (pktOf (pktP x) x.chain) = some x
  unfold pktOf
  rw [n1, n2, n3, n5, n6]
theorem pktR_ok (l : List UInt8) : ((pktR l).getD pkt0).ok := by
 cases h : pktR l with
 | none => exact pkt0_ok
 | some x => exact (pktR_iff.1 h).1

/-! The loop that reads objects: c: all pieces; xs: read; ps: left; er: the error. -/
def OInv (c : List (List UInt8)) (why0 : Nat) (xs : List Object) (ps : List (List UInt8)) (why : Nat) : Prop :=
  (∀ x ∈ xs, x.ok) ∧ xs.length ≤ 4 ∧ ((why = why0 ∧ ∃ d, c = d ++ ps ∧ d.map objectR = xs.map some) ∨ (why = 141 ∧ ∃ p ∈ c, objectR p = none))
theorem OInv.start (c : List (List UInt8)) (why0 : Nat) : OInv c why0 [] c why0 := ⟨by simp, by simp, .inl ⟨rfl, [], rfl, rfl⟩⟩
theorem OInv.step {c : List (List UInt8)} {xs : List Object} {p : List UInt8} {r : List (List UInt8)} (h : OInv c 0 xs (p :: r) 0) (h4 : xs.length < 4) : OInv c 0 (xs ++ [(objectR p).getD object0]) r (if (objectR p).isSome then 0 else 141) := by
 obtain ⟨h1, h2, h3⟩ := h
 refine ⟨fun b hb => ?_, by simp; omega, ?_⟩
 ·rcases List.mem_append.1 hb with hb | hb
  ·exact h1 b hb
  ·rw [List.mem_singleton] at hb; subst hb; exact objectR_ok p
 ·rcases h3 with ⟨_, d, hd, hm⟩ | ⟨h, _⟩
  ·cases hp : objectR p with
   | none => exact .inr ⟨rfl, p, by rw [hd]; simp, hp⟩
   | some b => exact .inl ⟨rfl, d ++ [p], by rw [hd]; simp, by simp [hm, hp]⟩
  ·cases h
theorem OInv.done {c : List (List UInt8)} {why0 : Nat} (h0 : why0 = 0 ∨ why0 = 141) {xs : List Object} {ps : List (List UInt8)} {why : Nat} (h : OInv c why0 xs ps why) (hx : ps = [] ∨ 4 ≤ xs.length ∨ why ≠ 0) : endW ps why = (if why0 = 0 ∧ (restObjs c).isSome = true then 0 else 141) ∧ (why0 = 0 → ∀ ys, restObjs c = some ys → ys = xs) := by
 obtain ⟨h1, h2, h3⟩ := h
 rcases h3 with ⟨rfl, d, hd, hm⟩ | ⟨rfl, p, hp, hpn⟩
 ·rcases h0 with rfl | rfl
  ·have hlen : d.length = xs.length := by have := congrArg List.length hm; simpa using this
   by_cases hps : ps = []
   ·subst hps
    rw [List.append_nil] at hd
    have hall : ∀ p ∈ d, (objectR p).isSome = true := fun p hp => by
     have : objectR p ∈ xs.map some := by rw [← hm]; exact List.mem_map.2 ⟨p, hp, rfl⟩
     obtain ⟨b, _, e⟩ := List.mem_map.1 this
     rw [← e]; rfl
    have e2 : d.map (fun p => (objectR p).getD object0) = xs := by
     have := congrArg (List.map fun o : Option Object => o.getD object0) hm
     rw [List.map_map, List.map_map] at this
     refine this.trans ?_
     conv => rhs; rw [← List.map_id xs]
     exact List.map_congr_left fun _ _ => rfl
    have hr : restObjs c = some xs := by
     unfold restObjs
     rw [hd, if_pos ⟨by omega, hall⟩, e2]
    rw [hr]
    exact ⟨rfl, fun _ ys hy => (Option.some.inj hy).symm⟩
   ·have h9 : 4 ≤ xs.length := by
     rcases hx with hx | hx | hx
     ·exact absurd hx hps
     ·exact hx
     ·exact absurd rfl hx
    have hpl : 0 < ps.length := List.length_pos_iff.2 hps
    have hr : restObjs c = none := by
     unfold restObjs
     exact if_neg (fun h => by have h1 := h.1; rw [hd, List.length_append] at h1; omega)
    rw [hr]
    refine ⟨?_, fun _ ys hy => by cases hy⟩
    unfold endW
    rw [if_neg hps]; rfl
  ·exact ⟨(endW_141 _).trans (if_neg (fun h => by cases h.1)).symm, fun h => by cases h⟩
 ·have hr : restObjs c = none := by
   unfold restObjs
   exact if_neg (fun h => by have := h.2 p hp; rw [hpn] at this; cases this)
  rw [hr]
  exact ⟨(endW_141 _).trans (if_neg (fun h => by cases h.2)).symm, fun _ ys hy => by cases hy⟩
/-- What the inner reader says at its end: the pieces' list, or the error. -/
theorem chain_end {l : List UInt8} {c : List (List UInt8)} {why0 : Nat} (hc : (l = [0] ∧ c = [] ∧ why0 = 0) ∨ (l ≠ [0] ∧ c = openP l ∧ why0 = openW l)) {xs : List Object} {ps : List (List UInt8)} {why : Nat} (h : OInv c why0 xs ps why) (hx : ps = [] ∨ 4 ≤ xs.length ∨ why ≠ 0) : endW ps why = (if (chainR l).isSome then 0 else 141) ∧ ∀ ys, chainR l = some ys → ys = xs := by
 rcases hc with ⟨rfl, rfl, rfl⟩ | ⟨hl, rfl, rfl⟩
 ·obtain ⟨h1, h2⟩ := h.done (.inl rfl) hx
  have e : chainR [0] = restObjs [] := if_pos (.inl rfl)
  rw [e, h1]
  refine ⟨?_, fun ys hy => h2 rfl ys hy⟩
  cases (restObjs []).isSome <;> rfl
 ·rcases openW_cases l with ⟨h1, h2⟩ | ⟨h1, h2⟩
  ·have e : chainR l = none := if_neg (by rintro (h | h) <;> contradiction)
   rw [h2] at h
   rw [e, (h.done (.inr rfl) hx).1]
   exact ⟨rfl, fun ys hy => by cases hy⟩
  ·have e : chainR l = restObjs (openP l) := if_pos (.inr h1)
   rw [h2] at h
   obtain ⟨h3, h4⟩ := h.done (.inl rfl) hx
   rw [e, h3]
   refine ⟨?_, fun ys hy => h4 rfl ys hy⟩
   cases (restObjs (openP l)).isSome <;> rfl
theorem pkt_why (l : List UInt8) (hk : ¬ kindBad (openP l)) : endW ((at5 (openP l)).drop 1) (lenW (at5 (openP l)) (nextW (at4 (openP l)) (failW (nextW (at3 (openP l)) (lenW (at2 (openP l)) (lenW (at1 (openP l)) (lenW (openP l) (openW l) 1) 1) 1)) (if (chainR (nextP (at3 (openP l)))).isSome then 0 else 141))) 64) = if (pktR l).isSome then 0 else 141 := by
 obtain ⟨h1, h2⟩ := takesW_open (ks := [some 1, some 1, some 1, none]) (by simp) l
 by_cases hf : fitsP [some 1, some 1, some 1, none] (openP l)
 ·have e4 : nextW (at3 (openP l)) (lenW (at2 (openP l)) (lenW (at1 (openP l)) (lenW (openP l) (openW l) 1) 1) 1) = 0 := h1 hf
  rw [e4, failW_0]
  unfold pktR pktC
  generalize openP l = ps at *
  match ps, hf with
  | a :: b :: c :: d :: r, hf =>
   have ha := hf.1 1 rfl
   have hb := hf.2.1 1 rfl
   have hc := hf.2.2.1 1 rfl
   show endW (r.drop 1 |>.drop 1) (lenW (r.drop 1) (nextW r (if (chainR d).isSome then 0 else 141)) 64) = if (if fitsP pktK (a :: b :: c :: d :: r) ∧ (a :: b :: c :: d :: r).length = 6 ∧ kindIn (takeN (c :: d :: r) 1) = true then (chainR d).map (pktOf (a :: b :: c :: d :: r)) else none).isSome then 0 else 141
   cases hx : chainR d with
   | none =>
    have e1 : (if (Option.none (α := List Object)).isSome = true then 0 else 141) = 141 := rfl
    rw [e1, nextW_141, lenW_141, endW_141]
    split <;> rfl
   | some xs =>
    have e1 : (if (Option.some xs).isSome = true then 0 else 141) = 0 := rfl
    rw [e1]
    match r with
    | [] => rw [if_neg (show ¬ (fitsP pktK [a, b, c, d] ∧ [a, b, c, d].length = 6 ∧ kindIn (takeN [c, d] 1) = true) from fun h => by have := h.2.1; simp at this)]; rfl
    | [x] => rw [if_neg (show ¬ (fitsP pktK [a, b, c, d, x] ∧ [a, b, c, d, x].length = 6 ∧ kindIn (takeN [c, d, x] 1) = true) from fun h => by have := h.2.1; simp at this)]; rfl
    | x :: s :: t =>
     rw [nextW_cons]
     show endW t (lenW (s :: t) 0 64) = _
     rw [lenW_cons]
     by_cases hs : s.length = 64
     ·rw [if_pos hs]
      match t with
      | [] =>
       have hkk : kindIn (takeN [c, d, x, s] 1) = true := by
        rw [takeN_cons hc]
        cases hq : kindIn (num c) with
        | true => rfl
        | false => exact absurd ⟨by simp, hc, hq⟩ hk
       rw [if_pos (show fitsP pktK [a, b, c, d, x, s] ∧ [a, b, c, d, x, s].length = 6 ∧ kindIn (takeN [c, d, x, s] 1) = true from ⟨⟨fun n e => by cases e; exact ha, fun n e => by cases e; exact hb, fun n e => by cases e; exact hc, (fun n e => by cases e), (fun n e => by cases e), fun n e => by cases e; exact hs, trivial⟩, rfl, hkk⟩)]
       rfl
      | y :: u => rw [if_neg (show ¬ (fitsP pktK (a :: b :: c :: d :: x :: s :: y :: u) ∧ (a :: b :: c :: d :: x :: s :: y :: u).length = 6 ∧ kindIn (takeN (c :: d :: x :: s :: y :: u) 1) = true) from fun h => by have := h.2.1; simp at this)]; rfl
     ·rw [if_neg hs, endW_141, if_neg (show ¬ (fitsP pktK (a :: b :: c :: d :: x :: s :: t) ∧ (a :: b :: c :: d :: x :: s :: t).length = 6 ∧ kindIn (takeN (c :: d :: x :: s :: t) 1) = true) from fun h => hs (h.1.2.2.2.2.2.1 64 rfl))]; rfl
  | [_, _, _], hf => exact hf.2.2.2.elim
  | [_, _], hf => exact hf.2.2.elim
  | [_], hf => exact hf.2.elim
  | [], hf => exact hf.elim
 ·have e4 : nextW (at3 (openP l)) (lenW (at2 (openP l)) (lenW (at1 (openP l)) (lenW (openP l) (openW l) 1) 1) 1) = 141 := h2 hf
  rw [e4, failW_pos (by decide), nextW_141, lenW_141, endW_141]
  have hr : pktR l = none := if_neg (fun h => hf (by
   obtain ⟨h, _⟩ := h
   generalize openP l = ps at *
   match ps, h with
   | a :: b :: c :: d :: r, h => exact ⟨h.1, h.2.1, h.2.2.1, h.2.2.2.1, trivial⟩
   | [_, _, _], hf => exact hf.2.2.2.elim
   | [_, _], hf => exact hf.2.2.elim
   | [_], hf => exact hf.2.elim
   | [], hf => exact hf.elim))
  rw [hr]; rfl
theorem pktW_bad {l : List UInt8} (h : kindBad (openP l)) : pktR l = none ∧ pktW l = 140 := by
 have hr : pktR l = none := if_neg (fun hc => by
  obtain ⟨_, h2, h3⟩ := h
  have h4 := hc.2.2
  unfold takeN at h4
  rw [if_pos h2] at h4
  rw [h4] at h3; cases h3)
 refine ⟨hr, ?_⟩
 unfold pktW
 rw [hr, if_neg (by simp), if_pos h]
theorem pktW_good {l : List UInt8} (h : ¬ kindBad (openP l)) : pktW l = if (pktR l).isSome then 0 else 141 := by
 unfold pktW
 rw [if_neg h]
theorem pkt_is {l : List UInt8} {y : Pkt} (h : pktR l = some y) {xs : List Object} (hx : ∀ ys, chainR (nextP (at3 (openP l))) = some ys → ys = xs) : y = pktOf (openP l) xs := by
 unfold pktR at h
 split at h
 ·obtain ⟨ys, hys, rfl⟩ := Option.map_eq_some_iff.1 h
  rw [hx ys hys]
 ·cases h
end Go.Pl

/- Packets as cells. -/
namespace Go.Proofs.Ytcfecmoagfgnaaa
open Go.Vc Go.Pl

abbrev pktV (x : Pkt) (q : Option Addr) (d : Nat) (p : Option Addr) (c : Nat) : List (List Value) := [[.int .u8 x.src], [.int .u8 x.dst], [.int .u8 x.kind], [.slice q x.chain.length d], [.slice p x.body.length c], x.sig.map bv]
abbrev pktL : List Nat := [1, 1, 1, 1, 1, 64]
theorem zero118 : (Try.prog.info? 118).bind (·.zero) = some (.agg (cat (pktV pkt0 none 0 none 0)).toArray) := by kernel_rfl
theorem built118 : Try.prog.built 118 [] = some (cat (pktV pkt0 none 0 none 0)).toArray := by kernel_rfl
abbrev pktZ : List (List Value) := [[.int .u8 0], [.int .u8 0], [.int .u8 0], [.slice none 0 0], [.slice none 0 0], (zeros 64).map bv]
abbrev pktFL : List Nat := [1, 1, 1, 1, 1, 64]
theorem plan118 : planOf Try.prog 118 = some (placesL 0 pktFL, (cat pktZ).toArray) := by kernel_rfl
theorem pktV_len {x : Pkt} (h : x.ok) {q : Option Addr} {d : Nat} {p : Option Addr} {c : Nat} : (pktV x q d p c).map List.length = pktL := by simp [h.sig]
theorem pktV_ok1 (x : Pkt) (q : Option Addr) (d : Nat) (p : Option Addr) (c : Nat) : ok1 (cat (pktV x q d p c)) := by
 intro u hu
 rw [cat_eq] at hu
 simp only [List.mem_flatten, List.mem_cons, List.not_mem_nil, or_false] at hu
 obtain ⟨l, hl, hu⟩ := hu
 rcases hl with rfl | rfl | rfl | rfl | rfl | rfl <;> first | (simp only [List.mem_singleton] at hu; subst hu; rfl) | exact ok1_bytes _ u hu
theorem Mono_object : Mono objectR' := fun _ _ _ _ _ ha ⟨p, c, h1, h2, h3⟩ => ⟨p, c, h1, h2, h3.after Mono_vouch ha⟩
theorem el116 : Elem Try.prog 116 85 101 136 (.agg (cat (objectV object0 none 0)).toArray) := ⟨Try.underlying116, by kernel_rfl, by kernel_rfl, by kernel_rfl, by decide⟩
theorem one_object {K : List Nat} {w : World} {v : Object} (hv : v.ok) {q : Option Addr} {d : Nat} (hV : Arr 65 vouchR K w q v.vouches d) (j : Nat) (y : Object) (hj : [v][j]? = some y) : objectR' K w ((([Value.agg (cat (objectV v q d)).toArray].flatMap (·.cells.toList)).drop (j * 101)).take 101) y := by
 have hj0 : j = 0 := by have := (List.getElem?_eq_some_iff.1 hj).1; simp at this; exact this
 subst hj0
 simp at hj; subst hj
 refine ⟨q, d, hv, ?_, hV⟩
 have e : [Value.agg (cat (objectV v q d)).toArray].flatMap (·.cells.toList) = cat (objectV v q d) := by simp [Value.cells]
 rw [e, Nat.zero_mul, List.drop_zero, List.take_of_length_le (by rw [cat_size (objectV_len hv)]; decide)]
theorem newRowO {S : List Snap} {H : List Chunk} {w : World} (h : Own S H w) : Own S (arow 85 101 objectR' Mono_object none 0 ([] : List Object) :: H) w := Own.arow_nil Mono_object 85 101 h
theorem objectR'_ok1 : ∀ (K : List Nat) (w : World) (vs : List Value) (y : Object), objectR' K w vs y → ok1 vs := by
 rintro K w vs y ⟨p, c, _, rfl, _⟩
 exact objectV_ok1 _ _ _

end Go.Proofs.Ytcfecmoagfgnaaa

/- The rules of the walks, continued: ways that meet again. -/
namespace Go.Vc
section
variable {P : Program} {n : Nat} {Q Q' : Exit → Act → World → Prop} {σ : Sl} {G : World → Prop}
/-- Code behind other code is walked once, however many ways lead to it: x: what the ways differ in. -/
theorem VC.join {X : Type} {c y : Code} (τ : X → Sl) (G' : X → World → Prop) (p : X → Prop) (hx : (∀ x, p x → VC P n Q y (τ x) (G' x)) → VC P n (Exit.then (y.wp P Q) Q) c σ G) (hy : ∀ x, p x → VC P n Q y (τ x) (G' x)) : VC P n Q (.seq c y) σ G := VC.seq (hx hy)
theorem VX.join {X : Type} {y : Code} {τ : X → Sl} {G' : X → World → Prop} {p : X → Prop} (h : ∀ x, p x → VC P n Q y (τ x) (G' x)) (x : X) (hp : p x) (hs : sub (τ x) σ) (hG : ∀ w, G w → G' x w) : VX n (Exit.then (y.wp P Q) Q') .normal σ G :=
 fun a w ha hw => h x hp a w (ha.mono hs) (hG w hw)
end
end Go.Vc

