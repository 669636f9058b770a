/- The statement BagPlays is proved, for every input: part 9 of 19 of the texts that it needs. -/
import Derived.Test.YtcfecmoagfgnaaaMbplAH
import Derived.Laws.Cover3
import Derived.Laws.FloatArith
import Derived.Laws.StructEq
/- Packets: their bytes; what bytes are read as. -/
namespace Go.Pl

structure Pkt where
  src : Nat
  dst : Nat
  kind : Nat
  chain : List Object
  body : List UInt8
  sig : List UInt8
structure Pkt.ok (x : Pkt) : Prop where
  src : x.src < 256
  dst : x.dst < 256
  kind : x.kind < 256
  chain : ∀ i ∈ x.chain, i.ok
  sig : x.sig.length = 64
def pkt0 : Pkt := ⟨0, 0, 0, [], [], zeros 64⟩
theorem pkt0_ok : pkt0.ok := ⟨by decide, by decide, by decide, by simp [pkt0], rfl⟩

def chainP (xs : List Object) : List (List UInt8) := xs.map fun x => (objectO x).getD []
def chainGood (xs : List Object) : Bool := decide (xs.length ≤ 4) && xs.all fun x => (objectO x).isSome
def chainO (xs : List Object) : Option (List UInt8) := joinO (chainP xs) (chainGood xs)
def kindIn (k : Nat) : Bool := decide (1 ≤ k) && decide (k ≤ 4)
def pktP (x : Pkt) : List (List UInt8) := [be 1 x.src, be 1 x.dst, be 1 x.kind, (chainO x.chain).getD [], x.body, x.sig]
def pktO (x : Pkt) : Option (List UInt8) := joinO (pktP x) ((chainO x.chain).isSome && kindIn x.kind)
def restObjs (c : List (List UInt8)) : Option (List Object) :=
  if c.length ≤ 4 ∧ ∀ p ∈ c, (objectR p).isSome = true then some (c.map fun p => (objectR p).getD object0) else none
def chainR (l : List UInt8) : Option (List Object) := if l = [0] ∨ openP l ≠ [] then restObjs (openP l) else none
abbrev pktK : List (Option Nat) := [some 1, some 1, some 1, none, none, some 64]
/-- The fourth piece and the ones behind it. -/
abbrev at1 (ps : List (List UInt8)) : List (List UInt8) := ps.drop 1
abbrev at2 (ps : List (List UInt8)) : List (List UInt8) := (ps.drop 1).drop 1
abbrev at3 (ps : List (List UInt8)) : List (List UInt8) := ((ps.drop 1).drop 1).drop 1
abbrev at4 (ps : List (List UInt8)) : List (List UInt8) := (((ps.drop 1).drop 1).drop 1).drop 1
abbrev at5 (ps : List (List UInt8)) : List (List UInt8) := ((((ps.drop 1).drop 1).drop 1).drop 1).drop 1
def pktOf (a : List (List UInt8)) (xs : List Object) : Pkt := ⟨takeN a 1, takeN (at1 a) 1, takeN (at2 a) 1, xs, nextP (at4 a), takeB 64 (at5 a)⟩
abbrev pktC (l : List UInt8) : Prop := fitsP pktK (openP l) ∧ (openP l).length = 6 ∧ kindIn (takeN (at2 (openP l)) 1) = true
def pktR (l : List UInt8) : Option Pkt := if pktC l then (chainR (nextP (at3 (openP l)))).map (pktOf (openP l)) else none
/-- The kind is a byte, and none of them. -/
def kindBad (ps : List (List UInt8)) : Prop := 2 < ps.length ∧ (nextP (at2 ps)).length = 1 ∧ kindIn (num (nextP (at2 ps))) = false
instance (ps : List (List UInt8)) : Decidable (kindBad ps) := by unfold kindBad; infer_instance
def pktW (l : List UInt8) : Nat := if (pktR l).isSome then 0 else if kindBad (openP l) then 140 else 141

theorem objects_back {xs : List Object} (h : ∀ x ∈ xs, x.ok) (h2 : ∀ x ∈ xs, (objectO x).isSome = true) : (∀ p ∈ chainP xs, (objectR p).isSome = true) ∧ (chainP xs).map (fun p => (objectR p).getD object0) = xs := by
 have e1 : ∀ x ∈ xs, objectR ((objectO x).getD []) = some x := fun x hx => by
  obtain ⟨l, hl⟩ := Option.isSome_iff_exists.1 (h2 x hx)
  rw [hl]; exact objectR_iff.2 ⟨h x hx, hl⟩
 constructor
 ·intro p hp
  obtain ⟨x, hx, rfl⟩ := List.mem_map.1 hp
  rw [e1 x hx]; rfl
 ·unfold chainP
  rw [List.map_map]
  conv => rhs; rw [← List.map_id xs]
  refine List.map_congr_left fun x hx => ?_
  show (objectR ((objectO x).getD [])).getD object0 = x
  rw [e1 x hx]; rfl
theorem chainGood_iff {xs : List Object} : chainGood xs = true ↔ xs.length ≤ 4 ∧ ∀ x ∈ xs, (objectO x).isSome = true := by
 unfold chainGood
 rw [Bool.and_eq_true, decide_eq_true_iff, List.all_eq_true]
theorem objectR_ok (l : List UInt8) : ((objectR l).getD object0).ok := by
 cases h : objectR l with
 | none => exact object0_ok
 | some x => exact (objectR_iff.1 h).1
theorem restObjs_iff {c : List (List UInt8)} {xs : List Object} : restObjs c = some xs ↔ (∀ x ∈ xs, x.ok) ∧ chainGood xs = true ∧ chainP xs = c := by
 unfold restObjs
 constructor
 ·intro h
  split at h
  ·rename_i hc
   cases h
   have e1 : ∀ p ∈ c, objectO ((objectR p).getD object0) = some p := fun p hp => by
    obtain ⟨y, hy⟩ := Option.isSome_iff_exists.1 (hc.2 p hp)
    rw [hy]; exact (objectR_iff.1 hy).2
   refine ⟨fun x hx => ?_, chainGood_iff.2 ⟨by simpa using hc.1, fun x hx => ?_⟩, ?_⟩
   ·obtain ⟨p, _, rfl⟩ := List.mem_map.1 hx
    exact objectR_ok p
   ·obtain ⟨p, hp, rfl⟩ := List.mem_map.1 hx
    rw [e1 p hp]; rfl
   ·unfold chainP
    rw [List.map_map]
    conv => rhs; rw [← List.map_id c]
    refine List.map_congr_left fun p hp => ?_
    show (objectO ((objectR p).getD object0)).getD [] = p
    rw [e1 p hp]; rfl
  ·cases h
 ·rintro ⟨h1, h2, rfl⟩
  obtain ⟨h3, h4⟩ := chainGood_iff.1 h2
  obtain ⟨h5, h6⟩ := objects_back h1 h4
  rw [if_pos ⟨by unfold chainP; simpa using h3, h5⟩, h6]
theorem openP_zero : openP [0] = [] := rfl
theorem chainR_iff {l : List UInt8} {xs : List Object} : chainR l = some xs ↔ (∀ x ∈ xs, x.ok) ∧ chainO xs = some l := by
 unfold chainR
 constructor
 ·intro h
  split at h
  ·rename_i hc
   obtain ⟨h1, h2, h3⟩ := restObjs_iff.1 h
   refine ⟨h1, ?_⟩
   unfold chainO
   rcases hc with rfl | hne
   ·rw [h3, openP_zero, joinO_some (by decide) h2]; rfl
   ·obtain ⟨hj1, hj2⟩ := join_open hne
    rw [h3, joinO_some hj1 h2, hj2]
  ·cases h
 ·rintro ⟨h1, h2⟩
  obtain ⟨h3, h4, rfl⟩ := joinO_eq h2
  have eo := open_join h3
  rw [if_pos, eo]
  ·exact restObjs_iff.2 ⟨h1, h4, rfl⟩
  ·cases hc : chainP xs with
   | nil => exact .inl rfl
   | cons a r => right; rw [← hc, eo, hc]; simp
theorem kindIn_of {k : Nat} : kindIn k = true ↔ 1 ≤ k ∧ k ≤ 4 := by unfold kindIn; simp
theorem pktR_iff {l : List UInt8} {x : Pkt} : pktR l = some x ↔ x.ok ∧ pktO x = some l := by
 unfold pktR
 constructor
 ·intro h
  split at h
  ·rename_i hc
   obtain ⟨xs, hxs, rfl⟩ := Option.map_eq_some_iff.1 h
   obtain ⟨h1, h2⟩ := chainR_iff.1 hxs
   obtain ⟨hf, hl, hk⟩ := hc
   have hne : openP l ≠ [] := fun e => by rw [e] at hl; cases hl
   obtain ⟨hj1, hj2⟩ := join_open hne
   refine ⟨⟨takeN_lt _ 1, takeN_lt _ 1, takeN_lt _ 1, h1, takeB_length _ _⟩, ?_⟩
   have e : pktP (pktOf (openP l) xs) = openP l := by
    unfold pktP pktOf
    simp only
    rw [h2]
    generalize openP l = ps at *
    match ps, hl, hf with
    | [a, b, c, d, e, f], _, hf =>
     have ha := hf.1 1 rfl
     have hb := hf.2.1 1 rfl
     have hc := hf.2.2.1 1 rfl
     have hg := hf.2.2.2.2.2.1 64 rfl
     show [be 1 (takeN [a, b, c, d, e, f] 1), be 1 (takeN [b, c, d, e, f] 1), be 1 (takeN [c, d, e, f] 1), d, e, takeB 64 [f]] = _
     rw [takeN_cons ha, be_take ha, takeN_cons hb, be_take hb, takeN_cons hc, be_take hc, takeB_cons hg]
   unfold pktO
   rw [e, show (pktOf (openP l) xs).chain = xs from rfl, h2, joinO_some hj1 (by rw [show (pktOf (openP l) xs).kind = takeN (at2 (openP l)) 1 from rfl, hk]; rfl), hj2]
  ·cases h
 ·rintro ⟨h, h2⟩
  obtain ⟨h3, h4, rfl⟩ := joinO_eq h2
  have eo := open_join h3
  rw [Bool.and_eq_true] at h4
  obtain ⟨t, ht⟩ := Option.isSome_iff_exists.1 h4.1
  have hs := h.src
  have hd := h.dst
  have hk := h.kind
  have n1 : takeN (pktP x) 1 = x.src := (takeN_cons (be_length 1 _)).trans (num_be' (by omega))
  have n2 : takeN (at1 (pktP x)) 1 = x.dst := (takeN_cons (be_length 1 _)).trans (num_be' (by omega))
  have n3 : takeN (at2 (pktP x)) 1 = x.kind := (takeN_cons (be_length 1 _)).trans (num_be' (by omega))
  have n4 : nextP (at3 (pktP x)) = t := by show (chainO x.chain).getD [] = t; rw [ht]; rfl
  have n5 : nextP (at4 (pktP x)) = x.body := rfl
  have n6 : takeB 64 (at5 (pktP x)) = x.sig := takeB_cons h.sig
  have hc : pktC (joinB (pktP x)) := by
   unfold pktC
   rw [eo, n3]
   exact ⟨⟨fun n e => by cases e; exact be_length _ _, fun n e => by cases e; exact be_length _ _, fun n e => by cases e; exact be_length _ _, (fun n e => by cases e), (fun n e => by cases e), fun n e => by cases e; exact h.sig, trivial⟩, rfl, h4.2⟩
  rw [if_pos hc, eo, n4, chainR_iff.2 ⟨h.chain, ht⟩]
  show some (pktOf (pktP x) x.chain) = some x
  unfold pktOf
  rw [n1, n2, n3, n5, n6]
theorem pktR_ok (l : List UInt8) : ((pktR l).getD pkt0).ok := by
 cases h : pktR l with
 | none => exact pkt0_ok
 | some x => exact (pktR_iff.1 h).1

/-! The loop that reads objects: c: all pieces; xs: read; ps: left; er: the error. -/
def OInv (c : List (List UInt8)) (why0 : Nat) (xs : List Object) (ps : List (List UInt8)) (why : Nat) : Prop :=
  (∀ x ∈ xs, x.ok) ∧ xs.length ≤ 4 ∧ ((why = why0 ∧ ∃ d, c = d ++ ps ∧ d.map objectR = xs.map some) ∨ (why = 141 ∧ ∃ p ∈ c, objectR p = none))
theorem OInv.start (c : List (List UInt8)) (why0 : Nat) : OInv c why0 [] c why0 := ⟨by simp, by simp, .inl ⟨rfl, [], rfl, rfl⟩⟩
theorem OInv.step {c : List (List UInt8)} {xs : List Object} {p : List UInt8} {r : List (List UInt8)} (h : OInv c 0 xs (p :: r) 0) (h4 : xs.length < 4) : OInv c 0 (xs ++ [(objectR p).getD object0]) r (if (objectR p).isSome then 0 else 141) := by
 obtain ⟨h1, h2, h3⟩ := h
 refine ⟨fun b hb => ?_, by simp; omega, ?_⟩
 ·rcases List.mem_append.1 hb with hb | hb
  ·exact h1 b hb
  ·rw [List.mem_singleton] at hb; subst hb; exact objectR_ok p
 ·rcases h3 with ⟨_, d, hd, hm⟩ | ⟨h, _⟩
  ·cases hp : objectR p with
   | none => exact .inr ⟨rfl, p, by rw [hd]; simp, hp⟩
   | some b => exact .inl ⟨rfl, d ++ [p], by rw [hd]; simp, by simp [hm, hp]⟩
  ·cases h
theorem OInv.done {c : List (List UInt8)} {why0 : Nat} (h0 : why0 = 0 ∨ why0 = 141) {xs : List Object} {ps : List (List UInt8)} {why : Nat} (h : OInv c why0 xs ps why) (hx : ps = [] ∨ 4 ≤ xs.length ∨ why ≠ 0) : endW ps why = (if why0 = 0 ∧ (restObjs c).isSome = true then 0 else 141) ∧ (why0 = 0 → ∀ ys, restObjs c = some ys → ys = xs) := by
 obtain ⟨h1, h2, h3⟩ := h
 rcases h3 with ⟨rfl, d, hd, hm⟩ | ⟨rfl, p, hp, hpn⟩
 ·rcases h0 with rfl | rfl
  ·have hlen : d.length = xs.length := by have := congrArg List.length hm; simpa using this
   by_cases hps : ps = []
   ·subst hps
    rw [List.append_nil] at hd
    have hall : ∀ p ∈ d, (objectR p).isSome = true := fun p hp => by
     have : objectR p ∈ xs.map some := by rw [← hm]; exact List.mem_map.2 ⟨p, hp, rfl⟩
     obtain ⟨b, _, e⟩ := List.mem_map.1 this
     rw [← e]; rfl
    have e2 : d.map (fun p => (objectR p).getD object0) = xs := by
     have := congrArg (List.map fun o : Option Object => o.getD object0) hm
     rw [List.map_map, List.map_map] at this
     refine this.trans ?_
     conv => rhs; rw [← List.map_id xs]
     exact List.map_congr_left fun _ _ => rfl
    have hr : restObjs c = some xs := by
     unfold restObjs
     rw [hd, if_pos ⟨by omega, hall⟩, e2]
    rw [hr]
    exact ⟨rfl, fun _ ys hy => (Option.some.inj hy).symm⟩
   ·have h9 : 4 ≤ xs.length := by
     rcases hx with hx | hx | hx
     ·exact absurd hx hps
     ·exact hx
     ·exact absurd rfl hx
    have hpl : 0 < ps.length := List.length_pos_iff.2 hps
    have hr : restObjs c = none := by
     unfold restObjs
     exact if_neg (fun h => by have h1 := h.1; rw [hd, List.length_append] at h1; omega)
    rw [hr]
    refine ⟨?_, fun _ ys hy => by cases hy⟩
    unfold endW
    rw [if_neg hps]; rfl
  ·exact ⟨(endW_141 _).trans (if_neg (fun h => by cases h.1)).symm, fun h => by cases h⟩
 ·have hr : restObjs c = none := by
   unfold restObjs
   exact if_neg (fun h => by have := h.2 p hp; rw [hpn] at this; cases this)
  rw [hr]
  exact ⟨(endW_141 _).trans (if_neg (fun h => by cases h.2)).symm, fun _ ys hy => by cases hy⟩
/-- What the inner reader says at its end: the pieces' list, or the error. -/
theorem chain_end {l : List UInt8} {c : List (List UInt8)} {why0 : Nat} (hc : (l = [0] ∧ c = [] ∧ why0 = 0) ∨ (l ≠ [0] ∧ c = openP l ∧ why0 = openW l)) {xs : List Object} {ps : List (List UInt8)} {why : Nat} (h : OInv c why0 xs ps why) (hx : ps = [] ∨ 4 ≤ xs.length ∨ why ≠ 0) : endW ps why = (if (chainR l).isSome then 0 else 141) ∧ ∀ ys, chainR l = some ys → ys = xs := by
 rcases hc with ⟨rfl, rfl, rfl⟩ | ⟨hl, rfl, rfl⟩
 ·obtain ⟨h1, h2⟩ := h.done (.inl rfl) hx
  have e : chainR [0] = restObjs [] := if_pos (.inl rfl)
  rw [e, h1]
  refine ⟨?_, fun ys hy => h2 rfl ys hy⟩
  cases (restObjs []).isSome <;> rfl
 ·rcases openW_cases l with ⟨h1, h2⟩ | ⟨h1, h2⟩
  ·have e : chainR l = none := if_neg (by rintro (h | h) <;> contradiction)
   rw [h2] at h
   rw [e, (h.done (.inr rfl) hx).1]
   exact ⟨rfl, fun ys hy => by cases hy⟩
  ·have e : chainR l = restObjs (openP l) := if_pos (.inr h1)
   rw [h2] at h
   obtain ⟨h3, h4⟩ := h.done (.inl rfl) hx
   rw [e, h3]
   refine ⟨?_, fun ys hy => h4 rfl ys hy⟩
   cases (restObjs (openP l)).isSome <;> rfl
theorem pkt_why (l : List UInt8) (hk : ¬ kindBad (openP l)) : endW ((at5 (openP l)).drop 1) (lenW (at5 (openP l)) (nextW (at4 (openP l)) (failW (nextW (at3 (openP l)) (lenW (at2 (openP l)) (lenW (at1 (openP l)) (lenW (openP l) (openW l) 1) 1) 1)) (if (chainR (nextP (at3 (openP l)))).isSome then 0 else 141))) 64) = if (pktR l).isSome then 0 else 141 := by
 obtain ⟨h1, h2⟩ := takesW_open (ks := [some 1, some 1, some 1, none]) (by simp) l
 by_cases hf : fitsP [some 1, some 1, some 1, none] (openP l)
 ·have e4 : nextW (at3 (openP l)) (lenW (at2 (openP l)) (lenW (at1 (openP l)) (lenW (openP l) (openW l) 1) 1) 1) = 0 := h1 hf
  rw [e4, failW_0]
  unfold pktR pktC
  generalize openP l = ps at *
  match ps, hf with
  | a :: b :: c :: d :: r, hf =>
   have ha := hf.1 1 rfl
   have hb := hf.2.1 1 rfl
   have hc := hf.2.2.1 1 rfl
   show endW (r.drop 1 |>.drop 1) (lenW (r.drop 1) (nextW r (if (chainR d).isSome then 0 else 141)) 64) = if (if fitsP pktK (a :: b :: c :: d :: r) ∧ (a :: b :: c :: d :: r).length = 6 ∧ kindIn (takeN (c :: d :: r) 1) = true then (chainR d).map (pktOf (a :: b :: c :: d :: r)) else none).isSome then 0 else 141
   cases hx : chainR d with
   | none =>
    have e1 : (if (Option.none (α := List Object)).isSome = true then 0 else 141) = 141 := rfl
    rw [e1, nextW_141, lenW_141, endW_141]
    split <;> rfl
   | some xs =>
    have e1 : (if (Option.some xs).isSome = true then 0 else 141) = 0 := rfl
    rw [e1]
    match r with
    | [] => rw [if_neg (show ¬ (fitsP pktK [a, b, c, d] ∧ [a, b, c, d].length = 6 ∧ kindIn (takeN [c, d] 1) = true) from fun h => by have := h.2.1; simp at this)]; rfl
    | [x] => rw [if_neg (show ¬ (fitsP pktK [a, b, c, d, x] ∧ [a, b, c, d, x].length = 6 ∧ kindIn (takeN [c, d, x] 1) = true) from fun h => by have := h.2.1; simp at this)]; rfl
    | x :: s :: t =>
     rw [nextW_cons]
     show endW t (lenW (s :: t) 0 64) = _
     rw [lenW_cons]
     by_cases hs : s.length = 64
     ·rw [if_pos hs]
      match t with
      | [] =>
       have hkk : kindIn (takeN [c, d, x, s] 1) = true := by
        rw [takeN_cons hc]
        cases hq : kindIn (num c) with
        | true => rfl
        | false => exact absurd ⟨by simp, hc, hq⟩ hk
       rw [if_pos (show fitsP pktK [a, b, c, d, x, s] ∧ [a, b, c, d, x, s].length = 6 ∧ kindIn (takeN [c, d, x, s] 1) = true from ⟨⟨fun n e => by cases e; exact ha, fun n e => by cases e; exact hb, fun n e => by cases e; exact hc, (fun n e => by cases e), (fun n e => by cases e), fun n e => by cases e; exact hs, trivial⟩, rfl, hkk⟩)]
       rfl
      | y :: u => rw [if_neg (show ¬ (fitsP pktK (a :: b :: c :: d :: x :: s :: y :: u) ∧ (a :: b :: c :: d :: x :: s :: y :: u).length = 6 ∧ kindIn (takeN (c :: d :: x :: s :: y :: u) 1) = true) from fun h => by have := h.2.1; simp at this)]; rfl
     ·rw [if_neg hs, endW_141, if_neg (show ¬ (fitsP pktK (a :: b :: c :: d :: x :: s :: t) ∧ (a :: b :: c :: d :: x :: s :: t).length = 6 ∧ kindIn (takeN (c :: d :: x :: s :: t) 1) = true) from fun h => hs (h.1.2.2.2.2.2.1 64 rfl))]; rfl
  | [_, _, _], hf => exact hf.2.2.2.elim
  | [_, _], hf => exact hf.2.2.elim
  | [_], hf => exact hf.2.elim
  | [], hf => exact hf.elim
 ·have e4 : nextW (at3 (openP l)) (lenW (at2 (openP l)) (lenW (at1 (openP l)) (lenW (openP l) (openW l) 1) 1) 1) = 141 := h2 hf
  rw [e4, failW_pos (by decide), nextW_141, lenW_141, endW_141]
  have hr : pktR l = none := if_neg (fun h => hf (by
   obtain ⟨h, _⟩ := h
   generalize openP l = ps at *
   match ps, h with
   | a :: b :: c :: d :: r, h => exact ⟨h.1, h.2.1, h.2.2.1, h.2.2.2.1, trivial⟩
   | [_, _, _], hf => exact hf.2.2.2.elim
   | [_, _], hf => exact hf.2.2.elim
   | [_], hf => exact hf.2.elim
   | [], hf => exact hf.elim))
  rw [hr]; rfl
theorem pktW_bad {l : List UInt8} (h : kindBad (openP l)) : pktR l = none ∧ pktW l = 140 := by
 have hr : pktR l = none := if_neg (fun hc => by
  obtain ⟨_, h2, h3⟩ := h
  have h4 := hc.2.2
  unfold takeN at h4
  rw [if_pos h2] at h4
  rw [h4] at h3; cases h3)
 refine ⟨hr, ?_⟩
 unfold pktW
 rw [hr, if_neg (by simp), if_pos h]
theorem pktW_good {l : List UInt8} (h : ¬ kindBad (openP l)) : pktW l = if (pktR l).isSome then 0 else 141 := by
 unfold pktW
 rw [if_neg h]
theorem pkt_is {l : List UInt8} {y : Pkt} (h : pktR l = some y) {xs : List Object} (hx : ∀ ys, chainR (nextP (at3 (openP l))) = some ys → ys = xs) : y = pktOf (openP l) xs := by
 unfold pktR at h
 split at h
 ·obtain ⟨ys, hys, rfl⟩ := Option.map_eq_some_iff.1 h
  rw [hx ys hys]
 ·cases h
end Go.Pl

/- Packets as cells. -/
namespace Go.Proofs.Ytcfecmoagfgnaaa
open Go.Vc Go.Pl

abbrev pktV (x : Pkt) (q : Option Addr) (d : Nat) (p : Option Addr) (c : Nat) : List (List Value) := [[.int .u8 x.src], [.int .u8 x.dst], [.int .u8 x.kind], [.slice q x.chain.length d], [.slice p x.body.length c], x.sig.map bv]
abbrev pktL : List Nat := [1, 1, 1, 1, 1, 64]
theorem zero118 : (Try.prog.info? 118).bind (·.zero) = some (.agg (cat (pktV pkt0 none 0 none 0)).toArray) := by kernel_rfl
theorem built118 : Try.prog.built 118 [] = some (cat (pktV pkt0 none 0 none 0)).toArray := by kernel_rfl
abbrev pktZ : List (List Value) := [[.int .u8 0], [.int .u8 0], [.int .u8 0], [.slice none 0 0], [.slice none 0 0], (zeros 64).map bv]
abbrev pktFL : List Nat := [1, 1, 1, 1, 1, 64]
theorem plan118 : planOf Try.prog 118 = some (placesL 0 pktFL, (cat pktZ).toArray) := by kernel_rfl
theorem pktV_len {x : Pkt} (h : x.ok) {q : Option Addr} {d : Nat} {p : Option Addr} {c : Nat} : (pktV x q d p c).map List.length = pktL := by simp [h.sig]
theorem pktV_ok1 (x : Pkt) (q : Option Addr) (d : Nat) (p : Option Addr) (c : Nat) : ok1 (cat (pktV x q d p c)) := by
 intro u hu
 rw [cat_eq] at hu
 simp only [List.mem_flatten, List.mem_cons, List.not_mem_nil, or_false] at hu
 obtain ⟨l, hl, hu⟩ := hu
 rcases hl with rfl | rfl | rfl | rfl | rfl | rfl <;> first | (simp only [List.mem_singleton] at hu; subst hu; rfl) | exact ok1_bytes _ u hu
theorem Mono_object : Mono objectR' := fun _ _ _ _ _ ha ⟨p, c, h1, h2, h3⟩ => ⟨p, c, h1, h2, h3.after Mono_vouch ha⟩
theorem el116 : Elem Try.prog 116 85 101 136 (.agg (cat (objectV object0 none 0)).toArray) := ⟨Try.underlying116, by kernel_rfl, by kernel_rfl, by kernel_rfl, by decide⟩
theorem one_object {K : List Nat} {w : World} {v : Object} (hv : v.ok) {q : Option Addr} {d : Nat} (hV : Arr 65 vouchR K w q v.vouches d) (j : Nat) (y : Object) (hj : [v][j]? = some y) : objectR' K w ((([Value.agg (cat (objectV v q d)).toArray].flatMap (·.cells.toList)).drop (j * 101)).take 101) y := by
 have hj0 : j = 0 := by have := (List.getElem?_eq_some_iff.1 hj).1; simp at this; exact this
 subst hj0
 simp at hj; subst hj
 refine ⟨q, d, hv, ?_, hV⟩
 have e : [Value.agg (cat (objectV v q d)).toArray].flatMap (·.cells.toList) = cat (objectV v q d) := by simp [Value.cells]
 rw [e, Nat.zero_mul, List.drop_zero, List.take_of_length_le (by rw [cat_size (objectV_len hv)]; decide)]
theorem newRowO {S : List Snap} {H : List Chunk} {w : World} (h : Own S H w) : Own S (arow 85 101 objectR' Mono_object none 0 ([] : List Object) :: H) w := Own.arow_nil Mono_object 85 101 h
theorem objectR'_ok1 : ∀ (K : List Nat) (w : World) (vs : List Value) (y : Object), objectR' K w vs y → ok1 vs := by
 rintro K w vs y ⟨p, c, _, rfl, _⟩
 exact objectV_ok1 _ _ _

end Go.Proofs.Ytcfecmoagfgnaaa

/- Parcels as cells. -/
namespace Go.Proofs.Ytcfecmoagfgnaaa
open Go.Vc Go.Pl

structure Par where
  src : Nat
  dst : Nat
  due : Nat
  bytes : List UInt8
structure Par.ok (x : Par) : Prop where
  src : x.src < 256
  dst : x.dst < 256
  due : x.due < 4294967296
def par0 : Par := ⟨0, 0, 0, []⟩
theorem par0_ok : par0.ok := ⟨by decide, by decide, by decide⟩

abbrev parV (x : Par) (p : Option Addr) (c : Nat) : List (List Value) := [[.int .u8 x.src], [.int .u8 x.dst], [.int .u32 x.due], [.slice p x.bytes.length c]]
abbrev parL : List Nat := [1, 1, 1, 1]
theorem zero50 : (Try.prog.info? 50).bind (·.zero) = some (.agg (cat (parV par0 none 0)).toArray) := by kernel_rfl
theorem built50 : Try.prog.built 50 [] = some (cat (parV par0 none 0)).toArray := by kernel_rfl
abbrev parZ : List (List Value) := [[.int .u8 0], [.int .u8 0], [.int .u32 0], [.slice none 0 0]]
abbrev parFL : List Nat := [1, 1, 1, 1]
theorem plan50 : planOf Try.prog 50 = some (placesL 0 parFL, (cat parZ).toArray) := by kernel_rfl
theorem parV_len {x : Par} (h : x.ok) {p : Option Addr} {c : Nat} : (parV x p c).map List.length = parL := by simp []
theorem parV_ok1 (x : Par) (p : Option Addr) (c : Nat) : ok1 (cat (parV x p c)) := by
 intro u hu
 rw [cat_eq] at hu
 simp only [List.mem_flatten, List.mem_cons, List.not_mem_nil, or_false] at hu
 obtain ⟨l, hl, hu⟩ := hu
 rcases hl with rfl | rfl | rfl | rfl <;> first | (simp only [List.mem_singleton] at hu; subst hu; rfl) | exact ok1_bytes _ u hu
/-- A parcel's cells. -/
def parR : Rel Par := fun K w vs y => ∃ p c, y.ok ∧ vs = cat (parV y p c) ∧ Bytes K w p y.bytes c
theorem Mono_par : Mono parR := fun _ _ _ _ _ ha ⟨p, c, h1, h2, h3⟩ => ⟨p, c, h1, h2, h3.after Mono.byte ha⟩
theorem el47 : Elem Try.prog 47 50 4 32 (.agg (cat (parV par0 none 0)).toArray) := ⟨Try.underlying47, by kernel_rfl, by kernel_rfl, by kernel_rfl, by decide⟩
theorem one_par {K : List Nat} {w : World} {v : Par} (hv : v.ok) {p : Option Addr} {c : Nat} (hA : Bytes K w p v.bytes c) (j : Nat) (y : Par) (hj : [v][j]? = some y) : parR K w ((([Value.agg (cat (parV v p c)).toArray].flatMap (·.cells.toList)).drop (j * 4)).take 4) y := by
 have hj0 : j = 0 := by have := (List.getElem?_eq_some_iff.1 hj).1; simp at this; exact this
 subst hj0
 simp at hj; subst hj
 exact ⟨p, c, hv, rfl, hA⟩
theorem newRowP {S : List Snap} {H : List Chunk} {w : World} (h : Own S H w) : Own S (arow 50 4 parR Mono_par none 0 ([] : List Par) :: H) w := Own.arow_nil Mono_par 50 4 h
theorem parR_ok1 : ∀ (K : List Nat) (w : World) (vs : List Value) (y : Par), parR K w vs y → ok1 vs := by
 rintro K w vs y ⟨p, c, _, rfl, _⟩
 exact parV_ok1 _ _ _

end Go.Proofs.Ytcfecmoagfgnaaa

/- bag: clone, delete, take, double. -/
namespace Go.Proofs.Ytcfecmoagfgnaaa
open Go.Vc Go.Pl

theorem row_prow {S : List Snap} {H : List Chunk} {w : World} {g : Option Nat} {c : Nat} (h : Own S (row 50 4 g 0 c [] :: H) w) : Own S (arow 50 4 parR Mono_par g c ([] : List Par) :: H) w := h.asArr Mono_par rfl (fun j y hj => by simp at hj)

theorem cloneB_some {S : List Snap} {H : List Chunk} {w : World} (ho : Own S H w) {a : Addr} {l : List UInt8} {c : Nat} (hA : Bytes (keys H) w (some a) l c) (hl : l.length ≤ 140737488351232) : Calls Try.prog 109 #[.slice (some a) l.length c] w (Ret fun v w' => ∃ p' c', v = .slice p' l.length c' ∧ Own S H w' ∧ Bytes (keys H) w' p' l c') := by
 refine enter (G := Own (⟨w, keys H⟩ :: S) H) ho.keep Try.func109 rfl Try.ntmps109 rfl ?_
 refine VC.sr ?_
 refine VL.assign rfl ?_
 refine VL.nn ?_
 refine VC.seq ?_
 refine VC.sr ?_
 refine VL.move rfl ?_
 refine VL.eqnil Try.underlying24 rfl rfl ?_
 refine VL.nn ?_
 refine VC.no rfl ?_
 refine VC.skip ?_
 refine VX.next ?_
 refine VC.sr ?_
 refine VL.lit el24 rfl rfl rfl (by simp) (by simp [ok1]) (fun g => ?_)
 refine VL.move rfl ?_
 refine VL.append 0 el24 rfl rfl rfl rfl (fun _ h => (hA.now (s := ⟨w, keys H⟩) Mono.byte h.drop (by repeat (first | exact List.mem_cons_self .. | apply List.mem_cons_of_mem))).bytes) (by simp) (ok1_bytes l) (by omega) (by omega) (fun g1 c1 => ?_)
 refine VL.assign rfl ?_
 refine VL.nn ?_
 refine VC.ret ?_
 refine VX.ret1 rfl rfl (fun we hw => ?_)
 have hb := hw.letBytes (l := l) (by omega) (by simp)
 exact ⟨_, _, by simp [rowV], hw.drop.lose, hb⟩

theorem cloneB {S : List Snap} {H : List Chunk} {w : World} (ho : Own S H w) {p : Option Addr} {l : List UInt8} {c : Nat} (hA : Bytes (keys H) w p l c) (hl : l.length ≤ 140737488351232) : Calls Try.prog 109 #[.slice p l.length c] w (Ret fun v w' => ∃ p' c', v = .slice p' l.length c' ∧ Own S H w' ∧ Bytes (keys H) w' p' l c') := by
 cases p with
 | none =>
  have h1 := hA.nil rfl
  have h2 := hA.le
  obtain rfl : l = [] := List.eq_nil_of_length_eq_zero (by omega)
  exact clone_nil ho
 | some a => exact cloneB_some ho hA hl

theorem clone_p0 {S : List Snap} {H : List Chunk} {w : World} (ho : Own S H w) {c0 : Nat} : Calls Try.prog 110 #[.slice none 0 c0] w (Ret fun v w' => ∃ g c', v = rowV g 0 c' ∧ Own S (arow 50 4 parR Mono_par g c' ([] : List Par) :: H) w') := by
 refine enter (G := Own (⟨w, keys H⟩ :: S) H) ho.keep Try.func110 rfl Try.ntmps110 rfl ?_
 refine VC.sr ?_
 refine VL.assign rfl ?_
 refine VL.nn ?_
 refine VC.seq ?_
 refine VC.sr ?_
 refine VL.move rfl ?_
 refine VL.eqnil Try.underlying47 rfl rfl ?_
 refine VL.nn ?_
 refine VC.yes rfl ?_
 refine VC.sr ?_
 refine VL.assign rfl ?_
 refine VL.nn ?_
 refine VC.ret ?_
 refine VX.then_ret ?_
 refine VX.ret1 rfl rfl (fun we hw => ?_)
 exact ⟨none, 0, rfl, (newRowP hw).subA⟩

theorem clone_p1 {S : List Snap} {H : List Chunk} {w : World} (ho : Own S H w) {xs : List Par} {a : Addr} {c : Nat} (hX : Arr 4 parR (keys H) w (some a) xs c) (hl : xs.length ≤ 1000) : Calls Try.prog 110 #[.slice (some a) xs.length c] w (Ret fun v w' => ∃ g c', v = rowV g xs.length c' ∧ Own S (arow 50 4 parR Mono_par g c' xs :: H) w') := by
 refine enter (G := Own (⟨w, keys H⟩ :: S) H) ho.keep Try.func110 rfl Try.ntmps110 rfl ?_
 refine VC.sr ?_
 refine VL.assign rfl ?_
 refine VL.nn ?_
 refine VC.seq ?_
 refine VC.sr ?_
 refine VL.move rfl ?_
 refine VL.eqnil Try.underlying47 rfl rfl ?_
 refine VL.nn ?_
 refine VC.no rfl ?_
 refine VC.skip ?_
 refine VX.next ?_
 refine VC.sr ?_
 refine VL.lit el47 rfl rfl rfl (by simp) (by simp [ok1]) (fun g => ?_)
 refine VL.turn (fun w' h => row_prow h) ?_
 refine VL.move rfl ?_
 refine VL.appends (R := parR) (hR := Mono_par) (ys := ([] : List Par)) (zs := xs) 0 el47 rfl rfl rfl (fun _ h => h) rfl (fun _ hw => hX.nowA (s := ⟨w, _⟩) Mono_par hw) parR_ok1 (by simp only [List.length_nil]; omega) (fun g1 c1 => ?_) (by simp only [List.length_nil]; omega)
 refine VL.assign rfl ?_
 refine VL.nn ?_
 refine VC.ret ?_
 refine VX.ret1 rfl rfl (fun we hw => ?_)
 exact ⟨g1, c1, rfl, hw.subA⟩

theorem clone_p {S : List Snap} {H : List Chunk} {w : World} (ho : Own S H w) {xs : List Par} {p : Option Addr} {c : Nat} (hX : Arr 4 parR (keys H) w p xs c) (hl : xs.length ≤ 1000) : Calls Try.prog 110 #[.slice p xs.length c] w (Ret fun v w' => ∃ g c', v = rowV g xs.length c' ∧ Own S (arow 50 4 parR Mono_par g c' xs :: H) w') := by
 cases p with
 | none =>
  have h1 := hX.nil rfl
  have h2 := hX.le
  obtain rfl : xs = [] := List.eq_nil_of_length_eq_zero (by omega)
  exact clone_p0 ho
 | some a => exact clone_p1 ho hX hl

theorem row_le {S : List Snap} {H : List Chunk} {w : World} {g : Option Nat} {c : Nat} {xs : List Par} (h : Own S (arow 50 4 parR Mono_par g c xs :: H) w) : xs.length ≤ c := by
 obtain ⟨_, ⟨h1, _⟩, _⟩ := h.holds (arow 50 4 parR Mono_par g c xs) (by simp)
 exact (ownsRow_sizes h1).2.1

theorem delete_p {S : List Snap} {H : List Chunk} {w : World} {xs : List Par} {g c : Nat} (ho : Own S (arow 50 4 parR Mono_par (some g) c xs :: H) w) {i : Nat} (hi : i < xs.length) (hl : xs.length ≤ 1000) : Calls Try.prog 111 #[.slice (some ⟨g, 0, none⟩) xs.length c, .int .i64 (i : Int), .int .i64 ((i + 1 : Nat) : Int)] w (Ret fun v w' => v = rowV (some g) (xs.take i ++ xs.drop (i + 1)).length c ∧ Own S (arow 50 4 parR Mono_par (some g) c (xs.take i ++ xs.drop (i + 1)) :: H) w') := by
 have hcle : xs.length ≤ c := (row_le ho)
 have hnx : (xs.take i ++ xs.drop (i + 1)).length = xs.length - 1 := by simp only [List.length_append, List.length_take, List.length_drop]; omega
 refine enter (G := Own (⟨w, keys (arow 50 4 parR Mono_par (some g) c xs :: H)⟩ :: S) (arow 50 4 parR Mono_par (some g) c xs :: H)) ho.keep Try.func111 rfl Try.ntmps111 rfl ?_
 refine VC.sr ?_
 refine VL.assign rfl ?_
 refine VL.nn ?_
 refine VC.sr ?_
 refine VL.move rfl ?_
 refine VL.move rfl ?_
 refine VL.move rfl ?_
 refine VL.move rfl ?_
 refine VL.len Try.underlying47 rfl rfl ?_
 refine VL.cut3 i (i + 1) rfl Try.underlying47 sz47 rfl rfl rfl (by omega) (by omega) hcle (fun v13 => ?_)
 refine VL.nn ?_
 refine VC.seq ?_
 refine VC.sr ?_
 refine VL.move rfl ?_
 refine VL.move rfl ?_
 refine VL.eql rfl rfl ?_
 refine VL.no (by omega) ?_
 refine VL.nn ?_
 refine VC.no rfl ?_
 refine VC.skip ?_
 refine VX.next ?_
 refine VC.sr ?_
 refine VL.move rfl ?_
 refine VL.len Try.underlying47 rfl rfl ?_
 refine VL.assign rfl ?_
 refine VL.nn ?_
 refine VC.seq ?_
 apply VC.anyTA 6 1008 (F := [eqF _, eqF _, eqF _, eqF _, eqF _, eqF _]) [⟨[], [0]⟩, ⟨[], [1]⟩, ⟨[(20, 0), (21, 1)], []⟩, ⟨[], [0]⟩, ⟨[], [2]⟩, ⟨[(23, 3), (24, 4)], []⟩] [(22, 2), (25, 5)] [0, 1, 2, 6, 7, 8, 9, 10, 11, 12, 14, 15, 16, 17, 18, 19, 26, 27, 28, 29, 30, 31, 32] rfl (by kernel_rfl) (by kernel_rfl) rfl rfl (by kernel_rfl) (by kernel_rfl) (by kernel_rfl) rfl ?obs5 ?end5
 case obs5 =>
  refine Obs.cons ?_ ?_
  ·refine obS (by kernel_rfl) rfl rfl (fun ph5 w5 hO5 => ?_)
   refine VL.move rfl ?_
   exact VL.finS hO5 rfl rfl
  refine Obs.cons ?_ ?_
  ·refine obS (by kernel_rfl) rfl rfl (fun ph5 w5 hO5 => ?_)
   refine VL.move rfl ?_
   exact VL.finS hO5 rfl rfl
  refine Obs.cons ?_ ?_
  ·refine obS (by kernel_rfl) rfl rfl (fun ph5 w5 hO5 => ?_)
   rintro _ rfl _ rfl
   refine VL.cutOwn 0 i rfl Try.underlying47 sz47 (vlo := none) (vhi := some (.int .i64 (i : Int))) rfl rfl rfl rfl (.inl ⟨rfl, rfl⟩) (.inr ⟨_, rfl⟩) (by omega) (by omega) ?_
   exact VL.finS hO5 rfl rfl
  refine Obs.cons ?_ ?_
  ·refine obS (by kernel_rfl) rfl rfl (fun ph5 w5 hO5 => ?_)
   refine VL.move rfl ?_
   exact VL.finS hO5 rfl rfl
  refine Obs.cons ?_ ?_
  ·refine obS (by kernel_rfl) rfl rfl (fun ph5 w5 hO5 => ?_)
   refine VL.move rfl ?_
   exact VL.finS hO5 rfl rfl
  refine Obs.cons ?_ ?_
  ·refine obS (by kernel_rfl) rfl rfl (fun ph5 w5 hO5 => ?_)
   rintro _ rfl _ rfl
   refine VL.cutOwn (i + 1) xs.length rfl Try.underlying47 sz47 (vlo := some (.int .i64 ((i + 1 : Nat) : Int))) (vhi := none) rfl rfl rfl rfl (.inr ⟨_, rfl⟩) (.inl ⟨rfl, rfl⟩) (by omega) hcle ?_
   exact VL.finS hO5 rfl rfl
  exact Obs.nil
 case end5 =>
  intro w5 hO5
  rintro _ rfl _ rfl
  refine VL.toOwn hO5 ?_
  refine VL.cutIn 0 i (i + 1) el47 rfl rfl rfl (fun _ h => h) rfl (by omega) (by omega) ?_
  refine VL.assign rfl ?_
  refine VL.nn ?_
  refine VC.sr ?_
  refine VL.move rfl ?_
  refine VL.move rfl ?_
  refine VL.len Try.underlying47 rfl rfl ?_
  refine VL.move rfl ?_
  refine VL.cutOwn (xs.take i ++ xs.drop (i + 1)).length xs.length rfl Try.underlying47 sz47 (vlo := some (.int .i64 ((xs.take i ++ xs.drop (i + 1)).length : Nat))) (vhi := some (.int .i64 (xs.length : Nat))) rfl rfl rfl rfl (.inr ⟨_, rfl⟩) (.inr ⟨_, rfl⟩) (by omega) hcle ?_
  refine VL.clearTail 0 (xs.take i ++ xs.drop (i + 1)).length xs.length el47 (parV_ok1 _ _ _) rfl rfl (fun _ h => h) rfl (Nat.le_refl _) (by omega) hcle ?_
  refine VL.nn ?_
  refine VC.sr ?_
  refine VL.move rfl ?_
  refine VL.assign rfl ?_
  refine VL.nn ?_
  refine VC.ret ?_
  refine VX.ret1 rfl rfl (fun we hw => ?_)
  exact ⟨rfl, hw.subA⟩

end Go.Proofs.Ytcfecmoagfgnaaa

/- A region whose order is open, in which a text's bytes are marked. -/
namespace Go.Vc
open Go.Proofs.Ytcfecmoagfgnaaa
section
variable {P : Program} {n : Nat} {Q : Exit → Act → World → Prop} {ops : Array Oper} {S : List Snap} {H : List Chunk}

/-- Memory that nobody owns stays, but for what is marked behind a row. -/
def Marked (K : List Nat) (w w' : World) : Prop :=
  w'.os = w.os ∧ w'.tape = w.tape ∧ w'.output = w.output ∧ w.heap.size ≤ w'.heap.size ∧ ∀ k, k < w.heap.size → k ∉ K → w'.heap[k]? = w.heap[k]? ∨ ∃ cs e fr fr', w.heap[k]? = some (.cells cs e fr) ∧ w'.heap[k]? = some (.cells cs e fr')
theorem Marked.of {K : List Nat} {w w' : World} (h : Snap.ok ⟨w, K⟩ w') : Marked K w w' := ⟨h.os, h.tape, h.output, h.size, fun k a b => .inl (h.block k a b)⟩
theorem Arr.marked {X : Type} {R : Rel X} {sz : Nat} {K : List Nat} {w w' : World} {p : Option Addr} {xs : List X} {c : Nat} (h : Arr sz R K w p xs c) (hm : Marked K w w') (hR : ∀ vs x, R K w vs x → R K w' vs x) : Arr sz R K w' p xs c :=
 ⟨h.le, h.cap, h.nil, fun a ea hc => by
  obtain ⟨h1, h2, h3, cs, el, fr, hg, hx⟩ := h.at_ a ea hc
  obtain ⟨_, _, _, hsz, hb⟩ := hm
  rcases hb a.block h3 h2 with e | ⟨cs', e', fr', fr'', e1, e2⟩
  ·exact ⟨h1, h2, by omega, cs, el, fr, by rw [e]; exact hg, fun j x hj => (hx j x hj).elim fun vs ⟨a1, a2, a3⟩ => ⟨vs, a1, hR vs x a2, a3⟩⟩
  ·rw [hg] at e1
   cases e1
   exact ⟨h1, h2, by omega, cs, el, fr'', e2, fun j x hj => (hx j x hj).elim fun vs ⟨a1, a2, a3⟩ => ⟨vs, a1, hR vs x a2, a3⟩⟩⟩
def Lasts {K : List Nat} (f : SFact K) : Prop := ∀ v w w', Marked K w w' → f.f v w → f.f v w'
def AllLast {K : List Nat} : List (SFact K) → Prop
  | [] => True
  | f :: r => Lasts f ∧ AllLast r
theorem AllLast.get {K : List Nat} : ∀ {F : List (SFact K)}, AllLast F → ∀ (i : Nat) (f : SFact K), F[i]? = some f → Lasts f
 | [], _, i, f, h => by simp at h
 | g :: r, ⟨h1, h2⟩, i, f, h => by
  cases i with
  | zero => simp at h; subst h; exact h1
  | succ i => exact AllLast.get h2 i f (by simpa using h)

/-- A chunk that says nothing of other memory. -/
def Solid (c : Chunk) : Prop := ∀ K w w', (∀ k ∈ c.ks, w'.heap[k]? = w.heap[k]?) → c.φ K w → c.φ K w'
theorem Own.mark {w w' : World} {g : Nat} (h : Own S H w) (hs : ∀ c ∈ H, Solid c) (hgk : g ∉ keys H) (hn : ∀ s ∈ S, g ∈ s.K ∨ s.w.heap.size ≤ g) (h1 : w'.os = w.os) (h2 : w'.tape = w.tape) (h3 : w'.output = w.output) (h4 : w'.heap.size = w.heap.size) (h5 : ∀ k, k ≠ g → w'.heap[k]? = w.heap[k]?) : Own S H w' := by
 refine ⟨h.nodup, fun k hk => by rw [h4]; exact h.lt k hk, fun c hc => hs c hc _ w w' (fun k hk => h5 k fun e => hgk (by subst e; exact List.mem_flatMap.2 ⟨c, hc, hk⟩)) (h.holds c hc), fun s hsm => ?_⟩
 obtain ⟨a, b⟩ := h.snap s hsm
 refine ⟨⟨h1.trans a.os, h2.trans a.tape, h3.trans a.output, by rw [h4]; exact a.size, fun k hk hk2 => ?_⟩, b⟩
 rw [h5 k ?_]
 ·exact a.block k hk hk2
 ·rintro rfl
  rcases hn s hsm with e | e
  ·exact hk2 e
  ·omega
end
end Go.Vc

/- The rules of the walks, continued: in a region whose order is open, an operation without a result turns what is owned. -/
namespace Go.Vc
open Go.Proofs.Ytcfecmoagfgnaaa
section
variable {P : Program} {n : Nat} {Q : Exit → Act → World → Prop} {ops : Array Oper} {S : List Snap} {H H' : List Chunk}
/-- What is owned, ahead of that operation and behind it. -/
def JL (S : List Snap) (H H' : List Chunk) : Bool → World → Prop
  | false, w => Own S H w
  | true, w => Own S H' w
theorem JL.ok {ph : Bool} {w : World} (h : JL S H H' ph w) {s : Snap} (hs : s ∈ S) : s.ok w := by
 cases ph with
 | false => exact (Own.snap h s hs).1
 | true => exact (Own.snap h s hs).1
theorem obSL {kk : Nat} {F : List (SFact (keys H))} {σ : Sl} {i : Nat} {I : Ins} {o : Oper} (hok : insOk ops i I = true) (hn : decide ((I.pre.map (·.1)).Nodup) = true) (hk : Nat.beq i kk = false)
  (h : ∀ ph w0, JL S H H' ph w0 → EachV F w0 I.pre [] (fun τ => VL P n ops (Post n Q (JL S H H') (Turn (keys H)) (factOf (F.map (·.f)) i) o.dst ph ph w0) [o] (τ ++ only σ I.bas) (fun w => w = w0))) :
  Ob P n ops Q (JL S H H') (Turn (keys H)) kk (F.map (·.f)) σ i I o :=
 ⟨hok, fun ph w0 vals hJ _ _ _ _ hF => by
  have h1 := EachV.spec I.pre [] _ (h ph w0 hJ) hF
  intro a w ha hw
  have h2 := h1 a w (ha.back (of_decide_eq_true hn)) hw
  have e : (ph || Nat.beq i kk) = ph := by rw [hk, Bool.or_false]
  rw [e]
  exact h2⟩
theorem obL {kk : Nat} {F : List (SFact (keys H))} {σ : Sl} {i : Nat} {I : Ins} {o : Oper} (hok : insOk ops i I = true) (hn : decide ((I.pre.map (·.1)).Nodup) = true)
  (hk : (match ops[kk]? with | none => false | some p => !waits p i) = false) (hki : Nat.beq i kk = false)
  (h : ∀ w0, Own S H w0 → EachV F w0 I.pre [] (fun τ => VL P n ops (Post n Q (JL S H H') (Turn (keys H)) (factOf (F.map (·.f)) i) o.dst false false w0) [o] (τ ++ only σ I.bas) (fun w => w = w0))) :
  Ob P n ops Q (JL S H H') (Turn (keys H)) kk (F.map (·.f)) σ i I o :=
 ⟨hok, fun ph w0 vals hJ _ h2 h3 _ hF => by
  have hp : ph = false := by
   cases hkk : ops[kk]? with
   | none => exact h3 hkk
   | some p => rw [hkk] at hk; exact h2 p hkk (by simpa using hk)
  subst hp
  have h1 := EachV.spec I.pre [] _ (h w0 hJ) hF
  intro a w ha hw
  have h2 := h1 a w (ha.back (of_decide_eq_true hn)) hw
  rw [hki]
  exact h2⟩
theorem obKL {kk : Nat} {F : List (SFact (keys H))} {σ : Sl} {I : Ins} {o : Oper} (hok : insOk ops kk I = true) (hn : decide ((I.pre.map (·.1)).Nodup) = true)
  (h : ∀ w0, Own S H w0 → EachV F w0 I.pre [] (fun τ => VL P n ops (Post n Q (JL S H H') (Turn (keys H)) (factOf (F.map (·.f)) kk) o.dst false true w0) [o] (τ ++ only σ I.bas) (fun w => w = w0))) :
  Ob P n ops Q (JL S H H') (Turn (keys H)) kk (F.map (·.f)) σ kk I o :=
 ⟨hok, fun ph w0 vals hJ h1 _ _ _ hF => by
  have hp : ph = false := h1 rfl
  subst hp
  have h1 := EachV.spec I.pre [] _ (h w0 hJ) hF
  intro a w ha hw
  have h2 := h1 a w (ha.back (of_decide_eq_true hn)) hw
  rw [Nat.beq_refl]
  exact h2⟩
theorem VL.finSL {f : Fact} {d : Nat} {ph : Bool} {w0 : World} {σ : Sl} {v : Value} (hO : JL S H H' ph w0) (hv : look σ d = some v) (h : f v w0) :
  VL P n ops (Post n Q (JL S H H') (Turn (keys H)) f (some d) ph ph w0) [] σ (fun w => w = w0) :=
 VL.fin hv fun w e => by subst e; exact ⟨h, Turn.rfl_, hO⟩
theorem VL.finKL0 {f : Fact} {w0 : World} {σ : Sl} {G : World → Prop} (hG : ∀ w, G w → Own (⟨w0, keys H⟩ :: S) H' w) (h : ∀ w, G w → f undef w) :
  VL P n ops (Post n Q (JL S H H') (Turn (keys H)) f none false true w0) [] σ G :=
 VL.fin0 fun w hw => ⟨h w hw, ((hG w hw).after (List.mem_cons_self ..)).1, (hG w hw).lose⟩
theorem VC.anyTL {id : Nat} {l : List Oper} {σ : Sl} (H' : List Chunk) (m kk : Nat) (F : List (SFact (keys H))) (Is : List Ins) (outs : List (Nat × Nat)) (bas : List Nat)
  (hmix : P.follows .mixedOrders = true) (hp : plainRegion l.toArray = true) (htl : tailed l.toArray m = true) (hkm : Nat.blt kk m = true) (hml : Nat.ble m l.length = true)
  (hlate : (F.zipIdx.all fun (f, i) => !f.late || Nat.beq i kk || match l[i]? with | some o => waits o kk | none => true) = true)
  (houts : outs.all (fun (d, j) => Nat.blt j m && match l[j]? with | some p => (match p.dst with | some d' => Nat.beq d d' | none => false) | none => false) = true)
  (hbas : bas.all (fun t => (l.take m).all fun p => match p.dst with | some d => !Nat.beq d t | none => true) = true) (hn : decide ((outs.map (·.1)).Nodup) = true)
  (hobs : Obs P n l.toArray Q (JL S H H') (Turn (keys H)) kk (F.map (·.f)) σ 0 Is (l.take m))
  (hend : ∀ w0, Own S H' w0 → EachV F w0 outs [] (fun τ => VL P n l.toArray Q (l.drop m) (τ ++ only σ bas) (fun w => w = w0))) :
  VC P n Q (.region id l.toArray true) σ (Own S H) :=
 VC.anyT (JL S H H') (Turn (keys H)) m kk (F.map (·.f)) Is outs bas hmix hp htl (by left; simp [Nat.blt, Nat.ble_eq] at hkm; omega) (by simpa [Nat.ble_eq] using hml) (fun _ h => h.drew) (lateOf F) (fun i o hi hl => by
  unfold lateOf at hl
  cases hf : F[i]? with
  | none => simp [hf] at hl
  | some f =>
   simp only [hf] at hl
   have h1 := List.all_eq_true.1 hlate (f, i) (by rw [List.mem_zipIdx_iff_getElem?]; simpa using hf)
   simp only [hl, hi, Bool.not_true, Bool.false_or, Bool.or_eq_true] at h1
   rcases h1 with h1 | h1
   ·exact .inl (Nat.eq_of_beq_eq_true h1)
   ·exact .inr h1) (fact_stays F) houts hbas hobs (fun vals a w ha ⟨h1, h2⟩ => (hend w (by rw [hkm] at h2; exact h2)).spec outs [] _ h1 a w (ha.back (of_decide_eq_true hn)) rfl)
end
end Go.Vc

/- bag: take, double. -/
namespace Go.Proofs.Ytcfecmoagfgnaaa
open Go.Vc Go.Pl

section
variable {P : Program} {n : Nat} {Q : Exit → Act → World → Prop} {σ : Sl} {ops : Array Oper} {S : List Snap} {H H' : List Chunk}
theorem someArow {X : Type} {R : Rel X} {hR : Mono R} {e : TypeId} {sz c : Nat} {g : Option Nat} {xs : List X} {code : Code} (i : Nat) (hi : H[i]? = some (arow e sz R hR g c xs)) (hm : 0 < xs.length) (h : ∀ g', g = some g' → VC P n Q code σ (Own S H)) : VC P n Q code σ (Own S H) := fun a w ha hw => by
 obtain ⟨_, ⟨hrow, _⟩, _⟩ := hw.holds _ (List.mem_of_getElem? hi)
 have hs := ownsRow_sizes hrow
 cases g with
 | none => have := hs.2.2.2.1 rfl; omega
 | some g' => exact h g' rfl a w ha hw
theorem VL.finKL {f : Fact} {d : Nat} {w0 : World} {v : Value} (hv : Go.Vc.look σ d = some v) {G : World → Prop} (hG : ∀ w, G w → Own (⟨w0, keys H⟩ :: S) H' w) (h : ∀ w, G w → f v w) :
  VL P n ops (Post n Q (JL S H H') (Turn (keys H)) f (some d) false true w0) [] σ G :=
 VL.fin hv fun w hw => ⟨h w hw, ((hG w hw).after (List.mem_cons_self ..)).1, (hG w hw).lose⟩
/-- A result that stands in a variable, between two in slots. -/
theorem VX.ret_mid {G : World → Prop} {fn : Func} {S' : Value → World → Prop} {t u1 u2 g : Nat} {ty T : TypeId} {L : List Nat} {ps : List (List Value)} {x1 x2 : Value} (i : Nat) {cs : List Value} (hr : fn.results = #[.tmp u1, .cell t ty, .tmp u2]) (hu1 : Go.Vc.look σ u1 = some x1) (ht : Go.Vc.look σ t = some (.pointer (some ⟨g, 0, none⟩))) (hu2 : Go.Vc.look σ u2 = some x2)
  (hk : kindOf P ty = some (some cs.length)) (hG : ∀ w, G w → Own S H w) (hi : H[i]? = some (blk g T L ps)) (hc : cat ps = cs) (h : ∀ w, G w → S' (.tuple #[x1, .agg cs.toArray, x2]) w) : VX n (bodyPost P fn (Ret S')) .ret σ G :=
 fun a w ha hw => ⟨ha.dfr, .tuple #[x1, .agg cs.toArray, x2], by
  obtain ⟨hg, _⟩ := (hG w hw).holds _ (List.mem_of_getElem? hi)
  have h1 := ha.at_ u1 _ hu1
  have h2 := ha.at_ t _ ht
  have h3 := ha.at_ u2 _ hu2
  simp only [Array.getD_eq_getD_getElem?] at h1 h2 h3
  have hcell : ∀ j v, cs[j]? = some v → w.cell? ((⟨g, 0, none⟩ : Addr).add j) = some v := by
   intro j v hj
   rw [add_lit, cell_of_row w g _ _ T (0, 0) hg, hc, Nat.zero_add]
   simpa using hj
  have hld : (loadVar ty ⟨g, 0, none⟩).run P w = .ok (.agg cs.toArray) w := by
   simp [loadVar, (kindOf_agg hk w).1, (kindOf_agg hk w).2, run_loadCells_list (P := P) w ⟨g, 0, none⟩ cs hcell]
  simp [results, hr, h1, h2, h3, asAddr, hld], h w hw⟩
end
theorem ownDropK {S : List Snap} {H : List Chunk} {w : World} (i : Nat) (h : Own S H w) : Own S (H.eraseIdx i) w := by
 cases hi : H[i]? with
 | none => rw [List.eraseIdx_of_length_le (by simpa using hi)]; exact h
 | some c => exact (h.front hi).drop
theorem delete_at {S : List Snap} {H : List Chunk} {w : World} {xs : List Par} {g c : Nat} {k : Nat} (hk : H[k]? = some (arow 50 4 parR Mono_par (some g) c xs)) (ho : Own S H w) {i : Nat} (hi : i < xs.length) (hl : xs.length ≤ 1000) : Calls Try.prog 111 #[.slice (some ⟨g, 0, none⟩) xs.length c, .int .i64 (i : Int), .int .i64 ((i + 1 : Nat) : Int)] w (Ret fun v w' => v = rowV (some g) (xs.take i ++ xs.drop (i + 1)).length c ∧ Own S (H.set k (arow 50 4 parR Mono_par (some g) c (xs.take i ++ xs.drop (i + 1)))) w') :=
 calls_mono (delete_p (ho.front hk) hi hl) fun v w' ⟨e, h⟩ => ⟨e, h.back hk⟩

theorem take_neg {S : List Snap} {H : List Chunk} {w : World} (ho : Own S H w) {xs : List Par} {p : Option Addr} {c : Nat} (hX : Arr 4 parR (keys H) w p xs c) (hl : xs.length ≤ 1000) (i : Int) (hi : i < 0) : Calls Try.prog 40 #[.slice p xs.length c, .int .i64 (i : Int)] w (Ret fun v w' => ∃ q d, v = .tuple #[.slice q xs.length d, .agg (cat (parV par0 none 0)).toArray, .bool false] ∧ Own S H w' ∧ Arr 4 parR (keys H) w' q xs d) := by
 refine enter (G := Own (⟨w, keys H⟩ :: S) H) ho.keep Try.func40 rfl Try.ntmps40 rfl ?_
 refine VC.sr ?_
 refine VL.assign rfl ?_
 refine VL.alloc (L := parL) (ps := (parV (par0) none 0)) zero50 rfl rfl (fun g1 => ?_)
 refine VL.assign rfl ?_
 refine VL.nn ?_
 refine VC.sr ?_
 refine VL.move rfl ?_
 refine VL.call Try.func110 rfl (by decide) rfl (fun w' hw => clone_p hw (hX.nowA (s := ⟨w, _⟩) Mono_par hw) (by omega)) (fun v => ?_)
 refine VL.at (fun w4 h1w => ?_)
 obtain ⟨gv2, cv3, rfl, hO5⟩ := h1w
 refine VL.toOwn hO5 ?_
 refine VL.assign rfl ?_
 refine VL.nn ?_
 refine VC.seq ?_
 refine VC.sr ?_
 refine VL.move rfl ?_
 refine VL.lss rfl rfl ?_
 refine VL.yes (by omega) ?_
 refine VL.move rfl ?_
 refine VL.pass rfl rfl rfl rfl rfl ?_
 refine VL.pass rfl rfl rfl rfl rfl ?_
 refine VL.pass rfl rfl rfl rfl rfl ?_
 refine VL.pass rfl rfl rfl rfl rfl ?_
 refine VL.pick_t rfl rfl ?_
 refine VL.nn ?_
 refine VC.yes rfl ?_
 refine VC.sr ?_
 refine VL.move rfl ?_
 refine VL.build0 (cs := cat (parV (par0) none 0)) built50 ?_
 refine VL.assign rfl ?_
 refine VL.store (L := parL) (qs := (parV (par0) none 0)) (ps' := (parV (par0) none 0)) 1 0 4 rfl rfl rfl (.inl kd50) rfl rfl rfl (parV_ok1 par0 none 0) rfl rfl ?_
 refine VL.set1 ?_
 refine VL.assign rfl ?_
 refine VL.nn ?_
 refine VC.ret ?_
 refine VX.then_ret ?_
 refine VX.ret_mid (cs := cat (parV (par0) none 0)) 1 rfl rfl rfl rfl kd50 (fun _ h => h) rfl rfl (fun we hw => ?_)
 have h7 := (ownDropK 1 hw)
 exact ⟨_, _, rfl, h7.drop.subA, h7.letArr⟩

theorem take_big {S : List Snap} {H : List Chunk} {w : World} (ho : Own S H w) {xs : List Par} {p : Option Addr} {c : Nat} (hX : Arr 4 parR (keys H) w p xs c) (hl : xs.length ≤ 1000) (i : Nat) (hi : xs.length ≤ i) : Calls Try.prog 40 #[.slice p xs.length c, .int .i64 (i : Int)] w (Ret fun v w' => ∃ q d, v = .tuple #[.slice q xs.length d, .agg (cat (parV par0 none 0)).toArray, .bool false] ∧ Own S H w' ∧ Arr 4 parR (keys H) w' q xs d) := by
 refine enter (G := Own (⟨w, keys H⟩ :: S) H) ho.keep Try.func40 rfl Try.ntmps40 rfl ?_
 refine VC.sr ?_
 refine VL.assign rfl ?_
 refine VL.alloc (L := parL) (ps := (parV (par0) none 0)) zero50 rfl rfl (fun g1 => ?_)
 refine VL.assign rfl ?_
 refine VL.nn ?_
 refine VC.sr ?_
 refine VL.move rfl ?_
 refine VL.call Try.func110 rfl (by decide) rfl (fun w' hw => clone_p hw (hX.nowA (s := ⟨w, _⟩) Mono_par hw) (by omega)) (fun v => ?_)
 refine VL.at (fun w4 h1w => ?_)
 obtain ⟨gv2, cv3, rfl, hO5⟩ := h1w
 refine VL.toOwn hO5 ?_
 refine VL.assign rfl ?_
 refine VL.nn ?_
 refine VC.seq ?_
 refine VC.sr ?_
 refine VL.move rfl ?_
 refine VL.lss rfl rfl ?_
 refine VL.no (by omega) ?_
 refine VL.move rfl ?_
 refine VL.go rfl rfl rfl ?_
 refine VL.move rfl ?_
 refine VL.go rfl rfl rfl ?_
 refine VL.move rfl ?_
 refine VL.go rfl rfl rfl ?_
 refine VL.len Try.underlying47 rfl rfl ?_
 refine VL.go rfl rfl rfl ?_
 refine VL.geq rfl rfl ?_
 refine VL.yes (by omega) ?_
 refine VL.pick_f rfl rfl ?_
 refine VL.nn ?_
 refine VC.yes rfl ?_
 refine VC.sr ?_
 refine VL.move rfl ?_
 refine VL.build0 (cs := cat (parV (par0) none 0)) built50 ?_
 refine VL.assign rfl ?_
 refine VL.store (L := parL) (qs := (parV (par0) none 0)) (ps' := (parV (par0) none 0)) 1 0 4 rfl rfl rfl (.inl kd50) rfl rfl rfl (parV_ok1 par0 none 0) rfl rfl ?_
 refine VL.set1 ?_
 refine VL.assign rfl ?_
 refine VL.nn ?_
 refine VC.ret ?_
 refine VX.then_ret ?_
 refine VX.ret_mid (cs := cat (parV (par0) none 0)) 1 rfl rfl rfl rfl kd50 (fun _ h => h) rfl rfl (fun we hw => ?_)
 have h7 := (ownDropK 1 hw)
 exact ⟨_, _, rfl, h7.drop.subA, h7.letArr⟩

theorem take_yes {S : List Snap} {H : List Chunk} {w : World} (ho : Own S H w) {xs : List Par} {p : Option Addr} {c : Nat} (hX : Arr 4 parR (keys H) w p xs c) (hl : xs.length ≤ 1000) (i : Nat) (hi : i < xs.length) (hb : (xs[i]'hi).bytes.length ≤ 140737488351232) : Calls Try.prog 40 #[.slice p xs.length c, .int .i64 (i : Int)] w (Ret fun v w' => ∃ q d p c, v = .tuple #[.slice q (xs.take i ++ xs.drop (i + 1)).length d, .agg (cat (parV (xs[i]'hi) p c)).toArray, .bool true] ∧ Own S H w' ∧ Arr 4 parR (keys H) w' q (xs.take i ++ xs.drop (i + 1)) d ∧ Bytes (keys H) w' p (xs[i]'hi).bytes c) := by
 refine enter (G := Own (⟨w, keys H⟩ :: S) H) ho.keep Try.func40 rfl Try.ntmps40 rfl ?_
 refine VC.sr ?_
 refine VL.assign rfl ?_
 refine VL.alloc (L := parL) (ps := (parV (par0) none 0)) zero50 rfl rfl (fun g1 => ?_)
 refine VL.assign rfl ?_
 refine VL.nn ?_
 refine VC.sr ?_
 refine VL.move rfl ?_
 refine VL.call Try.func110 rfl (by decide) rfl (fun w' hw => clone_p hw (hX.nowA (s := ⟨w, _⟩) Mono_par hw) (by omega)) (fun v => ?_)
 refine VL.at (fun w4 h1w => ?_)
 obtain ⟨gv2, cv3, rfl, hO5⟩ := h1w
 refine VL.toOwn hO5 ?_
 refine VL.assign rfl ?_
 refine VL.nn ?_
 refine VC.seq ?_
 refine VC.sr ?_
 refine VL.move rfl ?_
 refine VL.lss rfl rfl ?_
 refine VL.no (by omega) ?_
 refine VL.move rfl ?_
 refine VL.go rfl rfl rfl ?_
 refine VL.move rfl ?_
 refine VL.go rfl rfl rfl ?_
 refine VL.move rfl ?_
 refine VL.go rfl rfl rfl ?_
 refine VL.len Try.underlying47 rfl rfl ?_
 refine VL.go rfl rfl rfl ?_
 refine VL.geq rfl rfl ?_
 refine VL.no (by omega) ?_
 refine VL.pick_f rfl rfl ?_
 refine VL.nn ?_
 refine VC.no rfl ?_
 refine VC.skip ?_
 refine VX.next ?_
 refine VC.seq ?_
 refine someArow 0 rfl (by omega) (fun g7 e7 => ?_)
 subst e7
 refine VC.region ?_
 refine VL.move rfl ?_
 refine VL.move rfl ?_
 refine VL.indexRow (k := .i64) (j := (i : Int)) (ys := xs) 0 rfl rfl Try.underlying47 sz47 (fun _ h => h) rfl (by omega) (by omega) ?_
 refine VL.elemsRow (j := i) (y := (xs[i]'hi)) 0 rfl kd50 (fun _ h => h) rfl (List.getElem?_eq_getElem hi) (by simp) (fun w5 vs hl5 hr5 => ?_)
 obtain ⟨p5, c5, hy, rfl, hA5⟩ := hr5
 refine VL.alloc (L := parL) (ps := (parV (par0) none 0)) zero50 rfl rfl (fun g6 => ?_)
 refine VL.store (L := parL) (qs := (parV ((xs[i]'hi)) p5 c5)) (ps' := (parV ((xs[i]'hi)) p5 c5)) 0 0 4 rfl rfl rfl (.inl kd50) rfl rfl (parV_len hy) (parV_ok1 ((xs[i]'hi)) p5 c5) rfl rfl ?_
 refine VL.set0 ?_
 refine VL.nn ?_
 refine VC.sr ?_
 refine VL.fieldAddr rfl fo50_3 rfl ?_
 refine VL.load (v := .slice p5 ((xs[i]'hi).bytes).length c5) 0 3 rfl kd24 (fun _ h => h) rfl rfl rfl ?_
 refine VL.call Try.func109 rfl (by decide) rfl (fun w' hw => cloneB hw (hA5.nowA (s := ⟨w5, _⟩) Mono.byte hw) hb) (fun v => ?_)
 refine VL.at (fun w7 h1w => ?_)
 obtain ⟨p8, c9, rfl, hO11, hA10⟩ := h1w
 refine VL.toOwn hO11 ?_
 refine VL.fieldAddr rfl fo50_3 rfl ?_
 refine VL.store (L := parL) (qs := [[.slice p8 ((xs[i]'hi).bytes).length c9]]) (ps' := [[.int .u8 ((xs[i]'hi).src)], [.int .u8 ((xs[i]'hi).dst)], [.int .u32 ((xs[i]'hi).due)], [.slice p8 ((xs[i]'hi).bytes).length c9]]) 0 3 1 rfl rfl rfl (.inr ⟨kd24, rfl⟩) rfl rfl rfl (by intro u hu; simp [cat] at hu; subst hu; rfl) rfl rfl ?_
 refine VL.set0 ?_
 refine VL.nn ?_
 refine VC.seq ?_
 apply VC.anyTL (blk g6 50 parL [[.int .u8 ((xs[i]'hi).src)], [.int .u8 ((xs[i]'hi).dst)], [.int .u32 ((xs[i]'hi).due)], [.slice p8 ((xs[i]'hi).bytes).length c9]] :: arow 50 4 parR Mono_par (some g7) cv3 (xs.take i ++ xs.drop (i + 1)) :: blk g1 50 parL (parV (par0) none 0) :: H) 7 4 (F := [eqF _, eqF _, eqF _, eqF _, eqF _, eqF _, eqF _]) [⟨[], [0]⟩, ⟨[], [1]⟩, ⟨[], [1]⟩, ⟨[(30, 2)], []⟩, ⟨[(28, 0), (29, 1), (31, 3)], []⟩, ⟨[], [7]⟩, ⟨[(32, 4)], []⟩] [(33, 5), (4, 6)] [0, 1, 5, 6, 7, 8, 9, 10, 11, 12, 13, 14, 15, 16, 17, 18, 19, 20, 21, 22, 23, 24, 25, 26, 27] rfl (by kernel_rfl) (by kernel_rfl) rfl rfl (by kernel_rfl) (by kernel_rfl) (by kernel_rfl) rfl ?obs6 ?end6
 case obs6 =>
  refine Obs.cons ?_ ?_
  ·refine obSL (by kernel_rfl) rfl rfl (fun ph6 w6 hO6 => ?_)
   refine VL.move rfl ?_
   exact VL.finSL hO6 rfl rfl
  refine Obs.cons ?_ ?_
  ·refine obSL (by kernel_rfl) rfl rfl (fun ph6 w6 hO6 => ?_)
   refine VL.move rfl ?_
   exact VL.finSL hO6 rfl rfl
  refine Obs.cons ?_ ?_
  ·refine obSL (by kernel_rfl) rfl rfl (fun ph6 w6 hO6 => ?_)
   refine VL.move rfl ?_
   exact VL.finSL hO6 rfl rfl
  refine Obs.cons ?_ ?_
  ·refine obSL (by kernel_rfl) rfl rfl (fun ph6 w6 hO6 => ?_)
   rintro _ rfl
   refine VL.add rfl rfl (by simp only [InR]; omega) ?_
   exact VL.finSL hO6 rfl rfl
  refine Obs.cons ?_ ?_
  ·refine obKL (by kernel_rfl) rfl (fun w6 hO6 => ?_)
   rintro _ rfl _ rfl _ rfl
   refine VL.toOwn hO6 ?_
   refine VL.call Try.func111 rfl (by decide) rfl (fun w' hw => delete_at (k := 1) rfl hw hi hl) (fun v => ?_)
   refine VL.fact fun e6 => ?_
   subst e6
   exact VL.finKL rfl (fun _ h => h) (fun _ h => rfl)
  refine Obs.cons ?_ ?_
  ·refine obSL (by kernel_rfl) rfl rfl (fun ph6 w6 hO6 => ?_)
   cases ph6
   ·refine VL.loads (cs := cat (parV ((xs[i]'hi)) p8 c9)) 0 0 4 rfl kd50 (fun _ e => by subst e; exact hO6) rfl rfl rfl rfl ?_
    exact VL.finSL hO6 rfl rfl
   ·refine VL.loads (cs := cat (parV ((xs[i]'hi)) p8 c9)) 0 0 4 rfl kd50 (fun _ e => by subst e; exact hO6) rfl rfl rfl rfl ?_
    exact VL.finSL hO6 rfl rfl
  refine Obs.cons ?_ ?_
  ·refine obSL (by kernel_rfl) rfl rfl (fun ph6 w6 hO6 => ?_)
   rintro _ rfl
   refine VL.assign rfl ?_
   exact VL.finSL hO6 rfl rfl
  exact Obs.nil
 case end6 =>
  intro w6 hO6
  rintro _ rfl _ rfl
  refine VL.toOwn hO6 ?_
  refine VL.store (L := parL) (qs := (parV ((xs[i]'hi)) p8 c9)) (ps' := (parV ((xs[i]'hi)) p8 c9)) 2 0 4 rfl rfl rfl (.inl kd50) rfl rfl (parV_len hy) (parV_ok1 ((xs[i]'hi)) p8 c9) rfl rfl ?_
  refine VL.set2 ?_
  refine VL.assign rfl ?_
  refine VL.nn ?_
  refine VC.ret ?_
  refine VX.ret_mid (cs := cat (parV ((xs[i]'hi)) p8 c9)) 2 rfl rfl rfl rfl (by rw [cat_size (parV_len hy)]; exact kd50) (fun _ h => h) rfl rfl (fun we hw => ?_)
  have h7 := (ownDropK 0 (ownDropK 2 hw))
  exact ⟨_, _, _, _, rfl, h7.drop.subA, h7.letArr, (hA10.nowA (s := ⟨w7, _⟩) Mono.byte h7.drop)⟩

end Go.Proofs.Ytcfecmoagfgnaaa

/- The rules of the walks, continued: floats, complex numbers, a bool against a bool, the opposite, the greatest of four. -/
namespace Go.Vc

abbrev fadd (a b : Nat) : Option Nat := FloatKind.f64.format.add a b
abbrev fsub (a b : Nat) : Option Nat := FloatKind.f64.format.sub a b
abbrev fmul (a b : Nat) : Option Nat := FloatKind.f64.format.mul a b
abbrev ford (a b : Nat) : Option Ordering := FloatKind.f64.format.order a b
/-- A complex number's value. -/
abbrev cx (z : Nat × Nat) : Value := .complex .f64 z.1 z.2
def cadd (a b : Nat × Nat) : Option (Nat × Nat) := (fadd a.1 b.1).bind fun x => (fadd a.2 b.2).map fun y => (x, y)
def csub (a b : Nat × Nat) : Option (Nat × Nat) := (fsub a.1 b.1).bind fun x => (fsub a.2 b.2).map fun y => (x, y)
def cmul (a b : Nat × Nat) : Option (Nat × Nat) :=
  (fmul a.1 b.1).bind fun p => (fmul a.2 b.2).bind fun q => (fsub p q).bind fun x =>
  (fmul a.1 b.2).bind fun r => (fmul a.2 b.1).bind fun s => (fadd r s).map fun y => (x, y)
section
variable {P : Program} {n : Nat} {Q : Exit → Act → World → Prop} {σ : Sl} {G : World → Prop} {ops : Array Oper} {rest : List Oper}
variable {d : Nat} {ty : TypeId} {pos : String} {aft : Array Edge}

theorem VL.farith {op : BinOp} {x y : Operand} {t ty' : TypeId} {a b r : Nat} (hop : op = .add ∨ op = .sub ∨ op = .mul ∨ op = .quo) (hx : ev σ x = some (.float .f64 a)) (hy : ev σ y = some (.float .f64 b)) (hr : floatBits op .f64 a b = some r)
  (h : VL P n ops Q rest ((d, .float .f64 r) :: σ) G) (hdn : Nat.blt d n = true := by rfl) : VL P n ops Q (⟨some d, .binOp op t x y ty', ty, pos, aft, none⟩ :: rest) σ G :=
 VL.val rfl rfl hdn (fun c w ha _ => by
  have e : eqGuard op t x y (.float .f64 a) (.float .f64 b) = pure () := by cases op <;> rfl
  have := run_float_arith (P := P) w op t .f64 a b r hr
  simp [execOp, ha.ev hx, ha.ev hy, e, this]) h

def fcmp (op : BinOp) (a b : Nat) : Bool :=
  match op with
  | .eql => ford a b == some .eq
  | .neq => ford a b != some .eq
  | .lss => ford a b == some .lt
  | .leq => ford a b == some .lt || ford a b == some .eq
  | .gtr => ford a b == some .gt
  | .geq => ford a b == some .gt || ford a b == some .eq
  | _ => false

theorem VL.fcmp {op : BinOp} {x y : Operand} {t ty' : TypeId} {a b : Nat} {r : Bool} (hop : op = .eql ∨ op = .neq ∨ op = .lss ∨ op = .leq ∨ op = .gtr ∨ op = .geq) (hx : ev σ x = some (.float .f64 a)) (hy : ev σ y = some (.float .f64 b)) (hr : Vc.fcmp op a b = r)
  (h : VL P n ops Q rest ((d, .bool r) :: σ) G) (hdn : Nat.blt d n = true := by rfl) : VL P n ops Q (⟨some d, .binOp op t x y ty', ty, pos, aft, none⟩ :: rest) σ G :=
 VL.val rfl rfl hdn (fun c w ha _ => by
  subst hr
  have e : eqGuard op t x y (.float .f64 a) (.float .f64 b) = pure () := by cases op <;> rfl
  rcases hop with rfl | rfl | rfl | rfl | rfl | rfl <;> simp [execOp, ha.ev hx, ha.ev hy, e, binOp, Op.floatCmp, Vc.fcmp]) h

theorem run_arith {op : BinOp} {a b r : Nat} {w : World} (h : floatBits op .f64 a b = some r) : (Op.Complex.arith op .f64 a b).run P w = .ok r w := by
 unfold floatBits at h
 unfold Op.Complex.arith
 cases op <;> simp only at h <;> first | (cases h; done) | skip
 all_goals simp [Op.floatArith, h]

theorem VL.cadd {x y : Operand} {t ty' : TypeId} {a b r : Nat × Nat} (hx : ev σ x = some (cx a)) (hy : ev σ y = some (cx b)) (hr : Vc.cadd a b = some r)
  (h : VL P n ops Q rest ((d, cx r) :: σ) G) (hdn : Nat.blt d n = true := by rfl) : VL P n ops Q (⟨some d, .binOp .add t x y ty', ty, pos, aft, none⟩ :: rest) σ G :=
 VL.val rfl rfl hdn (fun c w ha _ => by
  have e : eqGuard .add t x y (cx a) (cx b) = pure () := rfl
  unfold Vc.cadd at hr
  simp only [Option.bind_eq_some_iff, Option.map_eq_some_iff] at hr
  obtain ⟨u, h1, v, h2, rfl⟩ := hr
  have r1 := run_arith (P := P) (op := .add) (w := w) h1
  have r2 := run_arith (P := P) (op := .add) (w := w) h2
  simp [execOp, ha.ev hx, ha.ev hy, e, binOp, Op.complexOp, r1, r2]) h

theorem VL.csub {x y : Operand} {t ty' : TypeId} {a b r : Nat × Nat} (hx : ev σ x = some (cx a)) (hy : ev σ y = some (cx b)) (hr : Vc.csub a b = some r)
  (h : VL P n ops Q rest ((d, cx r) :: σ) G) (hdn : Nat.blt d n = true := by rfl) : VL P n ops Q (⟨some d, .binOp .sub t x y ty', ty, pos, aft, none⟩ :: rest) σ G :=
 VL.val rfl rfl hdn (fun c w ha _ => by
  have e : eqGuard .sub t x y (cx a) (cx b) = pure () := rfl
  unfold Vc.csub at hr
  simp only [Option.bind_eq_some_iff, Option.map_eq_some_iff] at hr
  obtain ⟨u, h1, v, h2, rfl⟩ := hr
  have r1 := run_arith (P := P) (op := .sub) (w := w) h1
  have r2 := run_arith (P := P) (op := .sub) (w := w) h2
  simp [execOp, ha.ev hx, ha.ev hy, e, binOp, Op.complexOp, r1, r2]) h

theorem VL.cmul {x y : Operand} {t ty' : TypeId} {a b r : Nat × Nat} (hx : ev σ x = some (cx a)) (hy : ev σ y = some (cx b)) (hr : Vc.cmul a b = some r)
  (h : VL P n ops Q rest ((d, cx r) :: σ) G) (hdn : Nat.blt d n = true := by rfl) : VL P n ops Q (⟨some d, .binOp .mul t x y ty', ty, pos, aft, none⟩ :: rest) σ G :=
 VL.val rfl rfl hdn (fun c w ha _ => by
  have e : eqGuard .mul t x y (cx a) (cx b) = pure () := rfl
  unfold Vc.cmul at hr
  simp only [Option.bind_eq_some_iff, Option.map_eq_some_iff] at hr
  obtain ⟨p, h1, q, h2, u, h3, r', h4, s, h5, v, h6, rfl⟩ := hr
  have r1 := run_arith (P := P) (op := .mul) (w := w) h1
  have r2 := run_arith (P := P) (op := .mul) (w := w) h2
  have r3 := run_arith (P := P) (op := .sub) (w := w) h3
  have r4 := run_arith (P := P) (op := .mul) (w := w) h4
  have r5 := run_arith (P := P) (op := .mul) (w := w) h5
  have r6 := run_arith (P := P) (op := .add) (w := w) h6
  simp [execOp, ha.ev hx, ha.ev hy, e, binOp, Op.complexOp, Op.Complex.conv, Op.Complex.product, Op.Complex.mul, Op.Complex.sub, Op.Complex.add, r1, r2, r3, r4, r5, r6]) h

theorem VL.real {x : Operand} {tys : Array TypeId} {a : Nat × Nat} (hx : ev σ x = some (cx a))
  (h : VL P n ops Q rest ((d, .float .f64 a.1) :: σ) G) (hdn : Nat.blt d n = true := by rfl) : VL P n ops Q (⟨some d, .call ⟨.builtin .real, #[x], tys⟩, ty, pos, aft, none⟩ :: rest) σ G :=
 VL.val rfl rfl hdn (fun c w ha _ => by
  simp [execOp, resolve, invoke, builtin, ha.ev hx, run_real]) h
theorem VL.imag {x : Operand} {tys : Array TypeId} {a : Nat × Nat} (hx : ev σ x = some (cx a))
  (h : VL P n ops Q rest ((d, .float .f64 a.2) :: σ) G) (hdn : Nat.blt d n = true := by rfl) : VL P n ops Q (⟨some d, .call ⟨.builtin .imag, #[x], tys⟩, ty, pos, aft, none⟩ :: rest) σ G :=
 VL.val rfl rfl hdn (fun c w ha _ => by
  simp [execOp, resolve, invoke, builtin, ha.ev hx, run_imag]) h
theorem VL.complex {x y : Operand} {tys : Array TypeId} {a b : Nat} (hx : ev σ x = some (.float .f64 a)) (hy : ev σ y = some (.float .f64 b))
  (h : VL P n ops Q rest ((d, cx (a, b)) :: σ) G) (hdn : Nat.blt d n = true := by rfl) : VL P n ops Q (⟨some d, .call ⟨.builtin .complex, #[x, y], tys⟩, ty, pos, aft, none⟩ :: rest) σ G :=
 VL.val rfl rfl hdn (fun c w ha _ => by
  simp [execOp, resolve, invoke, builtin, ha.ev hx, ha.ev hy, run_complex]) h

theorem VL.itof {x : Operand} {src dst : TypeId} {k : IntKind} {a : Int} (hs : (P.underlying src).isSome = true) (hd : P.underlying dst = some (.float .f64)) (hx : ev σ x = some (.int k a))
  (h : VL P n ops Q rest ((d, .float .f64 (FloatKind.f64.nearest a)) :: σ) G) (hdn : Nat.blt d n = true := by rfl) : VL P n ops Q (⟨some d, .convert src dst x, ty, pos, aft, none⟩ :: rest) σ G :=
 VL.val rfl rfl hdn (fun c w ha _ => by
  cases e : P.underlying src with
  | none => simp [e] at hs
  | some u => simp [execOp, ha.ev hx, convert, run_underlying e, run_underlying hd, Conv.intToFloat]) h
theorem VL.ftoi {x : Operand} {src dst : TypeId} {k : IntKind} {a : Nat} {i : Int} (hs : (P.underlying src).isSome = true) (hd : P.underlying dst = some (.int k)) (hx : ev σ x = some (.float .f64 a)) (hi : floatToIntVal .f64 a k = some i)
  (h : VL P n ops Q rest ((d, .int k i) :: σ) G) (hdn : Nat.blt d n = true := by rfl) : VL P n ops Q (⟨some d, .convert src dst x, ty, pos, aft, none⟩ :: rest) σ G :=
 VL.val rfl rfl hdn (fun c w ha _ => by
  have := run_convert_float_int (P := P) w src dst .f64 k a i hs hd hi
  simp [execOp, ha.ev hx, this]) h

theorem VL.neg {x : Operand} {t : TypeId} {k : IntKind} {a : Int} (hx : ev σ x = some (.int k a)) (hi : InR k (0 - a))
  (h : VL P n ops Q rest ((d, .int k (0 - a)) :: σ) G) (hdn : Nat.blt d n = true := by rfl) : VL P n ops Q (⟨some d, .unOp .neg t x, ty, pos, aft, none⟩ :: rest) σ G :=
 VL.val rfl rfl hdn (fun c w ha _ => by
  simp [execOp, ha.ev hx, Op.unary, Op.intArith]
  have := wrap_in hi
  simpa using this) h

theorem VL.bneq {x y : Operand} {t ty' : TypeId} {a b : Bool} (ht : P.underlying t = some .bool) (hx : ev σ x = some (.bool a)) (hy : ev σ y = some (.bool b))
  (h : VL P n ops Q rest ((d, .bool (a != b)) :: σ) G) (hdn : Nat.blt d n = true := by rfl) : VL P n ops Q (⟨some d, .binOp .neq t x y ty', ty, pos, aft, none⟩ :: rest) σ G :=
 VL.val rfl rfl hdn (fun c w ha _ => by
  have e : eqGuard .neq t x y (.bool a) (.bool b) = pure () := rfl
  have e2 : (binOp .neq t (.bool a) (.bool b)).run P w = .ok (.bool (a != b)) w := by
   have := run_equalIn_bool (P := P) w 9999 t a b ht
   simp only [binOp]
   simp [Op.equal, Op.maxDepth, this, bne]
  simp [execOp, ha.ev hx, ha.ev hy, e, e2]) h

theorem VL.max4 {x y u v : Operand} {k : IntKind} {a b c e : Int} {tys : Array TypeId} (hx : ev σ x = some (.int k a)) (hy : ev σ y = some (.int k b)) (hu : ev σ u = some (.int k c)) (hv : ev σ v = some (.int k e))
  (h : VL P n ops Q rest ((d, .int k (max (max (max a b) c) e)) :: σ) G) (hdn : Nat.blt d n = true := by rfl) : VL P n ops Q (⟨some d, .call ⟨.builtin .max, #[x, y, u, v], tys⟩, ty, pos, aft, none⟩ :: rest) σ G :=
 VL.val rfl rfl hdn (fun s w ha _ => by
  have m : ∀ p q : Int, (if p < q then q else p) = max p q := fun p q => by rw [Int.max_def]; split <;> split <;> omega
  simp [execOp, resolve, invoke, builtin, Builtin.max_, Builtin.max2, ha.ev hx, ha.ev hy, ha.ev hu, ha.ev hv, m]) h
end
end Go.Vc

/- Plain facts on the spiral: where the numbers stand; closed checks on small whole floats. -/
namespace Go.Pl
open Go.Vc

/-- The float of a whole number. -/
abbrev fi (x : Int) : Nat := FloatKind.f64.nearest x

/-- Where leg k begins, which way it goes, how long it is, which number stands there. -/
def cX (k : Nat) : Int := if k % 4 = 0 then -(k / 4 : Nat) else if k % 4 = 3 then -(k / 4 : Nat) - 1 else (k / 4 : Nat) + 1
def cY (k : Nat) : Int := if k % 4 = 0 ∨ k % 4 = 1 then -(k / 4 : Nat) else (k / 4 : Nat) + 1
def dX (k : Nat) : Int := if k % 4 = 0 then 1 else if k % 4 = 2 then -1 else 0
def dY (k : Nat) : Int := if k % 4 = 1 then 1 else if k % 4 = 3 then -1 else 0
def long (k : Nat) : Nat := k / 2 + 1
def base (k : Nat) : Nat := ((k + 1) / 2) * ((k + 2) / 2)
def pX (k r : Nat) : Int := cX k + dX k * r
def pY (k r : Nat) : Int := cY k + dY k * r

/-- Which way the float goes. -/
def wF : Nat → Nat × Nat
  | 0 => (fi 1, 0)
  | k + 1 => if (k + 1) % 4 = 1 then (0, fi 1) else if (k + 1) % 4 = 2 then (fi (-1), 0) else if (k + 1) % 4 = 3 then (9223372036854775808, fi (-1)) else (fi 1, 9223372036854775808)
/-- Row and column, all of them. -/
def allB (n : Nat) (f : Nat → Bool) : Bool := Nat.rec true (fun k ih => f k && ih) n
theorem allB_spec {f : Nat → Bool} : ∀ {n : Nat}, allB n f = true → ∀ i, i < n → f i = true
 | 0, _, i, hi => by omega
 | n + 1, h, i, hi => by
  have h' : (f n && allB n f) = true := h
  rw [Bool.and_eq_true] at h'
  by_cases e : i = n
  ·subst e; exact h'.1
  ·exact allB_spec h'.2 i (by omega)

def turnOk (r : Nat) : Bool :=
  decide (cmul (wF 0) (fi (r + 1 : Nat), 0) = some (fi (r + 1 : Nat), 0)) && decide (cmul (wF 4) (fi (r + 1 : Nat), 0) = some (fi (r + 1 : Nat), 0)) && decide (cmul (wF 1) (fi (r + 1 : Nat), 0) = some (0, fi (r + 1 : Nat))) &&
  decide (cmul (wF 2) (fi (r + 1 : Nat), 0) = some (fi (-(r + 1 : Nat)), 0)) && decide (cmul (wF 3) (fi (r + 1 : Nat), 0) = some (0, fi (-(r + 1 : Nat))))
theorem turns : allB 66 turnOk = true := by decide +kernel
def sumOk (q r : Nat) : Bool := decide (fadd (fi (-(q : Int))) (fi r) = some (fi (-(q : Int) + r))) && decide (fadd (fi ((q : Int) + 1)) (fi (-(r : Int))) = some (fi ((q : Int) + 1 + -(r : Int))))
theorem sums : allB 32 (fun q => allB (2 * q + 3) (sumOk q)) = true := by decide +kernel

/-- A small whole float. -/
def smallOk (i : Nat) : Bool :=
  let x : Int := (i : Int) - 65
  decide (fadd (fi x) 0 = some (fi x)) && decide (floatToIntVal .f64 (fi x) .i64 = some x) && fcmp .geq (fi x) 13920626448202203136 && fcmp .leq (fi x) 4697254411347427328 && fcmp .eql (fi x) (fi x) &&
  (decide (x = 0) || fcmp .neq (fi x) 0) && decide (fsub (fi x) (fi x) = some (fi 0)) && decide (fsub (fi x) (fi (x + 1)) = some (fi (-1))) && decide (fsub (fi x) (fi (x - 1)) = some (fi 1))
theorem smalls : allB 131 smallOk = true := by decide +kernel
/-- The number on the ring. -/
def ring (x y : Int) : Int := max (max (max x (0 - x)) y) (0 - y)
def placeI (x y : Int) : Int :=
  (2 * ring x y + 1) * (2 * ring x y + 1) -
  if y = 0 - ring x y then 1 + ring x y - x else if x = 0 - ring x y then 1 + 2 * ring x y + y + ring x y else if y = ring x y then 1 + 4 * ring x y + x + ring x y else 1 + 6 * ring x y + ring x y - y
def placeOk (k r : Nat) : Bool := decide (placeI (pX k r) (pY k r) = base k + r)
theorem places : allB 128 (fun k => allB (k / 2 + 1) (placeOk k)) = true := by decide +kernel
end Go.Pl

