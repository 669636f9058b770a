/- The statement FedqLoads is proved, for every input: part 10 of 26 of the texts that it needs. -/
import Derived.Test.YtcfecmoagfgnaaaMfloAI
/- Plain facts on what goes over the net, continued: items. -/
namespace Go.Pl

instance : DecidableEq Bundle := fun a b => decidable_of_iff (a.device = b.device ∧ a.agree = b.agree ∧ a.signer = b.signer ∧ a.id = b.id ∧ a.once = b.once ∧ a.sig = b.sig) ⟨fun h => by cases a; cases b; simp only at h; obtain ⟨rfl, rfl, rfl, rfl, rfl, rfl⟩ := h; rfl, fun h => by subst h; exact ⟨rfl, rfl, rfl, rfl, rfl, rfl⟩⟩
instance : DecidableEq Header := fun a b => decidable_of_iff (a.session = b.session ∧ a.first = b.first ∧ a.agree = b.agree ∧ a.signer = b.signer ∧ a.base = b.base ∧ a.id = b.id ∧ a.ratchet = b.ratchet ∧ a.n = b.n ∧ a.prev = b.prev) ⟨fun h => by cases a; cases b; simp only at h; obtain ⟨rfl, rfl, rfl, rfl, rfl, rfl, rfl, rfl, rfl⟩ := h; rfl, fun h => by subst h; exact ⟨rfl, rfl, rfl, rfl, rfl, rfl, rfl, rfl, rfl⟩⟩
instance : DecidableEq Letter := fun a b => decidable_of_iff (a.src = b.src ∧ a.dst = b.dst ∧ a.header = b.header ∧ a.body = b.body) ⟨fun h => by cases a; cases b; simp only at h; obtain ⟨rfl, rfl, rfl, rfl⟩ := h; rfl, fun h => by subst h; exact ⟨rfl, rfl, rfl, rfl⟩⟩
instance : DecidableEq Vouch := fun a b => decidable_of_iff (a.notary = b.notary ∧ a.sig = b.sig) ⟨fun h => by cases a; cases b; simp only at h; obtain ⟨rfl, rfl⟩ := h; rfl, fun h => by subst h; exact ⟨rfl, rfl⟩⟩
instance : DecidableEq Object := fun a b => decidable_of_iff (a.server = b.server ∧ a.n = b.n ∧ a.key = b.key ∧ a.since = b.since ∧ a.till = b.till ∧ a.sig = b.sig ∧ a.vouches = b.vouches) ⟨fun h => by cases a; cases b; simp only at h; obtain ⟨rfl, rfl, rfl, rfl, rfl, rfl, rfl⟩ := h; rfl, fun h => by subst h; exact ⟨rfl, rfl, rfl, rfl, rfl, rfl, rfl⟩⟩

structure Itm where
  kind : Nat
  asker : Nat
  peer : Nat
  letter : Letter
  bundle : Bundle
  object : Object
structure Itm.ok (x : Itm) : Prop where
  kind : x.kind < 256
  asker : x.asker < 256
  peer : x.peer < 256
  letter : x.letter.ok
  bundle : x.bundle.ok
  object : x.object.ok
def item0 : Itm := ⟨0, 0, 0, letter0, bundle0, object0⟩
theorem item0_ok : item0.ok := ⟨by decide, by decide, by decide, letter0_ok, bundle0_ok, object0_ok⟩
/-- Its kind's pieces; what is there beside its kind; is all else empty? -/
def itemP (x : Itm) : List (List UInt8) :=
  if x.kind = 1 then [be 1 x.kind, (letterO x.letter).getD []] else if x.kind = 2 ∨ x.kind = 4 then [be 1 x.kind, be 1 x.asker, be 1 x.peer]
  else if x.kind = 3 then [be 1 x.kind, be 1 x.asker, bundleB x.bundle] else [be 1 x.kind, (objectO x.object).getD []]
def itemGood (x : Itm) : Bool :=
  if x.kind = 1 then (letterO x.letter).isSome && decide (x.asker = 0 ∧ x.peer = 0 ∧ x.bundle = bundle0 ∧ x.object = object0)
  else if x.kind = 2 ∨ x.kind = 4 then decide (x.letter = letter0 ∧ x.bundle = bundle0 ∧ x.object = object0)
  else if x.kind = 3 then decide (x.peer = 0 ∧ x.letter = letter0 ∧ x.object = object0)
  else if x.kind = 5 ∨ x.kind = 6 then (objectO x.object).isSome && decide (x.asker = 0 ∧ x.peer = 0 ∧ x.letter = letter0 ∧ x.bundle = bundle0)
  else false
def itemO (x : Itm) : Option (List UInt8) := joinO (itemP x) (itemGood x)
def bareP (x : Itm) : Prop := x.asker = 0 ∧ x.peer = 0 ∧ x.letter = letter0 ∧ x.bundle = bundle0 ∧ x.object = object0
/-- What is left of an item when its kind's part is taken out. -/
abbrev itemA (x : Itm) : Itm := ⟨x.kind, x.asker, x.peer, letter0, x.bundle, x.object⟩
abbrev itemB (x : Itm) : Itm := ⟨x.kind, 0, 0, x.letter, x.bundle, x.object⟩
abbrev itemC (x : Itm) : Itm := ⟨x.kind, 0, x.peer, x.letter, bundle0, x.object⟩
abbrev itemD (x : Itm) : Itm := ⟨x.kind, x.asker, x.peer, x.letter, x.bundle, object0⟩
theorem itemA_ok {x : Itm} (h : x.ok) : (itemA x).ok := ⟨h.kind, h.asker, h.peer, letter0_ok, h.bundle, h.object⟩
theorem itemB_ok {x : Itm} (h : x.ok) : (itemB x).ok := ⟨h.kind, (show (0 : Nat) < 256 by decide), (show (0 : Nat) < 256 by decide), h.letter, h.bundle, h.object⟩
theorem itemC_ok {x : Itm} (h : x.ok) : (itemC x).ok := ⟨h.kind, (show (0 : Nat) < 256 by decide), h.peer, h.letter, bundle0_ok, h.object⟩
theorem itemD_ok {x : Itm} (h : x.ok) : (itemD x).ok := ⟨h.kind, h.asker, h.peer, h.letter, h.bundle, object0_ok⟩
theorem none_joinO (ps : List (List UInt8)) : none = joinO ps false := (joinO_none (by simp)).symm
theorem item1_n {x : Itm} (h : x.kind = 1) (hb : ¬ bareP (itemA x)) : none = itemO x := by
 unfold itemO itemGood
 rw [if_pos h, decide_eq_false (fun e => hb ⟨e.1, e.2.1, rfl, e.2.2.1, e.2.2.2⟩), Bool.and_false]
 exact none_joinO _
theorem item1_y {x : Itm} (h : x.kind = 1) (hb : bareP (itemA x)) : joinO [be 1 x.kind, (letterO x.letter).getD []] (letterO x.letter).isSome = itemO x := by
 unfold itemO itemGood itemP
 rw [if_pos h, if_pos h, decide_eq_true ⟨hb.1, hb.2.1, hb.2.2.2.1, hb.2.2.2.2⟩, Bool.and_true]
theorem item2_n {x : Itm} (h : x.kind = 2 ∨ x.kind = 4) (hb : ¬ bareP (itemB x)) : none = itemO x := by
 unfold itemO itemGood
 rw [if_neg (by omega), if_pos h, decide_eq_false (fun e => hb ⟨rfl, rfl, e.1, e.2.1, e.2.2⟩)]
 exact none_joinO _
theorem item2_y {x : Itm} (h : x.kind = 2 ∨ x.kind = 4) (hb : bareP (itemB x)) : joinO [be 1 x.kind, be 1 x.asker, be 1 x.peer] true = itemO x := by
 unfold itemO itemGood itemP
 rw [if_neg (by omega), if_pos h, if_neg (by omega), if_pos h, decide_eq_true ⟨hb.2.2.1, hb.2.2.2.1, hb.2.2.2.2⟩]
theorem item3_n {x : Itm} (h : x.kind = 3) (hb : ¬ bareP (itemC x)) : none = itemO x := by
 unfold itemO itemGood
 rw [if_neg (by omega), if_neg (by omega), if_pos h, decide_eq_false (fun e => hb ⟨rfl, e.1, e.2.1, rfl, e.2.2⟩)]
 exact none_joinO _
theorem item3_y {x : Itm} (h : x.kind = 3) (hb : bareP (itemC x)) : joinO [be 1 x.kind, be 1 x.asker, bundleB x.bundle] true = itemO x := by
 unfold itemO itemGood itemP
 rw [if_neg (by omega), if_neg (by omega), if_pos h, if_neg (by omega), if_neg (by omega), if_pos h, decide_eq_true ⟨hb.2.1, hb.2.2.1, hb.2.2.2.2⟩]
theorem item5_n {x : Itm} (h : x.kind = 5 ∨ x.kind = 6) (hb : ¬ bareP (itemD x)) : none = itemO x := by
 unfold itemO itemGood
 rw [if_neg (by omega), if_neg (by omega), if_neg (by omega), if_pos h, decide_eq_false (fun e => hb ⟨e.1, e.2.1, e.2.2.1, e.2.2.2, rfl⟩), Bool.and_false]
 exact none_joinO _
theorem item5_y {x : Itm} (h : x.kind = 5 ∨ x.kind = 6) (hb : bareP (itemD x)) : joinO [be 1 x.kind, (objectO x.object).getD []] (objectO x.object).isSome = itemO x := by
 unfold itemO itemGood itemP
 rw [if_neg (by omega), if_neg (by omega), if_neg (by omega), if_pos h, if_neg (by omega), if_neg (by omega), if_neg (by omega), decide_eq_true ⟨hb.1, hb.2.1, hb.2.2.1, hb.2.2.2.1⟩, Bool.and_true]
theorem item0_n {x : Itm} (h1 : x.kind ≠ 1) (h2 : x.kind ≠ 2) (h3 : x.kind ≠ 3) (h4 : x.kind ≠ 4) (h5 : x.kind ≠ 5) (h6 : x.kind ≠ 6) : none = itemO x := by
 unfold itemO itemGood
 rw [if_neg h1, if_neg (by omega), if_neg h3, if_neg (by omega)]
 exact none_joinO _

/-! What bytes are read as. -/
abbrev itemK (a : List (List UInt8)) : Nat := takeN a 1
/-- The item that is read, if the pieces behind the first one fit. -/
def itemR (l : List UInt8) : Option Itm :=
  let a := openP l
  let b := a.drop 1
  let c := b.drop 1
  if ¬ fitsP [some 1] a then none
  else if itemK a = 1 then (if a.length = 2 then (letterR (nextP b)).map fun y => ⟨1, 0, 0, y, bundle0, object0⟩ else none)
  else if itemK a = 2 ∨ itemK a = 4 then (if fitsP [some 1, some 1, some 1] a ∧ a.length = 3 then some ⟨itemK a, takeN b 1, takeN c 1, letter0, bundle0, object0⟩ else none)
  else if itemK a = 3 then (if fitsP [some 1, some 1, none] a ∧ a.length = 3 then (bundleR (nextP c)).map fun y => ⟨3, takeN b 1, 0, letter0, y, object0⟩ else none)
  else if itemK a = 5 ∨ itemK a = 6 then (if a.length = 2 then (objectR (nextP b)).map fun y => ⟨itemK a, 0, 0, letter0, bundle0, y⟩ else none)
  else none
/-- The error's number. -/
def itemW (l : List UInt8) : Nat :=
  if (itemR l).isSome then 0
  else if fitsP [some 1] (openP l) ∧ (itemK (openP l) = 0 ∨ 6 < itemK (openP l)) then 140 else 141
theorem be_ofN {p : List UInt8} {r : List (List UInt8)} (h : p.length = 1) : be 1 (takeN (p :: r) 1) = p := by rw [takeN_cons h, be_take h]
theorem itemR_some {l : List UInt8} {x : Itm} (h : itemR l = some x) : x.ok ∧ itemO x = some l := by
 unfold itemR at h
 simp only at h
 split at h
 ·cases h
 ·rename_i hf
  have hf : fitsP [some 1] (openP l) := Decidable.not_not.1 hf
  have hne : openP l ≠ [] := fun e => by rw [e] at hf; exact hf.elim
  obtain ⟨hj1, hj2⟩ := join_open hne
  have hk := takeN_lt (openP l) 1
  split at h
  ·rename_i hk1
   split at h
   ·rename_i hl
    obtain ⟨y, hy, rfl⟩ := Option.map_eq_some_iff.1 h
    obtain ⟨hy1, hy2⟩ := letterR_iff.1 hy
    refine ⟨⟨(by decide : 1 < 256), (by decide : 0 < 256), (by decide : 0 < 256), hy1, bundle0_ok, object0_ok⟩, ?_⟩
    rw [← item1_y rfl ⟨rfl, rfl, rfl, rfl, rfl⟩]
    simp only [hy2, Option.getD_some, Option.isSome_some]
    have e : [be 1 1, nextP ((openP l).drop 1)] = openP l := by
     generalize openP l = ps at *
     match ps, hl with
     | [a, b], _ =>
      have ha := hf.1 1 rfl
      have : be 1 (takeN [a, b] 1) = a := be_ofN ha
      rw [show takeN [a, b] 1 = 1 from hk1] at this
      rw [this]; rfl
    rw [e, joinO_some hj1 rfl, hj2]
   ·cases h
  ·rename_i hk1
   split at h
   ·rename_i hk2
    split at h
    ·rename_i hl
     cases h
     refine ⟨⟨hk, takeN_lt _ 1, takeN_lt _ 1, letter0_ok, bundle0_ok, object0_ok⟩, ?_⟩
     rw [← item2_y hk2 ⟨rfl, rfl, rfl, rfl, rfl⟩]
     have e : [be 1 (itemK (openP l)), be 1 (takeN ((openP l).drop 1) 1), be 1 (takeN (((openP l).drop 1).drop 1) 1)] = openP l := by
      generalize openP l = ps at *
      match ps, hl with
      | [a, b, c], hl =>
       obtain ⟨⟨h1, h2, h3, _⟩, _⟩ := hl
       have e1 : be 1 (takeN [a, b, c] 1) = a := be_ofN (h1 1 rfl)
       have e2 : be 1 (takeN [b, c] 1) = b := be_ofN (h2 1 rfl)
       have e3 : be 1 (takeN [c] 1) = c := be_ofN (h3 1 rfl)
       show [be 1 (takeN [a, b, c] 1), be 1 (takeN [b, c] 1), be 1 (takeN [c] 1)] = _
       rw [e1, e2, e3]
      | [], hl => exact absurd hl.2 (by simp)
      | [_], hl => exact absurd hl.2 (by simp)
      | [_, _], hl => exact absurd hl.2 (by simp)
      | _ :: _ :: _ :: _ :: _, hl => exact absurd hl.2 (by simp)
     rw [e, joinO_some hj1 rfl, hj2]
    ·cases h
   ·rename_i hk2
    split at h
    ·rename_i hk3
     split at h
     ·rename_i hl
      obtain ⟨y, hy, rfl⟩ := Option.map_eq_some_iff.1 h
      obtain ⟨hy1, hy2⟩ := bundleR_iff.1 hy
      refine ⟨⟨(by decide : 3 < 256), takeN_lt _ 1, (by decide : 0 < 256), letter0_ok, hy1, object0_ok⟩, ?_⟩
      rw [← item3_y rfl ⟨rfl, rfl, rfl, rfl, rfl⟩]
      simp only [hy2]
      have e : [be 1 3, be 1 (takeN ((openP l).drop 1) 1), nextP (((openP l).drop 1).drop 1)] = openP l := by
       generalize openP l = ps at *
       match ps, hl with
       | [a, b, c], hl =>
        obtain ⟨⟨h1, h2, _⟩, _⟩ := hl
        have e1 : be 1 (takeN [a, b, c] 1) = a := be_ofN (h1 1 rfl)
        have e2 : be 1 (takeN [b, c] 1) = b := be_ofN (h2 1 rfl)
        rw [show takeN [a, b, c] 1 = 3 from hk3] at e1
        show [be 1 3, be 1 (takeN [b, c] 1), c] = _
        rw [e1, e2]
       | [], hl => exact absurd hl.2 (by simp)
       | [_], hl => exact absurd hl.2 (by simp)
       | [_, _], hl => exact absurd hl.2 (by simp)
       | _ :: _ :: _ :: _ :: _, hl => exact absurd hl.2 (by simp)
      rw [e, joinO_some hj1 rfl, hj2]
     ·cases h
    ·rename_i hk3
     split at h
     ·rename_i hk5
      split at h
      ·rename_i hl
       obtain ⟨y, hy, rfl⟩ := Option.map_eq_some_iff.1 h
       obtain ⟨hy1, hy2⟩ := objectR_iff.1 hy
       refine ⟨⟨hk, (by decide : 0 < 256), (by decide : 0 < 256), letter0_ok, bundle0_ok, hy1⟩, ?_⟩
       rw [← item5_y hk5 ⟨rfl, rfl, rfl, rfl, rfl⟩]
       simp only [hy2, Option.getD_some, Option.isSome_some]
       have e : [be 1 (itemK (openP l)), nextP ((openP l).drop 1)] = openP l := by
        generalize openP l = ps at *
        match ps, hl with
        | [a, b], _ =>
         have : be 1 (takeN [a, b] 1) = a := be_ofN (hf.1 1 rfl)
         show [be 1 (takeN [a, b] 1), b] = _
         rw [this]
       rw [e, joinO_some hj1 rfl, hj2]
      ·cases h
     ·cases h
theorem itemR_of {l : List UInt8} {x : Itm} (h : x.ok) (h2 : itemO x = some l) : itemR l = some x := by
 obtain ⟨hj, hg, rfl⟩ := joinO_eq h2
 obtain ⟨k, a, p, y, b, o⟩ := x
 have hk := h.kind; have ha := h.asker; have hp := h.peer
 simp only at hk ha hp
 have hkn : ∀ r, takeN (be 1 k :: r) 1 = k := fun r => by rw [takeN_cons (be_length 1 k), num_be' (by omega)]
 have hfk : ∀ r, fitsP [some 1] (be 1 k :: r) := fun r => ⟨fun n e => by cases e; exact be_length _ _, trivial⟩
 unfold itemR
 rw [open_join hj]
 unfold itemGood at hg
 simp only at hg
 by_cases h1 : k = 1
 ·subst h1
  rw [if_pos rfl] at hg
  simp only [Bool.and_eq_true, decide_eq_true_eq] at hg
  obtain ⟨hs, rfl, rfl, rfl, rfl⟩ := hg
  obtain ⟨t, ht⟩ := Option.isSome_iff_exists.1 hs
  have e : itemP ⟨1, 0, 0, y, bundle0, object0⟩ = [be 1 1, t] := by unfold itemP; rw [if_pos rfl, ht]; rfl
  rw [e]
  simp only
  rw [if_neg (not_not_intro (hfk _)), if_pos (hkn _), if_pos (show [be 1 1, t].length = 2 from rfl)]
  rw [show nextP (List.drop 1 [be 1 1, t]) = t from rfl, letterR_iff.2 ⟨h.letter, ht⟩]; rfl
 ·rw [if_neg h1] at hg
  by_cases h2' : k = 2 ∨ k = 4
  ·rw [if_pos h2'] at hg
   simp only [decide_eq_true_eq] at hg
   obtain ⟨rfl, rfl, rfl⟩ := hg
   have e : itemP ⟨k, a, p, letter0, bundle0, object0⟩ = [be 1 k, be 1 a, be 1 p] := by unfold itemP; rw [if_neg h1, if_pos h2']
   rw [e]
   simp only
   have hkk : itemK [be 1 k, be 1 a, be 1 p] = k := hkn _
   rw [if_neg (not_not_intro (hfk _)), if_neg (by rw [hkk]; exact h1), if_pos (by rw [hkk]; exact h2'), if_pos ⟨⟨fun n e => by cases e; exact be_length _ _, fun n e => by cases e; exact be_length _ _, fun n e => by cases e; exact be_length _ _, trivial⟩, rfl⟩, hkk]
   show some (Itm.mk k (takeN [be 1 a, be 1 p] 1) (takeN [be 1 p] 1) _ _ _) = _
   rw [takeN_cons (be_length 1 a), takeN_cons (be_length 1 p), num_be' (by omega), num_be' (by omega)]
  ·rw [if_neg h2'] at hg
   by_cases h3 : k = 3
   ·subst h3
    rw [if_pos rfl] at hg
    simp only [decide_eq_true_eq] at hg
    obtain ⟨rfl, rfl, rfl⟩ := hg
    have e : itemP ⟨3, a, 0, letter0, b, object0⟩ = [be 1 3, be 1 a, bundleB b] := by unfold itemP; rw [if_neg h1, if_neg h2', if_pos rfl]
    rw [e]
    simp only
    have hkk : itemK [be 1 3, be 1 a, bundleB b] = 3 := hkn _
    rw [if_neg (not_not_intro (hfk _)), if_neg (by rw [hkk]; exact h1), if_neg (by rw [hkk]; exact h2'), if_pos hkk, if_pos ⟨⟨fun n e => by cases e; exact be_length _ _, fun n e => by cases e; exact be_length _ _, fun n e => (by cases e), trivial⟩, rfl⟩]
    rw [show nextP (List.drop 1 (List.drop 1 [be 1 3, be 1 a, bundleB b])) = bundleB b from rfl, bundleR_iff.2 ⟨h.bundle, rfl⟩]
    show some (Itm.mk 3 (takeN [be 1 a, bundleB b] 1) _ _ _ _) = _
    rw [takeN_cons (be_length 1 a), num_be' (by omega)]
   ·rw [if_neg h3] at hg
    by_cases h5 : k = 5 ∨ k = 6
    ·rw [if_pos h5] at hg
     simp only [Bool.and_eq_true, decide_eq_true_eq] at hg
     obtain ⟨hs, rfl, rfl, rfl, rfl⟩ := hg
     obtain ⟨t, ht⟩ := Option.isSome_iff_exists.1 hs
     have e : itemP ⟨k, 0, 0, letter0, bundle0, o⟩ = [be 1 k, t] := by unfold itemP; rw [if_neg h1, if_neg h2', if_neg h3, ht]; rfl
     rw [e]
     simp only
     have hkk : itemK [be 1 k, t] = k := hkn _
     rw [if_neg (not_not_intro (hfk _)), if_neg (by rw [hkk]; exact h1), if_neg (by rw [hkk]; exact h2'), if_neg (by rw [hkk]; exact h3), if_pos (by rw [hkk]; exact h5), if_pos (show [be 1 k, t].length = 2 from rfl), hkk]
     rw [show nextP (List.drop 1 [be 1 k, t]) = t from rfl, objectR_iff.2 ⟨h.object, ht⟩]; rfl
    ·rw [if_neg h5] at hg; cases hg
theorem itemR_iff {l : List UInt8} {x : Itm} : itemR l = some x ↔ x.ok ∧ itemO x = some l := ⟨itemR_some, fun h => itemR_of h.1 h.2⟩
theorem itemR_ok (l : List UInt8) : ((itemR l).getD item0).ok := by
 cases h : itemR l with
 | none => exact item0_ok
 | some x => exact (itemR_iff.1 h).1
end Go.Pl

/- Items as cells. -/
namespace Go.Proofs.Ytcfecmoagfgnaaa
open Go.Vc Go.Pl

abbrev itemV (x : Itm) (p : Option Addr) (c : Nat) (q : Option Addr) (d : Nat) : List (List Value) := [[.int .u8 x.kind], [.int .u8 x.asker], [.int .u8 x.peer], [.int .u8 x.letter.src], [.int .u8 x.letter.dst], x.letter.header.session.map bv, [.bool x.letter.header.first], x.letter.header.agree.map bv, x.letter.header.signer.map bv, x.letter.header.base.map bv, [.int .u16 x.letter.header.id], x.letter.header.ratchet.map bv, [.int .u16 x.letter.header.n], [.int .u16 x.letter.header.prev], [.slice p x.letter.body.length c], [.int .u8 x.bundle.device], x.bundle.agree.map bv, x.bundle.signer.map bv, [.int .u16 x.bundle.id], x.bundle.once.map bv, x.bundle.sig.map bv, [.int .u8 x.object.server], [.int .u8 x.object.n], x.object.key.map bv, [.int .u32 x.object.since], [.int .u32 x.object.till], x.object.sig.map bv, [.slice q x.object.vouches.length d]]
abbrev itemL : List Nat := [1, 1, 1, 1, 1, 32, 1, 32, 32, 32, 1, 32, 1, 1, 1, 1, 32, 32, 1, 32, 64, 1, 1, 32, 1, 1, 64, 1]
theorem zero87 : (Try.prog.info? 87).bind (·.zero) = some (.agg (cat (itemV item0 none 0 none 0)).toArray) := by kernel_rfl
theorem built87 : Try.prog.built 87 [] = some (cat (itemV item0 none 0 none 0)).toArray := by kernel_rfl
abbrev itemZ : List (List Value) := [[.int .u8 0], [.int .u8 0], [.int .u8 0], cat (letterV letter0 none 0), cat (bundleV bundle0), cat (objectV object0 none 0)]
abbrev itemFL : List Nat := [1, 1, 1, 167, 162, 101]
theorem plan87 : planOf Try.prog 87 = some (placesL 0 itemFL, (cat itemZ).toArray) := by kernel_rfl
theorem itemV_len {x : Itm} (h : x.ok) {p : Option Addr} {c : Nat} {q : Option Addr} {d : Nat} : (itemV x p c q d).map List.length = itemL := by simp [h.letter.header.session, h.letter.header.agree, h.letter.header.signer, h.letter.header.base, h.letter.header.ratchet, h.bundle.agree, h.bundle.signer, h.bundle.once, h.bundle.sig, h.object.key, h.object.sig]
theorem itemV_ok1 (x : Itm) (p : Option Addr) (c : Nat) (q : Option Addr) (d : Nat) : ok1 (cat (itemV x p c q d)) := by
 intro u hu
 rw [cat_eq] at hu
 simp only [List.mem_flatten, List.mem_cons, List.not_mem_nil, or_false] at hu
 obtain ⟨l, hl, hu⟩ := hu
 rcases hl with rfl | rfl | rfl | rfl | rfl | rfl | rfl | rfl | rfl | rfl | rfl | rfl | rfl | rfl | rfl | rfl | rfl | rfl | rfl | rfl | rfl | rfl | rfl | rfl | rfl | rfl | rfl | rfl <;> first | (simp only [List.mem_singleton] at hu; subst hu; rfl) | exact ok1_bytes _ u hu
end Go.Proofs.Ytcfecmoagfgnaaa

/- wire: bytes of items. -/
namespace Go.Proofs.Ytcfecmoagfgnaaa
open Go.Vc Go.Pl

theorem bare_w {S : List Snap} {H : List Chunk} {w : World} (ho : Own S H w) {x : Itm} (hx : x.ok) {p : Option Addr} {c : Nat} {q : Option Addr} {d : Nat} : Calls Try.prog 127 #[.agg (cat (itemV x p c q d)).toArray] w (Ret fun v w' => ∃ b : Bool, v = .bool b ∧ (b = true ↔ bareP x) ∧ Own S H w') := by
 refine enter (G := Own (⟨w, keys H⟩ :: S) H) ho.keep Try.func127 rfl Try.ntmps127 rfl ?_
 refine VC.sr ?_
 refine VL.box (L := itemL) (ps := (itemV (x) p c q d)) rfl rfl (itemV_len hx) (fun g1 => ?_)
 refine VL.assign rfl ?_
 refine VL.nn ?_
 refine VC.sr ?_
 refine VL.fieldAddr rfl fo87_1 rfl ?_
 refine VL.load (v := .int .u8 (x.asker)) 0 1 rfl kd5 (fun _ h => h) rfl rfl rfl ?_
 refine VL.eql rfl rfl ?_
 refine VL.case (fun h1_2 => ?_) (fun h1_2 => ?_)
 ·have h1_2 : x.asker = 0 := by omega
  refine VL.move rfl ?_
  refine VL.go rfl rfl rfl ?_
  refine VL.fieldAddr rfl fo87_2 rfl ?_
  refine VL.go rfl rfl rfl ?_
  refine VL.load (v := .int .u8 (x.peer)) 0 2 rfl kd5 (fun _ h => h) rfl rfl rfl ?_
  refine VL.go rfl rfl rfl ?_
  refine VL.eql rfl rfl ?_
  refine VL.case (fun h1_6 => ?_) (fun h1_6 => ?_)
  ·have h1_6 : x.peer = 0 := by omega
   refine VL.pick_t rfl rfl ?_
   refine VL.move rfl ?_
   refine VL.go rfl rfl rfl ?_
   refine VL.fieldAddr rfl fo87_3 rfl ?_
   refine VL.go rfl rfl rfl ?_
   refine VL.loads (cs := cat (letterV (x.letter) p c)) 0 3 12 rfl kd72 (fun _ h => h) rfl rfl rfl rfl ?_
   refine VL.go rfl rfl rfl ?_
   refine VL.call Try.func138 rfl (by decide) rfl (fun w' hw => emptyLetter_w hw (x := x.letter) hx.letter) (fun v => ?_)
   refine VL.ex fun b => VL.fact fun e => VL.fact fun h1_11 => ?_
   subst e
   cases b
   ·have h1_11 := mt h1_11.2 (by decide)
    refine VL.pick_t rfl rfl ?_
    refine VL.move rfl ?_
    refine VL.pass rfl rfl rfl rfl rfl ?_
    refine VL.pass rfl rfl rfl rfl rfl ?_
    refine VL.pass rfl rfl rfl rfl rfl ?_
    refine VL.pass rfl rfl rfl rfl rfl ?_
    refine VL.pick_f rfl rfl ?_
    refine VL.move rfl ?_
    refine VL.pass rfl rfl rfl rfl rfl ?_
    refine VL.pass rfl rfl rfl rfl rfl ?_
    refine VL.pass rfl rfl rfl rfl rfl ?_
    refine VL.pick_f rfl rfl ?_
    refine VL.assign rfl ?_
    refine VL.nn ?_
    refine VC.ret ?_
    refine VX.ret1 rfl rfl (fun we hw => ?_)
    refine ⟨false, rfl, ?_, hw.drop.subA⟩
    unfold bareP
    simp [h1_2, h1_6, h1_11]
   ·have h1_11 := h1_11.1 rfl
    refine VL.pick_t rfl rfl ?_
    refine VL.move rfl ?_
    refine VL.go rfl rfl rfl ?_
    refine VL.fieldAddr rfl fo87_4 rfl ?_
    refine VL.go rfl rfl rfl ?_
    refine VL.loads (cs := cat (bundleV (x.bundle))) 0 15 6 rfl kd82 (fun _ h => h) rfl rfl rfl rfl ?_
    refine VL.go rfl rfl rfl ?_
    refine VL.build0 (cs := cat (bundleV (bundle0))) built82 ?_
    refine VL.go rfl rfl rfl ?_
    refine VL.eqT guard82 rfl rfl (eqBundle hx.bundle bundle0_ok) (fun b h1_17 => ?_)
    cases b
    ·have h1_17 := mt h1_17.2 (by decide)
     refine VL.pick_t rfl rfl ?_
     refine VL.move rfl ?_
     refine VL.pass rfl rfl rfl rfl rfl ?_
     refine VL.pass rfl rfl rfl rfl rfl ?_
     refine VL.pass rfl rfl rfl rfl rfl ?_
     refine VL.pick_f rfl rfl ?_
     refine VL.assign rfl ?_
     refine VL.nn ?_
     refine VC.ret ?_
     refine VX.ret1 rfl rfl (fun we hw => ?_)
     refine ⟨false, rfl, ?_, hw.drop.subA⟩
     unfold bareP
     simp [h1_2, h1_6, h1_11, h1_17]
    ·have h1_17 := h1_17.1 rfl
     refine VL.pick_t rfl rfl ?_
     refine VL.move rfl ?_
     refine VL.go rfl rfl rfl ?_
     refine VL.fieldAddr rfl fo87_5 rfl ?_
     refine VL.go rfl rfl rfl ?_
     refine VL.loads (cs := cat (objectV (x.object) q d)) 0 21 7 rfl kd85 (fun _ h => h) rfl rfl rfl rfl ?_
     refine VL.go rfl rfl rfl ?_
     refine VL.call Try.func163 rfl (by decide) rfl (fun w' hw => emptyObject_w hw (x := x.object) hx.object) (fun v => ?_)
     refine VL.ex fun b => VL.fact fun e => VL.fact fun h1_22 => ?_
     subst e
     cases b
     ·have h1_22 := mt h1_22.2 (by decide)
      refine VL.pick_t rfl rfl ?_
      refine VL.assign rfl ?_
      refine VL.nn ?_
      refine VC.ret ?_
      refine VX.ret1 rfl rfl (fun we hw => ?_)
      refine ⟨false, rfl, ?_, hw.drop.subA⟩
      unfold bareP
      simp [h1_2, h1_6, h1_11, h1_17, h1_22]
     ·have h1_22 := h1_22.1 rfl
      refine VL.pick_t rfl rfl ?_
      refine VL.assign rfl ?_
      refine VL.nn ?_
      refine VC.ret ?_
      refine VX.ret1 rfl rfl (fun we hw => ?_)
      refine ⟨true, rfl, ?_, hw.drop.subA⟩
      unfold bareP
      simp [h1_2, h1_6, h1_11, h1_17, h1_22]
  ·have h1_6 : ¬ x.peer = 0 := by omega
   refine VL.pick_t rfl rfl ?_
   refine VL.move rfl ?_
   refine VL.pass rfl rfl rfl rfl rfl ?_
   refine VL.pass rfl rfl rfl rfl rfl ?_
   refine VL.pass rfl rfl rfl rfl rfl ?_
   refine VL.pick_f rfl rfl ?_
   refine VL.move rfl ?_
   refine VL.pass rfl rfl rfl rfl rfl ?_
   refine VL.pass rfl rfl rfl rfl rfl ?_
   refine VL.pass rfl rfl rfl rfl rfl ?_
   refine VL.pass rfl rfl rfl rfl rfl ?_
   refine VL.pick_f rfl rfl ?_
   refine VL.move rfl ?_
   refine VL.pass rfl rfl rfl rfl rfl ?_
   refine VL.pass rfl rfl rfl rfl rfl ?_
   refine VL.pass rfl rfl rfl rfl rfl ?_
   refine VL.pick_f rfl rfl ?_
   refine VL.assign rfl ?_
   refine VL.nn ?_
   refine VC.ret ?_
   refine VX.ret1 rfl rfl (fun we hw => ?_)
   refine ⟨false, rfl, ?_, hw.drop.subA⟩
   unfold bareP
   simp [h1_2, h1_6]
 ·have h1_2 : ¬ x.asker = 0 := by omega
  refine VL.move rfl ?_
  refine VL.pass rfl rfl rfl rfl rfl ?_
  refine VL.pass rfl rfl rfl rfl rfl ?_
  refine VL.pass rfl rfl rfl rfl rfl ?_
  refine VL.pick_f rfl rfl ?_
  refine VL.move rfl ?_
  refine VL.pass rfl rfl rfl rfl rfl ?_
  refine VL.pass rfl rfl rfl rfl rfl ?_
  refine VL.pass rfl rfl rfl rfl rfl ?_
  refine VL.pick_f rfl rfl ?_
  refine VL.move rfl ?_
  refine VL.pass rfl rfl rfl rfl rfl ?_
  refine VL.pass rfl rfl rfl rfl rfl ?_
  refine VL.pass rfl rfl rfl rfl rfl ?_
  refine VL.pass rfl rfl rfl rfl rfl ?_
  refine VL.pick_f rfl rfl ?_
  refine VL.move rfl ?_
  refine VL.pass rfl rfl rfl rfl rfl ?_
  refine VL.pass rfl rfl rfl rfl rfl ?_
  refine VL.pass rfl rfl rfl rfl rfl ?_
  refine VL.pick_f rfl rfl ?_
  refine VL.assign rfl ?_
  refine VL.nn ?_
  refine VC.ret ?_
  refine VX.ret1 rfl rfl (fun we hw => ?_)
  refine ⟨false, rfl, ?_, hw.drop.subA⟩
  unfold bareP
  simp [h1_2]

theorem putItem_w {S : List Snap} {H : List Chunk} {w : World} (ho : Own S H w) {x : Itm} (hx : x.ok) {p : Option Addr} {c : Nat} (hA : Bytes (keys H) w p x.letter.body c) {q : Option Addr} {d : Nat} (hV : Arr 65 vouchR (keys H) w q x.object.vouches d) : Calls Try.prog 56 #[.agg (cat (itemV x p c q d)).toArray] w (RetO S H (itemO x)) := by
 have hx1 := hx.kind
 have hx2 := hx.asker
 have hx3 := hx.peer
 refine enter (G := Own (⟨w, keys H⟩ :: S) H) ho.keep Try.func56 rfl Try.ntmps56 rfl ?_
 refine VC.sr ?_
 refine VL.box (L := itemL) (ps := (itemV (x) p c q d)) rfl rfl (itemV_len hx) (fun g1 => ?_)
 refine VL.assign rfl ?_
 refine VL.assign rfl ?_
 refine VL.nn ?_
 refine VC.sr ?_
 refine VL.build (zs := [[.slice none 0 0], [.bool false]]) [] plan181 rfl trivial rfl ?_
 refine VL.box (L := [1, 1]) (ps := [[rowV none 0 0], [.bool false]]) rfl rfl rfl (fun g2 => ?_)
 refine VL.turn (fun w' hw => Own.newW hw) ?_
 refine VL.assign rfl ?_
 refine VL.nn ?_
 refine VC.sr ?_
 refine VL.move rfl ?_
 refine VL.fieldAddr rfl fo87_0 rfl ?_
 refine VL.load (v := .int .u8 (x.kind)) 2 0 rfl kd5 (fun _ h => h) rfl rfl rfl ?_
 refine VL.conv (by rw [Try.underlying5]; rfl) Try.underlying22 rfl (inr_u64 (by omega)) ?_
 refine VL.call Try.func116 rfl (by decide) rfl (fun w' hw => num_w hw (by simp only [List.length_append, List.length_cons, List.length_nil, List.length_map]; omega) (x.kind) (fits_small (by omega)) 1 (by decide) (by decide) (fits1 (by omega))) (fun v => ?_)
 refine VL.fact fun e5 => ?_
 subst e5
 refine VL.ex fun gp3 => VL.ex fun c4 => ?_
 refine VL.nn ?_
 refine VC.seq ?_
 refine VC.sr ?_
 refine VL.fieldAddr rfl fo87_0 rfl ?_
 refine VL.load (v := .int .u8 (x.kind)) 2 0 rfl kd5 (fun _ h => h) rfl rfl rfl ?_
 refine VL.nn ?_
 refine VC.block ?_
 refine VC.sr ?_
 refine VL.eql rfl rfl ?_
 refine VL.case (fun h5_0 => ?_) (fun h5_0 => ?_)
 ·have h5_0 : x.kind = 1 := by omega
  refine VL.assign rfl ?_
  refine VL.nn ?_
  refine VC.yes rfl ?_
  refine VC.sr ?_
  refine VL.move rfl ?_
  refine VL.fieldAddr rfl fo87_3 rfl ?_
  refine VL.loads (cs := cat (letterV (x.letter) p c)) 2 3 12 rfl kd72 (fun _ h => h) rfl rfl rfl rfl ?_
  refine VL.call Try.func50 rfl (by decide) rfl (fun w' hw => putLetter_w hw (x := x.letter) hx.letter (hA.nowA (s := ⟨w, _⟩) Mono.byte hw)) (fun v => ?_)
  refine VL.at (fun w6 h1w => ?_)
  obtain ⟨p7, c8, rfl, hO10, hA9⟩ := h1w
  refine VL.toOwn hO10 ?_
  refine VL.extract rfl rfl ?_
  refine VL.extract rfl rfl ?_
  refine VL.call Try.func117 rfl (by decide) rfl (fun w' hw => piece_w hw (by simp only [List.length_append, List.length_cons, List.length_nil, List.length_map]; omega) (hA9.nowA (s := ⟨w6, _⟩) Mono.byte hw) (((letterO (x.letter)).isSome))) (fun v => ?_)
  refine VL.fact fun e13 => ?_
  subst e13
  refine VL.ex fun gp11 => VL.ex fun c12 => ?_
  refine VL.nn ?_
  refine VC.region ?_
  refine VL.build0 (cs := cat (letterV (letter0) none 0)) built72 ?_
  refine VL.fieldAddr rfl fo87_3 rfl ?_
  refine VL.store (L := itemL) (qs := (letterV (letter0) none 0)) 2 3 12 rfl rfl rfl (.inl kd72) rfl rfl rfl (letterV_ok1 letter0 none 0) rfl rfl ?_
  refine VL.set2 ?_
  refine VL.nil ?_
  refine VX.block_normal ?_
  refine VX.next ?_
  refine VC.seq ?_
  refine VC.sr ?_
  refine VL.loads (cs := cat (itemV ((itemA x)) none 0 q d)) 2 0 28 rfl kd87 (fun _ h => h) rfl rfl rfl rfl ?_
  refine VL.call Try.func127 rfl (by decide) rfl (fun w' hw => bare_w hw (x := (itemA x)) (itemA_ok hx)) (fun v => ?_)
  refine VL.ex fun b => VL.fact fun e => VL.fact fun h21_1 => ?_
  subst e
  cases b
  ·have h21_1 := mt h21_1.2 (by decide)
   refine VL.not rfl ?_
   refine VL.nn ?_
   refine VC.yes rfl ?_
   refine VC.sr ?_
   refine VL.assign rfl ?_
   refine VL.assign rfl ?_
   refine VL.nn ?_
   refine VC.ret ?_
   refine VX.then_ret ?_
   refine VX.ret2 rfl rfl rfl (fun we hw => ?_)
   exact postO ((item1_n h5_0 h21_1)) ⟨none, 0, rfl, hw.drop.drop.drop.subA, Arr.none⟩
  ·have h21_1 := h21_1.1 rfl
   refine VL.not rfl ?_
   refine VL.nn ?_
   refine VC.no rfl ?_
   refine VC.skip ?_
   refine VX.next ?_
   refine VC.sr ?_
   refine VL.move rfl ?_
   refine VL.call Try.func118 rfl (by decide) rfl (fun w' hw => done_O hw) (fun v => ?_)
   refine VL.at (fun w14 h1w => ?_)
   obtain ⟨p15, c16, rfl, hO18, hA17⟩ := h1w
   refine VL.toOwn hO18 ?_
   refine VL.extract rfl rfl ?_
   refine VL.extract rfl rfl ?_
   refine VL.assign rfl ?_
   refine VL.assign rfl ?_
   refine VL.nn ?_
   refine VC.ret ?_
   refine VX.ret2 rfl rfl rfl (fun we hw => ?_)
   exact postO (((by cases hs : (letterO x.letter).isSome <;> rfl : joinO ([be 1 x.kind, (letterO x.letter).getD []]) (!(false || !(letterO x.letter).isSome)) = joinO [be 1 x.kind, (letterO x.letter).getD []] (letterO x.letter).isSome).trans (item1_y h5_0 h21_1))) ⟨p15, c16, rfl, hw.drop.subA, (hA17.nowA (s := ⟨w14, _⟩) Mono.byte hw.drop)⟩
 ·have h5_0 : x.kind ≠ 1 := by omega
  refine VL.assign rfl ?_
  refine VL.nn ?_
  refine VC.no rfl ?_
  refine VC.seq ?_
  refine VC.sr ?_
  refine VL.eql rfl rfl ?_
  refine VL.case (fun h8_0 => ?_) (fun h8_0 => ?_)
  ·have h8_0 : x.kind = 2 := by omega
   refine VL.assign rfl ?_
   refine VL.nn ?_
   refine VC.yes rfl ?_
   refine VC.skip ?_
   refine VX.next ?_
   refine VC.yes rfl ?_
   refine VC.sr ?_
   refine VL.move rfl ?_
   refine VL.fieldAddr rfl fo87_1 rfl ?_
   refine VL.load (v := .int .u8 (x.asker)) 2 1 rfl kd5 (fun _ h => h) rfl rfl rfl ?_
   refine VL.conv (by rw [Try.underlying5]; rfl) Try.underlying22 rfl (inr_u64 (by omega)) ?_
   refine VL.call Try.func116 rfl (by decide) rfl (fun w' hw => num_w hw (by simp only [List.length_append, List.length_cons, List.length_nil, List.length_map]; omega) (x.asker) (fits_small (by omega)) 1 (by decide) (by decide) (fits1 (by omega))) (fun v => ?_)
   refine VL.fact fun e21 => ?_
   subst e21
   refine VL.ex fun gp19 => VL.ex fun c20 => ?_
   refine VL.nn ?_
   refine VC.sr ?_
   refine VL.move rfl ?_
   refine VL.fieldAddr rfl fo87_2 rfl ?_
   refine VL.load (v := .int .u8 (x.peer)) 2 2 rfl kd5 (fun _ h => h) rfl rfl rfl ?_
   refine VL.conv (by rw [Try.underlying5]; rfl) Try.underlying22 rfl (inr_u64 (by omega)) ?_
   refine VL.call Try.func116 rfl (by decide) rfl (fun w' hw => num_w hw (by simp only [List.length_append, List.length_cons, List.length_nil, List.length_map]; omega) (x.peer) (fits_small (by omega)) 1 (by decide) (by decide) (fits1 (by omega))) (fun v => ?_)
   refine VL.fact fun e24 => ?_
   subst e24
   refine VL.ex fun gp22 => VL.ex fun c23 => ?_
   refine VL.nn ?_
   refine VC.region ?_
   refine VL.fieldAddr rfl fo87_1 rfl ?_
   refine VL.store (L := itemL) (qs := [[.int .u8 (0)]]) 2 1 1 rfl rfl rfl (.inr ⟨kd5, rfl⟩) rfl rfl rfl (by intro u hu; simp [cat] at hu; subst hu; rfl) rfl rfl ?_
   refine VL.set2 ?_
   refine VL.fieldAddr rfl fo87_2 rfl ?_
   refine VL.store (L := itemL) (qs := [[.int .u8 (0)]]) 2 2 1 rfl rfl rfl (.inr ⟨kd5, rfl⟩) rfl rfl rfl (by intro u hu; simp [cat] at hu; subst hu; rfl) rfl rfl ?_
   refine VL.set2 ?_
   refine VL.nil ?_
   refine VX.block_normal ?_
   refine VX.next ?_
   refine VC.seq ?_
   refine VC.sr ?_
   refine VL.loads (cs := cat (itemV ((itemB x)) p c q d)) 2 0 28 rfl kd87 (fun _ h => h) rfl rfl rfl rfl ?_
   refine VL.call Try.func127 rfl (by decide) rfl (fun w' hw => bare_w hw (x := (itemB x)) (itemB_ok hx)) (fun v => ?_)
   refine VL.ex fun b => VL.fact fun e => VL.fact fun h21_1 => ?_
   subst e
   cases b
   ·have h21_1 := mt h21_1.2 (by decide)
    refine VL.not rfl ?_
    refine VL.nn ?_
    refine VC.yes rfl ?_
    refine VC.sr ?_
    refine VL.assign rfl ?_
    refine VL.assign rfl ?_
    refine VL.nn ?_
    refine VC.ret ?_
    refine VX.then_ret ?_
    refine VX.ret2 rfl rfl rfl (fun we hw => ?_)
    exact postO ((item2_n (.inl h8_0) h21_1)) ⟨none, 0, rfl, hw.drop.drop.drop.subA, Arr.none⟩
   ·have h21_1 := h21_1.1 rfl
    refine VL.not rfl ?_
    refine VL.nn ?_
    refine VC.no rfl ?_
    refine VC.skip ?_
    refine VX.next ?_
    refine VC.sr ?_
    refine VL.move rfl ?_
    refine VL.call Try.func118 rfl (by decide) rfl (fun w' hw => done_O hw) (fun v => ?_)
    refine VL.at (fun w25 h1w => ?_)
    obtain ⟨p26, c27, rfl, hO29, hA28⟩ := h1w
    refine VL.toOwn hO29 ?_
    refine VL.extract rfl rfl ?_
    refine VL.extract rfl rfl ?_
    refine VL.assign rfl ?_
    refine VL.assign rfl ?_
    refine VL.nn ?_
    refine VC.ret ?_
    refine VX.ret2 rfl rfl rfl (fun we hw => ?_)
    exact postO ((item2_y (.inl h8_0) h21_1)) ⟨p26, c27, rfl, hw.drop.subA, (hA28.nowA (s := ⟨w25, _⟩) Mono.byte hw.drop)⟩
  ·have h8_0 : x.kind ≠ 2 := by omega
   refine VL.assign rfl ?_
   refine VL.nn ?_
   refine VC.no rfl ?_
   refine VC.region ?_
   refine VL.eql rfl rfl ?_
   refine VL.case (fun h9_0 => ?_) (fun h9_0 => ?_)
   ·have h9_0 : x.kind = 4 := by omega
    refine VL.assign rfl ?_
    refine VL.nn ?_
    refine VC.yes rfl ?_
    refine VC.sr ?_
    refine VL.move rfl ?_
    refine VL.fieldAddr rfl fo87_1 rfl ?_
    refine VL.load (v := .int .u8 (x.asker)) 2 1 rfl kd5 (fun _ h => h) rfl rfl rfl ?_
    refine VL.conv (by rw [Try.underlying5]; rfl) Try.underlying22 rfl (inr_u64 (by omega)) ?_
    refine VL.call Try.func116 rfl (by decide) rfl (fun w' hw => num_w hw (by simp only [List.length_append, List.length_cons, List.length_nil, List.length_map]; omega) (x.asker) (fits_small (by omega)) 1 (by decide) (by decide) (fits1 (by omega))) (fun v => ?_)
    refine VL.fact fun e32 => ?_
    subst e32
    refine VL.ex fun gp30 => VL.ex fun c31 => ?_
    refine VL.nn ?_
    refine VC.sr ?_
    refine VL.move rfl ?_
    refine VL.fieldAddr rfl fo87_2 rfl ?_
    refine VL.load (v := .int .u8 (x.peer)) 2 2 rfl kd5 (fun _ h => h) rfl rfl rfl ?_
    refine VL.conv (by rw [Try.underlying5]; rfl) Try.underlying22 rfl (inr_u64 (by omega)) ?_
    refine VL.call Try.func116 rfl (by decide) rfl (fun w' hw => num_w hw (by simp only [List.length_append, List.length_cons, List.length_nil, List.length_map]; omega) (x.peer) (fits_small (by omega)) 1 (by decide) (by decide) (fits1 (by omega))) (fun v => ?_)
    refine VL.fact fun e35 => ?_
    subst e35
    refine VL.ex fun gp33 => VL.ex fun c34 => ?_
    refine VL.nn ?_
    refine VC.region ?_
    refine VL.fieldAddr rfl fo87_1 rfl ?_
    refine VL.store (L := itemL) (qs := [[.int .u8 (0)]]) 2 1 1 rfl rfl rfl (.inr ⟨kd5, rfl⟩) rfl rfl rfl (by intro u hu; simp [cat] at hu; subst hu; rfl) rfl rfl ?_
    refine VL.set2 ?_
    refine VL.fieldAddr rfl fo87_2 rfl ?_
    refine VL.store (L := itemL) (qs := [[.int .u8 (0)]]) 2 2 1 rfl rfl rfl (.inr ⟨kd5, rfl⟩) rfl rfl rfl (by intro u hu; simp [cat] at hu; subst hu; rfl) rfl rfl ?_
    refine VL.set2 ?_
    refine VL.nil ?_
    refine VX.block_normal ?_
    refine VX.next ?_
    refine VC.seq ?_
    refine VC.sr ?_
    refine VL.loads (cs := cat (itemV ((itemB x)) p c q d)) 2 0 28 rfl kd87 (fun _ h => h) rfl rfl rfl rfl ?_
    refine VL.call Try.func127 rfl (by decide) rfl (fun w' hw => bare_w hw (x := (itemB x)) (itemB_ok hx)) (fun v => ?_)
    refine VL.ex fun b => VL.fact fun e => VL.fact fun h21_1 => ?_
    subst e
    cases b
    ·have h21_1 := mt h21_1.2 (by decide)
     refine VL.not rfl ?_
     refine VL.nn ?_
     refine VC.yes rfl ?_
     refine VC.sr ?_
     refine VL.assign rfl ?_
     refine VL.assign rfl ?_
     refine VL.nn ?_
     refine VC.ret ?_
     refine VX.then_ret ?_
     refine VX.ret2 rfl rfl rfl (fun we hw => ?_)
     exact postO ((item2_n (.inr h9_0) h21_1)) ⟨none, 0, rfl, hw.drop.drop.drop.subA, Arr.none⟩
    ·have h21_1 := h21_1.1 rfl
     refine VL.not rfl ?_
     refine VL.nn ?_
     refine VC.no rfl ?_
     refine VC.skip ?_
     refine VX.next ?_
     refine VC.sr ?_
     refine VL.move rfl ?_
     refine VL.call Try.func118 rfl (by decide) rfl (fun w' hw => done_O hw) (fun v => ?_)
     refine VL.at (fun w36 h1w => ?_)
     obtain ⟨p37, c38, rfl, hO40, hA39⟩ := h1w
     refine VL.toOwn hO40 ?_
     refine VL.extract rfl rfl ?_
     refine VL.extract rfl rfl ?_
     refine VL.assign rfl ?_
     refine VL.assign rfl ?_
     refine VL.nn ?_
     refine VC.ret ?_
     refine VX.ret2 rfl rfl rfl (fun we hw => ?_)
     exact postO ((item2_y (.inr h9_0) h21_1)) ⟨p37, c38, rfl, hw.drop.subA, (hA39.nowA (s := ⟨w36, _⟩) Mono.byte hw.drop)⟩
   ·have h9_0 : x.kind ≠ 4 := by omega
    refine VL.assign rfl ?_
    refine VL.nn ?_
    refine VC.no rfl ?_
    refine VC.sr ?_
    refine VL.eql rfl rfl ?_
    refine VL.case (fun h13_0 => ?_) (fun h13_0 => ?_)
    ·have h13_0 : x.kind = 3 := by omega
     refine VL.assign rfl ?_
     refine VL.nn ?_
     refine VC.yes rfl ?_
     refine VC.sr ?_
     refine VL.move rfl ?_
     refine VL.fieldAddr rfl fo87_1 rfl ?_
     refine VL.load (v := .int .u8 (x.asker)) 2 1 rfl kd5 (fun _ h => h) rfl rfl rfl ?_
     refine VL.conv (by rw [Try.underlying5]; rfl) Try.underlying22 rfl (inr_u64 (by omega)) ?_
     refine VL.call Try.func116 rfl (by decide) rfl (fun w' hw => num_w hw (by simp only [List.length_append, List.length_cons, List.length_nil, List.length_map]; omega) (x.asker) (fits_small (by omega)) 1 (by decide) (by decide) (fits1 (by omega))) (fun v => ?_)
     refine VL.fact fun e43 => ?_
     subst e43
     refine VL.ex fun gp41 => VL.ex fun c42 => ?_
     refine VL.nn ?_
     refine VC.sr ?_
     refine VL.move rfl ?_
     refine VL.fieldAddr rfl fo87_4 rfl ?_
     refine VL.loads (cs := cat (bundleV (x.bundle))) 2 15 6 rfl kd82 (fun _ h => h) rfl rfl rfl rfl ?_
     refine VL.call Try.func60 rfl (by decide) rfl (fun w' hw => putBundle_w hw (x := x.bundle) hx.bundle) (fun v => ?_)
     refine VL.at (fun w44 h1w => ?_)
     obtain ⟨p45, c46, rfl, hO48, hA47⟩ := h1w
     refine VL.toOwn hO48 ?_
     refine VL.extract rfl rfl ?_
     refine VL.extract rfl rfl ?_
     refine VL.call Try.func117 rfl (by decide) rfl (fun w' hw => piece_w hw (by simp only [List.length_append, List.length_cons, List.length_nil, List.length_map]; omega) (hA47.nowA (s := ⟨w44, _⟩) Mono.byte hw) (((some (bundleB (x.bundle))).isSome))) (fun v => ?_)
     refine VL.fact fun e51 => ?_
     subst e51
     refine VL.ex fun gp49 => VL.ex fun c50 => ?_
     refine VL.nn ?_
     refine VC.region ?_
     refine VL.build0 (cs := cat (bundleV (bundle0))) built82 ?_
     refine VL.fieldAddr rfl fo87_1 rfl ?_
     refine VL.store (L := itemL) (qs := [[.int .u8 (0)]]) 2 1 1 rfl rfl rfl (.inr ⟨kd5, rfl⟩) rfl rfl rfl (by intro u hu; simp [cat] at hu; subst hu; rfl) rfl rfl ?_
     refine VL.set2 ?_
     refine VL.fieldAddr rfl fo87_4 rfl ?_
     refine VL.store (L := itemL) (qs := (bundleV (bundle0))) 2 15 6 rfl rfl rfl (.inl kd82) rfl rfl rfl (bundleV_ok1 bundle0) rfl rfl ?_
     refine VL.set2 ?_
     refine VL.nil ?_
     refine VX.block_normal ?_
     refine VX.next ?_
     refine VC.seq ?_
     refine VC.sr ?_
     refine VL.loads (cs := cat (itemV ((itemC x)) p c q d)) 2 0 28 rfl kd87 (fun _ h => h) rfl rfl rfl rfl ?_
     refine VL.call Try.func127 rfl (by decide) rfl (fun w' hw => bare_w hw (x := (itemC x)) (itemC_ok hx)) (fun v => ?_)
     refine VL.ex fun b => VL.fact fun e => VL.fact fun h21_1 => ?_
     subst e
     cases b
     ·have h21_1 := mt h21_1.2 (by decide)
      refine VL.not rfl ?_
      refine VL.nn ?_
      refine VC.yes rfl ?_
      refine VC.sr ?_
      refine VL.assign rfl ?_
      refine VL.assign rfl ?_
      refine VL.nn ?_
      refine VC.ret ?_
      refine VX.then_ret ?_
      refine VX.ret2 rfl rfl rfl (fun we hw => ?_)
      exact postO ((item3_n h13_0 h21_1)) ⟨none, 0, rfl, hw.drop.drop.drop.subA, Arr.none⟩
     ·have h21_1 := h21_1.1 rfl
      refine VL.not rfl ?_
      refine VL.nn ?_
      refine VC.no rfl ?_
      refine VC.skip ?_
      refine VX.next ?_
      refine VC.sr ?_
      refine VL.move rfl ?_
      refine VL.call Try.func118 rfl (by decide) rfl (fun w' hw => done_O hw) (fun v => ?_)
      refine VL.at (fun w52 h1w => ?_)
      obtain ⟨p53, c54, rfl, hO56, hA55⟩ := h1w
      refine VL.toOwn hO56 ?_
      refine VL.extract rfl rfl ?_
      refine VL.extract rfl rfl ?_
      refine VL.assign rfl ?_
      refine VL.assign rfl ?_
      refine VL.nn ?_
      refine VC.ret ?_
      refine VX.ret2 rfl rfl rfl (fun we hw => ?_)
      exact postO ((item3_y h13_0 h21_1)) ⟨p53, c54, rfl, hw.drop.subA, (hA55.nowA (s := ⟨w52, _⟩) Mono.byte hw.drop)⟩
    ·have h13_0 : x.kind ≠ 3 := by omega
     refine VL.assign rfl ?_
     refine VL.nn ?_
     refine VC.no rfl ?_
     refine VC.seq ?_
     refine VC.sr ?_
     refine VL.eql rfl rfl ?_
     refine VL.case (fun h17_0 => ?_) (fun h17_0 => ?_)
     ·have h17_0 : x.kind = 5 := by omega
      refine VL.assign rfl ?_
      refine VL.nn ?_
      refine VC.yes rfl ?_
      refine VC.skip ?_
      refine VX.next ?_
      refine VC.yes rfl ?_
      refine VC.sr ?_
      refine VL.move rfl ?_
      refine VL.fieldAddr rfl fo87_5 rfl ?_
      refine VL.loads (cs := cat (objectV (x.object) q d)) 2 21 7 rfl kd85 (fun _ h => h) rfl rfl rfl rfl ?_
      refine VL.call Try.func65 rfl (by decide) rfl (fun w' hw => putObject_w hw (x := x.object) hx.object (hV.nowA (s := ⟨w, _⟩) Mono_vouch hw)) (fun v => ?_)
      refine VL.at (fun w57 h1w => ?_)
      obtain ⟨p58, c59, rfl, hO61, hA60⟩ := h1w
      refine VL.toOwn hO61 ?_
      refine VL.extract rfl rfl ?_
      refine VL.extract rfl rfl ?_
      refine VL.call Try.func117 rfl (by decide) rfl (fun w' hw => piece_w hw (by simp only [List.length_append, List.length_cons, List.length_nil, List.length_map]; omega) (hA60.nowA (s := ⟨w57, _⟩) Mono.byte hw) (((objectO (x.object)).isSome))) (fun v => ?_)
      refine VL.fact fun e64 => ?_
      subst e64
      refine VL.ex fun gp62 => VL.ex fun c63 => ?_
      refine VL.nn ?_
      refine VC.region ?_
      refine VL.build0 (cs := cat (objectV (object0) none 0)) built85 ?_
      refine VL.fieldAddr rfl fo87_5 rfl ?_
      refine VL.store (L := itemL) (qs := (objectV (object0) none 0)) 2 21 7 rfl rfl rfl (.inl kd85) rfl rfl rfl (objectV_ok1 object0 none 0) rfl rfl ?_
      refine VL.set2 ?_
      refine VL.nil ?_
      refine VX.block_normal ?_
      refine VX.next ?_
      refine VC.seq ?_
      refine VC.sr ?_
      refine VL.loads (cs := cat (itemV ((itemD x)) p c none 0)) 2 0 28 rfl kd87 (fun _ h => h) rfl rfl rfl rfl ?_
      refine VL.call Try.func127 rfl (by decide) rfl (fun w' hw => bare_w hw (x := (itemD x)) (itemD_ok hx)) (fun v => ?_)
      refine VL.ex fun b => VL.fact fun e => VL.fact fun h21_1 => ?_
      subst e
      cases b
      ·have h21_1 := mt h21_1.2 (by decide)
       refine VL.not rfl ?_
       refine VL.nn ?_
       refine VC.yes rfl ?_
       refine VC.sr ?_
       refine VL.assign rfl ?_
       refine VL.assign rfl ?_
       refine VL.nn ?_
       refine VC.ret ?_
       refine VX.then_ret ?_
       refine VX.ret2 rfl rfl rfl (fun we hw => ?_)
       exact postO ((item5_n (.inl h17_0) h21_1)) ⟨none, 0, rfl, hw.drop.drop.drop.subA, Arr.none⟩
      ·have h21_1 := h21_1.1 rfl
       refine VL.not rfl ?_
       refine VL.nn ?_
       refine VC.no rfl ?_
       refine VC.skip ?_
       refine VX.next ?_
       refine VC.sr ?_
       refine VL.move rfl ?_
       refine VL.call Try.func118 rfl (by decide) rfl (fun w' hw => done_O hw) (fun v => ?_)
       refine VL.at (fun w65 h1w => ?_)
       obtain ⟨p66, c67, rfl, hO69, hA68⟩ := h1w
       refine VL.toOwn hO69 ?_
       refine VL.extract rfl rfl ?_
       refine VL.extract rfl rfl ?_
       refine VL.assign rfl ?_
       refine VL.assign rfl ?_
       refine VL.nn ?_
       refine VC.ret ?_
       refine VX.ret2 rfl rfl rfl (fun we hw => ?_)
       exact postO (((by cases hs : (objectO x.object).isSome <;> rfl : joinO ([be 1 x.kind, (objectO x.object).getD []]) (!(false || !(objectO x.object).isSome)) = joinO [be 1 x.kind, (objectO x.object).getD []] (objectO x.object).isSome).trans (item5_y (.inl h17_0) h21_1))) ⟨p66, c67, rfl, hw.drop.subA, (hA68.nowA (s := ⟨w65, _⟩) Mono.byte hw.drop)⟩
     ·have h17_0 : x.kind ≠ 5 := by omega
      refine VL.assign rfl ?_
      refine VL.nn ?_
      refine VC.no rfl ?_
      refine VC.region ?_
      refine VL.eql rfl rfl ?_
      refine VL.case (fun h18_0 => ?_) (fun h18_0 => ?_)
      ·have h18_0 : x.kind = 6 := by omega
       refine VL.assign rfl ?_
       refine VL.nn ?_
       refine VC.yes rfl ?_
       refine VC.sr ?_
       refine VL.move rfl ?_
       refine VL.fieldAddr rfl fo87_5 rfl ?_
       refine VL.loads (cs := cat (objectV (x.object) q d)) 2 21 7 rfl kd85 (fun _ h => h) rfl rfl rfl rfl ?_
       refine VL.call Try.func65 rfl (by decide) rfl (fun w' hw => putObject_w hw (x := x.object) hx.object (hV.nowA (s := ⟨w, _⟩) Mono_vouch hw)) (fun v => ?_)
       refine VL.at (fun w70 h1w => ?_)
       obtain ⟨p71, c72, rfl, hO74, hA73⟩ := h1w
       refine VL.toOwn hO74 ?_
       refine VL.extract rfl rfl ?_
       refine VL.extract rfl rfl ?_
       refine VL.call Try.func117 rfl (by decide) rfl (fun w' hw => piece_w hw (by simp only [List.length_append, List.length_cons, List.length_nil, List.length_map]; omega) (hA73.nowA (s := ⟨w70, _⟩) Mono.byte hw) (((objectO (x.object)).isSome))) (fun v => ?_)
       refine VL.fact fun e77 => ?_
       subst e77
       refine VL.ex fun gp75 => VL.ex fun c76 => ?_
       refine VL.nn ?_
       refine VC.region ?_
       refine VL.build0 (cs := cat (objectV (object0) none 0)) built85 ?_
       refine VL.fieldAddr rfl fo87_5 rfl ?_
       refine VL.store (L := itemL) (qs := (objectV (object0) none 0)) 2 21 7 rfl rfl rfl (.inl kd85) rfl rfl rfl (objectV_ok1 object0 none 0) rfl rfl ?_
       refine VL.set2 ?_
       refine VL.nil ?_
       refine VX.block_normal ?_
       refine VX.next ?_
       refine VC.seq ?_
       refine VC.sr ?_
       refine VL.loads (cs := cat (itemV ((itemD x)) p c none 0)) 2 0 28 rfl kd87 (fun _ h => h) rfl rfl rfl rfl ?_
       refine VL.call Try.func127 rfl (by decide) rfl (fun w' hw => bare_w hw (x := (itemD x)) (itemD_ok hx)) (fun v => ?_)
       refine VL.ex fun b => VL.fact fun e => VL.fact fun h21_1 => ?_
       subst e
       cases b
       ·have h21_1 := mt h21_1.2 (by decide)
        refine VL.not rfl ?_
        refine VL.nn ?_
        refine VC.yes rfl ?_
        refine VC.sr ?_
        refine VL.assign rfl ?_
        refine VL.assign rfl ?_
        refine VL.nn ?_
        refine VC.ret ?_
        refine VX.then_ret ?_
        refine VX.ret2 rfl rfl rfl (fun we hw => ?_)
        exact postO ((item5_n (.inr h18_0) h21_1)) ⟨none, 0, rfl, hw.drop.drop.drop.subA, Arr.none⟩
       ·have h21_1 := h21_1.1 rfl
        refine VL.not rfl ?_
        refine VL.nn ?_
        refine VC.no rfl ?_
        refine VC.skip ?_
        refine VX.next ?_
        refine VC.sr ?_
        refine VL.move rfl ?_
        refine VL.call Try.func118 rfl (by decide) rfl (fun w' hw => done_O hw) (fun v => ?_)
        refine VL.at (fun w78 h1w => ?_)
        obtain ⟨p79, c80, rfl, hO82, hA81⟩ := h1w
        refine VL.toOwn hO82 ?_
        refine VL.extract rfl rfl ?_
        refine VL.extract rfl rfl ?_
        refine VL.assign rfl ?_
        refine VL.assign rfl ?_
        refine VL.nn ?_
        refine VC.ret ?_
        refine VX.ret2 rfl rfl rfl (fun we hw => ?_)
        exact postO (((by cases hs : (objectO x.object).isSome <;> rfl : joinO ([be 1 x.kind, (objectO x.object).getD []]) (!(false || !(objectO x.object).isSome)) = joinO [be 1 x.kind, (objectO x.object).getD []] (objectO x.object).isSome).trans (item5_y (.inr h18_0) h21_1))) ⟨p79, c80, rfl, hw.drop.subA, (hA81.nowA (s := ⟨w78, _⟩) Mono.byte hw.drop)⟩
      ·have h18_0 : x.kind ≠ 6 := by omega
       refine VL.assign rfl ?_
       refine VL.nn ?_
       refine VC.no rfl ?_
       refine VC.sr ?_
       refine VL.assign rfl ?_
       refine VL.assign rfl ?_
       refine VL.nn ?_
       refine VC.ret ?_
       refine VX.block_ret ?_
       refine VX.then_ret ?_
       refine VX.ret2 rfl rfl rfl (fun we hw => ?_)
       exact postO ((item0_n h5_0 h8_0 h13_0 h9_0 h17_0 h18_0)) ⟨none, 0, rfl, hw.drop.drop.drop.subA, Arr.none⟩

end Go.Proofs.Ytcfecmoagfgnaaa

/- wire: what takes pieces: its fields; more rules. -/
namespace Go.Vc
section
variable {P : Program} {n : Nat} {Q : Exit → Act → World → Prop} {σ : Sl} {G : World → Prop} {ops : Array Oper} {rest : List Oper}
variable {d : Nat} {ty : TypeId} {pos : String} {aft : Array Edge}
variable {S : List Snap} {H H' : List Chunk}

theorem VC.letArr {X : Type} {R : Rel X} {hR : Mono R} {e : TypeId} {sz : Nat} {g : Option Nat} {c : Nat} {ys : List X} {code : Code} (h : ∀ w1, Own S H w1 → Arr sz R (keys H) w1 (g.map fun g => ⟨g, 0, none⟩) ys c → VC P n Q code σ (Own (⟨w1, keys H⟩ :: S) H)) : VC P n Q code σ (Own S (arow e sz R hR g c ys :: H)) := fun a w ha hw =>
 h w hw.drop hw.letArr a w ha hw.drop.keep

/-- 'x[a:]', its value spelled out. -/
theorem VL.dropE {t e : TypeId} {x o : Operand} {k : IntKind} {l : List UInt8} {p : Option Addr} {c : Nat} (a : Nat) (hx : ev σ x = some (.slice p l.length c)) (ho : ev σ o = some (.int k (a : Int))) (ht : P.underlying t = some (.slice e)) (hsz : (P.info? e).map (·.size) = some 1) (ha : a ≤ l.length) (hc : l.length ≤ c)
  (h : VL P n ops Q rest ((d, .slice (if c = a then p else p.map (·.add (a * 1))) (l.drop a).length (c - a)) :: σ) G) (hdn : Nat.blt d n = true := by rfl) : VL P n ops Q (⟨some d, .slice t x (some o) none none, ty, pos, aft, none⟩ :: rest) σ G := by
 refine VL.val rfl rfl hdn (fun b' w hb' _ => ?_) h
 have := run_sliceAt (P := P) (w := w) (p := p) (m := l.length) (c := c) (a := a) (b := l.length) (hi := none) (lo := some (.int k (a : Int))) ht hsz (.inr ⟨k, rfl⟩) (.inl ⟨rfl, rfl⟩) ha hc
 simp [execOp, hb'.ev hx, hb'.ev ho, this]

theorem seg_at {α : Type} {A B : List α} {o m : Nat} (hA : A.length = o) (l cur : List α) (hl : cur.length = l.length) : (A ++ (cur ++ B)).take o ++ l ++ (A ++ (cur ++ B)).drop (o + l.length) = A ++ (l ++ B) := by
 subst hA
 rw [List.take_left, List.append_assoc]
 congr 1
 congr 1
 rw [← hl, ← List.length_append, ← List.append_assoc, List.drop_left]

/-- 'copy(x[:], l)', where l is as long as the array x, which is part j of a variable. -/
theorem VL.copyPart {x y : Operand} {t1 t2 e T : TypeId} {tys : Array TypeId} {g o m c : Nat} {p : Option Addr} {l : List UInt8} {L : List Nat} {ps ps' : List (List Value)} (i j : Nat) (htys : tys = #[t1, t2]) (hu : P.underlying t1 = some (.slice e)) (hs : (P.info? e).map (·.size) = some 1)
  (hx : ev σ x = some (.slice (some ⟨g, o, none⟩) m m)) (hy : ev σ y = some (.slice p l.length c)) (hi : H[i]? = some (blk g T L ps)) (hLj : L[j]? = some m) (ho : (L.take j).sum = o) (hl : l.length = m) (hm : 0 < m) (hA : ∀ w, Own S H w → CellsAt w p (l.map bv))
  (hp : ps.set j (l.map bv) = ps') (hH : H.set i (blk g T L ps') = H') (h : ∀ v, VL P n ops Q rest ((d, v) :: σ) (Own S H')) (hdn : Nat.blt d n = true := by rfl) : VL P n ops Q (⟨some d, .call ⟨.builtin .copy, #[x, y], tys⟩, ty, pos, aft, none⟩ :: rest) σ (Own S H) := by
 subst htys
 refine VL.act (K := fun _ w' => Own S H' w') rfl rfl hdn (fun a w ha hw => ?_) h
 obtain ⟨hg, hL⟩ := hw.holds _ (List.mem_of_getElem? hi)
 have hjl : j < ps.length := by
  have := (List.getElem?_eq_some_iff.1 hLj).1
  rw [← hL] at this; simpa using this
 have hpj : (ps[j]).length = m := by
  have := (List.getElem?_eq_some_iff.1 hLj).2
  subst hL
  simpa using this
 have e0 := flatten_at ps j 1
 have h1 : (ps.drop j).take 1 = [ps[j]] := by
  rw [List.drop_eq_getElem_cons hjl, List.take_succ_cons, List.take_zero]
 rw [h1] at e0
 simp only [List.flatten_cons, List.flatten_nil, List.append_nil] at e0
 have hlen := sum_take_length ps j
 rw [hL, ho] at hlen
 have eset : (ps.set j (l.map bv)).flatten = (ps.take j).flatten ++ (l.map bv ++ (ps.drop (j + 1)).flatten) := by
  rw [List.set_eq_take_append_cons_drop, if_pos hjl]
  simp
 rcases hA w hw with ⟨_, h0⟩ | ⟨a', rfl, hc⟩
 ·have : l = [] := by simpa using h0
  subst this
  simp at hl; omega
 ·have hr := run_copy_row (P := P) w t1 t2 ty e g o m m a' l.length c (cat ps).toArray T (l.map bv) hu hs hg (by simp [hl]) hc (by
   rw [List.size_toArray, cat_eq, e0, List.length_append, List.length_append, hlen, hpj, List.length_map, hl]
   first | omega | skip) (ok1_bytes l)
  have e1 : (cat ps).toArray.toList.take o ++ l.map bv ++ (cat ps).toArray.toList.drop (o + (l.map bv).length) = cat ps' := by
   rw [← hp, cat_eq, cat_eq, eset, e0]
   exact seg_at (m := m) hlen _ _ (by rw [List.length_map, hl, hpj])
  rw [e1] at hr
  refine ⟨goInt (l.map bv).length, w.setRow g (cat ps').toArray, ?_, blk_set (ps' := ps') hw hi ?_ hH⟩
  ·simp [execOp, resolve, invoke, builtin, ha.ev hx, ha.ev hy, hr]
  ·rw [← hp, List.map_set, hL, List.length_map, hl, ← (List.getElem?_eq_some_iff.1 hLj).2]
   exact List.set_getElem_self _
end
end Go.Vc
namespace Go.Proofs.Ytcfecmoagfgnaaa
open Go.Vc Go.Pl
section
variable {n : Nat} {Q : Exit → Act → World → Prop} {σ : Sl} {G : World → Prop} {ops : Array Oper} {rest : List Oper}
variable {d : Nat} {ty : TypeId} {pos : String} {aft : Array Edge}
variable {S : List Snap} {H H' : List Chunk}

/-- The pieces that are left, loaded. -/
theorem loadParts {x : Operand} {g : Nat} {parts : List (List UInt8)} {why : Nat} (i : Nat) (hx : ev σ x = some (.pointer (some ⟨g, 0, none⟩))) (hi : H[i]? = some (rch g parts why))
  (h : ∀ p c w1, Own S H w1 → Arr 1 bytesR (keys H) w1 p parts c → VL Try.prog n ops Q rest ((d, .slice p parts.length c) :: σ) (Own (⟨w1, keys H⟩ :: S) H)) (hdn : Nat.blt d n = true := by rfl) : VL Try.prog n ops Q (⟨some d, .load 31 x, ty, pos, aft, none⟩ :: rest) σ (Own S H) := by
 refine VL.at fun w hw => ?_
 obtain ⟨ps, h1, h2, p, c, rfl, hA⟩ := hw.holds _ (List.mem_of_getElem? hi)
 refine VL.val (v := .slice p parts.length c) rfl rfl hdn (fun a w' ha e => ?_) (VL.turn (fun w' e => by subst e; exact hw.keep) (h p c w hw hA))
 subst e
 have hc : w'.cell? ⟨g, 0, none⟩ = some (.slice p parts.length c) := by
  rw [cell_of_row w' g 0 _ 196 (0, 0) h1]; rfl
 simp [execOp, ha.ev hx, run_load_cell kd31 hc]
/-- The error, loaded. -/
theorem loadWhy {x : Operand} {g : Nat} {parts : List (List UInt8)} {why : Nat} (i : Nat) (hx : ev σ x = some (.pointer (some ⟨g, 1, none⟩))) (hG : ∀ w, G w → Own S H w) (hi : H[i]? = some (rch g parts why))
  (h : VL Try.prog n ops Q rest ((d, .int .i64 why) :: σ) G) (hdn : Nat.blt d n = true := by rfl) : VL Try.prog n ops Q (⟨some d, .load 35 x, ty, pos, aft, none⟩ :: rest) σ G :=
 VL.val rfl rfl hdn (fun a w ha hw => by
  obtain ⟨ps, h1, h2, p, c, rfl, hA⟩ := (hG w hw).holds _ (List.mem_of_getElem? hi)
  have hc : w.cell? ⟨g, 1, none⟩ = some (.int .i64 why) := by
   rw [cell_of_row w g 1 _ 196 (0, 0) h1]; rfl
  simp [execOp, ha.ev hx, run_load_cell kd35 hc]) h
end
end Go.Proofs.Ytcfecmoagfgnaaa

