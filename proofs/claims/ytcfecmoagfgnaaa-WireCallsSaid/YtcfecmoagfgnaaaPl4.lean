/- Plain facts on what goes over the net, continued: items. -/
import Derived.Test.YtcfecmoagfgnaaaPl3
namespace Go.Pl

instance : DecidableEq Bundle := fun a b => decidable_of_iff (a.device = b.device ∧ a.agree = b.agree ∧ a.signer = b.signer ∧ a.id = b.id ∧ a.once = b.once ∧ a.sig = b.sig) ⟨fun h => by cases a; cases b; simp only at h; obtain ⟨rfl, rfl, rfl, rfl, rfl, rfl⟩ := h; rfl, fun h => by subst h; exact ⟨rfl, rfl, rfl, rfl, rfl, rfl⟩⟩
instance : DecidableEq Header := fun a b => decidable_of_iff (a.session = b.session ∧ a.first = b.first ∧ a.agree = b.agree ∧ a.signer = b.signer ∧ a.base = b.base ∧ a.id = b.id ∧ a.ratchet = b.ratchet ∧ a.n = b.n ∧ a.prev = b.prev) ⟨fun h => by cases a; cases b; simp only at h; obtain ⟨rfl, rfl, rfl, rfl, rfl, rfl, rfl, rfl, rfl⟩ := h; rfl, fun h => by subst h; exact ⟨rfl, rfl, rfl, rfl, rfl, rfl, rfl, rfl, rfl⟩⟩
instance : DecidableEq Letter := fun a b => decidable_of_iff (a.src = b.src ∧ a.dst = b.dst ∧ a.header = b.header ∧ a.body = b.body) ⟨fun h => by cases a; cases b; simp only at h; obtain ⟨rfl, rfl, rfl, rfl⟩ := h; rfl, fun h => by subst h; exact ⟨rfl, rfl, rfl, rfl⟩⟩
instance : DecidableEq Vouch := fun a b => decidable_of_iff (a.notary = b.notary ∧ a.sig = b.sig) ⟨fun h => by cases a; cases b; simp only at h; obtain ⟨rfl, rfl⟩ := h; rfl, fun h => by subst h; exact ⟨rfl, rfl⟩⟩
instance : DecidableEq Object := fun a b => decidable_of_iff (a.server = b.server ∧ a.n = b.n ∧ a.key = b.key ∧ a.since = b.since ∧ a.till = b.till ∧ a.sig = b.sig ∧ a.vouches = b.vouches) ⟨fun h => by cases a; cases b; simp only at h; obtain ⟨rfl, rfl, rfl, rfl, rfl, rfl, rfl⟩ := h; rfl, fun h => by subst h; exact ⟨rfl, rfl, rfl, rfl, rfl, rfl, rfl⟩⟩

structure Itm where
  kind : Nat
  asker : Nat
  peer : Nat
  letter : Letter
  bundle : Bundle
  object : Object
structure Itm.ok (x : Itm) : Prop where
  kind : x.kind < 256
  asker : x.asker < 256
  peer : x.peer < 256
  letter : x.letter.ok
  bundle : x.bundle.ok
  object : x.object.ok
def item0 : Itm := ⟨0, 0, 0, letter0, bundle0, object0⟩
theorem item0_ok : item0.ok := ⟨by decide, by decide, by decide, letter0_ok, bundle0_ok, object0_ok⟩
/-- Its kind's pieces; what is there beside its kind; is all else empty? -/
def itemP (x : Itm) : List (List UInt8) :=
  if x.kind = 1 then [be 1 x.kind, (letterO x.letter).getD []] else if x.kind = 2 ∨ x.kind = 4 then [be 1 x.kind, be 1 x.asker, be 1 x.peer]
  else if x.kind = 3 then [be 1 x.kind, be 1 x.asker, bundleB x.bundle] else [be 1 x.kind, (objectO x.object).getD []]
def itemGood (x : Itm) : Bool :=
  if x.kind = 1 then (letterO x.letter).isSome && decide (x.asker = 0 ∧ x.peer = 0 ∧ x.bundle = bundle0 ∧ x.object = object0)
  else if x.kind = 2 ∨ x.kind = 4 then decide (x.letter = letter0 ∧ x.bundle = bundle0 ∧ x.object = object0)
  else if x.kind = 3 then decide (x.peer = 0 ∧ x.letter = letter0 ∧ x.object = object0)
  else if x.kind = 5 ∨ x.kind = 6 then (objectO x.object).isSome && decide (x.asker = 0 ∧ x.peer = 0 ∧ x.letter = letter0 ∧ x.bundle = bundle0)
  else false
def itemO (x : Itm) : Option (List UInt8) := joinO (itemP x) (itemGood x)
def bareP (x : Itm) : Prop := x.asker = 0 ∧ x.peer = 0 ∧ x.letter = letter0 ∧ x.bundle = bundle0 ∧ x.object = object0
/-- What is left of an item when its kind's part is taken out. -/
abbrev itemA (x : Itm) : Itm := ⟨x.kind, x.asker, x.peer, letter0, x.bundle, x.object⟩
abbrev itemB (x : Itm) : Itm := ⟨x.kind, 0, 0, x.letter, x.bundle, x.object⟩
abbrev itemC (x : Itm) : Itm := ⟨x.kind, 0, x.peer, x.letter, bundle0, x.object⟩
abbrev itemD (x : Itm) : Itm := ⟨x.kind, x.asker, x.peer, x.letter, x.bundle, object0⟩
theorem itemA_ok {x : Itm} (h : x.ok) : (itemA x).ok := ⟨h.kind, h.asker, h.peer, letter0_ok, h.bundle, h.object⟩
theorem itemB_ok {x : Itm} (h : x.ok) : (itemB x).ok := ⟨h.kind, (show (0 : Nat) < 256 by decide), (show (0 : Nat) < 256 by decide), h.letter, h.bundle, h.object⟩
theorem itemC_ok {x : Itm} (h : x.ok) : (itemC x).ok := ⟨h.kind, (show (0 : Nat) < 256 by decide), h.peer, h.letter, bundle0_ok, h.object⟩
theorem itemD_ok {x : Itm} (h : x.ok) : (itemD x).ok := ⟨h.kind, h.asker, h.peer, h.letter, h.bundle, object0_ok⟩
theorem none_joinO (ps : List (List UInt8)) : none = joinO ps false := (joinO_none (by simp)).symm
theorem item1_n {x : Itm} (h : x.kind = 1) (hb : ¬ bareP (itemA x)) : none = itemO x := by
  unfold itemO itemGood
  rw [if_pos h, decide_eq_false (fun e => hb ⟨e.1, e.2.1, rfl, e.2.2.1, e.2.2.2⟩), Bool.and_false]
  exact none_joinO _
theorem item1_y {x : Itm} (h : x.kind = 1) (hb : bareP (itemA x)) : joinO [be 1 x.kind, (letterO x.letter).getD []] (letterO x.letter).isSome = itemO x := by
  unfold itemO itemGood itemP
  rw [if_pos h, if_pos h, decide_eq_true ⟨hb.1, hb.2.1, hb.2.2.2.1, hb.2.2.2.2⟩, Bool.and_true]
theorem item2_n {x : Itm} (h : x.kind = 2 ∨ x.kind = 4) (hb : ¬ bareP (itemB x)) : none = itemO x := by
  unfold itemO itemGood
  rw [if_neg (by omega), if_pos h, decide_eq_false (fun e => hb ⟨rfl, rfl, e.1, e.2.1, e.2.2⟩)]
  exact none_joinO _
theorem item2_y {x : Itm} (h : x.kind = 2 ∨ x.kind = 4) (hb : bareP (itemB x)) : joinO [be 1 x.kind, be 1 x.asker, be 1 x.peer] true = itemO x := by
  unfold itemO itemGood itemP
  rw [if_neg (by omega), if_pos h, if_neg (by omega), if_pos h, decide_eq_true ⟨hb.2.2.1, hb.2.2.2.1, hb.2.2.2.2⟩]
theorem item3_n {x : Itm} (h : x.kind = 3) (hb : ¬ bareP (itemC x)) : none = itemO x := by
  unfold itemO itemGood
  rw [if_neg (by omega), if_neg (by omega), if_pos h, decide_eq_false (fun e => hb ⟨rfl, e.1, e.2.1, rfl, e.2.2⟩)]
  exact none_joinO _
theorem item3_y {x : Itm} (h : x.kind = 3) (hb : bareP (itemC x)) : joinO [be 1 x.kind, be 1 x.asker, bundleB x.bundle] true = itemO x := by
  unfold itemO itemGood itemP
  rw [if_neg (by omega), if_neg (by omega), if_pos h, if_neg (by omega), if_neg (by omega), if_pos h, decide_eq_true ⟨hb.2.1, hb.2.2.1, hb.2.2.2.2⟩]
theorem item5_n {x : Itm} (h : x.kind = 5 ∨ x.kind = 6) (hb : ¬ bareP (itemD x)) : none = itemO x := by
  unfold itemO itemGood
  rw [if_neg (by omega), if_neg (by omega), if_neg (by omega), if_pos h, decide_eq_false (fun e => hb ⟨e.1, e.2.1, e.2.2.1, e.2.2.2, rfl⟩), Bool.and_false]
  exact none_joinO _
theorem item5_y {x : Itm} (h : x.kind = 5 ∨ x.kind = 6) (hb : bareP (itemD x)) : joinO [be 1 x.kind, (objectO x.object).getD []] (objectO x.object).isSome = itemO x := by
  unfold itemO itemGood itemP
  rw [if_neg (by omega), if_neg (by omega), if_neg (by omega), if_pos h, if_neg (by omega), if_neg (by omega), if_neg (by omega), decide_eq_true ⟨hb.1, hb.2.1, hb.2.2.1, hb.2.2.2.1⟩, Bool.and_true]
theorem item0_n {x : Itm} (h1 : x.kind ≠ 1) (h2 : x.kind ≠ 2) (h3 : x.kind ≠ 3) (h4 : x.kind ≠ 4) (h5 : x.kind ≠ 5) (h6 : x.kind ≠ 6) : none = itemO x := by
  unfold itemO itemGood
  rw [if_neg h1, if_neg (by omega), if_neg h3, if_neg (by omega)]
  exact none_joinO _

/-! What bytes are read as. -/
abbrev itemK (a : List (List UInt8)) : Nat := takeN a 1
/-- The item that is read, if the pieces behind the first one fit. -/
def itemR (l : List UInt8) : Option Itm :=
  let a := openP l
  let b := a.drop 1
  let c := b.drop 1
  if ¬ fitsP [some 1] a then none
  else if itemK a = 1 then (if a.length = 2 then (letterR (nextP b)).map fun y => ⟨1, 0, 0, y, bundle0, object0⟩ else none)
  else if itemK a = 2 ∨ itemK a = 4 then (if fitsP [some 1, some 1, some 1] a ∧ a.length = 3 then some ⟨itemK a, takeN b 1, takeN c 1, letter0, bundle0, object0⟩ else none)
  else if itemK a = 3 then (if fitsP [some 1, some 1, none] a ∧ a.length = 3 then (bundleR (nextP c)).map fun y => ⟨3, takeN b 1, 0, letter0, y, object0⟩ else none)
  else if itemK a = 5 ∨ itemK a = 6 then (if a.length = 2 then (objectR (nextP b)).map fun y => ⟨itemK a, 0, 0, letter0, bundle0, y⟩ else none)
  else none
/-- The error's number. -/
def itemW (l : List UInt8) : Nat :=
  if (itemR l).isSome then 0
  else if fitsP [some 1] (openP l) ∧ (itemK (openP l) = 0 ∨ 6 < itemK (openP l)) then 140 else 141
theorem be_ofN {p : List UInt8} {r : List (List UInt8)} (h : p.length = 1) : be 1 (takeN (p :: r) 1) = p := by rw [takeN_cons h, be_take h]
theorem itemR_some {l : List UInt8} {x : Itm} (h : itemR l = some x) : x.ok ∧ itemO x = some l := by
  unfold itemR at h
  simp only at h
  split at h
  · cases h
  · rename_i hf
    have hf : fitsP [some 1] (openP l) := Decidable.not_not.1 hf
    have hne : openP l ≠ [] := fun e => by rw [e] at hf; exact hf.elim
    obtain ⟨hj1, hj2⟩ := join_open hne
    have hk := takeN_lt (openP l) 1
    split at h
    · rename_i hk1
      split at h
      · rename_i hl
        obtain ⟨y, hy, rfl⟩ := Option.map_eq_some_iff.1 h
        obtain ⟨hy1, hy2⟩ := letterR_iff.1 hy
        refine ⟨⟨(by decide : 1 < 256), (by decide : 0 < 256), (by decide : 0 < 256), hy1, bundle0_ok, object0_ok⟩, ?_⟩
        rw [← item1_y rfl ⟨rfl, rfl, rfl, rfl, rfl⟩]
        simp only [hy2, Option.getD_some, Option.isSome_some]
        have e : [be 1 1, nextP ((openP l).drop 1)] = openP l := by
          generalize openP l = ps at *
          match ps, hl with
          | [a, b], _ =>
            have ha := hf.1 1 rfl
            have : be 1 (takeN [a, b] 1) = a := be_ofN ha
            rw [show takeN [a, b] 1 = 1 from hk1] at this
            rw [this]; rfl
        rw [e, joinO_some hj1 rfl, hj2]
      · cases h
    · rename_i hk1
      split at h
      · rename_i hk2
        split at h
        · rename_i hl
          cases h
          refine ⟨⟨hk, takeN_lt _ 1, takeN_lt _ 1, letter0_ok, bundle0_ok, object0_ok⟩, ?_⟩
          rw [← item2_y hk2 ⟨rfl, rfl, rfl, rfl, rfl⟩]
          have e : [be 1 (itemK (openP l)), be 1 (takeN ((openP l).drop 1) 1), be 1 (takeN (((openP l).drop 1).drop 1) 1)] = openP l := by
            generalize openP l = ps at *
            match ps, hl with
            | [a, b, c], hl =>
              obtain ⟨⟨h1, h2, h3, _⟩, _⟩ := hl
              have e1 : be 1 (takeN [a, b, c] 1) = a := be_ofN (h1 1 rfl)
              have e2 : be 1 (takeN [b, c] 1) = b := be_ofN (h2 1 rfl)
              have e3 : be 1 (takeN [c] 1) = c := be_ofN (h3 1 rfl)
              show [be 1 (takeN [a, b, c] 1), be 1 (takeN [b, c] 1), be 1 (takeN [c] 1)] = _
              rw [e1, e2, e3]
            | [], hl => exact absurd hl.2 (by simp)
            | [_], hl => exact absurd hl.2 (by simp)
            | [_, _], hl => exact absurd hl.2 (by simp)
            | _ :: _ :: _ :: _ :: _, hl => exact absurd hl.2 (by simp)
          rw [e, joinO_some hj1 rfl, hj2]
        · cases h
      · rename_i hk2
        split at h
        · rename_i hk3
          split at h
          · rename_i hl
            obtain ⟨y, hy, rfl⟩ := Option.map_eq_some_iff.1 h
            obtain ⟨hy1, hy2⟩ := bundleR_iff.1 hy
            refine ⟨⟨(by decide : 3 < 256), takeN_lt _ 1, (by decide : 0 < 256), letter0_ok, hy1, object0_ok⟩, ?_⟩
            rw [← item3_y rfl ⟨rfl, rfl, rfl, rfl, rfl⟩]
            simp only [hy2]
            have e : [be 1 3, be 1 (takeN ((openP l).drop 1) 1), nextP (((openP l).drop 1).drop 1)] = openP l := by
              generalize openP l = ps at *
              match ps, hl with
              | [a, b, c], hl =>
                obtain ⟨⟨h1, h2, _⟩, _⟩ := hl
                have e1 : be 1 (takeN [a, b, c] 1) = a := be_ofN (h1 1 rfl)
                have e2 : be 1 (takeN [b, c] 1) = b := be_ofN (h2 1 rfl)
                rw [show takeN [a, b, c] 1 = 3 from hk3] at e1
                show [be 1 3, be 1 (takeN [b, c] 1), c] = _
                rw [e1, e2]
              | [], hl => exact absurd hl.2 (by simp)
              | [_], hl => exact absurd hl.2 (by simp)
              | [_, _], hl => exact absurd hl.2 (by simp)
              | _ :: _ :: _ :: _ :: _, hl => exact absurd hl.2 (by simp)
            rw [e, joinO_some hj1 rfl, hj2]
          · cases h
        · rename_i hk3
          split at h
          · rename_i hk5
            split at h
            · rename_i hl
              obtain ⟨y, hy, rfl⟩ := Option.map_eq_some_iff.1 h
              obtain ⟨hy1, hy2⟩ := objectR_iff.1 hy
              refine ⟨⟨hk, (by decide : 0 < 256), (by decide : 0 < 256), letter0_ok, bundle0_ok, hy1⟩, ?_⟩
              rw [← item5_y hk5 ⟨rfl, rfl, rfl, rfl, rfl⟩]
              simp only [hy2, Option.getD_some, Option.isSome_some]
              have e : [be 1 (itemK (openP l)), nextP ((openP l).drop 1)] = openP l := by
                generalize openP l = ps at *
                match ps, hl with
                | [a, b], _ =>
                  have : be 1 (takeN [a, b] 1) = a := be_ofN (hf.1 1 rfl)
                  show [be 1 (takeN [a, b] 1), b] = _
                  rw [this]
              rw [e, joinO_some hj1 rfl, hj2]
            · cases h
          · cases h
theorem itemR_of {l : List UInt8} {x : Itm} (h : x.ok) (h2 : itemO x = some l) : itemR l = some x := by
  obtain ⟨hj, hg, rfl⟩ := joinO_eq h2
  obtain ⟨k, a, p, y, b, o⟩ := x
  have hk := h.kind; have ha := h.asker; have hp := h.peer
  simp only at hk ha hp
  have hkn : ∀ r, takeN (be 1 k :: r) 1 = k := fun r => by rw [takeN_cons (be_length 1 k), num_be' (by omega)]
  have hfk : ∀ r, fitsP [some 1] (be 1 k :: r) := fun r => ⟨fun n e => by cases e; exact be_length _ _, trivial⟩
  unfold itemR
  rw [open_join hj]
  unfold itemGood at hg
  simp only at hg
  by_cases h1 : k = 1
  · subst h1
    rw [if_pos rfl] at hg
    simp only [Bool.and_eq_true, decide_eq_true_eq] at hg
    obtain ⟨hs, rfl, rfl, rfl, rfl⟩ := hg
    obtain ⟨t, ht⟩ := Option.isSome_iff_exists.1 hs
    have e : itemP ⟨1, 0, 0, y, bundle0, object0⟩ = [be 1 1, t] := by unfold itemP; rw [if_pos rfl, ht]; rfl
    rw [e]
    simp only
    rw [if_neg (not_not_intro (hfk _)), if_pos (hkn _), if_pos (show [be 1 1, t].length = 2 from rfl)]
    rw [show nextP (List.drop 1 [be 1 1, t]) = t from rfl, letterR_iff.2 ⟨h.letter, ht⟩]; rfl
  · rw [if_neg h1] at hg
    by_cases h2' : k = 2 ∨ k = 4
    · rw [if_pos h2'] at hg
      simp only [decide_eq_true_eq] at hg
      obtain ⟨rfl, rfl, rfl⟩ := hg
      have e : itemP ⟨k, a, p, letter0, bundle0, object0⟩ = [be 1 k, be 1 a, be 1 p] := by unfold itemP; rw [if_neg h1, if_pos h2']
      rw [e]
      simp only
      have hkk : itemK [be 1 k, be 1 a, be 1 p] = k := hkn _
      rw [if_neg (not_not_intro (hfk _)), if_neg (by rw [hkk]; exact h1), if_pos (by rw [hkk]; exact h2'), if_pos ⟨⟨fun n e => by cases e; exact be_length _ _, fun n e => by cases e; exact be_length _ _, fun n e => by cases e; exact be_length _ _, trivial⟩, rfl⟩, hkk]
      show some (Itm.mk k (takeN [be 1 a, be 1 p] 1) (takeN [be 1 p] 1) _ _ _) = _
      rw [takeN_cons (be_length 1 a), takeN_cons (be_length 1 p), num_be' (by omega), num_be' (by omega)]
    · rw [if_neg h2'] at hg
      by_cases h3 : k = 3
      · subst h3
        rw [if_pos rfl] at hg
        simp only [decide_eq_true_eq] at hg
        obtain ⟨rfl, rfl, rfl⟩ := hg
        have e : itemP ⟨3, a, 0, letter0, b, object0⟩ = [be 1 3, be 1 a, bundleB b] := by unfold itemP; rw [if_neg h1, if_neg h2', if_pos rfl]
        rw [e]
        simp only
        have hkk : itemK [be 1 3, be 1 a, bundleB b] = 3 := hkn _
        rw [if_neg (not_not_intro (hfk _)), if_neg (by rw [hkk]; exact h1), if_neg (by rw [hkk]; exact h2'), if_pos hkk, if_pos ⟨⟨fun n e => by cases e; exact be_length _ _, fun n e => by cases e; exact be_length _ _, fun n e => (by cases e), trivial⟩, rfl⟩]
        rw [show nextP (List.drop 1 (List.drop 1 [be 1 3, be 1 a, bundleB b])) = bundleB b from rfl, bundleR_iff.2 ⟨h.bundle, rfl⟩]
        show some (Itm.mk 3 (takeN [be 1 a, bundleB b] 1) _ _ _ _) = _
        rw [takeN_cons (be_length 1 a), num_be' (by omega)]
      · rw [if_neg h3] at hg
        by_cases h5 : k = 5 ∨ k = 6
        · rw [if_pos h5] at hg
          simp only [Bool.and_eq_true, decide_eq_true_eq] at hg
          obtain ⟨hs, rfl, rfl, rfl, rfl⟩ := hg
          obtain ⟨t, ht⟩ := Option.isSome_iff_exists.1 hs
          have e : itemP ⟨k, 0, 0, letter0, bundle0, o⟩ = [be 1 k, t] := by unfold itemP; rw [if_neg h1, if_neg h2', if_neg h3, ht]; rfl
          rw [e]
          simp only
          have hkk : itemK [be 1 k, t] = k := hkn _
          rw [if_neg (not_not_intro (hfk _)), if_neg (by rw [hkk]; exact h1), if_neg (by rw [hkk]; exact h2'), if_neg (by rw [hkk]; exact h3), if_pos (by rw [hkk]; exact h5), if_pos (show [be 1 k, t].length = 2 from rfl), hkk]
          rw [show nextP (List.drop 1 [be 1 k, t]) = t from rfl, objectR_iff.2 ⟨h.object, ht⟩]; rfl
        · rw [if_neg h5] at hg; cases hg
theorem itemR_iff {l : List UInt8} {x : Itm} : itemR l = some x ↔ x.ok ∧ itemO x = some l := ⟨itemR_some, fun h => itemR_of h.1 h.2⟩
theorem itemR_ok (l : List UInt8) : ((itemR l).getD item0).ok := by
  cases h : itemR l with
  | none => exact item0_ok
  | some x => exact (itemR_iff.1 h).1
end Go.Pl
