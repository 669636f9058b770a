/- The statement WireTurned is proved, for every input: part 2 of 6 of the texts that it needs. -/
import Derived.Test.YtcfecmoagfgnaaaMturA
import Derived.Carry
import Derived.OpenShut
import Derived.ProofKit
import Derived.WalkKit
/- Plain facts on what goes over the net: the things, their pieces, what pieces are read as. -/
namespace Go.Pl

def zeros (n : Nat) : List UInt8 := List.replicate n 0
theorem zeros_length (n : Nat) : (zeros n).length = n := List.length_replicate

/-! Pieces that are taken one by one: an error stays. -/
/-- An error stays; else this one comes. -/
def failW (why e : Nat) : Nat := if why = 0 then e else why
/-- The next piece; what is left; the error. -/
def nextP (parts : List (List UInt8)) : List UInt8 := parts.headD []
def nextW (parts : List (List UInt8)) (why : Nat) : Nat := if parts = [] then failW why 141 else why
def takeN (parts : List (List UInt8)) (k : Nat) : Nat := if (nextP parts).length = k then num (nextP parts) else 0
/-- The error behind a piece that must be k bytes long. -/
def lenW (parts : List (List UInt8)) (why k : Nat) : Nat := if (nextP parts).length = k then nextW parts why else failW (nextW parts why) 141
def takeB (k : Nat) (parts : List (List UInt8)) : List UInt8 := if (nextP parts).length = k then nextP parts else zeros k
theorem takeN_lt (parts : List (List UInt8)) (k : Nat) : takeN parts k < 256 ^ k := by
  unfold takeN
  split
  · rename_i h
    have := num_lt (nextP parts)
    rwa [h] at this
  · exact Nat.pow_pos (by decide)
theorem takeB_length (parts : List (List UInt8)) (k : Nat) : (takeB k parts).length = k := by
  unfold takeB
  split
  · assumption
  · exact zeros_length k
/-- What is opened: the pieces; the error. -/
def openP (l : List UInt8) : List (List UInt8) := (splitB l).2
def openW (l : List UInt8) : Nat := if (splitB l).2 = [] then 141 else 0
/-- Nothing may be left. -/
def endW (parts : List (List UInt8)) (why : Nat) : Nat := if parts = [] then why else failW why 141
/-- The error behind a row of pieces, some of them of a fixed length. -/
def stepW (ps : List (List UInt8)) (why : Nat) : Option Nat → Nat
  | some k => lenW ps why k
  | none => nextW ps why
def takesW : List (Option Nat) → List (List UInt8) → Nat → Nat
  | [], _, why => why
  | k :: ks, ps, why => takesW ks (ps.drop 1) (stepW ps why k)
/-- The pieces begin with pieces of these lengths. -/
def fitsP : List (Option Nat) → List (List UInt8) → Prop
  | [], _ => True
  | _ :: _, [] => False
  | k :: ks, p :: ps => (∀ n, k = some n → p.length = n) ∧ fitsP ks ps

instance lenDec (k : Option Nat) (p : List UInt8) : Decidable (∀ n, k = some n → p.length = n) :=
  match k with
  | none => isTrue (fun _ e => nomatch e)
  | some n => if h : p.length = n then isTrue (fun _ e => by cases e; exact h) else isFalse (fun f => h (f n rfl))
def fitsDec : (ks : List (Option Nat)) → (ps : List (List UInt8)) → Decidable (fitsP ks ps)
  | [], _ => isTrue trivial
  | _ :: _, [] => isFalse id
  | k :: ks, p :: ps =>
    have := fitsDec ks ps
    inferInstanceAs (Decidable ((∀ n, k = some n → p.length = n) ∧ fitsP ks ps))
instance (ks : List (Option Nat)) (ps : List (List UInt8)) : Decidable (fitsP ks ps) := fitsDec ks ps
instance (ls : List (List UInt8)) : Decidable (joinOk ls) := by unfold joinOk; infer_instance

theorem failW_0 (e : Nat) : failW 0 e = e := rfl
theorem failW_pos {why : Nat} (h : why ≠ 0) (e : Nat) : failW why e = why := if_neg h
theorem nextW_141 (ps : List (List UInt8)) : nextW ps 141 = 141 := by unfold nextW; split <;> rfl
theorem lenW_141 (ps : List (List UInt8)) (k : Nat) : lenW ps 141 k = 141 := by
  unfold lenW
  rw [nextW_141]
  split <;> rfl
theorem stepW_141 (ps : List (List UInt8)) (k : Option Nat) : stepW ps 141 k = 141 := by
  cases k
  · exact nextW_141 ps
  · exact lenW_141 ps _
theorem takesW_141 : ∀ (ks : List (Option Nat)) (ps : List (List UInt8)), takesW ks ps 141 = 141
  | [], _ => rfl
  | k :: ks, ps => by rw [takesW, stepW_141]; exact takesW_141 ks _
theorem endW_141 (ps : List (List UInt8)) : endW ps 141 = 141 := by unfold endW; split <;> rfl
theorem nextW_nil (why : Nat) : nextW [] why = failW why 141 := rfl
theorem nextW_cons (p : List UInt8) (r : List (List UInt8)) (why : Nat) : nextW (p :: r) why = why := if_neg (by simp)
theorem lenW_cons (p : List UInt8) (r : List (List UInt8)) (k : Nat) : lenW (p :: r) 0 k = if p.length = k then 0 else 141 := by
  unfold lenW
  rw [nextW_cons]; rfl
theorem lenW_nil (k : Nat) : lenW [] 0 k = 141 := by
  unfold lenW
  rw [nextW_nil]
  split <;> rfl
theorem stepW_nil (k : Option Nat) : stepW [] 0 k = 141 := by
  cases k
  · rfl
  · exact lenW_nil _
theorem takesW_0 : ∀ (ks : List (Option Nat)) (ps : List (List UInt8)), (fitsP ks ps → takesW ks ps 0 = 0) ∧ (¬ fitsP ks ps → takesW ks ps 0 = 141)
  | [], ps => ⟨fun _ => rfl, fun h => absurd trivial h⟩
  | k :: ks, [] => ⟨fun h => h.elim, fun _ => by rw [takesW, stepW_nil, takesW_141]⟩
  | k :: ks, p :: r => by
    have ih := takesW_0 ks r
    rw [takesW]
    have hd : (p :: r).drop 1 = r := rfl
    rw [hd]
    cases k with
    | none =>
      rw [show stepW (p :: r) 0 none = 0 from nextW_cons p r 0]
      exact ⟨fun h => ih.1 h.2, fun h => ih.2 fun h2 => h ⟨fun n e => (by cases e), h2⟩⟩
    | some k =>
      rw [show stepW (p :: r) 0 (some k) = if p.length = k then 0 else 141 from lenW_cons p r k]
      by_cases hp : p.length = k
      · rw [if_pos hp]
        exact ⟨fun h => ih.1 h.2, fun h => ih.2 fun h2 => h ⟨fun n e => by cases e; exact hp, h2⟩⟩
      · rw [if_neg hp, takesW_141]
        exact ⟨fun h => absurd (h.1 k rfl) hp, fun _ => rfl⟩
theorem openW_cases (l : List UInt8) : (openP l = [] ∧ openW l = 141) ∨ (openP l ≠ [] ∧ openW l = 0) := by
  unfold openP openW
  by_cases h : (splitB l).2 = []
  · exact .inl ⟨h, if_pos h⟩
  · exact .inr ⟨h, if_neg h⟩
theorem takesW_open {ks : List (Option Nat)} (hk : ks ≠ []) (l : List UInt8) : (fitsP ks (openP l) → takesW ks (openP l) (openW l) = 0) ∧ (¬ fitsP ks (openP l) → takesW ks (openP l) (openW l) = 141) := by
  rcases openW_cases l with ⟨h1, h2⟩ | ⟨h1, h2⟩
  · rw [h2, takesW_141, h1]
    refine ⟨fun h => ?_, fun _ => rfl⟩
    cases ks with
    | nil => exact absurd rfl hk
    | cons k ks => exact h.elim
  · rw [h2]; exact takesW_0 ks _
theorem fitsP_length : ∀ {ks : List (Option Nat)} {ps : List (List UInt8)}, fitsP ks ps → ks.length ≤ ps.length
  | [], _, _ => Nat.zero_le _
  | _ :: _, [], h => h.elim
  | _ :: ks, _ :: ps, h => by
    have := fitsP_length h.2
    simp only [List.length_cons]; omega
/-- What is read is what was joined. -/
theorem open_join {ls : List (List UInt8)} (h : joinOk ls) : openP (joinB ls) = ls := by unfold openP; rw [split_join h]
theorem join_open {l : List UInt8} (h : openP l ≠ []) : joinOk (openP l) ∧ joinB (openP l) = l := by
  unfold openP at h ⊢
  have h0 : (splitB l).1 = 0 := by
    by_cases h1 : (splitB l).1 = 0
    · exact h1
    · exact absurd (split_err l h1) h
  exact split_ok (show splitB l = (0, (splitB l).2) by rw [← h0])

theorem be_one (n : Nat) : be 1 n = [UInt8.ofNat n] := by simp [be]
theorem num_be' {k n : Nat} (h : n < 256 ^ k) : num (be k n) = n := by rw [num_be, Nat.mod_eq_of_lt h]
theorem takeN_cons {p : List UInt8} {r : List (List UInt8)} {k : Nat} (h : p.length = k) : takeN (p :: r) k = num p := if_pos h
theorem takeB_cons {p : List UInt8} {r : List (List UInt8)} {k : Nat} (h : p.length = k) : takeB k (p :: r) = p := if_pos h
theorem be_take {p : List UInt8} {k : Nat} (h : p.length = k) : be k (num p) = p := by subst h; exact be_num p

/-! A thing's text, or none. -/
def joinO (ps : List (List UInt8)) (ok : Bool) : Option (List UInt8) := if joinOk ps ∧ ok = true then some (joinB ps) else none
theorem joinO_some {ps : List (List UInt8)} {ok : Bool} (h : joinOk ps) (h2 : ok = true) : joinO ps ok = some (joinB ps) := if_pos ⟨h, h2⟩
theorem joinO_none {ps : List (List UInt8)} {ok : Bool} (h : ¬ (joinOk ps ∧ ok = true)) : joinO ps ok = none := if_neg h
theorem joinO_eq {ps : List (List UInt8)} {ok : Bool} {l : List UInt8} (h : joinO ps ok = some l) : joinOk ps ∧ ok = true ∧ l = joinB ps := by
  unfold joinO at h
  split at h
  · rename_i h1
    cases h
    exact ⟨h1.1, h1.2, rfl⟩
  · cases h

/-! The things -/
structure Bundle where
  device : Nat
  agree : List UInt8
  signer : List UInt8
  id : Nat
  once : List UInt8
  sig : List UInt8
structure Bundle.ok (x : Bundle) : Prop where
  device : x.device < 256
  agree : x.agree.length = 32
  signer : x.signer.length = 32
  id : x.id < 65536
  once : x.once.length = 32
  sig : x.sig.length = 64
def bundle0 : Bundle := ⟨0, zeros 32, zeros 32, 0, zeros 32, zeros 64⟩
theorem bundle0_ok : bundle0.ok := ⟨by decide, rfl, rfl, by decide, rfl, rfl⟩
def bundleP (x : Bundle) : List (List UInt8) := [be 1 x.device, x.agree, x.signer, be 2 x.id, x.once, x.sig]
def bundleB (x : Bundle) : List UInt8 := joinB (bundleP x)
abbrev bundleK : List (Option Nat) := [some 1, some 32, some 32, some 2, some 32, some 64]
def bundleOf (a : List (List UInt8)) : Bundle :=
  ⟨takeN a 1, takeB 32 (a.drop 1), takeB 32 ((a.drop 1).drop 1), takeN (((a.drop 1).drop 1).drop 1) 2, takeB 32 ((((a.drop 1).drop 1).drop 1).drop 1), takeB 64 (((((a.drop 1).drop 1).drop 1).drop 1).drop 1)⟩
theorem bundleP_ok {x : Bundle} (h : x.ok) : joinOk (bundleP x) := by
  refine ⟨by simp [bundleP], fun p hp => ?_⟩
  simp only [bundleP, List.mem_cons, List.not_mem_nil, or_false] at hp
  rcases hp with rfl | rfl | rfl | rfl | rfl | rfl <;> simp [be_length, h.agree, h.signer, h.once, h.sig]
theorem bundleOf_ok (a : List (List UInt8)) : (bundleOf a).ok := ⟨takeN_lt _ 1, takeB_length _ _, takeB_length _ _, takeN_lt _ 2, takeB_length _ _, takeB_length _ _⟩
theorem bundleOf_P {x : Bundle} (h : x.ok) (r : List (List UInt8)) : bundleOf (bundleP x ++ r) = x := by
  obtain ⟨a, b, c, d, e, f⟩ := x
  have h1 := h.device; have h2 := h.agree; have h3 := h.signer; have h4 := h.id; have h5 := h.once; have h6 := h.sig
  simp only at h1 h2 h3 h4 h5 h6
  simp only [bundleOf, bundleP, List.cons_append, List.drop_succ_cons, List.drop_zero]
  rw [takeN_cons (be_length 1 a), takeB_cons h2, takeB_cons h3, takeN_cons (be_length 2 d), takeB_cons h5, takeB_cons h6, num_be' (by omega), num_be' (by omega)]
theorem bundleP_of {ps : List (List UInt8)} (h : fitsP bundleK ps) (hl : ps.length = 6) : bundleP (bundleOf ps) = ps := by
  match ps, hl with
  | [a, b, c, d, e, f], _ =>
    obtain ⟨h1, h2, h3, h4, h5, h6, _⟩ := h
    have h1 := h1 1 rfl; have h2 := h2 32 rfl; have h3 := h3 32 rfl; have h4 := h4 2 rfl; have h5 := h5 32 rfl; have h6 := h6 64 rfl
    simp only [bundleOf, bundleP, List.drop_succ_cons, List.drop_zero]
    rw [takeN_cons h1, takeB_cons h2, takeB_cons h3, takeN_cons h4, takeB_cons h5, takeB_cons h6, be_take h1, be_take h4]
theorem bundleP_fits {x : Bundle} (h : x.ok) : fitsP bundleK (bundleP x) := by
  refine ⟨?_, ?_, ?_, ?_, ?_, ?_, trivial⟩ <;> intro n e <;> cases e <;> first | exact be_length _ _ | exact h.agree | exact h.signer | exact h.once | exact h.sig
abbrev bundleC (l : List UInt8) : Prop := fitsP bundleK (openP l) ∧ (openP l).length = 6
def bundleR (l : List UInt8) : Option Bundle := if bundleC l then some (bundleOf (openP l)) else none
theorem ne_nil_of_length {α : Type} {l : List α} {n : Nat} (h : l.length = n) (hn : 0 < n) : l ≠ [] := fun e => by subst e; simp at h; omega
theorem bundleR_iff {l : List UInt8} {x : Bundle} : bundleR l = some x ↔ x.ok ∧ bundleB x = l := by
  unfold bundleR
  constructor
  · intro h
    split at h
    · rename_i h1
      cases h
      refine ⟨bundleOf_ok _, ?_⟩
      unfold bundleB
      rw [bundleP_of h1.1 h1.2]
      exact (join_open (ne_nil_of_length h1.2 (by decide))).2
    · cases h
  · rintro ⟨h, rfl⟩
    have e : openP (bundleB x) = bundleP x := open_join (bundleP_ok h)
    rw [if_pos (show bundleC _ by unfold bundleC; rw [e]; exact ⟨bundleP_fits h, rfl⟩), e]
    have := bundleOf_P h []
    rw [List.append_nil] at this
    rw [this]
/-- The program's answer. -/
theorem bundle_why (l : List UInt8) : endW ((openP l).drop 6) (takesW bundleK (openP l) (openW l)) = if (bundleR l).isSome then 0 else 141 := by
  obtain ⟨h1, h2⟩ := takesW_open (ks := bundleK) (by simp) l
  unfold bundleR
  by_cases hf : fitsP bundleK (openP l)
  · rw [h1 hf]
    have := fitsP_length hf
    simp only [List.length_cons, List.length_nil] at this
    by_cases hl : (openP l).length = 6
    · rw [if_pos (show bundleC l from ⟨hf, hl⟩)]
      unfold endW
      rw [if_pos (List.drop_eq_nil_of_le (by omega))]; rfl
    · rw [if_neg (show ¬ bundleC l from fun h => hl h.2)]
      unfold endW
      rw [if_neg (fun h => hl (by have := List.drop_eq_nil_iff.1 h; omega))]; rfl
  · rw [h2 hf, if_neg (show ¬ bundleC l from fun h => hf h.1), endW_141]; rfl

structure Header where
  session : List UInt8
  first : Bool
  agree : List UInt8
  signer : List UInt8
  base : List UInt8
  id : Nat
  ratchet : List UInt8
  n : Nat
  prev : Nat
structure Header.ok (x : Header) : Prop where
  session : x.session.length = 32
  agree : x.agree.length = 32
  signer : x.signer.length = 32
  base : x.base.length = 32
  id : x.id < 65536
  ratchet : x.ratchet.length = 32
  n : x.n < 65536
  prev : x.prev < 65536
def header0 : Header := ⟨zeros 32, false, zeros 32, zeros 32, zeros 32, 0, zeros 32, 0, 0⟩
theorem header0_ok : header0.ok := ⟨rfl, rfl, rfl, rfl, by decide, rfl, by decide, by decide⟩
def headerP (h : Header) : List (List UInt8) := [h.session, be 1 (if h.first then 1 else 0), h.agree, h.signer, h.base, be 2 h.id, h.ratchet, be 2 h.n, be 2 h.prev]
/-- A header that isn't a first letter's has nothing of one. -/
def headerFit (h : Header) : Bool := h.first || (decide (h.agree = zeros 32) && decide (h.signer = zeros 32) && decide (h.base = zeros 32) && decide (h.id = 0))
def headerO (h : Header) : Option (List UInt8) := if headerFit h then some (joinB (headerP h)) else none
abbrev headerK : List (Option Nat) := [some 32, some 1, some 32, some 32, some 32, some 2, some 32, some 2, some 2]
theorem headerP_ok {x : Header} (h : x.ok) : joinOk (headerP x) := by
  refine ⟨by simp [headerP], fun p hp => ?_⟩
  simp only [headerP, List.mem_cons, List.not_mem_nil, or_false] at hp
  rcases hp with rfl | rfl | rfl | rfl | rfl | rfl | rfl | rfl | rfl <;> simp [be_length, h.session, h.agree, h.signer, h.base, h.ratchet]
theorem headerO_joinO {x : Header} (h : x.ok) : joinO (headerP x) (headerFit x) = headerO x := by
  unfold headerO
  cases e : headerFit x
  · rw [joinO_none (by simp), if_neg (by simp)]
  · rw [joinO_some (headerP_ok h) rfl, if_pos rfl]
/-- What the first nine pieces say; the number of the second. -/
def firstOf (a : List (List UInt8)) : Nat := takeN (a.drop 1) 1
def headerOf (a : List (List UInt8)) : Header :=
  ⟨takeB 32 a, decide (firstOf a = 1), takeB 32 ((a.drop 1).drop 1), takeB 32 (((a.drop 1).drop 1).drop 1), takeB 32 ((((a.drop 1).drop 1).drop 1).drop 1), takeN (((((a.drop 1).drop 1).drop 1).drop 1).drop 1) 2, takeB 32 ((((((a.drop 1).drop 1).drop 1).drop 1).drop 1).drop 1), takeN (((((((a.drop 1).drop 1).drop 1).drop 1).drop 1).drop 1).drop 1) 2, takeN ((((((((a.drop 1).drop 1).drop 1).drop 1).drop 1).drop 1).drop 1).drop 1) 2⟩
theorem headerOf_ok (a : List (List UInt8)) : (headerOf a).ok := ⟨takeB_length _ _, takeB_length _ _, takeB_length _ _, takeB_length _ _, takeN_lt _ 2, takeB_length _ _, takeN_lt _ 2, takeN_lt _ 2⟩
theorem headerOf_P {x : Header} (h : x.ok) (r : List (List UInt8)) : headerOf (headerP x ++ r) = x ∧ firstOf (headerP x ++ r) = (if x.first then 1 else 0) := by
  obtain ⟨a, b, c, d, e, f, g, i, j⟩ := x
  have h1 := h.session; have h2 := h.agree; have h3 := h.signer; have h4 := h.base; have h5 := h.id; have h6 := h.ratchet; have h7 := h.n; have h8 := h.prev
  simp only at h1 h2 h3 h4 h5 h6 h7 h8
  have hf : firstOf (headerP ⟨a, b, c, d, e, f, g, i, j⟩ ++ r) = (if b then 1 else 0) := by
    simp only [firstOf, headerP, List.cons_append, List.drop_succ_cons, List.drop_zero]
    rw [takeN_cons (be_length 1 _), num_be' (by split <;> decide)]
  refine ⟨?_, hf⟩
  unfold headerOf
  rw [hf]
  simp only [headerP, List.cons_append, List.drop_succ_cons, List.drop_zero]
  rw [takeB_cons h1, takeB_cons h2, takeB_cons h3, takeB_cons h4, takeN_cons (be_length 2 _), takeB_cons h6, takeN_cons (be_length 2 _), takeN_cons (be_length 2 _), num_be' (by omega), num_be' (by omega), num_be' (by omega)]
  cases b <;> rfl
theorem headerP_of {ps : List (List UInt8)} (h : fitsP headerK ps) (hl : ps.length = 9) (hf : firstOf ps ≤ 1) : headerP (headerOf ps) = ps := by
  match ps, hl with
  | [a, b, c, d, e, f, g, i, j], _ =>
    obtain ⟨h1, h2, h3, h4, h5, h6, h7, h8, h9, _⟩ := h
    have h1 := h1 32 rfl; have h2 := h2 1 rfl; have h3 := h3 32 rfl; have h4 := h4 32 rfl; have h5 := h5 32 rfl; have h6 := h6 2 rfl; have h7 := h7 32 rfl; have h8 := h8 2 rfl; have h9 := h9 2 rfl
    have e2 : firstOf [a, b, c, d, e, f, g, i, j] = num b := takeN_cons h2
    rw [e2] at hf
    have e3 : (if num b = 1 then 1 else 0) = num b := by split <;> omega
    simp only [headerP, headerOf, e2, List.drop_succ_cons, List.drop_zero, decide_eq_true_eq]
    rw [e3, takeB_cons h1, takeB_cons h3, takeB_cons h4, takeB_cons h5, takeN_cons h6, takeB_cons h7, takeN_cons h8, takeN_cons h9, be_take h2, be_take h6, be_take h8, be_take h9]
theorem headerP_fits {x : Header} (h : x.ok) : fitsP headerK (headerP x) := by
  refine ⟨?_, ?_, ?_, ?_, ?_, ?_, ?_, ?_, ?_, trivial⟩ <;> intro n e <;> cases e <;> first | exact be_length _ _ | exact h.session | exact h.agree | exact h.signer | exact h.base | exact h.ratchet
abbrev headerC (l : List UInt8) : Prop := fitsP headerK (openP l) ∧ (openP l).length = 9 ∧ firstOf (openP l) ≤ 1 ∧ headerFit (headerOf (openP l)) = true
def headerR (l : List UInt8) : Option Header := if headerC l then some (headerOf (openP l)) else none
theorem headerR_iff {l : List UInt8} {x : Header} : headerR l = some x ↔ x.ok ∧ headerO x = some l := by
  unfold headerR
  constructor
  · intro h
    split at h
    · rename_i h1
      cases h
      refine ⟨headerOf_ok _, ?_⟩
      unfold headerO
      rw [if_pos h1.2.2.2, headerP_of h1.1 h1.2.1 h1.2.2.1, (join_open (ne_nil_of_length h1.2.1 (by decide))).2]
    · cases h
  · rintro ⟨h, h2⟩
    unfold headerO at h2
    split at h2
    · rename_i hf
      cases h2
      have e : openP (joinB (headerP x)) = headerP x := open_join (headerP_ok h)
      have := headerOf_P h []
      rw [List.append_nil] at this
      rw [if_pos (show headerC _ by unfold headerC; rw [e, this.1, this.2]; exact ⟨headerP_fits h, rfl, by split <;> omega, hf⟩), e, this.1]
    · cases h2
theorem header_why (l : List UInt8) : endW ((openP l).drop 9) (if (headerO (headerOf (openP l))).isSome = true ∧ firstOf (openP l) ≤ 1 then takesW headerK (openP l) (openW l) else failW (takesW headerK (openP l) (openW l)) 141) = if (headerR l).isSome then 0 else 141 := by
  obtain ⟨h1, h2⟩ := takesW_open (ks := headerK) (by simp) l
  unfold headerR headerO
  by_cases hf : fitsP headerK (openP l)
  · rw [h1 hf]
    have := fitsP_length hf
    simp only [List.length_cons, List.length_nil] at this
    have hsome : (if headerFit (headerOf (openP l)) = true then some (joinB (headerP (headerOf (openP l)))) else none).isSome = headerFit (headerOf (openP l)) := by cases headerFit (headerOf (openP l)) <;> rfl
    rw [hsome]
    by_cases hg : headerFit (headerOf (openP l)) = true ∧ firstOf (openP l) ≤ 1
    · rw [if_pos hg]
      by_cases hl : (openP l).length = 9
      · rw [if_pos (show headerC l from ⟨hf, hl, hg.2, hg.1⟩)]
        unfold endW
        rw [if_pos (List.drop_eq_nil_of_le (by omega))]; rfl
      · rw [if_neg (show ¬ headerC l from fun h => hl h.2.1)]
        unfold endW
        rw [if_neg (fun h => hl (by have := List.drop_eq_nil_iff.1 h; omega))]; rfl
    · rw [if_neg (show ¬ headerC l from fun h => hg ⟨h.2.2.2, h.2.2.1⟩), if_neg hg, failW_0, endW_141]; rfl
  · rw [h2 hf, if_neg (show ¬ headerC l from fun h => hf h.1)]
    have : (if (if headerFit (headerOf (openP l)) = true then some (joinB (headerP (headerOf (openP l)))) else none).isSome = true ∧ firstOf (openP l) ≤ 1 then 141 else failW 141 141) = 141 := by
      generalize (if headerFit (headerOf (openP l)) = true then some (joinB (headerP (headerOf (openP l)))) else none).isSome = b
      split <;> rfl
    rw [this, endW_141]; rfl

structure Letter where
  src : Nat
  dst : Nat
  header : Header
  body : List UInt8
structure Letter.ok (x : Letter) : Prop where
  src : x.src < 256
  dst : x.dst < 256
  header : x.header.ok
def letter0 : Letter := ⟨0, 0, header0, []⟩
theorem letter0_ok : letter0.ok := ⟨by decide, by decide, header0_ok⟩
def letterP (x : Letter) : List (List UInt8) := [be 1 x.src, be 1 x.dst, (headerO x.header).getD [], x.body]
def letterO (x : Letter) : Option (List UInt8) := joinO (letterP x) (headerO x.header).isSome
abbrev letterK : List (Option Nat) := [some 1, some 1, none]
def letterOf (a : List (List UInt8)) (h : Header) : Letter := ⟨takeN a 1, takeN (a.drop 1) 1, h, nextP (((a.drop 1).drop 1).drop 1)⟩
abbrev letterC (l : List UInt8) : Prop := fitsP [some 1, some 1, none, none] (openP l) ∧ (openP l).length = 4
def letterR (l : List UInt8) : Option Letter :=
  if letterC l then (headerR (nextP (((openP l).drop 1).drop 1))).map (letterOf (openP l)) else none
theorem letterR_iff {l : List UInt8} {x : Letter} : letterR l = some x ↔ x.ok ∧ letterO x = some l := by
  unfold letterR
  constructor
  · intro h
    split at h
    · rename_i h1
      obtain ⟨hd, h2, rfl⟩ := Option.map_eq_some_iff.1 h
      rw [headerR_iff] at h2
      refine ⟨⟨takeN_lt _ 1, takeN_lt _ 1, h2.1⟩, ?_⟩
      have hj := join_open (ne_nil_of_length h1.2 (by decide))
      obtain ⟨hf, hl⟩ := h1
      have h2' := h2.2
      have e : letterP (letterOf (openP l) hd) = openP l := by
        clear hj h h2
        generalize openP l = ps at *
        match ps, hl with
        | [a, b, c, d], _ =>
          obtain ⟨h3, h4, _⟩ := hf
          have h3 := h3 1 rfl; have h4 := h4 1 rfl
          have h2' : headerO hd = some c := h2'
          simp only [letterP, letterOf, List.drop_succ_cons, List.drop_zero]
          rw [takeN_cons h3, takeN_cons h4, be_take h3, be_take h4, h2']; rfl
      unfold letterO
      have e2 : (headerO (letterOf (openP l) hd).header).isSome = true := by
        show (headerO hd).isSome = true
        rw [h2.2]; rfl
      rw [e, joinO_some hj.1 e2, hj.2]
    · cases h
  · rintro ⟨h, h2⟩
    obtain ⟨h3, h4, rfl⟩ := joinO_eq h2
    have eo := open_join h3
    obtain ⟨hb, hb2⟩ := Option.isSome_iff_exists.1 h4
    have e : headerR ((headerO x.header).getD []) = some x.header := headerR_iff.2 ⟨h.header, by rw [hb2]; rfl⟩
    have hfit : fitsP [some 1, some 1, none, none] (letterP x) := ⟨fun n e => by cases e; exact be_length _ _, fun n e => by cases e; exact be_length _ _, fun n e => (by cases e), fun n e => (by cases e), trivial⟩
    rw [if_pos (show letterC _ by unfold letterC; rw [eo]; exact ⟨hfit, rfl⟩), eo]
    have e3 : nextP (((letterP x).drop 1).drop 1) = (headerO x.header).getD [] := rfl
    rw [e3, e, Option.map_some]
    obtain ⟨a, b, c, d⟩ := x
    have h5 := h.src; have h6 := h.dst
    simp only at h5 h6
    simp only [letterOf, letterP, List.drop_succ_cons, List.drop_zero]
    rw [takeN_cons (be_length 1 a), takeN_cons (be_length 1 b), num_be' (by omega), num_be' (by omega)]; rfl
theorem letterK_of {ps : List (List UInt8)} (h : fitsP [some 1, some 1, none, none] ps) : fitsP letterK ps := by
  match ps with
  | [] => exact h.elim
  | [a] => exact h.2.elim
  | [a, b] => exact h.2.2.elim
  | a :: b :: c :: r => exact ⟨h.1, h.2.1, h.2.2.1, trivial⟩
/-- The program's answer: the header's error comes between. -/
theorem letter_why (l : List UInt8) : endW ((openP l).drop 4) (nextW ((((openP l).drop 1).drop 1).drop 1) (failW (takesW letterK (openP l) (openW l)) (if (headerR (nextP (((openP l).drop 1).drop 1))).isSome then 0 else 141))) = if (letterR l).isSome then 0 else 141 := by
  obtain ⟨h1, h2⟩ := takesW_open (ks := letterK) (by simp) l
  unfold letterR
  by_cases hf : fitsP letterK (openP l)
  · rw [h1 hf]
    cases hh : headerR (nextP (((openP l).drop 1).drop 1)) with
    | none =>
      have e : failW 0 (if (none : Option Header).isSome = true then 0 else 141) = 141 := rfl
      rw [e, nextW_141, endW_141]
      split <;> rfl
    | some hd =>
      have e : failW 0 (if (some hd).isSome = true then 0 else 141) = 0 := rfl
      rw [e]
      by_cases hl : (openP l).length = 4
      · have hc : letterC l := by
          refine ⟨?_, hl⟩
          generalize openP l = ps at *
          match ps, hl with
          | [a, b, c, d], _ => exact ⟨hf.1, hf.2.1, fun n e => (by cases e), fun n e => (by cases e), trivial⟩
        rw [if_pos hc]
        generalize openP l = ps at *
        match ps, hl with
        | [a, b, c, d], _ => rfl
      · rw [if_neg (show ¬ letterC l from fun h => hl h.2)]
        have := fitsP_length hf
        simp only [List.length_cons, List.length_nil] at this
        generalize openP l = ps at *
        match ps with
        | [] => exact hf.elim
        | [a] => exact hf.2.elim
        | [a, b] => exact hf.2.2.elim
        | [a, b, c] => rfl
        | [a, b, c, d] => exact absurd rfl hl
        | a :: b :: c :: d :: e :: r => rfl
  · rw [h2 hf, failW_pos (by decide), nextW_141, endW_141]
    rw [if_neg (show ¬ letterC l from fun h => hf (letterK_of h.1))]; rfl

structure Vouch where
  notary : Nat
  sig : List UInt8
structure Vouch.ok (x : Vouch) : Prop where
  notary : x.notary < 256
  sig : x.sig.length = 64
def vouch0 : Vouch := ⟨0, zeros 64⟩
def vouchB (x : Vouch) : List UInt8 := UInt8.ofNat x.notary :: x.sig
def vouchOf (p : List UInt8) : Vouch := ⟨(p.headD 0).toNat, p.drop 1⟩
theorem vouchOf_ok {p : List UInt8} (h : p.length = 65) : (vouchOf p).ok := ⟨UInt8.toNat_lt _, by simp [vouchOf, h]⟩
theorem vouchB_of {p : List UInt8} (h : p.length = 65) : vouchB (vouchOf p) = p := by
  cases p with
  | nil => simp at h
  | cons a r => simp [vouchB, vouchOf]
theorem vouchOf_B {x : Vouch} (h : x.ok) : vouchOf (vouchB x) = x := by
  obtain ⟨a, b⟩ := x
  have := h.notary
  simp only at this
  simp [vouchB, vouchOf, Nat.mod_eq_of_lt this]
theorem vouchB_length {x : Vouch} (h : x.ok) : (vouchB x).length = 65 := by simp [vouchB, h.sig]

structure Object where
  server : Nat
  n : Nat
  key : List UInt8
  since : Nat
  till : Nat
  sig : List UInt8
  vouches : List Vouch
structure Object.ok (x : Object) : Prop where
  server : x.server < 256
  n : x.n < 256
  key : x.key.length = 32
  since : x.since < 4294967296
  till : x.till < 4294967296
  sig : x.sig.length = 64
  vouches : ∀ v ∈ x.vouches, v.ok
def object0 : Object := ⟨0, 0, zeros 32, 0, 0, zeros 64, []⟩
theorem object0_ok : object0.ok := ⟨by decide, by decide, rfl, by decide, by decide, rfl, by simp [object0]⟩
def objectP0 (x : Object) : List (List UInt8) := [be 1 x.server, be 1 x.n, x.key, be 4 x.since, be 4 x.till, x.sig]
def objectP (x : Object) : List (List UInt8) := objectP0 x ++ x.vouches.map vouchB
def objectO (x : Object) : Option (List UInt8) := if x.vouches.length ≤ 4 then some (joinB (objectP x)) else none
abbrev objectK : List (Option Nat) := [some 1, some 1, some 32, some 4, some 4, some 64]
def objectOf (a : List (List UInt8)) (vs : List Vouch) : Object :=
  ⟨takeN a 1, takeN (a.drop 1) 1, takeB 32 ((a.drop 1).drop 1), takeN (((a.drop 1).drop 1).drop 1) 4, takeN ((((a.drop 1).drop 1).drop 1).drop 1) 4, takeB 64 (((((a.drop 1).drop 1).drop 1).drop 1).drop 1), vs⟩
theorem objectP_ok {x : Object} (h : x.ok) (h4 : x.vouches.length ≤ 4) : joinOk (objectP x) := by
  refine ⟨by simp [objectP, objectP0]; omega, fun p hp => ?_⟩
  rw [objectP, List.mem_append] at hp
  rcases hp with hp | hp
  · simp only [objectP0, List.mem_cons, List.not_mem_nil, or_false] at hp
    rcases hp with rfl | rfl | rfl | rfl | rfl | rfl <;> simp [be_length, h.key, h.sig]
  · obtain ⟨v, hv, rfl⟩ := List.mem_map.1 hp
    rw [vouchB_length (h.vouches v hv)]; decide
abbrev objectC (l : List UInt8) : Prop := fitsP objectK (openP l) ∧ (openP l).length ≤ 10 ∧ ∀ p ∈ (openP l).drop 6, p.length = 65
def objectR (l : List UInt8) : Option Object :=
  if objectC l then some (objectOf (openP l) (((openP l).drop 6).map vouchOf)) else none
theorem objectR_iff {l : List UInt8} {x : Object} : objectR l = some x ↔ x.ok ∧ objectO x = some l := by
  unfold objectR
  constructor
  · intro h
    split at h
    · rename_i h1
      cases h
      obtain ⟨hf, hl, hv⟩ := h1
      have hlen := fitsP_length hf
      simp only [List.length_cons, List.length_nil] at hlen
      refine ⟨⟨takeN_lt _ 1, takeN_lt _ 1, takeB_length _ _, takeN_lt _ 4, takeN_lt _ 4, takeB_length _ _, fun v hv' => ?_⟩, ?_⟩
      · obtain ⟨p, hp, rfl⟩ := List.mem_map.1 hv'
        exact vouchOf_ok (hv p hp)
      · unfold objectO
        rw [if_pos (by simp [objectOf]; omega)]
        have hj := (join_open (l := l) (fun e => by rw [e] at hlen; simp at hlen)).2
        have e : objectP (objectOf (openP l) (((openP l).drop 6).map vouchOf)) = openP l := by
          have e1 : (((openP l).drop 6).map vouchOf).map vouchB = (openP l).drop 6 := by
            rw [List.map_map]
            conv => rhs; rw [← List.map_id ((openP l).drop 6)]
            exact List.map_congr_left fun p hp => vouchB_of (hv p hp)
          unfold objectP
          show objectP0 _ ++ (((openP l).drop 6).map vouchOf).map vouchB = _
          rw [e1]
          generalize openP l = ps at *
          match ps with
          | [] => exact hf.elim
          | [_] => exact hf.2.elim
          | [_, _] => exact hf.2.2.elim
          | [_, _, _] => exact hf.2.2.2.elim
          | [_, _, _, _] => exact hf.2.2.2.2.elim
          | [_, _, _, _, _] => exact hf.2.2.2.2.2.elim
          | a :: b :: c :: d :: e :: f :: r =>
            obtain ⟨h1, h2, h3, h4, h5, h6, _⟩ := hf
            have h1 := h1 1 rfl; have h2 := h2 1 rfl; have h3 := h3 32 rfl; have h4 := h4 4 rfl; have h5 := h5 4 rfl; have h6 := h6 64 rfl
            simp only [objectP0, objectOf, List.drop_succ_cons, List.drop_zero]
            rw [takeN_cons h1, takeN_cons h2, takeB_cons h3, takeN_cons h4, takeN_cons h5, takeB_cons h6, be_take h1, be_take h2, be_take h4, be_take h5]; rfl
        rw [e, hj]
    · cases h
  · rintro ⟨h, h2⟩
    unfold objectO at h2
    split at h2
    · rename_i h4
      cases h2
      have eo := open_join (objectP_ok h h4)
      have hd : (objectP x).drop 6 = x.vouches.map vouchB := rfl
      have hf : fitsP objectK (objectP x) := by
        refine ⟨?_, ?_, ?_, ?_, ?_, ?_, trivial⟩ <;> intro n e <;> cases e <;> first | exact be_length _ _ | exact h.key | exact h.sig
      rw [if_pos (show objectC _ by
        unfold objectC
        rw [eo, hd]
        exact ⟨hf, by simp [objectP, objectP0]; omega, fun p hp => by
          obtain ⟨v, hv, rfl⟩ := List.mem_map.1 hp
          exact vouchB_length (h.vouches v hv)⟩), eo, hd]
      have e1 : (x.vouches.map vouchB).map vouchOf = x.vouches := by
        rw [List.map_map]
        conv => rhs; rw [← List.map_id x.vouches]
        exact List.map_congr_left fun v hv => vouchOf_B (h.vouches v hv)
      rw [e1]
      obtain ⟨a, b, c, d, e, f, g⟩ := x
      have h1 := h.server; have h2 := h.n; have h3 := h.key; have h5 := h.since; have h6 := h.till; have h7 := h.sig
      simp only at h1 h2 h3 h5 h6 h7
      simp only [objectOf, objectP, objectP0, List.cons_append, List.drop_succ_cons, List.drop_zero]
      rw [takeN_cons (be_length 1 a), takeN_cons (be_length 1 b), takeB_cons h3, takeN_cons (be_length 4 d), takeN_cons (be_length 4 e), takeB_cons h7, num_be' (by omega), num_be' (by omega), num_be' (by omega), num_be' (by omega)]
    · cases h2
/-- The vouches that the program takes: as many as fit, at most four; what is left; whether one did not fit. -/
def vouchesW : Nat → List (List UInt8) → List Vouch × List (List UInt8) × Bool
  | 0, ps => ([], ps, true)
  | _ + 1, [] => ([], [], true)
  | k + 1, p :: ps => if p.length = 65 then let r := vouchesW k ps; (vouchOf p :: r.1, r.2.1, r.2.2) else ([], ps, false)
theorem vouchesW_spec : ∀ (k : Nat) (ps : List (List UInt8)), ((ps.length ≤ k ∧ ∀ p ∈ ps, p.length = 65) → vouchesW k ps = (ps.map vouchOf, [], true)) ∧ (¬ (ps.length ≤ k ∧ ∀ p ∈ ps, p.length = 65) → (vouchesW k ps).2.2 = false ∨ (vouchesW k ps).2.1 ≠ [])
  | 0, [] => ⟨fun _ => rfl, fun h => absurd ⟨Nat.le_refl _, by simp⟩ h⟩
  | 0, p :: ps => ⟨fun h => absurd h.1 (by simp), fun _ => .inr (by simp [vouchesW])⟩
  | k + 1, [] => ⟨fun _ => rfl, fun h => absurd ⟨by simp, by simp⟩ h⟩
  | k + 1, p :: ps => by
    obtain ⟨h1, h2⟩ := vouchesW_spec k ps
    unfold vouchesW
    by_cases hp : p.length = 65
    · rw [if_pos hp]
      constructor
      · intro h
        rw [h1 ⟨by have := h.1; simp at this; omega, fun q hq => h.2 q (by simp [hq])⟩]; rfl
      · intro h
        exact h2 fun h3 => h ⟨by simp; omega, fun q hq => by
          rcases List.mem_cons.1 hq with rfl | hq
          · exact hp
          · exact h3.2 q hq⟩
    · rw [if_neg hp]
      exact ⟨fun h => absurd (h.2 p (by simp)) hp, fun _ => .inl rfl⟩
theorem object_why (l : List UInt8) : endW (vouchesW 4 ((openP l).drop 6)).2.1 (if (vouchesW 4 ((openP l).drop 6)).2.2 then takesW objectK (openP l) (openW l) else failW (takesW objectK (openP l) (openW l)) 141) = if (objectR l).isSome then 0 else 141 := by
  obtain ⟨h1, h2⟩ := takesW_open (ks := objectK) (by simp) l
  obtain ⟨v1, v2⟩ := vouchesW_spec 4 ((openP l).drop 6)
  unfold objectR
  by_cases hf : fitsP objectK (openP l)
  · rw [h1 hf]
    have hlen := fitsP_length hf
    simp only [List.length_cons, List.length_nil] at hlen
    by_cases hv : ((openP l).drop 6).length ≤ 4 ∧ ∀ p ∈ (openP l).drop 6, p.length = 65
    · rw [v1 hv, if_pos (show objectC l from ⟨hf, by have := hv.1; simp at this; omega, hv.2⟩)]; rfl
    · rw [if_neg (show ¬ objectC l from fun h => hv ⟨by have := h.2.1; rw [List.length_drop]; omega, h.2.2⟩)]
      rcases v2 hv with h | h
      · rw [h]
        have e : (if false = true then 0 else failW 0 141) = 141 := rfl
        rw [e, endW_141]; rfl
      · unfold endW
        rw [if_neg h]
        cases (vouchesW 4 ((openP l).drop 6)).2.2 <;> rfl
  · rw [h2 hf, if_neg (show ¬ objectC l from fun h => hf h.1)]
    have e : (if (vouchesW 4 ((openP l).drop 6)).2.2 = true then 141 else failW 141 141) = 141 := by split <;> rfl
    rw [e, endW_141]; rfl
theorem object_vouches {l : List UInt8} (h : (objectR l).isSome = true) : objectR l = some (objectOf (openP l) (vouchesW 4 ((openP l).drop 6)).1) := by
  unfold objectR at h ⊢
  split at h
  · rename_i h1
    rw [if_pos h1, (vouchesW_spec 4 ((openP l).drop 6)).1 ⟨by have := h1.2.1; simp; omega, h1.2.2⟩]
  · cases h
end Go.Pl

/- What the smaller functions of package octet compute: by a walk through each. -/
namespace Go.Proofs.Ytcfecmoagfgnaaa
open Go.Vc Go.Pl

theorem clone_nil {S : List Snap} {H : List Chunk} {w : World} (ho : Own S H w) {c : Nat} : Calls Try.prog 109 #[.slice none 0 c] w (Ret fun v w' => ∃ p' c', v = .slice p' 0 c' ∧ Own S H w' ∧ Bytes (keys H) w' p' [] c') := by
  refine enter (G := Own (⟨w, keys H⟩ :: S) H) ho.keep Try.func109 rfl Try.ntmps109 rfl ?_
  refine VC.seq ?_
  refine VC.region ?_
  refine VL.assign rfl ?_
  refine VL.nil ?_
  refine VX.next ?_
  refine VC.seq ?_
  refine VC.seq ?_
  refine VC.region ?_
  refine VL.move rfl ?_
  refine VL.eqnil Try.underlying24 rfl rfl ?_
  refine VL.nil ?_
  refine VX.next ?_
  refine VC.yes rfl ?_
  refine VC.seq ?_
  refine VC.region ?_
  refine VL.assign rfl ?_
  refine VL.nil ?_
  refine VX.next ?_
  refine VC.ret ?_
  refine VX.then_ret ?_
  refine VX.ret1 rfl rfl (fun w hw => ?_)
  exact ⟨none, 0, rfl, hw.lose, Arr.after ⟨by simp, by simp [maxLen], fun _ => rfl, by simp⟩ Mono.byte (hw.after (List.mem_cons_self ..))⟩

theorem clone_some {S : List Snap} {H : List Chunk} {w : World} (ho : Own S H w) {a : Addr} {l : List UInt8} {c : Nat} (hA : Bytes (keys H) w (some a) l c) (hl : l.length ≤ 1099511627776) : Calls Try.prog 109 #[.slice (some a) l.length c] w (Ret fun v w' => ∃ p' c', v = .slice p' l.length c' ∧ Own S H w' ∧ Bytes (keys H) w' p' l c') := by
  refine enter (G := Own (⟨w, keys H⟩ :: S) H) ho.keep Try.func109 rfl Try.ntmps109 rfl ?_
  refine VC.seq ?_
  refine VC.region ?_
  refine VL.assign rfl ?_
  refine VL.nil ?_
  refine VX.next ?_
  refine VC.seq ?_
  refine VC.seq ?_
  refine VC.region ?_
  refine VL.move rfl ?_
  refine VL.eqnil Try.underlying24 rfl rfl ?_
  refine VL.nil ?_
  refine VX.next ?_
  refine VC.no rfl ?_
  refine VC.skip ?_
  refine VX.next ?_
  refine VC.seq ?_
  refine VC.region ?_
  refine VL.lit el24 rfl rfl rfl (by simp) (by simp [ok1]) (fun g => ?_)
  refine VL.move rfl ?_
  refine VL.append 0 el24 rfl rfl rfl rfl (fun _ h => (hA.now (s := ⟨w, keys H⟩) Mono.byte h.drop (List.mem_cons_self ..)).bytes) (by simp) (ok1_bytes l) (by omega) (by omega) (fun g1 c1 => ?_)
  refine VL.assign rfl ?_
  refine VL.nil ?_
  refine VX.next ?_
  refine VC.ret ?_
  refine VX.ret1 rfl rfl (fun w hw => ?_)
  have hb := hw.letBytes (l := l) (by omega) (by simp)
  exact ⟨_, _, by simp [rowV], hw.drop.lose, hb⟩

theorem clone_any {S : List Snap} {H : List Chunk} {w : World} (ho : Own S H w) {p : Option Addr} {l : List UInt8} {c : Nat} (hA : Bytes (keys H) w p l c) (hl : l.length ≤ 1099511627776) : Calls Try.prog 109 #[.slice p l.length c] w (Ret fun v w' => ∃ p' c', v = .slice p' l.length c' ∧ Own S H w' ∧ Bytes (keys H) w' p' l c') := by
  cases p with
  | none =>
    have h1 := hA.nil rfl
    have h2 := hA.le
    obtain rfl : l = [] := List.eq_nil_of_length_eq_zero (by omega)
    exact clone_nil ho
  | some a => exact clone_some ho hA hl

theorem get_any {S : List Snap} {H : List Chunk} {w : World} (ho : Own S H w) {p : Option Addr} {l : List UInt8} {c : Nat} (hA : Bytes (keys H) w p l c) : Calls Try.prog 28 #[.slice p l.length c] w (Ret fun v w' => Own S H w' ∧ ((1 ≤ l.length ∧ l.length ≤ 8 ∧ v = .tuple #[.int .u64 (num l), .bool true]) ∨ ((l.length < 1 ∨ 8 < l.length) ∧ v = .tuple #[.int .u64 0, .bool false]))) := by
  refine enter (G := Own (⟨w, keys H⟩ :: S) H) ho.keep Try.func28 rfl Try.ntmps28 rfl ?_
  refine VC.seq ?_
  refine VC.region ?_
  refine VL.assign rfl ?_
  refine VL.assign rfl ?_
  refine VL.nil ?_
  refine VX.next ?_
  refine VC.seq ?_
  refine VC.seq ?_
  refine VC.region ?_
  refine VL.move rfl ?_
  refine VL.len Try.underlying24 rfl rfl ?_
  refine VL.lss rfl rfl ?_
  refine VL.case (fun h1_2 => ?_) (fun h1_2 => ?_)
  · refine VL.move rfl ?_
    refine VL.pass rfl rfl rfl rfl rfl ?_
    refine VL.pass rfl rfl rfl rfl rfl ?_
    refine VL.pass rfl rfl rfl rfl rfl ?_
    refine VL.pick_t rfl rfl ?_
    refine VL.nil ?_
    refine VX.next ?_
    refine VC.yes rfl ?_
    refine VC.seq ?_
    refine VC.region ?_
    refine VL.assign rfl ?_
    refine VL.assign rfl ?_
    refine VL.nil ?_
    refine VX.next ?_
    refine VC.ret ?_
    refine VX.then_ret ?_
    refine VX.ret2 rfl rfl rfl (fun w hw => ?_)
    exact ⟨hw.lose, .inr ⟨by omega, rfl⟩⟩
  · refine VL.move rfl ?_
    refine VL.go rfl rfl rfl ?_
    refine VL.move rfl ?_
    refine VL.go rfl rfl rfl ?_
    refine VL.len Try.underlying24 rfl rfl ?_
    refine VL.go rfl rfl rfl ?_
    refine VL.gtr rfl rfl ?_
    refine VL.case (fun h1_6 => ?_) (fun h1_6 => ?_)
    · refine VL.pick_f rfl rfl ?_
      refine VL.nil ?_
      refine VX.next ?_
      refine VC.yes rfl ?_
      refine VC.seq ?_
      refine VC.region ?_
      refine VL.assign rfl ?_
      refine VL.assign rfl ?_
      refine VL.nil ?_
      refine VX.next ?_
      refine VC.ret ?_
      refine VX.then_ret ?_
      refine VX.ret2 rfl rfl rfl (fun w hw => ?_)
      exact ⟨hw.lose, .inr ⟨by omega, rfl⟩⟩
    · refine VL.pick_f rfl rfl ?_
      refine VL.nil ?_
      refine VX.next ?_
      refine VC.no rfl ?_
      refine VC.skip ?_
      refine VX.next ?_
      refine VC.seq ?_
      refine VC.region ?_
      refine VL.assign rfl ?_
      refine VL.nil ?_
      refine VX.next ?_
      refine VC.seq ?_
      refine VC.seq ?_
      refine VC.region ?_
      refine VL.move rfl ?_
      refine VL.len Try.underlying24 rfl rfl ?_
      refine VL.move rfl ?_
      refine VL.nil ?_
      refine VX.next ?_
      refine VC.block ?_
      refine VC.loop (X := Nat) (fun k => [(15, .slice p l.length c), (16, .int .i64 l.length), (17, .int .i64 k), (4, .int .u64 (num (l.take k)))]) (fun k w' => k ≤ l.length ∧ Own (⟨w, keys H⟩ :: S) H w') (fun k => l.length - k) 0 ⟨rfl, rfl, rfl, rfl, trivial⟩ (fun _ h => ⟨Nat.zero_le _, h⟩) (fun k => VC.fact fun hk => ?_)
      · skip
        refine VC.seq ?_
        refine VC.region ?_
        refine VL.lss rfl rfl ?_
        refine VL.case (fun h5_0 => ?_) (fun h5_0 => ?_)
        · refine VL.nil ?_
          refine VX.next ?_
          refine VC.seq ?_
          refine VC.yes rfl ?_
          refine VC.skip ?_
          refine VX.next ?_
          refine VC.seq ?_
          refine VC.block ?_
          refine VC.seq ?_
          refine VC.region ?_
          have hlt : k < l.length := by omega
          have hsn : num (l.take (k + 1)) = num (l.take k) * 256 + l[k].toNat := by rw [List.take_succ_eq_append_getElem hlt, num_snoc]
          have hnl : num (l.take k) ≤ 72057594037927935 := by
            have h1 := num_lt (l.take k)
            have h2 : (l.take k).length ≤ 7 := by rw [List.length_take]; omega
            have h3 : 256 ^ (l.take k).length ≤ 256 ^ 7 := Nat.pow_le_pow_right (by decide) h2
            have h4 : (256 : Nat) ^ 7 = 72057594037927936 := by decide
            omega
          refine VL.index rfl rfl Try.underlying24 sz24 hA (by omega) (by omega) ?_
          refine VL.byte (s := ⟨w, keys H⟩) (y := l[k]) rfl kd5 (fun _ h => h) (List.mem_cons_self ..) hA (by simp [hlt]) ?_
          refine VL.assign rfl ?_
          refine VL.nil ?_
          refine VX.next ?_
          refine VC.region ?_
          refine VL.move rfl ?_
          refine VL.shl rfl rfl (by omega) (by simp only [IntKind.bits]; omega) ?_
          refine VL.move rfl ?_
          have hb := l[k].toNat_lt
          refine VL.conv (by rw [Try.underlying5]; rfl) Try.underlying22 rfl (by simp only [InR]; omega) ?_
          refine VL.bits (.inr (.inl rfl)) rfl rfl ?_
          rw [u64_or_byte _ _ hnl (by omega)]
          refine VL.assign rfl ?_
          refine VL.nil ?_
          refine VX.block_normal ?_
          refine VX.next ?_
          refine VC.region ?_
          refine VL.add rfl rfl (by simp only [InR]; omega) ?_
          refine VL.move rfl ?_
          refine VL.nil ?_
          refine VX.round (k + 1) ⟨rfl, rfl, rfl, ?_, trivial⟩ (fun _ h => ⟨by omega, h⟩) (by omega)
          simp only [hsn]; rfl
        · refine VL.nil ?_
          refine VX.next ?_
          refine VC.seq ?_
          refine VC.no rfl ?_
          refine VC.exit ?_
          refine VX.then_exit ?_
          refine VX.then_exit ?_
          refine VX.block_here ?_
          refine VX.next ?_
          refine VC.seq ?_
          refine VC.region ?_
          refine VL.move rfl ?_
          refine VL.assign rfl ?_
          refine VL.assign rfl ?_
          refine VL.nil ?_
          refine VX.next ?_
          refine VC.ret ?_
          refine VX.ret2 rfl rfl rfl (fun w hw => ?_)
          obtain rfl : k = l.length := by omega
          refine ⟨hw.lose, .inl ⟨by omega, by omega, ?_⟩⟩
          rw [List.take_length]

end Go.Proofs.Ytcfecmoagfgnaaa

/- What octet.Put, and the reference, make of a number: by a walk through each. -/
namespace Go.Proofs.Ytcfecmoagfgnaaa
open Go.Vc Go.Pl

theorem put_any {S : List Snap} {H : List Chunk} {w : World} (ho : Own S H w) (m : Nat) (hm : Fits 8 m) (z : Int) : Calls Try.prog 25 #[.int .u64 m, .int .i64 z] w (Ret fun v w' => Own S H w' ∧ ((1 ≤ z ∧ z ≤ 8 ∧ Fits z.toNat m ∧ ∃ p c, v = .tuple #[.slice p z.toNat c, .bool true] ∧ Bytes (keys H) w' p (be z.toNat m) c) ∨ (¬ (1 ≤ z ∧ z ≤ 8 ∧ Fits z.toNat m) ∧ v = .tuple #[.slice none 0 0, .bool false]))) := by
  refine enter (G := Own (⟨w, keys H⟩ :: S) H) ho.keep Try.func25 rfl Try.ntmps25 rfl ?_
  refine VC.seq ?_
  refine VC.region ?_
  refine VL.assign rfl ?_
  refine VL.assign rfl ?_
  refine VL.nil ?_
  refine VX.next ?_
  refine VC.seq ?_
  refine VC.seq ?_
  refine VC.region ?_
  refine VL.move rfl ?_
  refine VL.lss rfl rfl ?_
  refine VL.case (fun h1_1 => ?_) (fun h1_1 => ?_)
  · refine VL.move rfl ?_
    refine VL.pass rfl rfl rfl rfl rfl ?_
    refine VL.pass rfl rfl rfl rfl rfl ?_
    refine VL.pick_t rfl rfl ?_
    refine VL.move rfl ?_
    refine VL.pass rfl rfl rfl rfl rfl ?_
    refine VL.pass rfl rfl rfl rfl rfl ?_
    refine VL.pass rfl rfl rfl rfl rfl ?_
    refine VL.passu rfl rfl rfl rfl ?_
    refine VL.passu rfl rfl rfl rfl ?_
    refine VL.passu rfl rfl rfl rfl ?_
    refine VL.passu rfl rfl rfl rfl ?_
    refine VL.passu rfl rfl rfl rfl ?_
    refine VL.pass rfl rfl rfl rfl rfl ?_
    refine VL.pick_t rfl rfl ?_
    refine VL.nil ?_
    refine VX.next ?_
    refine VC.yes rfl ?_
    refine VC.seq ?_
    refine VC.region ?_
    refine VL.assign rfl ?_
    refine VL.assign rfl ?_
    refine VL.nil ?_
    refine VX.next ?_
    refine VC.ret ?_
    refine VX.then_ret ?_
    refine VX.ret2 rfl rfl rfl (fun w hw => ?_)
    refine ⟨hw.lose, .inr ⟨?_, rfl⟩⟩
    omega
  · refine VL.move rfl ?_
    refine VL.go rfl rfl rfl ?_
    refine VL.move rfl ?_
    refine VL.go rfl rfl rfl ?_
    refine VL.gtr rfl rfl ?_
    refine VL.case (fun h1_4 => ?_) (fun h1_4 => ?_)
    · refine VL.pick_f rfl rfl ?_
      refine VL.move rfl ?_
      refine VL.pass rfl rfl rfl rfl rfl ?_
      refine VL.pass rfl rfl rfl rfl rfl ?_
      refine VL.pass rfl rfl rfl rfl rfl ?_
      refine VL.passu rfl rfl rfl rfl ?_
      refine VL.passu rfl rfl rfl rfl ?_
      refine VL.passu rfl rfl rfl rfl ?_
      refine VL.passu rfl rfl rfl rfl ?_
      refine VL.passu rfl rfl rfl rfl ?_
      refine VL.pass rfl rfl rfl rfl rfl ?_
      refine VL.pick_t rfl rfl ?_
      refine VL.nil ?_
      refine VX.next ?_
      refine VC.yes rfl ?_
      refine VC.seq ?_
      refine VC.region ?_
      refine VL.assign rfl ?_
      refine VL.assign rfl ?_
      refine VL.nil ?_
      refine VX.next ?_
      refine VC.ret ?_
      refine VX.then_ret ?_
      refine VX.ret2 rfl rfl rfl (fun w hw => ?_)
      refine ⟨hw.lose, .inr ⟨?_, rfl⟩⟩
      omega
    · refine VL.pick_f rfl rfl ?_
      refine VL.move rfl ?_
      refine VL.go rfl rfl rfl ?_
      refine VL.move rfl ?_
      refine VL.go rfl rfl rfl ?_
      refine VL.lss rfl rfl ?_
      refine VL.case (fun h1_8 => ?_) (fun h1_8 => ?_)
      · refine VL.go rfl rfl rfl ?_
        refine VL.move rfl ?_
        refine VL.go rfl rfl rfl ?_
        refine VL.move rfl ?_
        refine VL.go rfl rfl rfl ?_
        refine VL.move rfl ?_
        refine VL.go rfl rfl rfl ?_
        refine VL.mul rfl rfl (by simp only [InR]; omega) ?_
        refine VL.go rfl rfl rfl ?_
        refine VL.shr rfl rfl (by omega) (by simp only [IntKind.bits]; omega) ?_
        obtain ⟨k, rfl⟩ : ∃ k : Nat, z = k := ⟨z.toNat, by omega⟩
        rw [shr_int]
        refine VL.go rfl rfl rfl ?_
        refine VL.neq rfl rfl ?_
        refine VL.case (fun h14 => ?_) (fun h14 => ?_)
        · have hd := (div_zero_iff m k)
          refine VL.go rfl rfl rfl ?_
          refine VL.pick_t rfl rfl ?_
          refine VL.pick_f rfl rfl ?_
          refine VL.nil ?_
          refine VX.next ?_
          refine VC.yes rfl ?_
          refine VC.seq ?_
          refine VC.region ?_
          refine VL.assign rfl ?_
          refine VL.assign rfl ?_
          refine VL.nil ?_
          refine VX.next ?_
          refine VC.ret ?_
          refine VX.then_ret ?_
          refine VX.ret2 rfl rfl rfl (fun w hw => ?_)
          refine ⟨hw.lose, .inr ⟨?_, rfl⟩⟩
          rintro ⟨_, _, h3⟩
          exact absurd (hd.2 h3) (by omega)
        · have hd := (div_zero_iff m k)
          refine VL.go rfl rfl rfl ?_
          refine VL.pick_t rfl rfl ?_
          refine VL.pick_f rfl rfl ?_
          refine VL.nil ?_
          refine VX.next ?_
          refine VC.no rfl ?_
          refine VC.skip ?_
          refine VX.next ?_
          refine VC.seq ?_
          refine VC.region ?_
          refine VL.move rfl ?_
          refine VL.make el24 rfl rfl rfl rfl (by omega) (by omega) (fun g => ?_)
          refine VL.assign rfl ?_
          refine VL.nil ?_
          refine VX.next ?_
          refine VC.seq ?_
          refine VC.seq ?_
          refine VC.region ?_
          refine VL.move rfl ?_
          refine VL.len Try.underlying24 rfl rfl ?_
          refine VL.move rfl ?_
          refine VL.nil ?_
          refine VX.next ?_
          refine VC.block ?_
          refine VC.loop (X := Nat) (fun i => [(0, .int .u64 m), (1, .int .i64 k), (6, rowV (some g) k k), (28, .int .i64 k), (29, .int .i64 i)]) (fun i w' => i ≤ k ∧ Own (⟨w, keys H⟩ :: S) (row 5 1 (some g) k k ((midb k i m).map bv) :: H) w') (fun i => k - i) 0 ⟨rfl, rfl, rfl, rfl, rfl, trivial⟩ (fun w' h => ⟨Nat.zero_le _, ?_⟩) (fun i => VC.fact fun hi => ?_)
          · rw [midb_start]; simpa [bv] using h
          · skip
            refine VC.seq ?_
            refine VC.region ?_
            refine VL.lss rfl rfl ?_
            refine VL.case (fun h5_0 => ?_) (fun h5_0 => ?_)
            · refine VL.nil ?_
              refine VX.next ?_
              refine VC.seq ?_
              refine VC.yes rfl ?_
              refine VC.skip ?_
              refine VX.next ?_
              refine VC.seq ?_
              refine VC.block ?_
              refine VC.seq ?_
              refine VC.region ?_
              refine VL.move rfl ?_
              refine VL.assign rfl ?_
              refine VL.nil ?_
              refine VX.next ?_
              refine VC.region ?_
              refine VL.move rfl ?_
              refine VL.move rfl ?_
              refine VL.sub rfl rfl (by simp only [InR]; omega) ?_
              refine VL.move rfl ?_
              refine VL.sub rfl rfl (by simp only [InR]; omega) ?_
              refine VL.move rfl ?_
              refine VL.move rfl ?_
              refine VL.mul rfl rfl (by simp only [InR]; omega) ?_
              refine VL.shr rfl rfl (by omega) (by simp only [IntKind.bits]; omega) ?_
              rw [shr_int]
              refine VL.convw (by rw [Try.underlying22]; rfl) Try.underlying5 rfl ?_
              rw [byte_wrap]
              refine VL.rowIndex el24 rfl rfl (by omega) (by omega) ?_
              refine VL.rowStore 0 rfl rfl rfl kd5 rfl (by omega) ?_
              refine VL.nil ?_
              refine VX.block_normal ?_
              refine VX.next ?_
              refine VC.region ?_
              refine VL.add rfl rfl (by simp only [InR]; omega) ?_
              refine VL.move rfl ?_
              refine VL.nil ?_
              refine VX.round (i + 1) ⟨rfl, rfl, rfl, rfl, rfl, trivial⟩ (fun w' h => ⟨by omega, ?_⟩) (by omega)
              rw [← midb_set k i m (by omega), List.map_set]
              have e : ((k : Int) - 1 - (i : Int)).toNat * 1 = k - 1 - i := by omega
              rw [e] at h
              exact h
            · refine VL.nil ?_
              refine VX.next ?_
              refine VC.seq ?_
              refine VC.no rfl ?_
              refine VC.exit ?_
              refine VX.then_exit ?_
              refine VX.then_exit ?_
              refine VX.block_here ?_
              refine VX.next ?_
              refine VC.seq ?_
              refine VC.region ?_
              refine VL.move rfl ?_
              refine VL.assign rfl ?_
              refine VL.assign rfl ?_
              refine VL.nil ?_
              refine VX.next ?_
              refine VC.ret ?_
              refine VX.ret2 rfl rfl rfl (fun w hw => ?_)
              obtain rfl : i = k := by omega
              rw [midb_done] at hw
              have hb := hw.letBytes (l := be i m) (by rw [be_length]) rfl
              refine ⟨hw.drop.lose, .inl ⟨by omega, by omega, ?_, _, _, rfl, hb⟩⟩
              exact hd.1 (by omega)
      · refine VL.go rfl rfl rfl ?_
        refine VL.move rfl ?_
        refine VL.pass rfl rfl rfl rfl rfl ?_
        refine VL.pass rfl rfl rfl rfl rfl ?_
        refine VL.pass rfl rfl rfl rfl rfl ?_
        refine VL.pass rfl rfl rfl rfl rfl ?_
        refine VL.pass rfl rfl rfl rfl rfl ?_
        refine VL.go rfl rfl rfl ?_
        refine VL.pick_f rfl rfl ?_
        refine VL.pick_f rfl rfl ?_
        refine VL.nil ?_
        refine VX.next ?_
        refine VC.no rfl ?_
        refine VC.skip ?_
        refine VX.next ?_
        refine VC.seq ?_
        obtain ⟨k, rfl⟩ : ∃ k : Nat, z = k := ⟨z.toNat, by omega⟩
        refine VC.region ?_
        refine VL.move rfl ?_
        refine VL.make el24 rfl rfl rfl rfl (by omega) (by omega) (fun g => ?_)
        refine VL.assign rfl ?_
        refine VL.nil ?_
        refine VX.next ?_
        refine VC.seq ?_
        refine VC.seq ?_
        refine VC.region ?_
        refine VL.move rfl ?_
        refine VL.len Try.underlying24 rfl rfl ?_
        refine VL.move rfl ?_
        refine VL.nil ?_
        refine VX.next ?_
        refine VC.block ?_
        refine VC.loop (X := Nat) (fun i => [(0, .int .u64 m), (1, .int .i64 k), (6, rowV (some g) k k), (28, .int .i64 k), (29, .int .i64 i)]) (fun i w' => i ≤ k ∧ Own (⟨w, keys H⟩ :: S) (row 5 1 (some g) k k ((midb k i m).map bv) :: H) w') (fun i => k - i) 0 ⟨rfl, rfl, rfl, rfl, rfl, trivial⟩ (fun w' h => ⟨Nat.zero_le _, ?_⟩) (fun i => VC.fact fun hi => ?_)
        · rw [midb_start]; simpa [bv] using h
        · skip
          refine VC.seq ?_
          refine VC.region ?_
          refine VL.lss rfl rfl ?_
          refine VL.case (fun h5_0 => ?_) (fun h5_0 => ?_)
          · refine VL.nil ?_
            refine VX.next ?_
            refine VC.seq ?_
            refine VC.yes rfl ?_
            refine VC.skip ?_
            refine VX.next ?_
            refine VC.seq ?_
            refine VC.block ?_
            refine VC.seq ?_
            refine VC.region ?_
            refine VL.move rfl ?_
            refine VL.assign rfl ?_
            refine VL.nil ?_
            refine VX.next ?_
            refine VC.region ?_
            refine VL.move rfl ?_
            refine VL.move rfl ?_
            refine VL.sub rfl rfl (by simp only [InR]; omega) ?_
            refine VL.move rfl ?_
            refine VL.sub rfl rfl (by simp only [InR]; omega) ?_
            refine VL.move rfl ?_
            refine VL.move rfl ?_
            refine VL.mul rfl rfl (by simp only [InR]; omega) ?_
            refine VL.shr rfl rfl (by omega) (by simp only [IntKind.bits]; omega) ?_
            rw [shr_int]
            refine VL.convw (by rw [Try.underlying22]; rfl) Try.underlying5 rfl ?_
            rw [byte_wrap]
            refine VL.rowIndex el24 rfl rfl (by omega) (by omega) ?_
            refine VL.rowStore 0 rfl rfl rfl kd5 rfl (by omega) ?_
            refine VL.nil ?_
            refine VX.block_normal ?_
            refine VX.next ?_
            refine VC.region ?_
            refine VL.add rfl rfl (by simp only [InR]; omega) ?_
            refine VL.move rfl ?_
            refine VL.nil ?_
            refine VX.round (i + 1) ⟨rfl, rfl, rfl, rfl, rfl, trivial⟩ (fun w' h => ⟨by omega, ?_⟩) (by omega)
            rw [← midb_set k i m (by omega), List.map_set]
            have e : ((k : Int) - 1 - (i : Int)).toNat * 1 = k - 1 - i := by omega
            rw [e] at h
            exact h
          · refine VL.nil ?_
            refine VX.next ?_
            refine VC.seq ?_
            refine VC.no rfl ?_
            refine VC.exit ?_
            refine VX.then_exit ?_
            refine VX.then_exit ?_
            refine VX.block_here ?_
            refine VX.next ?_
            refine VC.seq ?_
            refine VC.region ?_
            refine VL.move rfl ?_
            refine VL.assign rfl ?_
            refine VL.assign rfl ?_
            refine VL.nil ?_
            refine VX.next ?_
            refine VC.ret ?_
            refine VX.ret2 rfl rfl rfl (fun w hw => ?_)
            obtain rfl : i = k := by omega
            rw [midb_done] at hw
            have hb := hw.letBytes (l := be i m) (by rw [be_length]) rfl
            refine ⟨hw.drop.lose, .inl ⟨by omega, by omega, ?_, _, _, rfl, hb⟩⟩
            obtain rfl : i = 8 := by omega
            exact hm

theorem inr_div {m : Nat} (h : Fits 8 m) (i : Nat) : InR .u64 ((m / 256 ^ i : Nat) : Int) :=
  ⟨Int.natCast_nonneg _, Int.ofNat_le.2 (Nat.le_of_lt_succ (Nat.lt_of_le_of_lt (Nat.div_le_self m (256 ^ i)) (show m < 18446744073709551616 from h)))⟩

theorem refPut_any {S : List Snap} {H : List Chunk} {w : World} (ho : Own S H w) (m : Nat) (hm : Fits 8 m) (z : Int) : Calls Try.prog 26 #[.int .u64 m, .int .i64 z] w (Ret fun v w' => Own S H w' ∧ ((1 ≤ z ∧ z ≤ 8 ∧ Fits z.toNat m ∧ ∃ p c, v = .tuple #[.slice p z.toNat c, .bool true] ∧ Bytes (keys H) w' p (be z.toNat m) c) ∨ (¬ (1 ≤ z ∧ z ≤ 8 ∧ Fits z.toNat m) ∧ v = .tuple #[.slice none 0 0, .bool false]))) := by
  refine enter (G := Own (⟨w, keys H⟩ :: S) H) ho.keep Try.func26 rfl Try.ntmps26 rfl ?_
  refine VC.seq ?_
  refine VC.region ?_
  refine VL.assign rfl ?_
  refine VL.assign rfl ?_
  refine VL.nil ?_
  refine VX.next ?_
  refine VC.seq ?_
  refine VC.seq ?_
  refine VC.region ?_
  refine VL.move rfl ?_
  refine VL.lss rfl rfl ?_
  refine VL.case (fun h1_1 => ?_) (fun h1_1 => ?_)
  · refine VL.move rfl ?_
    refine VL.pass rfl rfl rfl rfl rfl ?_
    refine VL.pass rfl rfl rfl rfl rfl ?_
    refine VL.pick_t rfl rfl ?_
    refine VL.nil ?_
    refine VX.next ?_
    refine VC.yes rfl ?_
    refine VC.seq ?_
    refine VC.region ?_
    refine VL.assign rfl ?_
    refine VL.assign rfl ?_
    refine VL.nil ?_
    refine VX.next ?_
    refine VC.ret ?_
    refine VX.then_ret ?_
    refine VX.ret2 rfl rfl rfl (fun w hw => ?_)
    exact ⟨hw.lose, .inr ⟨by omega, rfl⟩⟩
  · refine VL.move rfl ?_
    refine VL.go rfl rfl rfl ?_
    refine VL.move rfl ?_
    refine VL.go rfl rfl rfl ?_
    refine VL.gtr rfl rfl ?_
    refine VL.case (fun h1_4 => ?_) (fun h1_4 => ?_)
    · refine VL.pick_f rfl rfl ?_
      refine VL.nil ?_
      refine VX.next ?_
      refine VC.yes rfl ?_
      refine VC.seq ?_
      refine VC.region ?_
      refine VL.assign rfl ?_
      refine VL.assign rfl ?_
      refine VL.nil ?_
      refine VX.next ?_
      refine VC.ret ?_
      refine VX.then_ret ?_
      refine VX.ret2 rfl rfl rfl (fun w hw => ?_)
      exact ⟨hw.lose, .inr ⟨by omega, rfl⟩⟩
    · refine VL.pick_f rfl rfl ?_
      refine VL.nil ?_
      refine VX.next ?_
      refine VC.no rfl ?_
      refine VC.skip ?_
      refine VX.next ?_
      refine VC.seq ?_
      obtain ⟨k, rfl⟩ : ∃ k : Nat, z = k := ⟨z.toNat, by omega⟩
      refine VC.region ?_
      refine VL.move rfl ?_
      refine VL.make el24 rfl rfl rfl rfl (by omega) (by omega) (fun g => ?_)
      refine VL.assign rfl ?_
      refine VL.nil ?_
      refine VX.next ?_
      refine VC.seq ?_
      refine VC.seq ?_
      refine VC.region ?_
      refine VL.move rfl ?_
      refine VL.sub rfl rfl (by simp only [InR]; omega) ?_
      refine VL.assign rfl ?_
      refine VL.nil ?_
      refine VX.next ?_
      refine VC.block ?_
      refine VC.loop (X := Nat) (fun i => [(0, .int .u64 ((m / 256 ^ i : Nat) : Int)), (1, .int .i64 k), (6, rowV (some g) k k), (7, .int .i64 ((k : Int) - 1 - i))]) (fun i w' => i ≤ k ∧ Own (⟨w, keys H⟩ :: S) (row 5 1 (some g) k k ((midb k i m).map bv) :: H) w') (fun i => k - i) 0 ⟨?_, rfl, rfl, ?_, trivial⟩ (fun w' h => ⟨Nat.zero_le _, ?_⟩) (fun i => VC.fact fun hi => ?_)
      · show some (Value.int .u64 (m : Int)) = some (Value.int .u64 _)
        simp
      · show some (Value.int .i64 ((k : Int) - 1)) = _
        simp
      · rw [midb_start]; simpa [bv] using h
      · skip
        refine VC.seq ?_
        refine VC.seq ?_
        refine VC.region ?_
        refine VL.move rfl ?_
        refine VL.geq rfl rfl ?_
        refine VL.case (fun h5_1 => ?_) (fun h5_1 => ?_)
        · refine VL.nil ?_
          refine VX.next ?_
          refine VC.yes rfl ?_
          refine VC.skip ?_
          refine VX.next ?_
          refine VC.seq ?_
          refine VC.block ?_
          refine VC.seq ?_
          refine VC.region ?_
          refine VL.move rfl ?_
          refine VL.move rfl ?_
          refine VL.move rfl ?_
          refine VL.rem rfl rfl (Int.natCast_nonneg _) (by omega) ?_
          refine VL.convw (by rw [Try.underlying22]; rfl) Try.underlying5 rfl ?_
          rw [byte_rem]
          refine VL.rowIndex el24 rfl rfl (by omega) (by omega) ?_
          refine VL.rowStore 0 rfl rfl rfl kd5 rfl (by omega) ?_
          refine VL.nil ?_
          refine VX.next ?_
          refine VC.region ?_
          refine VL.move rfl ?_
          refine VL.quo rfl rfl (Int.natCast_nonneg _) (by omega) (inr_div hm i) ?_
          refine VL.assign rfl ?_
          refine VL.nil ?_
          refine VX.block_normal ?_
          refine VX.next ?_
          refine VC.region ?_
          refine VL.move rfl ?_
          refine VL.sub rfl rfl (by simp only [InR]; omega) ?_
          refine VL.assign rfl ?_
          refine VL.nil ?_
          refine VX.round (i + 1) ⟨?_, rfl, rfl, ?_, trivial⟩ (fun w' h => ⟨by omega, ?_⟩) (by omega)
          · show some (Value.int .u64 _) = some (Value.int .u64 _)
            rw [Nat.pow_succ, ← Nat.div_div_eq_div_mul]; rfl
          · show some (Value.int .i64 _) = some (Value.int .i64 _)
            congr 2; omega
          · rw [← midb_set k i m (by omega), List.map_set]
            have e : ((k : Int) - 1 - (i : Int)).toNat * 1 = k - 1 - i := by omega
            rw [e] at h
            exact h
        · refine VL.nil ?_
          refine VX.next ?_
          refine VC.no rfl ?_
          refine VC.exit ?_
          refine VX.then_exit ?_
          refine VX.then_exit ?_
          refine VX.block_here ?_
          refine VX.next ?_
          refine VC.seq ?_
          refine VC.seq ?_
          obtain rfl : i = k := by omega
          have hd := div_zero_iff m i
          refine VC.region ?_
          refine VL.move rfl ?_
          refine VL.neq rfl rfl ?_
          refine VL.case (fun h9_1 => ?_) (fun h9_1 => ?_)
          · refine VL.nil ?_
            refine VX.next ?_
            refine VC.yes rfl ?_
            refine VC.seq ?_
            refine VC.region ?_
            refine VL.assign rfl ?_
            refine VL.assign rfl ?_
            refine VL.nil ?_
            refine VX.next ?_
            refine VC.ret ?_
            refine VX.then_ret ?_
            refine VX.ret2 rfl rfl rfl (fun w hw => ?_)
            refine ⟨hw.drop.lose, .inr ⟨?_, rfl⟩⟩
            rintro ⟨_, _, h3⟩
            exact absurd (hd.2 h3) (by omega)
          · refine VL.nil ?_
            refine VX.next ?_
            refine VC.no rfl ?_
            refine VC.skip ?_
            refine VX.next ?_
            refine VC.seq ?_
            refine VC.region ?_
            refine VL.move rfl ?_
            refine VL.assign rfl ?_
            refine VL.assign rfl ?_
            refine VL.nil ?_
            refine VX.next ?_
            refine VC.ret ?_
            refine VX.ret2 rfl rfl rfl (fun w hw => ?_)
            rw [midb_done] at hw
            have hb := hw.letBytes (l := be i m) (by rw [be_length]) rfl
            exact ⟨hw.drop.lose, .inl ⟨by omega, by omega, hd.1 (by omega), _, _, rfl, hb⟩⟩

theorem fits_small {m : Nat} (h : m ≤ 4294967295) : Fits 8 m := Nat.lt_of_le_of_lt h (by decide)

theorem num_any {S : List Snap} {H : List Chunk} {w : World} (ho : Own S H w) (m k : Nat) (hm : m ≤ 4294967295) (h1 : 1 ≤ k) (h8 : k ≤ 8) (hf : Fits k m) : Calls Try.prog 108 #[.int .i64 m, .int .i64 k] w (Ret fun v w' => Own S H w' ∧ ∃ p c, v = .slice p k c ∧ Bytes (keys H) w' p (be k m) c) := by
  refine enter (G := Own (⟨w, keys H⟩ :: S) H) ho.keep Try.func108 rfl Try.ntmps108 rfl ?_
  refine VC.seq ?_
  refine VC.region ?_
  refine VL.assign rfl ?_
  refine VL.nil ?_
  refine VX.next ?_
  refine VC.seq ?_
  refine VC.region ?_
  refine VL.move rfl ?_
  refine VL.conv (by rw [Try.underlying3]; rfl) Try.underlying22 rfl (by simp only [InR]; omega) ?_
  refine VL.move rfl ?_
  refine VL.call Try.func26 rfl (by decide) rfl (fun w' hw => refPut_any hw m (fits_small hm) k) (fun v => ?_)
  refine VL.at (fun w1 h1w => ?_)
  obtain ⟨hO, ⟨_, _, _, p, c, rfl, hA⟩ | ⟨hno, _⟩⟩ := h1w
  rotate_left
  · exact absurd ⟨by omega, by omega, by rw [Int.toNat_natCast]; exact hf⟩ hno
  refine VL.toOwn hO ?_
  refine VL.move rfl ?_
  refine VL.extract rfl rfl ?_
  refine VL.extract rfl rfl ?_
  refine VL.assign rfl ?_
  refine VL.assign rfl ?_
  refine VL.nil ?_
  refine VX.next ?_
  refine VC.seq ?_
  refine VC.region ?_
  refine VL.move rfl ?_
  refine VL.assign rfl ?_
  refine VL.nil ?_
  refine VX.next ?_
  refine VC.ret ?_
  refine VX.ret1 rfl rfl (fun w hw => ?_)
  refine ⟨hw.lose.lose, p, c, rfl, ?_⟩
  exact hA.now (s := ⟨w1, keys H⟩) Mono.byte hw (List.mem_cons_self ..)

theorem bytes_any {S : List Snap} {H : List Chunk} {w : World} (ho : Own S H w) {p q : Option Addr} {l k : List UInt8} {c d : Nat} (hA : Bytes (keys H) w p l c) (hB : Bytes (keys H) w q k d) : Calls Try.prog 27 #[.slice p l.length c, .slice q k.length d] w (Ret fun v w' => Own S H w' ∧ v = .bool (decide (l = k))) := by
  refine enter (G := Own (⟨w, keys H⟩ :: S) H) ho.keep Try.func27 rfl Try.ntmps27 rfl ?_
  refine VC.seq ?_
  refine VC.region ?_
  refine VL.assign rfl ?_
  refine VL.nil ?_
  refine VX.next ?_
  refine VC.seq ?_
  refine VC.region ?_
  refine VL.move rfl ?_
  refine VL.str (s := ⟨w, keys H⟩) Try.underlying24 Try.underlying5 Try.underlying9 rfl (fun _ h => h) (List.mem_cons_self ..) hA ?_
  refine VL.move rfl ?_
  refine VL.str (s := ⟨w, keys H⟩) Try.underlying24 Try.underlying5 Try.underlying9 rfl (fun _ h => h) (List.mem_cons_self ..) hB ?_
  refine VL.eqls rfl rfl ?_
  refine VL.assign rfl ?_
  refine VL.nil ?_
  refine VX.next ?_
  refine VC.ret ?_
  refine VX.ret1 rfl rfl (fun w hw => ?_)
  refine ⟨hw.lose, ?_⟩
  have : ((⟨l.toArray⟩ : ByteArray) = ⟨k.toArray⟩) ↔ l = k := by simp
  rw [decide_eq_decide.2 this]

end Go.Proofs.Ytcfecmoagfgnaaa

/- What octet.Join and the reference join, by a walk through each. -/
namespace Go.Proofs.Ytcfecmoagfgnaaa
open Go.Vc Go.Pl

/-- What stands behind i pieces. -/
def acc (ls : List (List UInt8)) (i : Nat) : List UInt8 := UInt8.ofNat ls.length :: body (ls.take i)
theorem acc_succ (ls : List (List UInt8)) (i : Nat) (h : i < ls.length) : acc ls (i + 1) = acc ls i ++ (be 2 ls[i].length ++ ls[i]) := by
  unfold acc
  rw [List.take_succ_eq_append_getElem h, body_snoc]; rfl
theorem acc_le (ls : List (List UInt8)) (i : Nat) (h : ∀ j (hj : j < ls.length), j < i → ls[j].length ≤ 4096) : (acc ls i).length ≤ 1 + 4098 * i := by
  unfold acc
  have := body_le (ls := ls.take i) (fun p hp => by
    obtain ⟨j, hj, rfl⟩ := List.getElem_of_mem hp
    rw [List.getElem_take]
    have h1 : j < i ∧ j < ls.length := by simp at hj; omega
    exact h j h1.2 h1.1)
  have h2 : (ls.take i).length ≤ i := List.length_take_le _ _
  have h3 := Nat.mul_le_mul_left 4098 h2
  simp only [List.length_cons]; omega
theorem acc_done (ls : List (List UInt8)) : acc ls ls.length = joinB ls := by unfold acc joinB; rw [List.take_length]

theorem join_any {S : List Snap} {H : List Chunk} {w : World} (ho : Own S H w) {p : Option Addr} {ls : List (List UInt8)} {c : Nat} (hA : Arr 1 bytesR (keys H) w p ls c) : Calls Try.prog 30 #[.slice p ls.length c] w (Ret fun v w' => Own S H w' ∧ ((joinOk ls ∧ ∃ p c, v = .tuple #[.slice p (joinB ls).length c, .bool true] ∧ Bytes (keys H) w' p (joinB ls) c) ∨ (¬ joinOk ls ∧ v = .tuple #[.slice none 0 0, .bool false]))) := by
  refine enter (G := Own (⟨w, keys H⟩ :: S) H) ho.keep Try.func30 rfl Try.ntmps30 rfl ?_
  refine VC.seq ?_
  refine VC.region ?_
  refine VL.assign rfl ?_
  refine VL.assign rfl ?_
  refine VL.nil ?_
  refine VX.next ?_
  refine VC.seq ?_
  refine VC.seq ?_
  refine VC.region ?_
  refine VL.move rfl ?_
  refine VL.len Try.underlying31 rfl rfl ?_
  refine VL.gtr rfl rfl ?_
  refine VL.case (fun h1_2 => ?_) (fun h1_2 => ?_)
  · refine VL.nil ?_
    refine VX.next ?_
    refine VC.yes rfl ?_
    refine VC.seq ?_
    refine VC.region ?_
    refine VL.assign rfl ?_
    refine VL.assign rfl ?_
    refine VL.nil ?_
    refine VX.next ?_
    refine VC.ret ?_
    refine VX.then_ret ?_
    refine VX.ret2 rfl rfl rfl (fun w hw => ?_)
    refine ⟨hw.lose, .inr ⟨fun h => absurd h.1 (by omega), rfl⟩⟩
  · refine VL.nil ?_
    refine VX.next ?_
    refine VC.no rfl ?_
    refine VC.skip ?_
    refine VX.next ?_
    refine VC.seq ?_
    refine VC.region ?_
    refine VL.move rfl ?_
    refine VL.len Try.underlying31 rfl rfl ?_
    refine VL.conv (by rw [Try.underlying3]; rfl) Try.underlying5 rfl (by simp only [InR]; omega) ?_
    refine VL.lit el24 rfl rfl rfl (by simp [Value.cells]) (by intro u hu; simp [Value.cells] at hu; subst hu; rfl) (fun g => ?_)
    refine VL.assign rfl ?_
    refine VL.nil ?_
    refine VX.next ?_
    refine VC.seq ?_
    refine VC.seq ?_
    refine VC.region ?_
    refine VL.move rfl ?_
    refine VL.len Try.underlying31 rfl rfl ?_
    refine VL.move rfl ?_
    refine VL.nil ?_
    refine VX.next ?_
    refine VC.block ?_
    refine VC.loop (X := Nat × Option Nat × Nat) (fun (i, g, c') => [(0, .slice p ls.length c), (14, .slice p ls.length c), (15, .int .i64 ls.length), (16, .int .i64 i), (4, rowV g (acc ls i).length c')]) (fun (i, g, c') w' => (i ≤ ls.length ∧ ∀ j (hj : j < ls.length), j < i → ls[j].length ≤ 4096) ∧ Own (⟨w, keys H⟩ :: S) (row 5 1 g (acc ls i).length c' ((acc ls i).map bv) :: H) w') (fun (i, _, _) => ls.length - i) (0, some g, 1) ⟨rfl, rfl, rfl, rfl, rfl, trivial⟩ (fun w' h => ⟨⟨Nat.zero_le _, fun j _ hj => absurd hj (Nat.not_lt_zero _)⟩, ?_⟩) (fun (i, g, c') => VC.fact fun hi => ?_)
    · have e : acc ls 0 = [UInt8.ofNat ls.length] := by simp [acc, body]
      rw [e]
      simpa [← byte_val (show ls.length < 256 by omega), Value.cells] using h
    · obtain ⟨hi, hsz⟩ := hi
      have hle := acc_le ls i hsz
      refine VC.seq ?_
      refine VC.region ?_
      refine VL.lss rfl rfl ?_
      refine VL.case (fun h5_0 => ?_) (fun h5_0 => ?_)
      · refine VL.nil ?_
        refine VX.next ?_
        refine VC.seq ?_
        refine VC.yes rfl ?_
        refine VC.skip ?_
        refine VX.next ?_
        refine VC.seq ?_
        refine VC.block ?_
        refine VC.seq ?_
        refine VC.region ?_
        have hlt : i < ls.length := by omega
        refine VL.index rfl rfl Try.underlying31 sz31 hA (by omega) (by omega) ?_
        refine VL.elem (s := ⟨w, keys H⟩) i 0 rfl kd24 (fun _ h => h) (List.mem_cons_self ..) (Mono.slice Mono.byte) hA (y := ls[i]) (by simp [hlt]) (by omega) (by omega) (fun vs v hl hr hv => ?_)
        obtain ⟨p3, c3, rfl, hA3⟩ := hr
        simp at hv
        subst hv
        refine VL.assign rfl ?_
        refine VL.nil ?_
        refine VX.next ?_
        refine VC.seq ?_
        refine VC.seq ?_
        refine VC.region ?_
        refine VL.move rfl ?_
        refine VL.len Try.underlying24 rfl rfl ?_
        refine VL.gtr rfl rfl ?_
        refine VL.case (fun h7_2 => ?_) (fun h7_2 => ?_)
        · refine VL.nil ?_
          refine VX.next ?_
          refine VC.yes rfl ?_
          refine VC.seq ?_
          refine VC.region ?_
          refine VL.assign rfl ?_
          refine VL.assign rfl ?_
          refine VL.nil ?_
          refine VX.next ?_
          refine VC.ret ?_
          refine VX.then_ret ?_
          refine VX.block_ret ?_
          refine VX.then_ret ?_
          refine VX.then_ret ?_
          refine VX.block_ret ?_
          refine VX.then_ret ?_
          refine VX.ret2 rfl rfl rfl (fun w hw => ?_)
          refine ⟨hw.drop.lose, .inr ⟨fun h => absurd (h.2 ls[i] (List.getElem_mem hlt)) (by omega), rfl⟩⟩
        · refine VL.nil ?_
          refine VX.next ?_
          refine VC.no rfl ?_
          refine VC.skip ?_
          refine VX.next ?_
          refine VC.seq ?_
          refine VC.region ?_
          refine VL.move rfl ?_
          refine VL.move rfl ?_
          refine VL.len Try.underlying24 rfl rfl ?_
          refine VL.shr rfl rfl (by omega) (by simp only [IntKind.bits]; omega) ?_
          have e8 : (ls[i].length : Int) / 2 ^ (8 : Int).toNat = ((ls[i].length / 256 : Nat) : Int) := by
            have : (2 : Int) ^ (8 : Int).toNat = 256 := by decide
            rw [this]; rfl
          rw [e8]
          refine VL.convw (by rw [Try.underlying3]; rfl) Try.underlying5 rfl ?_
          rw [byte_wrap]
          refine VL.move rfl ?_
          refine VL.len Try.underlying24 rfl rfl ?_
          refine VL.convw (by rw [Try.underlying3]; rfl) Try.underlying5 rfl ?_
          rw [byte_wrap]
          refine VL.lit el24 rfl rfl rfl (by simp [Value.cells]) (by intro u hu; simp [Value.cells] at hu; rcases hu with rfl | rfl <;> rfl) (fun gl => ?_)
          refine VL.append 1 el24 rfl rfl rfl rfl (fun _ h => h.rowCells 0 rfl) (by simp [Value.cells]) (by intro u hu; simp [Value.cells] at hu; rcases hu with rfl | rfl <;> rfl) (by omega) (by omega) (fun g1 c1 => ?_)
          refine VL.turn (G' := Own (⟨w, keys H⟩ :: S) (row 5 1 g1 ((acc ls i).length + 2) c1 ((acc ls i).map bv ++ (be 2 ls[i].length).map bv) :: H)) (fun w' h => ?_) ?_
          · have := h.drop
            simpa [be_two, bv, Value.cells] using this
          refine VL.assign rfl ?_
          refine VL.nil ?_
          refine VX.next ?_
          refine VC.region ?_
          refine VL.move rfl ?_
          refine VL.move rfl ?_
          refine VL.append 0 el24 rfl rfl rfl rfl (fun _ h => (hA3.now (s := ⟨w, keys H⟩) Mono.byte h.drop (List.mem_cons_self ..)).bytes) (by simp) (ok1_bytes _) (by omega) (by omega) (fun g2 c2 => ?_)
          refine VL.assign rfl ?_
          refine VL.nil ?_
          refine VX.block_normal ?_
          refine VX.next ?_
          refine VC.region ?_
          refine VL.add rfl rfl (by simp only [InR]; omega) ?_
          refine VL.move rfl ?_
          refine VL.nil ?_
          refine VX.round (i + 1, g2, c2) ⟨rfl, rfl, rfl, rfl, ?_, trivial⟩ (fun w' h => ⟨⟨by omega, ?_⟩, ?_⟩) (by show ls.length - (i + 1) < ls.length - i; omega)
          · show some _ = some _
            rw [acc_succ ls i hlt]
            simp only [List.length_append, be_length]
            rw [Nat.add_assoc]
          · intro j hj hji
            by_cases e : j = i
            · subst e; omega
            · exact hsz j hj (by omega)
          · have e : (acc ls (i + 1)).map bv = (acc ls i).map bv ++ (be 2 ls[i].length).map bv ++ ls[i].map bv := by
              rw [acc_succ ls i hlt, List.map_append, List.map_append, List.append_assoc]
            have e2 : (acc ls (i + 1)).length = (acc ls i).length + 2 + ls[i].length := by
              rw [acc_succ ls i hlt]
              simp only [List.length_append, be_length]
              omega
            rw [e, e2]
            exact h
      · refine VL.nil ?_
        refine VX.next ?_
        refine VC.seq ?_
        refine VC.no rfl ?_
        refine VC.exit ?_
        refine VX.then_exit ?_
        refine VX.then_exit ?_
        refine VX.block_here ?_
        refine VX.next ?_
        refine VC.seq ?_
        refine VC.region ?_
        refine VL.move rfl ?_
        refine VL.assign rfl ?_
        refine VL.assign rfl ?_
        refine VL.nil ?_
        refine VX.next ?_
        refine VC.ret ?_
        refine VX.ret2 rfl rfl rfl (fun w hw => ?_)
        have hil : i = ls.length := by omega
        have hok : joinOk ls := ⟨by omega, fun q hq => by
          obtain ⟨j, hj, rfl⟩ := List.getElem_of_mem hq
          exact hsz j hj (by omega)⟩
        rw [hil, acc_done] at hw
        have hb := hw.letBytes (l := joinB ls) rfl rfl
        refine ⟨hw.drop.lose, .inl ⟨hok, _, _, ?_, hb⟩⟩
        rw [hil, acc_done]; rfl

theorem refJoin_any {S : List Snap} {H : List Chunk} {w : World} (ho : Own S H w) {p : Option Addr} {ls : List (List UInt8)} {c : Nat} (hA : Arr 1 bytesR (keys H) w p ls c) : Calls Try.prog 31 #[.slice p ls.length c] w (Ret fun v w' => Own S H w' ∧ ((joinOk ls ∧ ∃ p c, v = .tuple #[.slice p (joinB ls).length c, .bool true] ∧ Bytes (keys H) w' p (joinB ls) c) ∨ (¬ joinOk ls ∧ v = .tuple #[.slice none 0 0, .bool false]))) := by
  refine enter (G := Own (⟨w, keys H⟩ :: S) H) ho.keep Try.func31 rfl Try.ntmps31 rfl ?_
  refine VC.seq ?_
  refine VC.region ?_
  refine VL.assign rfl ?_
  refine VL.assign rfl ?_
  refine VL.nil ?_
  refine VX.next ?_
  refine VC.seq ?_
  refine VC.seq ?_
  refine VC.region ?_
  refine VL.move rfl ?_
  refine VL.len Try.underlying31 rfl rfl ?_
  refine VL.gtr rfl rfl ?_
  refine VL.case (fun h1_2 => ?_) (fun h1_2 => ?_)
  · refine VL.nil ?_
    refine VX.next ?_
    refine VC.yes rfl ?_
    refine VC.seq ?_
    refine VC.region ?_
    refine VL.assign rfl ?_
    refine VL.assign rfl ?_
    refine VL.nil ?_
    refine VX.next ?_
    refine VC.ret ?_
    refine VX.then_ret ?_
    refine VX.ret2 rfl rfl rfl (fun w hw => ?_)
    refine ⟨hw.lose, .inr ⟨fun h => absurd h.1 (by omega), rfl⟩⟩
  · refine VL.nil ?_
    refine VX.next ?_
    refine VC.no rfl ?_
    refine VC.skip ?_
    refine VX.next ?_
    refine VC.seq ?_
    refine VC.region ?_
    refine VL.move rfl ?_
    refine VL.len Try.underlying31 rfl rfl ?_
    refine VL.conv (by rw [Try.underlying3]; rfl) Try.underlying5 rfl (by simp only [InR]; omega) ?_
    refine VL.lit el24 rfl rfl rfl (by simp [Value.cells]) (by intro u hu; simp [Value.cells] at hu; subst hu; rfl) (fun g => ?_)
    refine VL.assign rfl ?_
    refine VL.nil ?_
    refine VX.next ?_
    refine VC.seq ?_
    refine VC.seq ?_
    refine VC.region ?_
    refine VL.assign rfl ?_
    refine VL.nil ?_
    refine VX.next ?_
    refine VC.block ?_
    refine VC.loop (X := Nat × Option Nat × Nat) (fun (i, g, c') => [(0, .slice p ls.length c), (5, .int .i64 i), (4, rowV g (acc ls i).length c')]) (fun (i, g, c') w' => (i ≤ ls.length ∧ ∀ j (hj : j < ls.length), j < i → ls[j].length ≤ 4096) ∧ Own (⟨w, keys H⟩ :: S) (row 5 1 g (acc ls i).length c' ((acc ls i).map bv) :: H) w') (fun (i, _, _) => ls.length - i) (0, some g, 1) ⟨rfl, rfl, rfl, trivial⟩ (fun w' h => ⟨⟨Nat.zero_le _, fun j _ hj => absurd hj (Nat.not_lt_zero _)⟩, ?_⟩) (fun (i, g, c') => VC.fact fun hi => ?_)
    · have e : acc ls 0 = [UInt8.ofNat ls.length] := by simp [acc, body]
      rw [e]
      simpa [← byte_val (show ls.length < 256 by omega), Value.cells] using h
    · obtain ⟨hi, hsz⟩ := hi
      have hle := acc_le ls i hsz
      refine VC.seq ?_
      refine VC.seq ?_
      refine VC.region ?_
      refine VL.move rfl ?_
      refine VL.move rfl ?_
      refine VL.len Try.underlying31 rfl rfl ?_
      refine VL.lss rfl rfl ?_
      refine VL.case (fun h5_3 => ?_) (fun h5_3 => ?_)
      · refine VL.nil ?_
        refine VX.next ?_
        refine VC.yes rfl ?_
        refine VC.skip ?_
        refine VX.next ?_
        refine VC.seq ?_
        refine VC.block ?_
        refine VC.seq ?_
        refine VC.seq ?_
        refine VC.region ?_
        refine VL.move rfl ?_
        refine VL.move rfl ?_
        have hlt : i < ls.length := by omega
        refine VL.index rfl rfl Try.underlying31 sz31 hA (by omega) (by omega) ?_
        refine VL.elem (s := ⟨w, keys H⟩) i 0 rfl kd24 (fun _ h => h) (List.mem_cons_self ..) (Mono.slice Mono.byte) hA (y := ls[i]) (by simp [hlt]) (by omega) (by omega) (fun vs v hl hr hv => ?_)
        obtain ⟨p3, c3, rfl, hA3⟩ := hr
        simp at hv
        subst hv
        refine VL.len Try.underlying24 rfl rfl ?_
        refine VL.gtr rfl rfl ?_
        refine VL.case (fun h7_5 => ?_) (fun h7_5 => ?_)
        · refine VL.nil ?_
          refine VX.next ?_
          refine VC.yes rfl ?_
          refine VC.seq ?_
          refine VC.region ?_
          refine VL.assign rfl ?_
          refine VL.assign rfl ?_
          refine VL.nil ?_
          refine VX.next ?_
          refine VC.ret ?_
          refine VX.then_ret ?_
          refine VX.block_ret ?_
          refine VX.then_ret ?_
          refine VX.then_ret ?_
          refine VX.block_ret ?_
          refine VX.then_ret ?_
          refine VX.ret2 rfl rfl rfl (fun w hw => ?_)
          refine ⟨hw.drop.lose, .inr ⟨fun h => absurd (h.2 ls[i] (List.getElem_mem hlt)) (by omega), rfl⟩⟩
        · refine VL.nil ?_
          refine VX.next ?_
          refine VC.no rfl ?_
          refine VC.skip ?_
          refine VX.next ?_
          refine VC.seq ?_
          refine VC.region ?_
          refine VL.move rfl ?_
          refine VL.move rfl ?_
          refine VL.move rfl ?_
          refine VL.index rfl rfl Try.underlying31 sz31 hA (by omega) (by omega) ?_
          refine VL.elem (s := ⟨w, keys H⟩) i 0 rfl kd24 (fun _ h => h) (List.mem_cons_self ..) (Mono.slice Mono.byte) hA (y := ls[i]) (by simp [hlt]) (by omega) (by omega) (fun vs v hl hr hv => ?_)
          obtain ⟨p4, c4, rfl, hA4⟩ := hr
          simp at hv
          subst hv
          refine VL.len Try.underlying24 rfl rfl ?_
          refine VL.call Try.func108 rfl (by decide) rfl (fun w' hw => num_any hw ls[i].length 2 (by omega) (by omega) (by omega) (fits_two (by omega))) (fun v => ?_)
          refine VL.at (fun w1 h1w => ?_)
          obtain ⟨hO, pn, cn, rfl, hN⟩ := h1w
          refine VL.toOwn hO ?_
          refine VL.append 0 el24 rfl rfl rfl rfl (fun _ h => (hN.now (s := ⟨w1, _⟩) Mono.byte h (List.mem_cons_self ..)).bytes) (by simp [be_length]) (ok1_bytes _) (by omega) (by omega) (fun g1 c1 => ?_)
          refine VL.assign rfl ?_
          refine VL.nil ?_
          refine VX.next ?_
          refine VC.region ?_
          refine VL.move rfl ?_
          refine VL.move rfl ?_
          refine VL.move rfl ?_
          refine VL.index rfl rfl Try.underlying31 sz31 hA (by omega) (by omega) ?_
          refine VL.elem (s := ⟨w, keys H⟩) i 0 rfl kd24 (fun _ h => h) (List.mem_cons_of_mem _ (List.mem_cons_self ..)) (Mono.slice Mono.byte) hA (y := ls[i]) (by simp [hlt]) (by omega) (by omega) (fun vs v hl hr hv => ?_)
          obtain ⟨p5, c5, rfl, hA5⟩ := hr
          simp at hv
          subst hv
          refine VL.append 0 el24 rfl rfl rfl rfl (fun _ h => (hA5.now (s := ⟨w, keys H⟩) Mono.byte h.drop (List.mem_cons_of_mem _ (List.mem_cons_self ..))).bytes) (by simp) (ok1_bytes _) (by omega) (by omega) (fun g2 c2 => ?_)
          refine VL.assign rfl ?_
          refine VL.nil ?_
          refine VX.block_normal ?_
          refine VX.next ?_
          refine VC.region ?_
          refine VL.move rfl ?_
          refine VL.add rfl rfl (by simp only [InR]; omega) ?_
          refine VL.assign rfl ?_
          refine VL.nil ?_
          refine VX.round (i + 1, g2, c2) ⟨rfl, rfl, ?_, trivial⟩ (fun w' h => ⟨⟨by omega, ?_⟩, ?_⟩) (by show ls.length - (i + 1) < ls.length - i; omega)
          · show some _ = some _
            rw [acc_succ ls i hlt]
            simp only [List.length_append, be_length]
            rw [Nat.add_assoc]
          · intro j hj hji
            by_cases e : j = i
            · subst e; omega
            · exact hsz j hj (by omega)
          · have e : (acc ls (i + 1)).map bv = (acc ls i).map bv ++ (be 2 ls[i].length).map bv ++ ls[i].map bv := by
              rw [acc_succ ls i hlt, List.map_append, List.map_append, List.append_assoc]
            have e2 : (acc ls (i + 1)).length = (acc ls i).length + 2 + ls[i].length := by
              rw [acc_succ ls i hlt]
              simp only [List.length_append, be_length]
              omega
            rw [e, e2]
            exact h.lose
      · refine VL.nil ?_
        refine VX.next ?_
        refine VC.no rfl ?_
        refine VC.exit ?_
        refine VX.then_exit ?_
        refine VX.then_exit ?_
        refine VX.block_here ?_
        refine VX.next ?_
        refine VC.seq ?_
        refine VC.region ?_
        refine VL.move rfl ?_
        refine VL.assign rfl ?_
        refine VL.assign rfl ?_
        refine VL.nil ?_
        refine VX.next ?_
        refine VC.ret ?_
        refine VX.ret2 rfl rfl rfl (fun w hw => ?_)
        have hil : i = ls.length := by omega
        have hok : joinOk ls := ⟨by omega, fun q hq => by
          obtain ⟨j, hj, rfl⟩ := List.getElem_of_mem hq
          exact hsz j hj (by omega)⟩
        rw [hil, acc_done] at hw
        have hb := hw.letBytes (l := joinB ls) rfl rfl
        refine ⟨hw.drop.lose, .inl ⟨hok, _, _, ?_, hb⟩⟩
        rw [hil, acc_done]; rfl

end Go.Proofs.Ytcfecmoagfgnaaa

/- What octet.Split and the reference split compute: by a walk through each. -/
namespace Go.Proofs.Ytcfecmoagfgnaaa
open Go.Vc Go.Pl

/-- A row of byte slices that the call makes. -/
abbrev brow (g : Option Nat) (c : Nat) (ls : List (List UInt8)) : Chunk := arow 24 1 bytesR (Mono.slice Mono.byte) g c ls

inductive SpJ where
  | wrong (e : Nat)
  | fin (r : List UInt8) (p : Option Addr) (c : Nat) (acc : List (List UInt8)) (g : Option Nat) (c' : Nat)
  | next (k : Nat) (r : List UInt8) (p : Option Addr) (c : Nat) (acc : List (List UInt8)) (g : Option Nat) (c' : Nat)
def SpJ.lab : SpJ → Nat
  | .wrong _ => 0
  | .fin .. => 1
  | .next .. => 2
def SpJ.st : SpJ → Sl
  | .wrong e => [(7, .int .i64 e)]
  | .fin r p c acc g c' => [(0, .slice p r.length c), (4, rowV g acc.length c')]
  | .next k r p c acc g c' => [(0, .slice p r.length c), (4, rowV g acc.length c'), (5, .int .i64 k), (7, .int .i64 20)]
def SpJ.μ : SpJ → Nat
  | .wrong _ => 0
  | .fin .. => 1
  | .next k .. => k + 2
def SpJ.inv (l : List UInt8) (S : List Snap) (H : List Chunk) (w : World) : SpJ → World → Prop
  | .wrong e, w' => splitB l = (e, []) ∧ Own (⟨w, keys H⟩ :: S) H w'
  | .fin r p c acc g c', w' => (splitB l = cutB 0 r acc ∧ Bytes (keys H) w p r c) ∧ Own (⟨w, keys H⟩ :: S) (brow g c' acc :: H) w'
  | .next k r p c acc g c', w' => (splitB l = cutB k r acc ∧ Bytes (keys H) w p r c ∧ acc.length + k ≤ 64) ∧ Own (⟨w, keys H⟩ :: S) (brow g c' acc :: H) w'

theorem split_any {S : List Snap} {H : List Chunk} {w : World} (ho : Own S H w) {p : Option Addr} {l : List UInt8} {c : Nat} (hA : Bytes (keys H) w p l c) : Calls Try.prog 32 #[.slice p l.length c] w (Ret fun v w' => Own S H w' ∧ ∃ p' c', v = .tuple #[.slice p' (splitB l).2.length c', .int .i64 (splitB l).1] ∧ Arr 1 bytesR (keys H) w' p' (splitB l).2 c') := by
  refine enter (G := Own (⟨w, keys H⟩ :: S) H) ho.keep Try.func32 rfl Try.ntmps32 rfl ?_
  refine VC.seq ?_
  refine VC.region ?_
  refine VL.assign rfl ?_
  refine VL.assign rfl ?_
  refine VL.nil ?_
  refine VX.next ?_
  refine VC.labels SpJ.lab SpJ.st (SpJ.inv l S H w) SpJ.μ ?_ ?_
  · show VC _ _ _ _ _ _
    refine VC.seq ?_
    refine VC.region ?_
    refine VL.assign rfl ?_
    refine VL.nil ?_
    refine VX.next ?_
    refine VC.seq ?_
    refine VC.region ?_
    refine VL.assign rfl ?_
    refine VL.assign rfl ?_
    refine VL.nil ?_
    refine VX.next ?_
    refine VC.seq ?_
    refine VC.region ?_
    refine VL.assign rfl ?_
    refine VL.nil ?_
    refine VX.next ?_
    refine VC.seq ?_
    refine VC.seq ?_
    refine VC.region ?_
    refine VL.move rfl ?_
    refine VL.len Try.underlying24 rfl rfl ?_
    refine VL.eql rfl rfl ?_
    refine VL.case (fun h4_2 => ?_) (fun h4_2 => ?_)
    · refine VL.nil ?_
      refine VX.next ?_
      refine VC.yes rfl ?_
      refine VC.goto ?_
      refine VX.then_goto ?_
      refine VX.jump (SpJ.wrong 20) rfl ⟨rfl, trivial⟩ (fun w' h => ⟨by rw [List.eq_nil_of_length_eq_zero (show l.length = 0 by omega)]; rfl, h⟩) (by first | trivial | (show 0 < _; simp [SpJ.μ]))
    · refine VL.nil ?_
      refine VX.next ?_
      refine VC.no rfl ?_
      refine VC.skip ?_
      refine VX.next ?_
      refine VC.seq ?_
      obtain ⟨b0, r0, hl⟩ : ∃ b0 r0, l = b0 :: r0 := by
        cases l with
        | nil => exact absurd rfl h4_2
        | cons b r => exact ⟨b, r, rfl⟩
      have hb0 : l[0]? = some b0 := by rw [hl]; rfl
      have hd1 : l.drop 1 = r0 := by rw [hl]; rfl
      have hll : 0 < l.length := by omega
      have hlt := b0.toNat_lt
      apply VC.anyA 1008 (F := [eqF _, eqF _, eqF _, eqF _, eqF _, arrS ⟨w, keys H⟩ 1 byteR (l.drop 1), eqF _, arrS ⟨w, keys H⟩ 1 byteR (l.drop 1)]) [⟨[], [0]⟩, ⟨[(11, 0)], []⟩, ⟨[(12, 1)], []⟩, ⟨[(13, 2)], []⟩, ⟨[], [0]⟩, ⟨[(15, 4)], []⟩, ⟨[(14, 3)], []⟩, ⟨[(16, 5)], []⟩] [(5, 6), (0, 7)] [2, 3, 4, 6, 7, 8, 9, 10, 17, 18, 19, 20, 21, 22, 23, 24, 25, 26, 27, 28, 29, 30, 31, 32, 33, 34, 35, 36, 37, 38, 39, 40, 41, 42, 43, 44, 45, 46, 47, 48, 49, 50, 51, 52, 53, 54, 55, 56, 57, 58] rfl (by kernel_rfl) (by kernel_rfl) (by kernel_rfl) (by kernel_rfl) rfl ?obs5 ?end5
      case obs5 =>
        refine Obs.cons ?_ ?_
        · refine obS (by kernel_rfl) rfl rfl (fun ph5 w5 hO5 => ?_)
          refine VL.move rfl ?_
          exact VL.finS hO5 rfl rfl
        refine Obs.cons ?_ ?_
        · refine obS (by kernel_rfl) rfl rfl (fun ph5 w5 hO5 => ?_)
          rintro _ rfl
          refine VL.index rfl rfl Try.underlying24 sz24 hA (by omega) (by omega) ?_
          exact VL.finS hO5 rfl rfl
        refine Obs.cons ?_ ?_
        · refine ob (by kernel_rfl) rfl (by kernel_rfl) rfl (fun w5 hO5 => ?_)
          rintro _ rfl
          refine VL.byte (s := ⟨w, keys H⟩) rfl kd5 (fun _ e => e ▸ hO5) (List.mem_cons_self ..) hA (y := b0) hb0 ?_
          exact VL.finS hO5 rfl rfl
        refine Obs.cons ?_ ?_
        · refine obS (by kernel_rfl) rfl rfl (fun ph5 w5 hO5 => ?_)
          rintro _ rfl
          refine VL.conv (by rw [Try.underlying5]; rfl) Try.underlying3 rfl (by simp only [InR]; omega) ?_
          exact VL.finS hO5 rfl rfl
        refine Obs.cons ?_ ?_
        · refine obS (by kernel_rfl) rfl rfl (fun ph5 w5 hO5 => ?_)
          refine VL.move rfl ?_
          exact VL.finS hO5 rfl rfl
        refine Obs.cons ?_ ?_
        · refine obS (by kernel_rfl) rfl rfl (fun ph5 w5 hO5 => ?_)
          rintro _ rfl
          refine VL.dropS 1 rfl rfl Try.underlying24 sz24 hA (by omega) (fun p1 hA1 => ?_)
          exact VL.finS hO5 rfl ⟨_, _, rfl, hA1⟩
        refine Obs.cons ?_ ?_
        · refine obS (by kernel_rfl) rfl rfl (fun ph5 w5 hO5 => ?_)
          rintro _ rfl
          refine VL.assign rfl ?_
          exact VL.finS hO5 rfl rfl
        refine Obs.cons ?_ ?_
        · refine obS (by kernel_rfl) rfl rfl (fun ph5 w5 hO5 => ?_)
          rintro _ ⟨p1, c1, rfl, hA1⟩
          refine VL.assign rfl ?_
          exact VL.finS hO5 rfl ⟨_, _, rfl, hA1⟩
        exact Obs.nil
      case end5 =>
        intro w5 hO5
        rintro _ rfl _ ⟨p1, c1, rfl, hA1⟩
        refine VX.backOwn hO5 ?_
        refine VX.next ?_
        refine VC.seq ?_
        refine VC.seq ?_
        refine VC.region ?_
        refine VL.move rfl ?_
        refine VL.gtr rfl rfl ?_
        refine VL.case (fun h6_1 => ?_) (fun h6_1 => ?_)
        · refine VL.nil ?_
          refine VX.next ?_
          refine VC.yes rfl ?_
          refine VC.seq ?_
          refine VC.region ?_
          refine VL.assign rfl ?_
          refine VL.nil ?_
          refine VX.next ?_
          refine VC.goto ?_
          refine VX.then_goto ?_
          refine VX.jump (SpJ.wrong 4) rfl ⟨rfl, trivial⟩ (fun w' h => ⟨by rw [hl, splitB_cons, if_pos (by omega)], h⟩) (by first | trivial | (show 0 < _; simp [SpJ.μ]))
        · refine VL.nil ?_
          refine VX.next ?_
          refine VC.no rfl ?_
          refine VC.skip ?_
          refine VX.next ?_
          refine VC.seq ?_
          suffices hx : ∀ (k : Nat) (r : List UInt8) (p : Option Addr) (c : Nat) (acc : List (List UInt8)) (g : Option Nat) (c' : Nat), VC _ _ _ _ (SpJ.st (.next k r p c acc g c')) (SpJ.inv l S H w (.next k r p c acc g c')) from VC.turn (fun w' h => show SpJ.inv l S H w (.next b0.toNat (l.drop 1) p1 c1 [] none 0) w' from ⟨⟨by rw [hd1, hl, splitB_cons, if_neg (by omega)], hA1, by simp; omega⟩, h.arow_nil (Mono.slice Mono.byte) 24 1⟩) (VC.weaken (SpJ.st (.next b0.toNat (l.drop 1) p1 c1 [] none 0)) ⟨rfl, rfl, rfl, rfl, trivial⟩ (hx _ _ _ _ _ _ _))
          intro k r p c acc g c'
          refine VC.fact fun ⟨hcut, hB, hk⟩ => ?_
          refine VC.label ?_
          refine VX.next ?_
          refine VC.seq ?_
          refine VC.seq ?_
          refine VC.region ?_
          refine VL.move rfl ?_
          refine VL.eql rfl rfl ?_
          refine VL.case (fun h8_1 => ?_) (fun h8_1 => ?_)
          · refine VL.nil ?_
            refine VX.next ?_
            refine VC.yes rfl ?_
            refine VC.goto ?_
            refine VX.then_goto ?_
            refine VX.jump (SpJ.fin r p c acc g c') rfl ⟨rfl, rfl, trivial⟩ (fun w' h => ⟨⟨by rw [hcut]; congr 1; omega, hB⟩, h⟩) (by first | trivial | (show 1 < _; simp [SpJ.μ]))
          · refine VL.nil ?_
            refine VX.next ?_
            refine VC.no rfl ?_
            refine VC.skip ?_
            refine VX.next ?_
            refine VC.seq ?_
            refine VC.seq ?_
            obtain ⟨k, rfl⟩ : ∃ k2, k = k2 + 1 := ⟨k - 1, by omega⟩
            refine VC.region ?_
            refine VL.move rfl ?_
            refine VL.len Try.underlying24 rfl rfl ?_
            refine VL.lss rfl rfl ?_
            refine VL.case (fun h9_2 => ?_) (fun h9_2 => ?_)
            · refine VL.nil ?_
              refine VX.next ?_
              refine VC.yes rfl ?_
              refine VC.goto ?_
              refine VX.then_goto ?_
              refine VX.jump (SpJ.wrong 20) rfl ⟨rfl, trivial⟩ (fun w' h => ⟨by rw [hcut, cutB_short (by omega)], h.drop⟩) (by first | trivial | (show 0 < _; simp [SpJ.μ]))
            · refine VL.nil ?_
              refine VX.next ?_
              refine VC.no rfl ?_
              refine VC.skip ?_
              refine VX.next ?_
              refine VC.seq ?_
              have hr2 : 2 ≤ r.length := by omega
              have hr0 : r[0]? = some (r.getD 0 0) := by simp [List.getD, List.getElem?_eq_getElem (show 0 < r.length by omega)]
              have hr1 : r[1]? = some (r.getD 1 0) := by simp [List.getD, List.getElem?_eq_getElem (show 1 < r.length by omega)]
              have hv0 := (r.getD 0 0).toNat_lt
              have hv1 := (r.getD 1 0).toNat_lt
              rw [cutB_next hr2] at hcut
              apply VC.anyA 1014 (F := [eqF _, eqF _, eqF _, eqF _, eqF _, eqF _, eqF _, eqF _, eqF _, eqF (.int .i64 ((pre2 r : Nat) : Int)), eqF _, arrS ⟨w, keys H⟩ 1 byteR (r.drop 2), eqF _, arrS ⟨w, keys H⟩ 1 byteR (r.drop 2)]) [⟨[], [0]⟩, ⟨[(24, 0)], []⟩, ⟨[(25, 1)], []⟩, ⟨[(26, 2)], []⟩, ⟨[(27, 3)], []⟩, ⟨[], [0]⟩, ⟨[(29, 5)], []⟩, ⟨[(30, 6)], []⟩, ⟨[(31, 7)], []⟩, ⟨[(28, 4), (32, 8)], []⟩, ⟨[], [0]⟩, ⟨[(34, 10)], []⟩, ⟨[(33, 9)], []⟩, ⟨[(35, 11)], []⟩] [(6, 12), (0, 13)] [2, 3, 4, 5, 7, 8, 9, 10, 11, 12, 13, 14, 15, 16, 17, 18, 19, 20, 21, 22, 23, 36, 37, 38, 39, 40, 41, 42, 43, 44, 45, 46, 47, 48, 49, 50, 51, 52, 53, 54, 55, 56, 57, 58] rfl (by kernel_rfl) (by kernel_rfl) (by kernel_rfl) (by kernel_rfl) rfl ?obs10 ?end10
              case obs10 =>
                refine Obs.cons ?_ ?_
                · refine obS (by kernel_rfl) rfl rfl (fun ph10 w10 hO10 => ?_)
                  refine VL.move rfl ?_
                  exact VL.finS hO10 rfl rfl
                refine Obs.cons ?_ ?_
                · refine obS (by kernel_rfl) rfl rfl (fun ph10 w10 hO10 => ?_)
                  rintro _ rfl
                  refine VL.index rfl rfl Try.underlying24 sz24 hB (by omega) (by omega) ?_
                  exact VL.finS hO10 rfl rfl
                refine Obs.cons ?_ ?_
                · refine ob (by kernel_rfl) rfl (by kernel_rfl) rfl (fun w10 hO10 => ?_)
                  rintro _ rfl
                  refine VL.byte (s := ⟨w, keys H⟩) rfl kd5 (fun _ e => e ▸ hO10) (List.mem_cons_self ..) hB (y := r.getD 0 0) hr0 ?_
                  exact VL.finS hO10 rfl rfl
                refine Obs.cons ?_ ?_
                · refine obS (by kernel_rfl) rfl rfl (fun ph10 w10 hO10 => ?_)
                  rintro _ rfl
                  refine VL.conv (by rw [Try.underlying5]; rfl) Try.underlying3 rfl (by simp only [InR]; omega) ?_
                  exact VL.finS hO10 rfl rfl
                refine Obs.cons ?_ ?_
                · refine obS (by kernel_rfl) rfl rfl (fun ph10 w10 hO10 => ?_)
                  rintro _ rfl
                  refine VL.shl rfl rfl (by omega) (by simp only [IntKind.bits]; omega) ?_
                  rw [i64_shl8 _ (by omega)]
                  exact VL.finS hO10 rfl rfl
                refine Obs.cons ?_ ?_
                · refine obS (by kernel_rfl) rfl rfl (fun ph10 w10 hO10 => ?_)
                  refine VL.move rfl ?_
                  exact VL.finS hO10 rfl rfl
                refine Obs.cons ?_ ?_
                · refine obS (by kernel_rfl) rfl rfl (fun ph10 w10 hO10 => ?_)
                  rintro _ rfl
                  refine VL.index rfl rfl Try.underlying24 sz24 hB (by omega) (by omega) ?_
                  exact VL.finS hO10 rfl rfl
                refine Obs.cons ?_ ?_
                · refine ob (by kernel_rfl) rfl (by kernel_rfl) rfl (fun w10 hO10 => ?_)
                  rintro _ rfl
                  refine VL.byte (s := ⟨w, keys H⟩) rfl kd5 (fun _ e => e ▸ hO10) (List.mem_cons_self ..) hB (y := r.getD 1 0) hr1 ?_
                  exact VL.finS hO10 rfl rfl
                refine Obs.cons ?_ ?_
                · refine obS (by kernel_rfl) rfl rfl (fun ph10 w10 hO10 => ?_)
                  rintro _ rfl
                  refine VL.conv (by rw [Try.underlying5]; rfl) Try.underlying3 rfl (by simp only [InR]; omega) ?_
                  exact VL.finS hO10 rfl rfl
                refine Obs.cons ?_ ?_
                · refine obS (by kernel_rfl) rfl rfl (fun ph10 w10 hO10 => ?_)
                  rintro _ rfl _ rfl
                  refine VL.bits (.inr (.inl rfl)) rfl rfl ?_
                  rw [i64_or_byte _ _ (by omega) (by omega)]
                  exact VL.finS hO10 rfl rfl
                refine Obs.cons ?_ ?_
                · refine obS (by kernel_rfl) rfl rfl (fun ph10 w10 hO10 => ?_)
                  refine VL.move rfl ?_
                  exact VL.finS hO10 rfl rfl
                refine Obs.cons ?_ ?_
                · refine obS (by kernel_rfl) rfl rfl (fun ph10 w10 hO10 => ?_)
                  rintro _ rfl
                  refine VL.dropS 2 rfl rfl Try.underlying24 sz24 hB (by omega) (fun p2 hB2 => ?_)
                  exact VL.finS hO10 rfl ⟨_, _, rfl, hB2⟩
                refine Obs.cons ?_ ?_
                · refine obS (by kernel_rfl) rfl rfl (fun ph10 w10 hO10 => ?_)
                  rintro _ rfl
                  refine VL.assign rfl ?_
                  exact VL.finS hO10 rfl rfl
                refine Obs.cons ?_ ?_
                · refine obS (by kernel_rfl) rfl rfl (fun ph10 w10 hO10 => ?_)
                  rintro _ ⟨p2, c2, rfl, hB2⟩
                  refine VL.assign rfl ?_
                  exact VL.finS hO10 rfl ⟨_, _, rfl, hB2⟩
                exact Obs.nil
              case end10 =>
                intro w10 hO10
                rintro _ rfl _ ⟨p2, c2, rfl, hB2⟩
                refine VX.backOwn hO10 ?_
                refine VX.next ?_
                refine VC.seq ?_
                refine VC.seq ?_
                refine VC.region ?_
                refine VL.move rfl ?_
                refine VL.gtr rfl rfl ?_
                refine VL.case (fun h11_1 => ?_) (fun h11_1 => ?_)
                · refine VL.nil ?_
                  refine VX.next ?_
                  refine VC.yes rfl ?_
                  refine VC.seq ?_
                  refine VC.region ?_
                  refine VL.assign rfl ?_
                  refine VL.nil ?_
                  refine VX.next ?_
                  refine VC.goto ?_
                  refine VX.then_goto ?_
                  refine VX.jump (SpJ.wrong 5) rfl ⟨rfl, trivial⟩ (fun w' h => ⟨by rw [hcut, if_pos (by omega)], h.drop⟩) (by first | trivial | (show 0 < _; simp [SpJ.μ]))
                · refine VL.nil ?_
                  refine VX.next ?_
                  refine VC.no rfl ?_
                  refine VC.skip ?_
                  refine VX.next ?_
                  refine VC.seq ?_
                  refine VC.seq ?_
                  refine VC.region ?_
                  refine VL.move rfl ?_
                  refine VL.move rfl ?_
                  refine VL.len Try.underlying24 rfl rfl ?_
                  refine VL.gtr rfl rfl ?_
                  refine VL.case (fun h13_3 => ?_) (fun h13_3 => ?_)
                  · refine VL.nil ?_
                    refine VX.next ?_
                    refine VC.yes rfl ?_
                    refine VC.goto ?_
                    refine VX.then_goto ?_
                    refine VX.jump (SpJ.wrong 20) rfl ⟨rfl, trivial⟩ (fun w' h => ⟨by rw [hcut, if_neg (by omega), if_pos (by omega)], h.drop⟩) (by first | trivial | (show 0 < _; simp [SpJ.μ]))
                  · refine VL.nil ?_
                    refine VX.next ?_
                    refine VC.no rfl ?_
                    refine VC.skip ?_
                    refine VX.next ?_
                    refine VC.seq ?_
                    have hle : pre2 r ≤ (r.drop 2).length := by omega
                    rw [if_neg (by omega), if_neg (by omega)] at hcut
                    have hpl : ((r.drop 2).take (pre2 r)).length ≤ 4096 := by rw [List.length_take]; omega
                    apply VC.anyA 6 (F := [eqF _, eqF _, eqF _, arrS ⟨w, keys H⟩ 1 byteR ((r.drop 2).take (pre2 r)), bytesF ((r.drop 2).take (pre2 r)), arrF 1 bytesR (Mono.slice Mono.byte) [((r.drop 2).take (pre2 r))], lateF (fun v w' => ∃ g6 c6, v = rowV g6 (acc ++ [((r.drop 2).take (pre2 r))]).length c6 ∧ Own (⟨w, keys H⟩ :: S) (brow g6 c6 (acc ++ [((r.drop 2).take (pre2 r))]) :: H) w'), eqF _, eqF _, arrS ⟨w, keys H⟩ 1 byteR ((r.drop 2).drop (pre2 r)), lateF (fun v w' => ∃ g6 c6, v = rowV g6 (acc ++ [((r.drop 2).take (pre2 r))]).length c6 ∧ Own (⟨w, keys H⟩ :: S) (brow g6 c6 (acc ++ [((r.drop 2).take (pre2 r))]) :: H) w'), arrS ⟨w, keys H⟩ 1 byteR ((r.drop 2).drop (pre2 r))]) [⟨[], [4]⟩, ⟨[], [0]⟩, ⟨[], [6]⟩, ⟨[(43, 1), (44, 2)], []⟩, ⟨[(45, 3)], []⟩, ⟨[(46, 4)], []⟩, ⟨[(42, 0), (47, 5)], []⟩, ⟨[], [0]⟩, ⟨[], [6]⟩, ⟨[(49, 7), (50, 8)], []⟩, ⟨[(48, 6)], []⟩, ⟨[(51, 9)], []⟩] [(4, 10), (0, 11)] [2, 3, 5, 6, 7, 8, 9, 10, 11, 12, 13, 14, 15, 16, 17, 18, 19, 20, 21, 22, 23, 24, 25, 26, 27, 28, 29, 30, 31, 32, 33, 34, 35, 36, 37, 38, 39, 40, 41, 52, 53, 54, 55, 56, 57, 58] rfl (by kernel_rfl) (by kernel_rfl) (by kernel_rfl) (by kernel_rfl) rfl ?obs14 ?end14
                    case obs14 =>
                      refine Obs.cons ?_ ?_
                      · refine obS (by kernel_rfl) rfl rfl (fun ph14 w14 hO14 => ?_)
                        refine VL.move rfl ?_
                        exact VL.finS hO14 rfl rfl
                      refine Obs.cons ?_ ?_
                      · refine obS (by kernel_rfl) rfl rfl (fun ph14 w14 hO14 => ?_)
                        refine VL.move rfl ?_
                        exact VL.finS hO14 rfl rfl
                      refine Obs.cons ?_ ?_
                      · refine obS (by kernel_rfl) rfl rfl (fun ph14 w14 hO14 => ?_)
                        refine VL.move rfl ?_
                        exact VL.finS hO14 rfl rfl
                      refine Obs.cons ?_ ?_
                      · refine obS (by kernel_rfl) rfl rfl (fun ph14 w14 hO14 => ?_)
                        rintro _ rfl _ rfl
                        refine VL.takeS (pre2 r) rfl rfl Try.underlying24 sz24 hB2 hle (fun p3 hA3 => ?_)
                        exact VL.finS hO14 rfl ⟨_, _, rfl, hA3⟩
                      refine Obs.cons ?_ ?_
                      · refine ob (by kernel_rfl) rfl (by kernel_rfl) rfl (fun w14 hO14 => ?_)
                        rintro _ ⟨p3, c3, rfl, hA3⟩
                        refine VL.toOwn hO14 ?_
                        refine VL.call Try.func109 rfl (by decide) rfl (fun w1 hw => clone_any hw (hA3.now (s := ⟨w, keys H⟩) Mono.byte hw (List.mem_cons_of_mem _ (List.mem_cons_self ..))) (by omega)) (fun v => ?_)
                        exact VL.finO rfl (fun _ ⟨_, _, _, h, _⟩ => h) (fun _ ⟨p4, c4, e, _, h⟩ => ⟨p4, c4, e, h⟩)
                      refine Obs.cons ?_ ?_
                      · refine ob (by kernel_rfl) rfl (by kernel_rfl) rfl (fun w14 hO14 => ?_)
                        rintro _ ⟨p4, c4, rfl, hA4⟩
                        refine VL.toOwn hO14 ?_
                        refine VL.lit el31 rfl rfl rfl (by simp [Value.cells]) (by intro u hu; simp [Value.cells] at hu; subst hu; rfl) (fun g5 => ?_)
                        exact VL.finO rfl (fun _ h => h.drop) (fun _ h => ⟨_, _, rfl, Own.letOne (v := .slice p4 ((r.drop 2).take (pre2 r)).length c4) h ⟨p4, c4, rfl, hA4.now (s := ⟨w14, _⟩) Mono.byte h.drop (List.mem_cons_self ..)⟩⟩)
                      refine Obs.cons ?_ ?_
                      · refine obK (by kernel_rfl) rfl (fun w14 hO14 => ?_)
                        rintro _ rfl _ ⟨p5, c5, rfl, hA5⟩
                        refine VL.toOwn hO14 ?_
                        refine VL.appends 0 el31 rfl rfl rfl (fun _ h => h) rfl (fun _ h => hA5.now (s := ⟨w14, _⟩) (Mono.slice Mono.byte) h (List.mem_cons_self ..)) (fun _ _ _ _ h => ok1_slices h) (by simp only [List.length_cons, List.length_nil]; omega) (fun g6 c6 => ?_) (by simp only [List.length_cons, List.length_nil]; omega)
                        exact VL.finK rfl (fun _ h => h) (fun _ h => ⟨g6, c6, rfl, h.lose⟩)
                      refine Obs.cons ?_ ?_
                      · refine obS (by kernel_rfl) rfl rfl (fun ph14 w14 hO14 => ?_)
                        refine VL.move rfl ?_
                        exact VL.finS hO14 rfl rfl
                      refine Obs.cons ?_ ?_
                      · refine obS (by kernel_rfl) rfl rfl (fun ph14 w14 hO14 => ?_)
                        refine VL.move rfl ?_
                        exact VL.finS hO14 rfl rfl
                      refine Obs.cons ?_ ?_
                      · refine obS (by kernel_rfl) rfl rfl (fun ph14 w14 hO14 => ?_)
                        rintro _ rfl _ rfl
                        refine VL.dropS (pre2 r) rfl rfl Try.underlying24 sz24 hB2 hle (fun p9 hB9 => ?_)
                        exact VL.finS hO14 rfl ⟨_, _, rfl, hB9⟩
                      refine Obs.cons ?_ ?_
                      · refine obS (by kernel_rfl) rfl rfl (fun ph14 w14 hO14 => ?_)
                        rintro _ ⟨g6, c6, rfl, h6⟩
                        refine VL.assign rfl ?_
                        exact VL.finS hO14 rfl ⟨g6, c6, rfl, h6⟩
                      refine Obs.cons ?_ ?_
                      · refine obS (by kernel_rfl) rfl rfl (fun ph14 w14 hO14 => ?_)
                        rintro _ ⟨p9, c9, rfl, hB9⟩
                        refine VL.assign rfl ?_
                        exact VL.finS hO14 rfl ⟨_, _, rfl, hB9⟩
                      exact Obs.nil
                    case end14 =>
                      intro w14 hO14
                      rintro _ ⟨g6, c6, rfl, h6⟩ _ ⟨p9, c9, rfl, hB9⟩
                      refine VX.turn (G' := Own (⟨w, keys H⟩ :: S) (brow g6 c6 (acc ++ [((r.drop 2).take (pre2 r))]) :: H)) (fun w' e => e ▸ h6) ?_
                      refine VX.next ?_
                      refine VC.seq ?_
                      refine VC.region ?_
                      refine VL.move rfl ?_
                      refine VL.sub rfl rfl (by simp only [InR]; omega) ?_
                      refine VL.assign rfl ?_
                      refine VL.nil ?_
                      refine VX.next ?_
                      refine VC.seq ?_
                      refine VC.goto ?_
                      refine VX.then_goto ?_
                      refine VX.jump (SpJ.next k ((r.drop 2).drop (pre2 r)) p9 c9 (acc ++ [((r.drop 2).take (pre2 r))]) g6 c6) rfl ⟨rfl, rfl, ?_, rfl, trivial⟩ (fun w' h => ⟨⟨hcut, hB9, by simp; omega⟩, h⟩) (by first | trivial | (show k + 2 < k + 1 + 2; omega))
                      show some (Value.int .i64 _) = some (Value.int .i64 _)
                      congr 2
                      omega
  · intro x
    cases x with
    | wrong e =>
      refine ⟨_, rfl, ?_⟩
      refine VC.fact fun hs => ?_
      refine VC.seq ?_
      refine VC.skip ?_
      refine VX.next ?_
      refine VC.seq ?_
      refine VC.region ?_
      refine VL.move rfl ?_
      refine VL.assign rfl ?_
      refine VL.assign rfl ?_
      refine VL.nil ?_
      refine VX.next ?_
      refine VC.ret ?_
      refine VX.jumps_ret ?_
      refine VX.ret2 rfl rfl rfl (fun w hw => ?_)
      exact ⟨hw.lose, none, 0, by rw [hs]; rfl, by rw [hs]; exact Arr.none⟩
    | fin r p c acc g c' =>
      refine ⟨_, rfl, ?_⟩
      refine VC.fact fun ⟨hcut, hB⟩ => ?_
      refine VC.seq ?_
      refine VC.skip ?_
      refine VX.next ?_
      refine VC.seq ?_
      refine VC.seq ?_
      refine VC.region ?_
      refine VL.move rfl ?_
      refine VL.len Try.underlying24 rfl rfl ?_
      refine VL.eql rfl rfl ?_
      refine VL.case (fun h16_2 => ?_) (fun h16_2 => ?_)
      · refine VL.nil ?_
        refine VX.next ?_
        refine VC.yes rfl ?_
        refine VC.seq ?_
        refine VC.region ?_
        refine VL.move rfl ?_
        refine VL.assign rfl ?_
        refine VL.assign rfl ?_
        refine VL.nil ?_
        refine VX.next ?_
        refine VC.ret ?_
        refine VX.then_ret ?_
        refine VX.jumps_ret ?_
        refine VX.ret2 rfl rfl rfl (fun w hw => ?_)
        have hs : splitB l = (0, acc) := by rw [hcut, cutB_done, if_pos (List.eq_nil_of_length_eq_zero (by omega))]
        have ha := hw.letArr
        exact ⟨hw.drop.lose, g.map fun g => ⟨g, 0, none⟩, c', by rw [hs]; rfl, by rw [hs]; exact ha⟩
      · refine VL.nil ?_
        refine VX.next ?_
        refine VC.no rfl ?_
        refine VC.skip ?_
        refine VX.next ?_
        refine VC.seq ?_
        have hs : splitB l = (21, []) := by rw [hcut, cutB_done, if_neg (fun e => h16_2 (by rw [e]; rfl))]
        refine VC.turn (fun _ h => h.drop) ?_
        refine VC.region ?_
        refine VL.assign rfl ?_
        refine VL.nil ?_
        refine VX.next ?_
        refine VC.seq ?_
        refine VC.label ?_
        refine VX.next ?_
        refine VC.seq ?_
        refine VC.region ?_
        refine VL.move rfl ?_
        refine VL.assign rfl ?_
        refine VL.assign rfl ?_
        refine VL.nil ?_
        refine VX.next ?_
        refine VC.ret ?_
        refine VX.jumps_ret ?_
        refine VX.ret2 rfl rfl rfl (fun w hw => ?_)
        exact ⟨hw.lose, none, 0, by rw [hs]; rfl, by rw [hs]; exact Arr.none⟩
    | next k r p c acc g c' =>
      refine ⟨_, rfl, ?_⟩
      refine VC.fact fun ⟨hcut, hB, hk⟩ => ?_
      refine VC.seq ?_
      refine VC.skip ?_
      refine VX.next ?_
      refine VC.seq ?_
      refine VC.seq ?_
      refine VC.region ?_
      refine VL.move rfl ?_
      refine VL.eql rfl rfl ?_
      refine VL.case (fun h8_1 => ?_) (fun h8_1 => ?_)
      · refine VL.nil ?_
        refine VX.next ?_
        refine VC.yes rfl ?_
        refine VC.goto ?_
        refine VX.then_goto ?_
        refine VX.jump (SpJ.fin r p c acc g c') rfl ⟨rfl, rfl, trivial⟩ (fun w' h => ⟨⟨by rw [hcut]; congr 1; omega, hB⟩, h⟩) (by first | trivial | (show 1 < _; simp [SpJ.μ]))
      · refine VL.nil ?_
        refine VX.next ?_
        refine VC.no rfl ?_
        refine VC.skip ?_
        refine VX.next ?_
        refine VC.seq ?_
        refine VC.seq ?_
        obtain ⟨k, rfl⟩ : ∃ k2, k = k2 + 1 := ⟨k - 1, by omega⟩
        refine VC.region ?_
        refine VL.move rfl ?_
        refine VL.len Try.underlying24 rfl rfl ?_
        refine VL.lss rfl rfl ?_
        refine VL.case (fun h9_2 => ?_) (fun h9_2 => ?_)
        · refine VL.nil ?_
          refine VX.next ?_
          refine VC.yes rfl ?_
          refine VC.goto ?_
          refine VX.then_goto ?_
          refine VX.jump (SpJ.wrong 20) rfl ⟨rfl, trivial⟩ (fun w' h => ⟨by rw [hcut, cutB_short (by omega)], h.drop⟩) (by first | trivial | (show 0 < _; simp [SpJ.μ]))
        · refine VL.nil ?_
          refine VX.next ?_
          refine VC.no rfl ?_
          refine VC.skip ?_
          refine VX.next ?_
          refine VC.seq ?_
          have hr2 : 2 ≤ r.length := by omega
          have hr0 : r[0]? = some (r.getD 0 0) := by simp [List.getD, List.getElem?_eq_getElem (show 0 < r.length by omega)]
          have hr1 : r[1]? = some (r.getD 1 0) := by simp [List.getD, List.getElem?_eq_getElem (show 1 < r.length by omega)]
          have hv0 := (r.getD 0 0).toNat_lt
          have hv1 := (r.getD 1 0).toNat_lt
          rw [cutB_next hr2] at hcut
          apply VC.anyA 1014 (F := [eqF _, eqF _, eqF _, eqF _, eqF _, eqF _, eqF _, eqF _, eqF _, eqF (.int .i64 ((pre2 r : Nat) : Int)), eqF _, arrS ⟨w, keys H⟩ 1 byteR (r.drop 2), eqF _, arrS ⟨w, keys H⟩ 1 byteR (r.drop 2)]) [⟨[], [0]⟩, ⟨[(24, 0)], []⟩, ⟨[(25, 1)], []⟩, ⟨[(26, 2)], []⟩, ⟨[(27, 3)], []⟩, ⟨[], [0]⟩, ⟨[(29, 5)], []⟩, ⟨[(30, 6)], []⟩, ⟨[(31, 7)], []⟩, ⟨[(28, 4), (32, 8)], []⟩, ⟨[], [0]⟩, ⟨[(34, 10)], []⟩, ⟨[(33, 9)], []⟩, ⟨[(35, 11)], []⟩] [(6, 12), (0, 13)] [2, 3, 4, 5, 7, 8, 9, 10, 11, 12, 13, 14, 15, 16, 17, 18, 19, 20, 21, 22, 23, 36, 37, 38, 39, 40, 41, 42, 43, 44, 45, 46, 47, 48, 49, 50, 51, 52, 53, 54, 55, 56, 57, 58] rfl (by kernel_rfl) (by kernel_rfl) (by kernel_rfl) (by kernel_rfl) rfl ?obs10 ?end10
          case obs10 =>
            refine Obs.cons ?_ ?_
            · refine obS (by kernel_rfl) rfl rfl (fun ph10 w10 hO10 => ?_)
              refine VL.move rfl ?_
              exact VL.finS hO10 rfl rfl
            refine Obs.cons ?_ ?_
            · refine obS (by kernel_rfl) rfl rfl (fun ph10 w10 hO10 => ?_)
              rintro _ rfl
              refine VL.index rfl rfl Try.underlying24 sz24 hB (by omega) (by omega) ?_
              exact VL.finS hO10 rfl rfl
            refine Obs.cons ?_ ?_
            · refine ob (by kernel_rfl) rfl (by kernel_rfl) rfl (fun w10 hO10 => ?_)
              rintro _ rfl
              refine VL.byte (s := ⟨w, keys H⟩) rfl kd5 (fun _ e => e ▸ hO10) (List.mem_cons_self ..) hB (y := r.getD 0 0) hr0 ?_
              exact VL.finS hO10 rfl rfl
            refine Obs.cons ?_ ?_
            · refine obS (by kernel_rfl) rfl rfl (fun ph10 w10 hO10 => ?_)
              rintro _ rfl
              refine VL.conv (by rw [Try.underlying5]; rfl) Try.underlying3 rfl (by simp only [InR]; omega) ?_
              exact VL.finS hO10 rfl rfl
            refine Obs.cons ?_ ?_
            · refine obS (by kernel_rfl) rfl rfl (fun ph10 w10 hO10 => ?_)
              rintro _ rfl
              refine VL.shl rfl rfl (by omega) (by simp only [IntKind.bits]; omega) ?_
              rw [i64_shl8 _ (by omega)]
              exact VL.finS hO10 rfl rfl
            refine Obs.cons ?_ ?_
            · refine obS (by kernel_rfl) rfl rfl (fun ph10 w10 hO10 => ?_)
              refine VL.move rfl ?_
              exact VL.finS hO10 rfl rfl
            refine Obs.cons ?_ ?_
            · refine obS (by kernel_rfl) rfl rfl (fun ph10 w10 hO10 => ?_)
              rintro _ rfl
              refine VL.index rfl rfl Try.underlying24 sz24 hB (by omega) (by omega) ?_
              exact VL.finS hO10 rfl rfl
            refine Obs.cons ?_ ?_
            · refine ob (by kernel_rfl) rfl (by kernel_rfl) rfl (fun w10 hO10 => ?_)
              rintro _ rfl
              refine VL.byte (s := ⟨w, keys H⟩) rfl kd5 (fun _ e => e ▸ hO10) (List.mem_cons_self ..) hB (y := r.getD 1 0) hr1 ?_
              exact VL.finS hO10 rfl rfl
            refine Obs.cons ?_ ?_
            · refine obS (by kernel_rfl) rfl rfl (fun ph10 w10 hO10 => ?_)
              rintro _ rfl
              refine VL.conv (by rw [Try.underlying5]; rfl) Try.underlying3 rfl (by simp only [InR]; omega) ?_
              exact VL.finS hO10 rfl rfl
            refine Obs.cons ?_ ?_
            · refine obS (by kernel_rfl) rfl rfl (fun ph10 w10 hO10 => ?_)
              rintro _ rfl _ rfl
              refine VL.bits (.inr (.inl rfl)) rfl rfl ?_
              rw [i64_or_byte _ _ (by omega) (by omega)]
              exact VL.finS hO10 rfl rfl
            refine Obs.cons ?_ ?_
            · refine obS (by kernel_rfl) rfl rfl (fun ph10 w10 hO10 => ?_)
              refine VL.move rfl ?_
              exact VL.finS hO10 rfl rfl
            refine Obs.cons ?_ ?_
            · refine obS (by kernel_rfl) rfl rfl (fun ph10 w10 hO10 => ?_)
              rintro _ rfl
              refine VL.dropS 2 rfl rfl Try.underlying24 sz24 hB (by omega) (fun p2 hB2 => ?_)
              exact VL.finS hO10 rfl ⟨_, _, rfl, hB2⟩
            refine Obs.cons ?_ ?_
            · refine obS (by kernel_rfl) rfl rfl (fun ph10 w10 hO10 => ?_)
              rintro _ rfl
              refine VL.assign rfl ?_
              exact VL.finS hO10 rfl rfl
            refine Obs.cons ?_ ?_
            · refine obS (by kernel_rfl) rfl rfl (fun ph10 w10 hO10 => ?_)
              rintro _ ⟨p2, c2, rfl, hB2⟩
              refine VL.assign rfl ?_
              exact VL.finS hO10 rfl ⟨_, _, rfl, hB2⟩
            exact Obs.nil
          case end10 =>
            intro w10 hO10
            rintro _ rfl _ ⟨p2, c2, rfl, hB2⟩
            refine VX.backOwn hO10 ?_
            refine VX.next ?_
            refine VC.seq ?_
            refine VC.seq ?_
            refine VC.region ?_
            refine VL.move rfl ?_
            refine VL.gtr rfl rfl ?_
            refine VL.case (fun h11_1 => ?_) (fun h11_1 => ?_)
            · refine VL.nil ?_
              refine VX.next ?_
              refine VC.yes rfl ?_
              refine VC.seq ?_
              refine VC.region ?_
              refine VL.assign rfl ?_
              refine VL.nil ?_
              refine VX.next ?_
              refine VC.goto ?_
              refine VX.then_goto ?_
              refine VX.jump (SpJ.wrong 5) rfl ⟨rfl, trivial⟩ (fun w' h => ⟨by rw [hcut, if_pos (by omega)], h.drop⟩) (by first | trivial | (show 0 < _; simp [SpJ.μ]))
            · refine VL.nil ?_
              refine VX.next ?_
              refine VC.no rfl ?_
              refine VC.skip ?_
              refine VX.next ?_
              refine VC.seq ?_
              refine VC.seq ?_
              refine VC.region ?_
              refine VL.move rfl ?_
              refine VL.move rfl ?_
              refine VL.len Try.underlying24 rfl rfl ?_
              refine VL.gtr rfl rfl ?_
              refine VL.case (fun h13_3 => ?_) (fun h13_3 => ?_)
              · refine VL.nil ?_
                refine VX.next ?_
                refine VC.yes rfl ?_
                refine VC.goto ?_
                refine VX.then_goto ?_
                refine VX.jump (SpJ.wrong 20) rfl ⟨rfl, trivial⟩ (fun w' h => ⟨by rw [hcut, if_neg (by omega), if_pos (by omega)], h.drop⟩) (by first | trivial | (show 0 < _; simp [SpJ.μ]))
              · refine VL.nil ?_
                refine VX.next ?_
                refine VC.no rfl ?_
                refine VC.skip ?_
                refine VX.next ?_
                refine VC.seq ?_
                have hle : pre2 r ≤ (r.drop 2).length := by omega
                rw [if_neg (by omega), if_neg (by omega)] at hcut
                have hpl : ((r.drop 2).take (pre2 r)).length ≤ 4096 := by rw [List.length_take]; omega
                apply VC.anyA 6 (F := [eqF _, eqF _, eqF _, arrS ⟨w, keys H⟩ 1 byteR ((r.drop 2).take (pre2 r)), bytesF ((r.drop 2).take (pre2 r)), arrF 1 bytesR (Mono.slice Mono.byte) [((r.drop 2).take (pre2 r))], lateF (fun v w' => ∃ g6 c6, v = rowV g6 (acc ++ [((r.drop 2).take (pre2 r))]).length c6 ∧ Own (⟨w, keys H⟩ :: S) (brow g6 c6 (acc ++ [((r.drop 2).take (pre2 r))]) :: H) w'), eqF _, eqF _, arrS ⟨w, keys H⟩ 1 byteR ((r.drop 2).drop (pre2 r)), lateF (fun v w' => ∃ g6 c6, v = rowV g6 (acc ++ [((r.drop 2).take (pre2 r))]).length c6 ∧ Own (⟨w, keys H⟩ :: S) (brow g6 c6 (acc ++ [((r.drop 2).take (pre2 r))]) :: H) w'), arrS ⟨w, keys H⟩ 1 byteR ((r.drop 2).drop (pre2 r))]) [⟨[], [4]⟩, ⟨[], [0]⟩, ⟨[], [6]⟩, ⟨[(43, 1), (44, 2)], []⟩, ⟨[(45, 3)], []⟩, ⟨[(46, 4)], []⟩, ⟨[(42, 0), (47, 5)], []⟩, ⟨[], [0]⟩, ⟨[], [6]⟩, ⟨[(49, 7), (50, 8)], []⟩, ⟨[(48, 6)], []⟩, ⟨[(51, 9)], []⟩] [(4, 10), (0, 11)] [2, 3, 5, 6, 7, 8, 9, 10, 11, 12, 13, 14, 15, 16, 17, 18, 19, 20, 21, 22, 23, 24, 25, 26, 27, 28, 29, 30, 31, 32, 33, 34, 35, 36, 37, 38, 39, 40, 41, 52, 53, 54, 55, 56, 57, 58] rfl (by kernel_rfl) (by kernel_rfl) (by kernel_rfl) (by kernel_rfl) rfl ?obs14 ?end14
                case obs14 =>
                  refine Obs.cons ?_ ?_
                  · refine obS (by kernel_rfl) rfl rfl (fun ph14 w14 hO14 => ?_)
                    refine VL.move rfl ?_
                    exact VL.finS hO14 rfl rfl
                  refine Obs.cons ?_ ?_
                  · refine obS (by kernel_rfl) rfl rfl (fun ph14 w14 hO14 => ?_)
                    refine VL.move rfl ?_
                    exact VL.finS hO14 rfl rfl
                  refine Obs.cons ?_ ?_
                  · refine obS (by kernel_rfl) rfl rfl (fun ph14 w14 hO14 => ?_)
                    refine VL.move rfl ?_
                    exact VL.finS hO14 rfl rfl
                  refine Obs.cons ?_ ?_
                  · refine obS (by kernel_rfl) rfl rfl (fun ph14 w14 hO14 => ?_)
                    rintro _ rfl _ rfl
                    refine VL.takeS (pre2 r) rfl rfl Try.underlying24 sz24 hB2 hle (fun p3 hA3 => ?_)
                    exact VL.finS hO14 rfl ⟨_, _, rfl, hA3⟩
                  refine Obs.cons ?_ ?_
                  · refine ob (by kernel_rfl) rfl (by kernel_rfl) rfl (fun w14 hO14 => ?_)
                    rintro _ ⟨p3, c3, rfl, hA3⟩
                    refine VL.toOwn hO14 ?_
                    refine VL.call Try.func109 rfl (by decide) rfl (fun w1 hw => clone_any hw (hA3.now (s := ⟨w, keys H⟩) Mono.byte hw (List.mem_cons_of_mem _ (List.mem_cons_self ..))) (by omega)) (fun v => ?_)
                    exact VL.finO rfl (fun _ ⟨_, _, _, h, _⟩ => h) (fun _ ⟨p4, c4, e, _, h⟩ => ⟨p4, c4, e, h⟩)
                  refine Obs.cons ?_ ?_
                  · refine ob (by kernel_rfl) rfl (by kernel_rfl) rfl (fun w14 hO14 => ?_)
                    rintro _ ⟨p4, c4, rfl, hA4⟩
                    refine VL.toOwn hO14 ?_
                    refine VL.lit el31 rfl rfl rfl (by simp [Value.cells]) (by intro u hu; simp [Value.cells] at hu; subst hu; rfl) (fun g5 => ?_)
                    exact VL.finO rfl (fun _ h => h.drop) (fun _ h => ⟨_, _, rfl, Own.letOne (v := .slice p4 ((r.drop 2).take (pre2 r)).length c4) h ⟨p4, c4, rfl, hA4.now (s := ⟨w14, _⟩) Mono.byte h.drop (List.mem_cons_self ..)⟩⟩)
                  refine Obs.cons ?_ ?_
                  · refine obK (by kernel_rfl) rfl (fun w14 hO14 => ?_)
                    rintro _ rfl _ ⟨p5, c5, rfl, hA5⟩
                    refine VL.toOwn hO14 ?_
                    refine VL.appends 0 el31 rfl rfl rfl (fun _ h => h) rfl (fun _ h => hA5.now (s := ⟨w14, _⟩) (Mono.slice Mono.byte) h (List.mem_cons_self ..)) (fun _ _ _ _ h => ok1_slices h) (by simp only [List.length_cons, List.length_nil]; omega) (fun g6 c6 => ?_) (by simp only [List.length_cons, List.length_nil]; omega)
                    exact VL.finK rfl (fun _ h => h) (fun _ h => ⟨g6, c6, rfl, h.lose⟩)
                  refine Obs.cons ?_ ?_
                  · refine obS (by kernel_rfl) rfl rfl (fun ph14 w14 hO14 => ?_)
                    refine VL.move rfl ?_
                    exact VL.finS hO14 rfl rfl
                  refine Obs.cons ?_ ?_
                  · refine obS (by kernel_rfl) rfl rfl (fun ph14 w14 hO14 => ?_)
                    refine VL.move rfl ?_
                    exact VL.finS hO14 rfl rfl
                  refine Obs.cons ?_ ?_
                  · refine obS (by kernel_rfl) rfl rfl (fun ph14 w14 hO14 => ?_)
                    rintro _ rfl _ rfl
                    refine VL.dropS (pre2 r) rfl rfl Try.underlying24 sz24 hB2 hle (fun p9 hB9 => ?_)
                    exact VL.finS hO14 rfl ⟨_, _, rfl, hB9⟩
                  refine Obs.cons ?_ ?_
                  · refine obS (by kernel_rfl) rfl rfl (fun ph14 w14 hO14 => ?_)
                    rintro _ ⟨g6, c6, rfl, h6⟩
                    refine VL.assign rfl ?_
                    exact VL.finS hO14 rfl ⟨g6, c6, rfl, h6⟩
                  refine Obs.cons ?_ ?_
                  · refine obS (by kernel_rfl) rfl rfl (fun ph14 w14 hO14 => ?_)
                    rintro _ ⟨p9, c9, rfl, hB9⟩
                    refine VL.assign rfl ?_
                    exact VL.finS hO14 rfl ⟨_, _, rfl, hB9⟩
                  exact Obs.nil
                case end14 =>
                  intro w14 hO14
                  rintro _ ⟨g6, c6, rfl, h6⟩ _ ⟨p9, c9, rfl, hB9⟩
                  refine VX.turn (G' := Own (⟨w, keys H⟩ :: S) (brow g6 c6 (acc ++ [((r.drop 2).take (pre2 r))]) :: H)) (fun w' e => e ▸ h6) ?_
                  refine VX.next ?_
                  refine VC.seq ?_
                  refine VC.region ?_
                  refine VL.move rfl ?_
                  refine VL.sub rfl rfl (by simp only [InR]; omega) ?_
                  refine VL.assign rfl ?_
                  refine VL.nil ?_
                  refine VX.next ?_
                  refine VC.seq ?_
                  refine VC.goto ?_
                  refine VX.then_goto ?_
                  refine VX.jump (SpJ.next k ((r.drop 2).drop (pre2 r)) p9 c9 (acc ++ [((r.drop 2).take (pre2 r))]) g6 c6) rfl ⟨rfl, rfl, ?_, rfl, trivial⟩ (fun w' h => ⟨⟨hcut, hB9, by simp; omega⟩, h⟩) (by first | trivial | (show k + 2 < k + 1 + 2; omega))
                  show some (Value.int .i64 _) = some (Value.int .i64 _)
                  congr 2
                  omega

theorem refSplit_any {S : List Snap} {H : List Chunk} {w : World} (ho : Own S H w) {p : Option Addr} {l : List UInt8} {c : Nat} (hA : Bytes (keys H) w p l c) : Calls Try.prog 34 #[.slice p l.length c] w (Ret fun v w' => Own S H w' ∧ ∃ p' c', v = .tuple #[.slice p' (splitB l).2.length c', .int .i64 (splitB l).1] ∧ Arr 1 bytesR (keys H) w' p' (splitB l).2 c') := by
  refine enter (G := Own (⟨w, keys H⟩ :: S) H) ho.keep Try.func34 rfl Try.ntmps34 rfl ?_
  refine VC.seq ?_
  refine VC.region ?_
  refine VL.assign rfl ?_
  refine VL.assign rfl ?_
  refine VL.nil ?_
  refine VX.next ?_
  refine VC.seq ?_
  refine VC.seq ?_
  refine VC.region ?_
  refine VL.move rfl ?_
  refine VL.len Try.underlying24 rfl rfl ?_
  refine VL.eql rfl rfl ?_
  refine VL.case (fun h1_2 => ?_) (fun h1_2 => ?_)
  · refine VL.nil ?_
    refine VX.next ?_
    refine VC.yes rfl ?_
    refine VC.seq ?_
    refine VC.region ?_
    refine VL.assign rfl ?_
    refine VL.assign rfl ?_
    refine VL.nil ?_
    refine VX.next ?_
    refine VC.ret ?_
    refine VX.then_ret ?_
    refine VX.ret2 rfl rfl rfl (fun w hw => ?_)
    have hs : splitB l = (20, []) := by rw [List.eq_nil_of_length_eq_zero (show l.length = 0 by omega)]; rfl
    exact ⟨hw.lose, none, 0, by rw [hs]; rfl, by rw [hs]; exact Arr.none⟩
  · refine VL.nil ?_
    refine VX.next ?_
    refine VC.no rfl ?_
    refine VC.skip ?_
    refine VX.next ?_
    refine VC.seq ?_
    refine VC.seq ?_
    obtain ⟨b0, r0, hl⟩ : ∃ b0 r0, l = b0 :: r0 := by
      cases l with
      | nil => exact absurd rfl h1_2
      | cons b r => exact ⟨b, r, rfl⟩
    have hb0 : l[0]? = some b0 := by rw [hl]; rfl
    have hd1 : l.drop 1 = r0 := by rw [hl]; rfl
    have hll : 0 < l.length := by omega
    have hlt := b0.toNat_lt
    have hsm := hA.small
    refine VC.region ?_
    refine VL.move rfl ?_
    refine VL.index rfl rfl Try.underlying24 sz24 hA (by omega) (by omega) ?_
    refine VL.byte (s := ⟨w, keys H⟩) rfl kd5 (fun _ h => h) (List.mem_cons_self ..) hA (y := b0) hb0 ?_
    refine VL.gtr rfl rfl ?_
    refine VL.case (fun h3_3 => ?_) (fun h3_3 => ?_)
    · refine VL.nil ?_
      refine VX.next ?_
      refine VC.yes rfl ?_
      refine VC.seq ?_
      refine VC.region ?_
      refine VL.assign rfl ?_
      refine VL.assign rfl ?_
      refine VL.nil ?_
      refine VX.next ?_
      refine VC.ret ?_
      refine VX.then_ret ?_
      refine VX.ret2 rfl rfl rfl (fun w hw => ?_)
      have hs : splitB l = (4, []) := by rw [hl, splitB_cons, if_pos (by omega)]
      exact ⟨hw.lose, none, 0, by rw [hs]; rfl, by rw [hs]; exact Arr.none⟩
    · refine VL.nil ?_
      refine VX.next ?_
      refine VC.no rfl ?_
      refine VC.skip ?_
      refine VX.next ?_
      refine VC.seq ?_
      refine VC.region ?_
      refine VL.assign rfl ?_
      refine VL.nil ?_
      refine VX.next ?_
      refine VC.seq ?_
      refine VC.region ?_
      refine VL.assign rfl ?_
      refine VL.nil ?_
      refine VX.next ?_
      refine VC.seq ?_
      refine VC.seq ?_
      refine VC.region ?_
      refine VL.assign rfl ?_
      refine VL.nil ?_
      refine VX.next ?_
      refine VC.block ?_
      refine VC.loop (X := Nat × Nat × List (List UInt8) × Option Nat × Nat) (fun (i, off, acc, g, c') => [(0, .slice p l.length c), (6, .int .i64 i), (5, .int .i64 off), (4, rowV g acc.length c')]) (fun (i, off, acc, g, c') w' => (i ≤ b0.toNat ∧ acc.length = i ∧ off ≤ l.length ∧ splitB l = cutB (b0.toNat - i) (l.drop off) acc) ∧ Own (⟨w, keys H⟩ :: S) (brow g c' acc :: H) w') (fun (i, _) => b0.toNat - i) (0, 1, [], none, 0) ⟨rfl, rfl, rfl, rfl, trivial⟩ (fun _ h => ⟨⟨Nat.zero_le _, rfl, by omega, by rw [hd1, hl, splitB_cons, if_neg (by omega)]; rfl⟩, h.arow_nil (Mono.slice Mono.byte) 24 1⟩) (fun (i, off, acc, g, c') => VC.fact fun ⟨hi, hai, hoff, hcut⟩ => ?_)
      · have hi0 := hi
        refine VC.seq ?_
        refine VC.seq ?_
        refine VC.region ?_
        refine VL.move rfl ?_
        refine VL.move rfl ?_
        refine VL.index rfl rfl Try.underlying24 sz24 hA (by omega) (by omega) ?_
        refine VL.byte (s := ⟨w, keys H⟩) rfl kd5 (fun _ h => h) (List.mem_cons_self ..) (hA) (y := b0) hb0 ?_
        refine VL.conv (by rw [Try.underlying5]; rfl) Try.underlying3 rfl (by simp only [InR]; omega) ?_
        refine VL.lss rfl rfl ?_
        refine VL.case (fun h8_5 => ?_) (fun h8_5 => ?_)
        · refine VL.nil ?_
          refine VX.next ?_
          refine VC.yes rfl ?_
          refine VC.skip ?_
          refine VX.next ?_
          refine VC.seq ?_
          refine VC.block ?_
          refine VC.seq ?_
          refine VC.seq ?_
          refine VC.region ?_
          refine VL.move rfl ?_
          refine VL.len Try.underlying24 rfl rfl ?_
          refine VL.move rfl ?_
          refine VL.sub rfl rfl (by simp only [InR]; omega) ?_
          refine VL.lss rfl rfl ?_
          refine VL.case (fun h10_4 => ?_) (fun h10_4 => ?_)
          · refine VL.nil ?_
            refine VX.next ?_
            refine VC.yes rfl ?_
            refine VC.seq ?_
            refine VC.region ?_
            refine VL.assign rfl ?_
            refine VL.assign rfl ?_
            refine VL.nil ?_
            refine VX.next ?_
            refine VC.ret ?_
            refine VX.then_ret ?_
            refine VX.block_ret ?_
            refine VX.then_ret ?_
            refine VX.then_ret ?_
            refine VX.block_ret ?_
            refine VX.then_ret ?_
            refine VX.ret2 rfl rfl rfl (fun w hw => ?_)
            have hs : splitB l = (20, []) := by rw [hcut, show b0.toNat - i = b0.toNat - i - 1 + 1 by omega, cutB_short (by simp; omega)]
            exact ⟨hw.drop.lose, none, 0, by rw [hs]; rfl, by rw [hs]; exact Arr.none⟩
          · refine VL.nil ?_
            refine VX.next ?_
            refine VC.no rfl ?_
            refine VC.skip ?_
            refine VX.next ?_
            refine VC.seq ?_
            have hr2 : 2 ≤ (l.drop off).length := by rw [List.length_drop]; omega
            have hr0 : l[off]? = some ((l.drop off).getD 0 0) := by simp [List.getD, List.getElem?_eq_getElem (show off < l.length by omega)]
            have hr1 : l[off + 1]? = some ((l.drop off).getD 1 0) := by simp [List.getD, List.getElem?_eq_getElem (show off + 1 < l.length by omega)]
            have hv0 := ((l.drop off).getD 0 0).toNat_lt
            have hv1 := ((l.drop off).getD 1 0).toNat_lt
            have hR2 : ((l.drop off).drop 2).length = l.length - off - 2 := by simp only [List.length_drop]
            rw [show b0.toNat - i = b0.toNat - i - 1 + 1 by omega, cutB_next hr2] at hcut
            apply VC.anyA 1014 (F := [eqF _, eqF _, eqF _, eqF _, eqF _, eqF _, eqF _, eqF _, eqF _, eqF _, eqF _, eqF _, eqF (.int .i64 ((pre2 (l.drop off) : Nat) : Int)), eqF _]) [⟨[], [0]⟩, ⟨[], [5]⟩, ⟨[(29, 0), (30, 1)], []⟩, ⟨[(31, 2)], []⟩, ⟨[(32, 3)], []⟩, ⟨[(33, 4)], []⟩, ⟨[], [0]⟩, ⟨[], [5]⟩, ⟨[(36, 7)], []⟩, ⟨[(35, 6), (37, 8)], []⟩, ⟨[(38, 9)], []⟩, ⟨[(39, 10)], []⟩, ⟨[(34, 5), (40, 11)], []⟩, ⟨[(41, 12)], []⟩] [(7, 13)] [0, 2, 3, 4, 5, 6, 8, 9, 10, 11, 12, 13, 14, 15, 16, 17, 18, 19, 20, 21, 22, 23, 24, 25, 26, 27, 28, 42, 43, 44, 45, 46, 47, 48, 49, 50, 51, 52, 53, 54, 55, 56, 57, 58, 59, 60, 61, 62, 63, 64, 65, 66, 67, 68, 69, 70, 71] rfl (by kernel_rfl) (by kernel_rfl) (by kernel_rfl) (by kernel_rfl) rfl ?obs12 ?end12
            case obs12 =>
              refine Obs.cons ?_ ?_
              · refine obS (by kernel_rfl) rfl rfl (fun ph12 w12 hO12 => ?_)
                refine VL.move rfl ?_
                exact VL.finS hO12 rfl rfl
              refine Obs.cons ?_ ?_
              · refine obS (by kernel_rfl) rfl rfl (fun ph12 w12 hO12 => ?_)
                refine VL.move rfl ?_
                exact VL.finS hO12 rfl rfl
              refine Obs.cons ?_ ?_
              · refine obS (by kernel_rfl) rfl rfl (fun ph12 w12 hO12 => ?_)
                rintro _ rfl _ rfl
                refine VL.index rfl rfl Try.underlying24 sz24 hA (by omega) (by omega) ?_
                exact VL.finS hO12 rfl rfl
              refine Obs.cons ?_ ?_
              · refine ob (by kernel_rfl) rfl (by kernel_rfl) rfl (fun w12 hO12 => ?_)
                rintro _ rfl
                refine VL.byte (s := ⟨w, keys H⟩) rfl kd5 (fun _ e => e ▸ hO12) (List.mem_cons_self ..) hA (y := (l.drop off).getD 0 0) (by simpa using hr0) ?_
                exact VL.finS hO12 rfl rfl
              refine Obs.cons ?_ ?_
              · refine obS (by kernel_rfl) rfl rfl (fun ph12 w12 hO12 => ?_)
                rintro _ rfl
                refine VL.conv (by rw [Try.underlying5]; rfl) Try.underlying3 rfl (by simp only [InR]; omega) ?_
                exact VL.finS hO12 rfl rfl
              refine Obs.cons ?_ ?_
              · refine obS (by kernel_rfl) rfl rfl (fun ph12 w12 hO12 => ?_)
                rintro _ rfl
                refine VL.mul rfl rfl (by simp only [InR]; omega) ?_
                exact VL.finS hO12 rfl rfl
              refine Obs.cons ?_ ?_
              · refine obS (by kernel_rfl) rfl rfl (fun ph12 w12 hO12 => ?_)
                refine VL.move rfl ?_
                exact VL.finS hO12 rfl rfl
              refine Obs.cons ?_ ?_
              · refine obS (by kernel_rfl) rfl rfl (fun ph12 w12 hO12 => ?_)
                refine VL.move rfl ?_
                exact VL.finS hO12 rfl rfl
              refine Obs.cons ?_ ?_
              · refine obS (by kernel_rfl) rfl rfl (fun ph12 w12 hO12 => ?_)
                rintro _ rfl
                refine VL.add rfl rfl (by simp only [InR]; omega) ?_
                exact VL.finS hO12 rfl rfl
              refine Obs.cons ?_ ?_
              · refine obS (by kernel_rfl) rfl rfl (fun ph12 w12 hO12 => ?_)
                rintro _ rfl _ rfl
                refine VL.index rfl rfl Try.underlying24 sz24 hA (by omega) (by omega) ?_
                exact VL.finS hO12 rfl rfl
              refine Obs.cons ?_ ?_
              · refine ob (by kernel_rfl) rfl (by kernel_rfl) rfl (fun w12 hO12 => ?_)
                rintro _ rfl
                refine VL.byte (s := ⟨w, keys H⟩) rfl kd5 (fun _ e => e ▸ hO12) (List.mem_cons_self ..) hA (y := (l.drop off).getD 1 0) (by simpa using hr1) ?_
                exact VL.finS hO12 rfl rfl
              refine Obs.cons ?_ ?_
              · refine obS (by kernel_rfl) rfl rfl (fun ph12 w12 hO12 => ?_)
                rintro _ rfl
                refine VL.conv (by rw [Try.underlying5]; rfl) Try.underlying3 rfl (by simp only [InR]; omega) ?_
                exact VL.finS hO12 rfl rfl
              refine Obs.cons ?_ ?_
              · refine obS (by kernel_rfl) rfl rfl (fun ph12 w12 hO12 => ?_)
                rintro _ rfl _ rfl
                refine VL.add rfl rfl (by simp only [InR]; omega) ?_
                exact VL.finS hO12 rfl rfl
              refine Obs.cons ?_ ?_
              · refine obS (by kernel_rfl) rfl rfl (fun ph12 w12 hO12 => ?_)
                rintro _ rfl
                refine VL.assign rfl ?_
                exact VL.finS hO12 rfl rfl
              exact Obs.nil
            case end12 =>
              intro w12 hO12
              rintro _ rfl
              refine VX.backOwn hO12 ?_
              refine VX.next ?_
              refine VC.seq ?_
              refine VC.region ?_
              refine VL.move rfl ?_
              refine VL.add rfl rfl (by simp only [InR]; omega) ?_
              refine VL.assign rfl ?_
              refine VL.nil ?_
              refine VX.next ?_
              refine VC.seq ?_
              refine VC.seq ?_
              refine VC.region ?_
              refine VL.move rfl ?_
              refine VL.gtr rfl rfl ?_
              refine VL.case (fun h14_1 => ?_) (fun h14_1 => ?_)
              · refine VL.nil ?_
                refine VX.next ?_
                refine VC.yes rfl ?_
                refine VC.seq ?_
                refine VC.region ?_
                refine VL.assign rfl ?_
                refine VL.assign rfl ?_
                refine VL.nil ?_
                refine VX.next ?_
                refine VC.ret ?_
                refine VX.then_ret ?_
                refine VX.block_ret ?_
                refine VX.then_ret ?_
                refine VX.then_ret ?_
                refine VX.block_ret ?_
                refine VX.then_ret ?_
                refine VX.ret2 rfl rfl rfl (fun w hw => ?_)
                have hs : splitB l = (5, []) := by rw [hcut, if_pos (by omega)]
                exact ⟨hw.drop.lose, none, 0, by rw [hs]; rfl, by rw [hs]; exact Arr.none⟩
              · refine VL.nil ?_
                refine VX.next ?_
                refine VC.no rfl ?_
                refine VC.skip ?_
                refine VX.next ?_
                refine VC.seq ?_
                refine VC.seq ?_
                refine VC.region ?_
                refine VL.move rfl ?_
                refine VL.len Try.underlying24 rfl rfl ?_
                refine VL.move rfl ?_
                refine VL.sub rfl rfl (by simp only [InR]; omega) ?_
                refine VL.move rfl ?_
                refine VL.lss rfl rfl ?_
                refine VL.case (fun h16_5 => ?_) (fun h16_5 => ?_)
                · refine VL.nil ?_
                  refine VX.next ?_
                  refine VC.yes rfl ?_
                  refine VC.seq ?_
                  refine VC.region ?_
                  refine VL.assign rfl ?_
                  refine VL.assign rfl ?_
                  refine VL.nil ?_
                  refine VX.next ?_
                  refine VC.ret ?_
                  refine VX.then_ret ?_
                  refine VX.block_ret ?_
                  refine VX.then_ret ?_
                  refine VX.then_ret ?_
                  refine VX.block_ret ?_
                  refine VX.then_ret ?_
                  refine VX.ret2 rfl rfl rfl (fun w hw => ?_)
                  have hs : splitB l = (20, []) := by rw [hcut, if_neg (by omega), if_pos (by omega)]
                  exact ⟨hw.drop.lose, none, 0, by rw [hs]; rfl, by rw [hs]; exact Arr.none⟩
                · refine VL.nil ?_
                  refine VX.next ?_
                  refine VC.no rfl ?_
                  refine VC.skip ?_
                  refine VX.next ?_
                  refine VC.seq ?_
                  refine VC.region ?_
                  refine VL.assign rfl ?_
                  refine VL.nil ?_
                  refine VX.next ?_
                  refine VC.seq ?_
                  have hle : pre2 (l.drop off) ≤ ((l.drop off).drop 2).length := by omega
                  rw [if_neg (by omega), if_neg (by omega)] at hcut
                  have hpl : (((l.drop off).drop 2).take (pre2 (l.drop off))).length = pre2 (l.drop off) := by rw [List.length_take]; omega
                  refine VC.turn (fun _ h => h.row_nil 5 1) ?_
                  refine VC.region ?_
                  refine VL.move rfl ?_
                  refine VL.move rfl ?_
                  refine VL.move rfl ?_
                  refine VL.move rfl ?_
                  refine VL.move rfl ?_
                  refine VL.add rfl rfl (by simp only [InR]; omega) ?_
                  refine VL.cut (off + 2) (off + 2 + pre2 (l.drop off)) rfl Try.underlying24 sz24 hA (by rfl) rfl (by rfl) rfl (.inr ⟨_, rfl⟩) (.inr ⟨_, rfl⟩) (by omega) (by omega) (fun p3 hA3 => ?_)
                  have ek : off + 2 + pre2 (l.drop off) - (off + 2) = pre2 (l.drop off) := by omega
                  rw [ek, ← List.drop_drop] at hA3
                  rw [ek]
                  refine VL.append 0 el24 rfl rfl rfl rfl (fun _ h => (hA3.now (s := ⟨w, keys H⟩) Mono.byte h (List.mem_cons_self ..)).bytes) (by rw [List.length_map, hpl, Nat.mul_one]) (ok1_bytes _) (by omega) (by omega) (fun g8 c8 => ?_)
                  rw [Nat.zero_add]
                  refine VL.letBytes (((l.drop off).drop 2).take (pre2 (l.drop off))) hpl.symm (by simp) (fun w8 hO8 hA8 => ?_)
                  refine VL.assign rfl ?_
                  refine VL.nil ?_
                  refine VX.next ?_
                  refine VC.seq ?_
                  refine VC.region ?_
                  refine VL.move rfl ?_
                  refine VL.move rfl ?_
                  refine VL.lit el31 rfl rfl rfl (by simp [Value.cells, rowV]) (by intro u hu; simp [Value.cells, rowV] at hu; subst hu; rfl) (fun g9 => ?_)
                  refine VL.letOne (X := List UInt8) (R := bytesR) (y := (((l.drop off).drop 2).take (pre2 (l.drop off)))) (rowV g8 (pre2 (l.drop off)) c8) (fun w9 hO9 => ⟨_, c8, by rw [hpl]; rfl, hA8.now (s := ⟨w8, _⟩) Mono.byte hO9 (List.mem_cons_self ..)⟩) (fun w9 hO9 hA9 => ?_)
                  refine VL.appends 0 el31 rfl rfl rfl (fun _ h => h) rfl (fun _ h => hA9.now (s := ⟨w9, _⟩) (Mono.slice Mono.byte) h (List.mem_cons_self ..)) (fun _ _ _ _ h => ok1_slices h) (by simp only [List.length_cons, List.length_nil]; omega) (fun g2 c2 => ?_) (by simp only [List.length_cons, List.length_nil]; omega)
                  refine VL.assign rfl ?_
                  refine VL.nil ?_
                  refine VX.next ?_
                  refine VC.region ?_
                  refine VL.move rfl ?_
                  refine VL.move rfl ?_
                  refine VL.add rfl rfl (by simp only [InR]; omega) ?_
                  refine VL.assign rfl ?_
                  refine VL.nil ?_
                  refine VX.block_normal ?_
                  refine VX.next ?_
                  refine VC.region ?_
                  refine VL.move rfl ?_
                  refine VL.add rfl rfl (by simp only [InR]; omega) ?_
                  refine VL.assign rfl ?_
                  refine VL.nil ?_
                  refine VX.round (i + 1, off + 2 + pre2 (l.drop off), acc ++ [(((l.drop off).drop 2).take (pre2 (l.drop off)))], g2, c2) ⟨rfl, rfl, rfl, rfl, trivial⟩ (fun w' h => ⟨⟨by omega, by simp; omega, by omega, ?_⟩, h.lose.lose⟩) (by show b0.toNat - (i + 1) < b0.toNat - i; omega)
                  rw [hcut, List.drop_drop, List.drop_drop, ← Nat.add_assoc, show b0.toNat - i - 1 = b0.toNat - (i + 1) by omega]
        · refine VL.nil ?_
          refine VX.next ?_
          refine VC.no rfl ?_
          refine VC.exit ?_
          refine VX.then_exit ?_
          refine VX.then_exit ?_
          refine VX.block_here ?_
          refine VX.next ?_
          refine VC.seq ?_
          refine VC.seq ?_
          refine VC.region ?_
          refine VL.move rfl ?_
          refine VL.move rfl ?_
          refine VL.len Try.underlying24 rfl rfl ?_
          refine VL.lss rfl rfl ?_
          refine VL.case (fun h22_3 => ?_) (fun h22_3 => ?_)
          · refine VL.nil ?_
            refine VX.next ?_
            refine VC.yes rfl ?_
            refine VC.seq ?_
            refine VC.region ?_
            refine VL.assign rfl ?_
            refine VL.assign rfl ?_
            refine VL.nil ?_
            refine VX.next ?_
            refine VC.ret ?_
            refine VX.then_ret ?_
            refine VX.ret2 rfl rfl rfl (fun w hw => ?_)
            have hs : splitB l = (21, []) := by rw [hcut, show b0.toNat - i = 0 by omega, cutB_done, if_neg (fun e => by have := congrArg List.length e; simp at this; omega)]
            exact ⟨hw.drop.lose, none, 0, by rw [hs]; rfl, by rw [hs]; exact Arr.none⟩
          · refine VL.nil ?_
            refine VX.next ?_
            refine VC.no rfl ?_
            refine VC.skip ?_
            refine VX.next ?_
            refine VC.seq ?_
            refine VC.region ?_
            refine VL.move rfl ?_
            refine VL.assign rfl ?_
            refine VL.assign rfl ?_
            refine VL.nil ?_
            refine VX.next ?_
            refine VC.ret ?_
            refine VX.ret2 rfl rfl rfl (fun w hw => ?_)
            have hs : splitB l = (0, acc) := by rw [hcut, show b0.toNat - i = 0 by omega, cutB_done, if_pos (List.eq_nil_of_length_eq_zero (by simp; omega))]
            have ha := hw.letArr
            exact ⟨hw.drop.lose, g.map fun g => ⟨g, 0, none⟩, c', by rw [hs]; rfl, by rw [hs]; exact ha⟩

end Go.Proofs.Ytcfecmoagfgnaaa

/- The frame of every law: arguments that read as data are opened; behind the call they read as before. -/
namespace Go.Vc
open Go.ChangeShapes Go.WideShapes Go.ChangeAt Go.RowKit

section
variable {Hh : Type} {enc : TypeId × Value → Hh} {P : Program} {W W' : World}

theorem trodAll_below (hl : laidOutB P = true) (hb : Below W.heap.size W W') : ∀ {ts : List TypeId} {vs : List Value} {ds : List (DataW Hh)} {ps : List MemPlace}, ts.all (fun t => P.readableRec t && decide (t < P.types.size)) = true →
    DataW.TrodAll enc P W 0 (fun _ => true) true ts vs ds ps → DataW.TrodAll enc P W' 0 (fun b => decide (b < W.heap.size)) true ts vs ds ps
  | [], _, _, _, _, h => by
    obtain ⟨rfl, rfl, rfl⟩ := trodAll_nil h
    exact trodAll_mk0
  | t :: ts, _, _, _, ht, h => by
    have hlt := DataW.TrodAll.lt h
    obtain ⟨v, vs, d, ds, p, q, rfl, rfl, rfl, h1, h2⟩ := trodAll_cons h
    rw [List.all_cons, Bool.and_eq_true, Bool.and_eq_true, decide_eq_true_eq] at ht
    exact ⟨p, q, Below.trod hl ht.1.1 ht.1.2 h1 hb (fun x hx => hlt x (by simp [hx])), trodAll_below hl hb ht.2 h2, rfl⟩

theorem post_of_below {fn : Func} {s : ChangeSpec} {apart fresh handsOn : Bool} {args : Array Value} {ds gs : List (DataW Hh)} {before : List MemPlace} {tb : TypeId} (hs : s.vars = []) (hrt : fn.resultTypes = #[tb]) (htb : P.underlying tb = some .bool) (hl : laidOutB P = true)
    (hts : fn.params.toList.all (fun t => P.readableRec t && decide (t < P.types.size)) = true) (hW : DataW.Whole enc P fn.params.toList s.vars apart W args.toList ds gs before) (hfn : s.fn Hh ds = { results := [.lit (.bool true)], args := ds }) (hb : Below W.heap.size W W') :
    s.post enc P fn apart fresh handsOn false W args (.bool true) W' := by
  have hW' := hW
  obtain ⟨p, q, hA, hV, hp, _, _⟩ := hW
  rw [hs] at hV
  obtain ⟨rfl, rfl⟩ := trodVars_none hV
  rw [List.append_nil] at hp
  subst hp
  refine ⟨ds, [], before, [], before, [], hW', ?_, ?_, ?_, hb.frame _, fun h => by cases h⟩
  · rw [List.append_nil, hfn, hrt]
    exact trodAll_cons_mk (p := []) (p' := []) (shut_bool htb _) trodAll_mk0
  · rw [List.append_nil, hfn]
    exact trodAll_below hl hb hts hA
  · rw [hs, List.append_nil, hfn]; rfl

/-- A law's row, from a contract of its walk. -/
theorem law_of {C : Checked} {os : Os} (started : os.Started) {f : FuncId} {fn : Func} {s : ChangeSpec} {conds : List PathCond} {enc : TypeId × Value → Hh} {tb : TypeId} (own : ownKnob C.prog.godebug = none) (noInit : C.prog.inits.idxOf? f = none) (hfn : C.prog.funcs[f]? = some fn)
    (witness : ∃ (w : World) (tape : Tape) (i : Input), w.os = os ∧ (w.forCall tape i).Shaped C.prog ∧ i.vars = [] ∧ Input.okWide C.prog (w.forCall tape i) .any w.heap.size f i ∧
      s.pre6 enc C.prog fn conds false (w.forCall tape i).memory i.args ∧ (({} : Assume).holds C.prog (lone (Frame.enter C.prog f i.args .normal) [] (w.forCall tape i))))
    (hs : s.vars = []) (hrt : fn.resultTypes = #[tb]) (htb : C.prog.underlying tb = some .bool) (hl : laidOutB C.prog = true) (hts : fn.params.toList.all (fun t => C.prog.readableRec t && decide (t < C.prog.types.size)) = true)
    (h : ∀ (W : World) (base : Nat) (args : Array Value) (ds : List (DataW Hh)) (ps : List MemPlace), (∀ (j : Nat) t v, fn.params[j]? = some t → args[j]? = some v → Value.okWide C.prog W .any base t v) →
      DataW.TrodAll enc C.prog W 0 (fun _ => true) true fn.params.toList args.toList ds ps → (DataW.weightsEach C.prog fn.params.toList ds).all (· ≤ reachBytes) = true →
      s.fn Hh ds = { results := [.lit (.bool true)], args := ds } ∧ Calls C.prog f args W (Ret fun v w' => v = .bool true ∧ Own [⟨W, []⟩] [] w')) :
    ReturnsInHanded {} C os f .any (s.pre6 enc C.prog fn conds false) (s.post enc C.prog fn false true false false) := by
  refine returnsInHanded_of_change_sized own started noInit hfn witness ?_
  intro W base args ds gs before hval hW _ hsz _
  have hW' := hW
  obtain ⟨p, q, hA, hV, hp, _, _⟩ := hW
  rw [hs] at hV
  obtain ⟨rfl, rfl⟩ := trodVars_none hV
  have hsz' : (DataW.weightsEach C.prog fn.params.toList ds).all (· ≤ reachBytes) = true := by
    have e : s.plain.varTypes C.prog = [] := by
      unfold ChangeSpec.plain DataSpec.varTypes
      simp [hs]
    rw [e, List.append_nil, List.append_nil] at hsz
    exact hsz
  obtain ⟨h1, h2⟩ := h W base args ds p hval hA hsz'
  refine h2.mono fun e W' he => ?_
  cases e with
  | returned v =>
    obtain ⟨rfl, ho⟩ := he
    exact ⟨_, rfl, post_of_below hs hrt htb hl hts hW' h1 (ho.below (by simp))⟩
  | panicked _ => exact he.elim
  | outgrown => exact he.elim

/-! ### Arguments, opened -/
/-- What a reading's cells say. -/
def Opens (enc : TypeId × Value → Hh) (P : Program) (W : World) (t : TypeId) {X : Type} (R : Rel X) : Prop :=
  ∀ fuel cs x, DataW.trod enc P W 0 (fun _ => true) true fuel t cs = some x → ∃ y, R [] W cs y

theorem pick_list {X : Type} {p : Nat → X → Prop} : ∀ n, (∀ i, i < n → ∃ y, p i y) → ∃ ys : List X, ys.length = n ∧ ∀ i y, ys[i]? = some y → p i y
  | 0, _ => ⟨[], rfl, by simp⟩
  | n + 1, h => by
    obtain ⟨ys, h1, h2⟩ := pick_list n (fun i hi => h i (by omega))
    obtain ⟨y, hy⟩ := h n (by omega)
    refine ⟨ys ++ [y], by simp [h1], fun i z hz => ?_⟩
    rw [List.getElem?_append] at hz
    split at hz
    · exact h2 i z hz
    · rename_i hi
      have : i = n := by
        have := (List.getElem?_eq_some_iff.1 hz).1
        simp at this; omega
      subst this
      simp [h1] at hz
      subst hz; exact hy

theorem Opens.u8 {t : TypeId} (ht : P.underlying t = some (.int .u8)) : Opens enc P W t byteR := by
  intro fuel cs x h
  cases fuel with
  | zero => simp [DataW.trod] at h
  | succ n =>
    unfold DataW.trod at h
    rw [ht] at h
    split at h <;> simp_all
    rename_i k0 k n' heq
    subst heq
    obtain ⟨⟨_, hw⟩, _⟩ := h
    have hb := bounds_u8 hw
    refine ⟨UInt8.ofNat n'.toNat, ?_⟩
    show _ = [bv _]
    have : (UInt8.ofNat n'.toNat).toNat = n'.toNat := by simp; omega
    unfold bv
    rw [this]
    simp
    omega

theorem Opens.slice {t e : TypeId} {X : Type} {R : Rel X} {sz : Nat} (ht : P.underlying t = some (.slice e)) (hsz : P.cellsOf e = sz) (hpos : 0 < sz) (he : Opens enc P W e R) : Opens enc P W t (RV sz R) := by
  intro fuel cs x h
  subst hsz
  rcases DataW.trod_slice ht h with ⟨rfl, _⟩ | ⟨a, len, cap, elems, rest, n, _, rfl, _, hb, hl, hm, hlen, hel, hsp, _⟩
  · exact ⟨[], none, 0, rfl, Arr.none⟩
  · obtain ⟨hrl, hre⟩ := hsp rfl
    have each : ∀ i, i < len → ∃ y, ∃ vs : List Value, vs.length = P.cellsOf e ∧ R [] W vs y ∧ ∀ j v, vs[j]? = some v → W.cell? ((a.add (i * P.cellsOf e)).add j) = some v := by
      intro i hi
      have h1 := hel i hi
      rw [List.getElem?_eq_getElem (by omega)] at h1
      cases hc : W.cells? 0 (a.add (i * P.cellsOf e)) (P.cellsOf e) with
      | none => simp [hc] at h1
      | some vs =>
        simp [hc] at h1
        obtain ⟨y, hy⟩ := he _ _ _ h1
        obtain ⟨h2, h3, h4⟩ := World.cells?_some hc
        refine ⟨y, vs, h3, hy, fun j v hj => ?_⟩
        have hjl := (List.getElem?_eq_some_iff.1 hj).1
        rw [h4 j (by omega)]; exact hj
    obtain ⟨ys, hys, hyp⟩ := pick_list len each
    subst hys
    refine ⟨ys, some a, cap, rfl, hl, hm, fun e => (by cases e), fun a' ea hc0 => ?_⟩
    simp at ea; subst ea
    -- the first cell is there
    have hfirst : ∃ v, W.cell? a = some v := by
      have key : ∀ z, (W.cells? 0 (a.add 0) (P.cellsOf e)).bind (DataW.trod enc P W 0 (fun _ => true) true n e) = some z → ∃ v, W.cell? a = some v := by
        intro z hz
        cases hc : W.cells? 0 (a.add 0) (P.cellsOf e) with
        | none => simp [hc] at hz
        | some vs =>
          obtain ⟨h2, h3, h4⟩ := World.cells?_some hc
          have := h4 0 hpos
          rw [List.getElem?_eq_getElem (by omega)] at this
          exact ⟨_, by simpa [Addr.add] using this⟩
      by_cases h0 : 0 < ys.length
      · have h1 := hel 0 h0
        rw [List.getElem?_eq_getElem (by omega), Nat.zero_mul] at h1
        exact key _ h1
      · have h1 := hre 0 (by omega)
        rw [List.getElem?_eq_getElem (by omega)] at h1
        have e0 : (ys.length + 0) * P.cellsOf e = 0 := by rw [show ys.length + 0 = 0 by omega, Nat.zero_mul]
        rw [e0] at h1
        exact key _ h1
    obtain ⟨v0, hv0⟩ := hfirst
    unfold World.cell? at hv0
    cases hh : W.heap[a.block]? with
    | none => simp [hh] at hv0
    | some o =>
      cases o with
      | cells c el fr =>
        simp only [hh] at hv0
        have hspot : a.spot = none := by
          cases hs : a.spot with
          | none => rfl
          | some _ => simp [hs] at hv0
        refine ⟨hspot, by simp, (Array.getElem?_eq_some_iff.1 hh).1, c, el, fr, rfl, fun j y hj => ?_⟩
        obtain ⟨vs, f1, f2, f3⟩ := hyp j y hj
        refine ⟨vs, f1, f2, fun i v hv => ?_⟩
        have := f3 i v hv
        have ea : (a.add (j * P.cellsOf e)).add i = ⟨a.block, a.off + (j * P.cellsOf e + i), none⟩ := by
          obtain ⟨ab, ao, asp⟩ := a
          simp at hspot; subst hspot
          rw [add_lit, add_lit, Nat.add_assoc]
        rw [ea] at this
        simpa [World.cell?, hh] using this
      | _ => simp [hh] at hv0

theorem Opens.value {t e : TypeId} {X : Type} {R : Rel X} {sz : Nat} {r : Reach} {base : Nat} {v : Value} {d : DataW Hh} {ps : List MemPlace} (ht : P.underlying t = some (.slice e)) (h : Opens enc P W t (RV sz R)) (hval : Value.okWide P W r base t v) (hd : DataW.Trod enc P W 0 (fun _ => true) true t v d ps) :
    ∃ p xs c, v = .slice p xs.length c ∧ Arr sz R [] W p xs c := by
  obtain ⟨fuel, hf⟩ := hd
  obtain ⟨xs, p, c, hv, hA⟩ := h _ _ _ hf
  refine ⟨p, xs, c, ?_, hA⟩
  have hsl : ∃ p n c, v = .slice p n c := by
    unfold Value.okWide Cell.okWide Cell.ok at hval
    rw [ht] at hval
    cases v <;> simp at hval ⊢
  obtain ⟨p', n', c', rfl⟩ := hsl
  simpa [Value.cells] using hv
end
end Go.Vc

/- octet.Key, and the law on bytes. -/
namespace Go.Proofs.Ytcfecmoagfgnaaa
open Go.Vc Go.Pl

def key0 : List UInt8 := List.replicate 32 0
def keyOf (l : List UInt8) : List UInt8 := if l.length = 32 then l else key0
theorem keyOf_length (l : List UInt8) : (keyOf l).length = 32 := by
  unfold keyOf
  split
  · assumption
  · decide
theorem zero44 : (Try.prog.info? 44).bind (·.zero) = some (.agg (key0.map bv).toArray) := by kernel_rfl
theorem guard44 : Try.prog.eqGuardType Try.prog.depth 44 = false := by kernel_rfl

theorem key_any {S : List Snap} {H : List Chunk} {w : World} (ho : Own S H w) {p : Option Addr} {l : List UInt8} {c : Nat} (hA : Bytes (keys H) w p l c) : Calls Try.prog 36 #[.slice p l.length c] w (Ret fun v w' => Own S H w' ∧ v = .tuple #[.agg ((keyOf l).map bv).toArray, .bool (decide (l.length = 32))]) := by
  refine enter (G := Own (⟨w, keys H⟩ :: S) H) ho.keep Try.func36 rfl Try.ntmps36 rfl ?_
  refine VC.seq ?_
  refine VC.region ?_
  refine VL.alloc (L := [32]) (ps := [key0.map bv]) zero44 rfl rfl (fun g2 => ?_)
  refine VL.assign rfl ?_
  refine VL.nil ?_
  refine VX.next ?_
  refine VC.seq ?_
  refine VC.region ?_
  refine VL.alloc (L := [32]) (ps := [key0.map bv]) zero44 rfl rfl (fun g4 => ?_)
  refine VL.nil ?_
  refine VX.next ?_
  refine VC.seq ?_
  refine VC.seq ?_
  refine VC.region ?_
  refine VL.move rfl ?_
  refine VL.len Try.underlying24 rfl rfl ?_
  refine VL.neq rfl rfl ?_
  refine VL.case (fun h2_2 => ?_) (fun h2_2 => ?_)
  · refine VL.nil ?_
    refine VX.next ?_
    refine VC.yes rfl ?_
    refine VC.seq ?_
    refine VC.region ?_
    refine VL.loads (cs := (key0).map bv) 0 0 1 rfl kd44 (fun _ h => h) rfl rfl rfl rfl ?_
    refine VL.store (L := [32]) (qs := [(key0).map bv]) 1 0 1 rfl rfl rfl (.inl kd44) rfl rfl rfl (ok1_bytes _) rfl rfl ?_
    refine VL.assign rfl ?_
    refine VL.nil ?_
    refine VX.next ?_
    refine VC.ret ?_
    refine VX.then_ret ?_
    refine VX.ret_cell (cs := key0.map bv) 1 rfl rfl rfl kd44 (fun _ h => h) rfl rfl (fun w hw => ?_)
    have e : keyOf l = key0 := if_neg (by omega)
    exact ⟨hw.drop.drop.lose, by rw [e, decide_eq_false (by omega)]⟩
  · refine VL.nil ?_
    refine VX.next ?_
    refine VC.no rfl ?_
    refine VC.skip ?_
    refine VX.next ?_
    refine VC.seq ?_
    have hl : l.length = 32 := by omega
    refine VC.region ?_
    refine VL.sliceArr Try.underlying44 (by kernel_rfl) rfl ?_
    refine VL.move rfl ?_
    refine VL.copyAll (cur := key0.map bv) (l := l) 0 rfl Try.underlying24 (by kernel_rfl) rfl rfl rfl hl (by omega) (fun _ h => (hA.now (s := ⟨w, keys H⟩) Mono.byte h.drop.drop (List.mem_cons_self ..)).bytes) rfl (fun _ => ?_)
    refine VL.nil ?_
    refine VX.next ?_
    refine VC.seq ?_
    refine VC.region ?_
    refine VL.loads (cs := (l).map bv) 0 0 1 rfl kd44 (fun _ h => h) rfl rfl rfl rfl ?_
    refine VL.store (L := [32]) (qs := [(l).map bv]) 1 0 1 rfl rfl rfl (.inl kd44) rfl rfl (by simp [hl]) (ok1_bytes _) rfl rfl ?_
    refine VL.assign rfl ?_
    refine VL.nil ?_
    refine VX.next ?_
    refine VC.ret ?_
    refine VX.ret_cell (cs := l.map bv) 1 rfl rfl rfl (by rw [List.length_map, hl]; exact kd44) (fun _ h => h) rfl rfl (fun w hw => ?_)
    have e : keyOf l = l := if_pos hl
    exact ⟨hw.drop.drop.lose, by rw [e, decide_eq_true hl]⟩

end Go.Proofs.Ytcfecmoagfgnaaa

/- wire: what gathers pieces. -/
namespace Go.Proofs.Ytcfecmoagfgnaaa
open Go.Vc Go.Pl

/-- The variable of what gathers pieces; the row of its pieces stands behind it. -/
abbrev wblk (g : Nat) (gp : Option Nat) (c m : Nat) (bad : Bool) : Chunk := blk g 181 [1, 1] [[rowV gp m c], [.bool bad]]

theorem num_w {S : List Snap} {H : List Chunk} {w : World} {g : Nat} {gp : Option Nat} {c : Nat} {parts : List (List UInt8)} {bad : Bool} (ho : Own S (wblk g gp c parts.length bad :: brow gp c parts :: H) w) (hp : parts.length ≤ 100000) (m : Nat) (hm : Fits 8 m) (k : Nat) (h1 : 1 ≤ k) (h8 : k ≤ 8) (hf : Fits k m) : Calls Try.prog 116 #[.pointer (some ⟨g, 0, none⟩), .int .u64 m, .int .i64 k] w (Ret fun v w' => v = .tuple #[] ∧ ∃ gp' c', Own S (wblk g gp' c' (parts ++ [be k m]).length bad :: brow gp' c' (parts ++ [be k m]) :: H) w') := by
  refine enter (G := Own (⟨w, keys (wblk g gp c parts.length bad :: brow gp c parts :: H)⟩ :: S) (wblk g gp c parts.length bad :: brow gp c parts :: H)) ho.keep Try.func116 rfl Try.ntmps116 rfl ?_
  refine VC.seq ?_
  refine VC.region ?_
  refine VL.move rfl ?_
  refine VL.move rfl ?_
  refine VL.call Try.func25 rfl (by decide) rfl (fun w' hw => put_any hw m hm k) (fun v => ?_)
  refine VL.at (fun w1 h1w => ?_)
  obtain ⟨hO, ⟨_, _, _, p1, c1, rfl, hA1⟩ | ⟨hno, _⟩⟩ := h1w
  rotate_left
  · exact absurd ⟨by omega, by omega, by rw [Int.toNat_natCast]; exact hf⟩ hno
  rw [Int.toNat_natCast] at hA1
  rw [Int.toNat_natCast]
  refine VL.toOwn hO ?_
  refine VL.move rfl ?_
  refine VL.extract rfl rfl ?_
  refine VL.extract rfl rfl ?_
  refine VL.assign rfl ?_
  refine VL.assign rfl ?_
  refine VL.nil ?_
  refine VX.next ?_
  refine VC.region ?_
  refine VL.move rfl ?_
  refine VL.move rfl ?_
  refine VL.nilCheck rfl ?_
  refine VL.fieldAddr rfl fo181_0 rfl ?_
  refine VL.load 0 0 rfl kd31 (fun _ h => h) rfl rfl rfl ?_
  refine VL.move rfl ?_
  refine VL.lit el31 rfl rfl rfl (by simp [Value.cells]) (by intro u hu; simp [Value.cells] at hu; subst hu; rfl) (fun g9 => ?_)
  refine VL.letOne (X := List UInt8) (R := bytesR) (y := be k m) (.slice p1 k c1) (fun w9 hO9 => ⟨p1, c1, by rw [be_length], hA1.now (s := ⟨w1, _⟩) Mono.byte hO9 (List.mem_cons_self ..)⟩) (fun w9 hO9 hA9 => ?_)
  refine VL.appends 1 el31 rfl rfl rfl (fun _ h => h) rfl (fun _ h => hA9.now (s := ⟨w9, _⟩) (Mono.slice Mono.byte) h (List.mem_cons_self ..)) (fun _ _ _ _ h => ok1_slices h) (by simp only [List.length_cons, List.length_nil]; omega) (fun g2 c2 => ?_) (by simp only [List.length_cons, List.length_nil]; omega)
  refine VL.nilCheck rfl ?_
  refine VL.fieldAddr rfl fo181_0 rfl ?_
  refine VL.store (L := [1, 1]) (qs := [[rowV g2 (parts ++ [be k m]).length c2]]) 0 0 1 rfl rfl rfl (.inr ⟨kd31, rfl⟩) rfl rfl rfl (by intro u hu; simp [cat] at hu; subst hu; rfl) rfl rfl ?_
  refine VL.nil ?_
  refine VX.end0 rfl (fun we hw => ?_)
  exact ⟨rfl, g2, c2, hw.lose.lose.lose⟩

theorem piece_w {S : List Snap} {H : List Chunk} {w : World} {g : Nat} {gp : Option Nat} {c : Nat} {parts : List (List UInt8)} {bad : Bool} (ho : Own S (wblk g gp c parts.length bad :: brow gp c parts :: H) w) (hp : parts.length ≤ 100000) {p : Option Addr} {l : List UInt8} {c1 : Nat} (hA : Bytes (keys (wblk g gp c parts.length bad :: brow gp c parts :: H)) w p l c1) (ok : Bool) : Calls Try.prog 117 #[.pointer (some ⟨g, 0, none⟩), .slice p l.length c1, .bool ok] w (Ret fun v w' => v = .tuple #[] ∧ ∃ gp' c', Own S (wblk g gp' c' (parts ++ [l]).length (bad || !ok) :: brow gp' c' (parts ++ [l]) :: H) w') := by
  refine enter (G := Own (⟨w, keys (wblk g gp c parts.length bad :: brow gp c parts :: H)⟩ :: S) (wblk g gp c parts.length bad :: brow gp c parts :: H)) ho.keep Try.func117 rfl Try.ntmps117 rfl ?_
  refine VC.seq ?_
  refine VC.region ?_
  refine VL.move rfl ?_
  refine VL.move rfl ?_
  refine VL.nilCheck rfl ?_
  refine VL.fieldAddr rfl fo181_0 rfl ?_
  refine VL.load 0 0 rfl kd31 (fun _ h => h) rfl rfl rfl ?_
  refine VL.move rfl ?_
  refine VL.lit el31 rfl rfl rfl (by simp [Value.cells]) (by intro u hu; simp [Value.cells] at hu; subst hu; rfl) (fun g9 => ?_)
  refine VL.letOne (X := List UInt8) (R := bytesR) (y := l) (.slice p l.length c1) (fun w9 hO9 => ⟨p, c1, rfl, hA.now (s := ⟨w, _⟩) Mono.byte hO9 (List.mem_cons_self ..)⟩) (fun w9 hO9 hA9 => ?_)
  refine VL.appends 1 el31 rfl rfl rfl (fun _ h => h) rfl (fun _ h => hA9.now (s := ⟨w9, _⟩) (Mono.slice Mono.byte) h (List.mem_cons_self ..)) (fun _ _ _ _ h => ok1_slices h) (by simp only [List.length_cons, List.length_nil]; omega) (fun g2 c2 => ?_) (by simp only [List.length_cons, List.length_nil]; omega)
  refine VL.nilCheck rfl ?_
  refine VL.fieldAddr rfl fo181_0 rfl ?_
  refine VL.store (L := [1, 1]) (qs := [[rowV g2 (parts ++ [l]).length c2]]) 0 0 1 rfl rfl rfl (.inr ⟨kd31, rfl⟩) rfl rfl rfl (by intro u hu; simp [cat] at hu; subst hu; rfl) rfl rfl ?_
  refine VL.nil ?_
  refine VX.next ?_
  refine VC.region ?_
  refine VL.move rfl ?_
  refine VL.move rfl ?_
  refine VL.nilCheck rfl ?_
  refine VL.fieldAddr rfl fo181_1 rfl ?_
  refine VL.load (v := .bool bad) 0 1 rfl kd4 (fun _ h => h) rfl rfl rfl ?_
  cases bad
  · refine VL.move rfl ?_
    refine VL.go rfl rfl rfl ?_
    refine VL.move rfl ?_
    cases ok
    · refine VL.go rfl rfl rfl ?_
      refine VL.not rfl ?_
      refine VL.pick_f rfl rfl ?_
      refine VL.nilCheck rfl ?_
      refine VL.fieldAddr rfl fo181_1 rfl ?_
      refine VL.store (L := [1, 1]) (qs := [[.bool _]]) 0 1 1 rfl rfl rfl (.inr ⟨kd4, rfl⟩) rfl rfl rfl (by intro u hu; simp [cat] at hu; subst hu; rfl) rfl rfl ?_
      refine VL.nil ?_
      refine VX.end0 rfl (fun we hw => ?_)
      exact ⟨rfl, g2, c2, hw.lose.lose⟩
    · refine VL.go rfl rfl rfl ?_
      refine VL.not rfl ?_
      refine VL.pick_f rfl rfl ?_
      refine VL.nilCheck rfl ?_
      refine VL.fieldAddr rfl fo181_1 rfl ?_
      refine VL.store (L := [1, 1]) (qs := [[.bool _]]) 0 1 1 rfl rfl rfl (.inr ⟨kd4, rfl⟩) rfl rfl rfl (by intro u hu; simp [cat] at hu; subst hu; rfl) rfl rfl ?_
      refine VL.nil ?_
      refine VX.end0 rfl (fun we hw => ?_)
      exact ⟨rfl, g2, c2, hw.lose.lose⟩
  · refine VL.move rfl ?_
    refine VL.pass rfl rfl rfl rfl rfl ?_
    refine VL.pass rfl rfl rfl rfl rfl ?_
    refine VL.pick_t rfl rfl ?_
    refine VL.nilCheck rfl ?_
    refine VL.fieldAddr rfl fo181_1 rfl ?_
    refine VL.store (L := [1, 1]) (qs := [[.bool _]]) 0 1 1 rfl rfl rfl (.inr ⟨kd4, rfl⟩) rfl rfl rfl (by intro u hu; simp [cat] at hu; subst hu; rfl) rfl rfl ?_
    refine VL.nil ?_
    refine VX.end0 rfl (fun we hw => ?_)
    exact ⟨rfl, g2, c2, hw.lose.lose⟩

theorem done_w {S : List Snap} {H : List Chunk} {w : World} {g : Nat} {gp : Option Nat} {c : Nat} {parts : List (List UInt8)} {bad : Bool} (ho : Own S (wblk g gp c parts.length bad :: brow gp c parts :: H) w) : Calls Try.prog 118 #[.pointer (some ⟨g, 0, none⟩)] w (Ret fun v w' => Own S H w' ∧ ((joinOk parts ∧ bad = false ∧ ∃ p c, v = .tuple #[.slice p (joinB parts).length c, .bool true] ∧ Bytes (keys H) w' p (joinB parts) c) ∨ (¬ (joinOk parts ∧ bad = false) ∧ v = .tuple #[.slice none 0 0, .bool false]))) := by
  refine enter (G := Own (⟨w, keys (wblk g gp c parts.length bad :: brow gp c parts :: H)⟩ :: S) (wblk g gp c parts.length bad :: brow gp c parts :: H)) ho.keep Try.func118 rfl Try.ntmps118 rfl ?_
  refine VC.seq ?_
  refine VC.region ?_
  refine VL.assign rfl ?_
  refine VL.assign rfl ?_
  refine VL.nil ?_
  refine VX.next ?_
  refine VC.seq ?_
  refine VC.region ?_
  refine VL.move rfl ?_
  refine VL.nilCheck rfl ?_
  refine VL.fieldAddr rfl fo181_0 rfl ?_
  refine VL.load 0 0 rfl kd31 (fun _ h => h) rfl rfl rfl ?_
  refine VL.letArr2 (fun w9 hO9 hA9 => ?_)
  by_cases hok : joinOk parts
  · refine VL.call Try.func30 rfl (by decide) rfl (fun w' hw => join_any (ls := parts) (p := gp.map fun g => ⟨g, 0, none⟩) (c := c) hw (hA9.now (s := ⟨w9, _⟩) (Mono.slice Mono.byte) hw (List.mem_cons_self ..))) (fun v => ?_)
    refine VL.at (fun w1 h1w => ?_)
    obtain ⟨hO, ⟨_, p1, c1, rfl, hA1⟩ | ⟨hno, _⟩⟩ := h1w
    rotate_left
    · exact absurd hok hno
    refine VL.toOwn hO ?_
    refine VL.move rfl ?_
    refine VL.extract rfl rfl ?_
    refine VL.extract rfl rfl ?_
    refine VL.assign rfl ?_
    refine VL.assign rfl ?_
    refine VL.nil ?_
    refine VX.next ?_
    refine VC.seq ?_
    refine VC.seq ?_
    refine VC.region ?_
    refine VL.move rfl ?_
    refine VL.not rfl ?_
    refine VL.move rfl ?_
    refine VL.go rfl rfl rfl ?_
    refine VL.move rfl ?_
    refine VL.go rfl rfl rfl ?_
    refine VL.nilCheck rfl ?_
    refine VL.go rfl rfl rfl ?_
    refine VL.fieldAddr rfl fo181_1 rfl ?_
    refine VL.go rfl rfl rfl ?_
    refine VL.load (v := .bool bad) 0 1 rfl kd4 (fun _ h => h) rfl rfl rfl ?_
    cases bad
    · refine VL.pick_f rfl rfl ?_
      refine VL.nil ?_
      refine VX.next ?_
      refine VC.no rfl ?_
      refine VC.skip ?_
      refine VX.next ?_
      refine VC.seq ?_
      refine VC.region ?_
      refine VL.move rfl ?_
      refine VL.assign rfl ?_
      refine VL.assign rfl ?_
      refine VL.nil ?_
      refine VX.next ?_
      refine VC.ret ?_
      refine VX.ret2 rfl rfl rfl (fun we hw => ?_)
      exact ⟨hw.drop.lose.lose.lose, .inl ⟨hok, rfl, p1, c1, rfl, hA1.now (s := ⟨w1, _⟩) Mono.byte hw.drop (by repeat (first | exact List.mem_cons_self .. | apply List.mem_cons_of_mem))⟩⟩
    · refine VL.pick_f rfl rfl ?_
      refine VL.nil ?_
      refine VX.next ?_
      refine VC.yes rfl ?_
      refine VC.seq ?_
      refine VC.region ?_
      refine VL.assign rfl ?_
      refine VL.assign rfl ?_
      refine VL.nil ?_
      refine VX.next ?_
      refine VC.ret ?_
      refine VX.then_ret ?_
      refine VX.ret2 rfl rfl rfl (fun we hw => ?_)
      exact ⟨hw.drop.lose.lose.lose, .inr ⟨fun h => by simp at h, rfl⟩⟩
  · refine VL.call Try.func30 rfl (by decide) rfl (fun w' hw => join_any (ls := parts) (p := gp.map fun g => ⟨g, 0, none⟩) (c := c) hw (hA9.now (s := ⟨w9, _⟩) (Mono.slice Mono.byte) hw (List.mem_cons_self ..))) (fun v => ?_)
    refine VL.at (fun w1 h1w => ?_)
    obtain ⟨hO, ⟨hyes, _⟩ | ⟨_, rfl⟩⟩ := h1w
    · exact absurd hyes hok
    refine VL.toOwn hO ?_
    refine VL.move rfl ?_
    refine VL.extract rfl rfl ?_
    refine VL.extract rfl rfl ?_
    refine VL.assign rfl ?_
    refine VL.assign rfl ?_
    refine VL.nil ?_
    refine VX.next ?_
    refine VC.seq ?_
    refine VC.seq ?_
    refine VC.region ?_
    refine VL.move rfl ?_
    refine VL.not rfl ?_
    refine VL.move rfl ?_
    refine VL.pass rfl rfl rfl rfl rfl ?_
    refine VL.pass rfl rfl rfl rfl rfl ?_
    refine VL.pass rfl rfl rfl rfl rfl ?_
    refine VL.pass rfl rfl rfl rfl rfl ?_
    refine VL.pick_t rfl rfl ?_
    refine VL.nil ?_
    refine VX.next ?_
    refine VC.yes rfl ?_
    refine VC.seq ?_
    refine VC.region ?_
    refine VL.assign rfl ?_
    refine VL.assign rfl ?_
    refine VL.nil ?_
    refine VX.next ?_
    refine VC.ret ?_
    refine VX.then_ret ?_
    refine VX.ret2 rfl rfl rfl (fun we hw => ?_)
    exact ⟨hw.drop.lose.lose.lose, .inr ⟨fun h => hok h.1, rfl⟩⟩

theorem key_w {S : List Snap} {H : List Chunk} {w : World} {g : Nat} {gp : Option Nat} {c : Nat} {parts : List (List UInt8)} {bad : Bool} (ho : Own S (wblk g gp c parts.length bad :: brow gp c parts :: H) w) (hp : parts.length ≤ 100000) {l : List UInt8} (hl : l.length = 32) : Calls Try.prog 119 #[.pointer (some ⟨g, 0, none⟩), .agg (l.map bv).toArray] w (Ret fun v w' => v = .tuple #[] ∧ ∃ gp' c', Own S (wblk g gp' c' (parts ++ [l]).length bad :: brow gp' c' (parts ++ [l]) :: H) w') := by
  refine enter (G := Own (⟨w, keys (wblk g gp c parts.length bad :: brow gp c parts :: H)⟩ :: S) (wblk g gp c parts.length bad :: brow gp c parts :: H)) ho.keep Try.func119 rfl Try.ntmps119 rfl ?_
  refine VC.seq ?_
  refine VC.region ?_
  refine VL.box (L := [32]) (ps := [l.map bv]) rfl rfl (by simp [hl]) (fun gk => ?_)
  refine VL.nil ?_
  refine VX.next ?_
  refine VC.letBlk (by decide) (fun w8 hO8 hA8 => ?_)
  apply VC.anyTA 8 7 (F := [eqF _, eqF _, eqF _, eqF _, eqF _, eqF _, arrF 1 bytesR (Mono.slice Mono.byte) [l], lateF (fun v w' => ∃ g2 c2, v = rowV g2 (parts ++ [l]).length c2 ∧ Own (⟨w8, keys (wblk g gp c parts.length bad :: brow gp c parts :: H)⟩ :: ⟨w, keys (wblk g gp c parts.length bad :: brow gp c parts :: H)⟩ :: S) (wblk g gp c parts.length bad :: brow g2 c2 (parts ++ [l]) :: H) w')]) [⟨[], [0]⟩, ⟨[], [0]⟩, ⟨[(5, 1)], []⟩, ⟨[(6, 2)], []⟩, ⟨[(7, 3)], []⟩, ⟨[], [3]⟩, ⟨[(9, 5)], []⟩, ⟨[(8, 4), (10, 6)], []⟩] [(4, 0), (11, 7)] [1, 12, 13] rfl (by kernel_rfl) (by kernel_rfl) rfl rfl (by kernel_rfl) (by kernel_rfl) (by kernel_rfl) rfl ?obs1 ?end1
  case obs1 =>
    refine Obs.cons ?_ ?_
    · refine obS (by kernel_rfl) rfl rfl (fun ph1 w1 hO1 => ?_)
      refine VL.move rfl ?_
      exact VL.finS hO1 rfl rfl
    refine Obs.cons ?_ ?_
    · refine obS (by kernel_rfl) rfl rfl (fun ph1 w1 hO1 => ?_)
      refine VL.move rfl ?_
      exact VL.finS hO1 rfl rfl
    refine Obs.cons ?_ ?_
    · refine obS (by kernel_rfl) rfl rfl (fun ph1 w1 hO1 => ?_)
      rintro _ rfl
      refine VL.nilCheck rfl ?_
      exact VL.finS hO1 rfl rfl
    refine Obs.cons ?_ ?_
    · refine obS (by kernel_rfl) rfl rfl (fun ph1 w1 hO1 => ?_)
      rintro _ rfl
      refine VL.fieldAddr rfl fo181_0 rfl ?_
      exact VL.finS hO1 rfl rfl
    refine Obs.cons ?_ ?_
    · refine ob (by kernel_rfl) rfl (by kernel_rfl) rfl (fun w1 hO1 => ?_)
      rintro _ rfl
      refine VL.load 0 0 rfl kd31 (fun _ e => e ▸ hO1) rfl rfl rfl ?_
      exact VL.finS hO1 rfl rfl
    refine Obs.cons ?_ ?_
    · refine obS (by kernel_rfl) rfl rfl (fun ph1 w1 hO1 => ?_)
      refine VL.sliceArr Try.underlying44 (by kernel_rfl) rfl ?_
      exact VL.finS hO1 rfl rfl
    refine Obs.cons ?_ ?_
    · refine ob (by kernel_rfl) rfl (by kernel_rfl) rfl (fun w1 hO1 => ?_)
      rintro _ rfl
      refine VL.toOwn hO1 ?_
      refine VL.lit el31 rfl rfl rfl (by simp [Value.cells]) (by intro u hu; simp [Value.cells] at hu; subst hu; rfl) (fun g5 => ?_)
      exact VL.finO rfl (fun _ h => h.drop) (fun _ h => ⟨_, _, rfl, Own.letOne (v := .slice (some ⟨gk, 0, none⟩) 32 32) h ⟨_, _, by rw [hl], hA8.now (s := ⟨w8, _⟩) Mono.byte h.drop (by repeat (first | exact List.mem_cons_self .. | apply List.mem_cons_of_mem))⟩⟩)
    refine Obs.cons ?_ ?_
    · refine obK (by kernel_rfl) rfl (fun w1 hO1 => ?_)
      rintro _ rfl _ ⟨p6, c6, rfl, hA6⟩
      refine VL.toOwn hO1 ?_
      refine VL.appends 1 el31 rfl rfl rfl (fun _ h => h) rfl (fun _ h => hA6.now (s := ⟨w1, _⟩) (Mono.slice Mono.byte) h (by repeat (first | exact List.mem_cons_self .. | apply List.mem_cons_of_mem))) (fun _ _ _ _ h => ok1_slices h) (by simp only [List.length_cons, List.length_nil]; omega) (fun g2 c2 => ?_) (by simp only [List.length_cons, List.length_nil]; omega)
      exact VL.finK rfl (fun _ h => h) (fun _ h => ⟨g2, c2, rfl, h.lose⟩)
    exact Obs.nil
  case end1 =>
    intro w1 hO1
    rintro _ rfl _ ⟨g2, c2, rfl, h7⟩
    refine VL.turn (G' := Own (⟨w8, keys (wblk g gp c parts.length bad :: brow gp c parts :: H)⟩ :: ⟨w, keys (wblk g gp c parts.length bad :: brow gp c parts :: H)⟩ :: S) (wblk g gp c parts.length bad :: brow g2 c2 (parts ++ [l]) :: H)) (fun w' e => e ▸ h7) ?_
    refine VL.nilCheck rfl ?_
    refine VL.fieldAddr rfl fo181_0 rfl ?_
    refine VL.store (L := [1, 1]) (qs := [[rowV g2 (parts ++ [l]).length c2]]) 0 0 1 rfl rfl rfl (.inr ⟨kd31, rfl⟩) rfl rfl rfl (by intro u hu; simp [cat] at hu; subst hu; rfl) rfl rfl ?_
    refine VL.nil ?_
    refine VX.end0 rfl (fun we hw => ?_)
    exact ⟨rfl, g2, c2, hw.lose.lose⟩

theorem sig_w {S : List Snap} {H : List Chunk} {w : World} {g : Nat} {gp : Option Nat} {c : Nat} {parts : List (List UInt8)} {bad : Bool} (ho : Own S (wblk g gp c parts.length bad :: brow gp c parts :: H) w) (hp : parts.length ≤ 100000) {l : List UInt8} (hl : l.length = 64) : Calls Try.prog 128 #[.pointer (some ⟨g, 0, none⟩), .agg (l.map bv).toArray] w (Ret fun v w' => v = .tuple #[] ∧ ∃ gp' c', Own S (wblk g gp' c' (parts ++ [l]).length bad :: brow gp' c' (parts ++ [l]) :: H) w') := by
  refine enter (G := Own (⟨w, keys (wblk g gp c parts.length bad :: brow gp c parts :: H)⟩ :: S) (wblk g gp c parts.length bad :: brow gp c parts :: H)) ho.keep Try.func128 rfl Try.ntmps128 rfl ?_
  refine VC.seq ?_
  refine VC.region ?_
  refine VL.box (L := [64]) (ps := [l.map bv]) rfl rfl (by simp [hl]) (fun gk => ?_)
  refine VL.nil ?_
  refine VX.next ?_
  refine VC.letBlk (by decide) (fun w8 hO8 hA8 => ?_)
  apply VC.anyTA 8 7 (F := [eqF _, eqF _, eqF _, eqF _, eqF _, eqF _, arrF 1 bytesR (Mono.slice Mono.byte) [l], lateF (fun v w' => ∃ g2 c2, v = rowV g2 (parts ++ [l]).length c2 ∧ Own (⟨w8, keys (wblk g gp c parts.length bad :: brow gp c parts :: H)⟩ :: ⟨w, keys (wblk g gp c parts.length bad :: brow gp c parts :: H)⟩ :: S) (wblk g gp c parts.length bad :: brow g2 c2 (parts ++ [l]) :: H) w')]) [⟨[], [0]⟩, ⟨[], [0]⟩, ⟨[(5, 1)], []⟩, ⟨[(6, 2)], []⟩, ⟨[(7, 3)], []⟩, ⟨[], [3]⟩, ⟨[(9, 5)], []⟩, ⟨[(8, 4), (10, 6)], []⟩] [(4, 0), (11, 7)] [1, 12, 13] rfl (by kernel_rfl) (by kernel_rfl) rfl rfl (by kernel_rfl) (by kernel_rfl) (by kernel_rfl) rfl ?obs1 ?end1
  case obs1 =>
    refine Obs.cons ?_ ?_
    · refine obS (by kernel_rfl) rfl rfl (fun ph1 w1 hO1 => ?_)
      refine VL.move rfl ?_
      exact VL.finS hO1 rfl rfl
    refine Obs.cons ?_ ?_
    · refine obS (by kernel_rfl) rfl rfl (fun ph1 w1 hO1 => ?_)
      refine VL.move rfl ?_
      exact VL.finS hO1 rfl rfl
    refine Obs.cons ?_ ?_
    · refine obS (by kernel_rfl) rfl rfl (fun ph1 w1 hO1 => ?_)
      rintro _ rfl
      refine VL.nilCheck rfl ?_
      exact VL.finS hO1 rfl rfl
    refine Obs.cons ?_ ?_
    · refine obS (by kernel_rfl) rfl rfl (fun ph1 w1 hO1 => ?_)
      rintro _ rfl
      refine VL.fieldAddr rfl fo181_0 rfl ?_
      exact VL.finS hO1 rfl rfl
    refine Obs.cons ?_ ?_
    · refine ob (by kernel_rfl) rfl (by kernel_rfl) rfl (fun w1 hO1 => ?_)
      rintro _ rfl
      refine VL.load 0 0 rfl kd31 (fun _ e => e ▸ hO1) rfl rfl rfl ?_
      exact VL.finS hO1 rfl rfl
    refine Obs.cons ?_ ?_
    · refine obS (by kernel_rfl) rfl rfl (fun ph1 w1 hO1 => ?_)
      refine VL.sliceArr Try.underlying80 (by kernel_rfl) rfl ?_
      exact VL.finS hO1 rfl rfl
    refine Obs.cons ?_ ?_
    · refine ob (by kernel_rfl) rfl (by kernel_rfl) rfl (fun w1 hO1 => ?_)
      rintro _ rfl
      refine VL.toOwn hO1 ?_
      refine VL.lit el31 rfl rfl rfl (by simp [Value.cells]) (by intro u hu; simp [Value.cells] at hu; subst hu; rfl) (fun g5 => ?_)
      exact VL.finO rfl (fun _ h => h.drop) (fun _ h => ⟨_, _, rfl, Own.letOne (v := .slice (some ⟨gk, 0, none⟩) 64 64) h ⟨_, _, by rw [hl], hA8.now (s := ⟨w8, _⟩) Mono.byte h.drop (by repeat (first | exact List.mem_cons_self .. | apply List.mem_cons_of_mem))⟩⟩)
    refine Obs.cons ?_ ?_
    · refine obK (by kernel_rfl) rfl (fun w1 hO1 => ?_)
      rintro _ rfl _ ⟨p6, c6, rfl, hA6⟩
      refine VL.toOwn hO1 ?_
      refine VL.appends 1 el31 rfl rfl rfl (fun _ h => h) rfl (fun _ h => hA6.now (s := ⟨w1, _⟩) (Mono.slice Mono.byte) h (by repeat (first | exact List.mem_cons_self .. | apply List.mem_cons_of_mem))) (fun _ _ _ _ h => ok1_slices h) (by simp only [List.length_cons, List.length_nil]; omega) (fun g2 c2 => ?_) (by simp only [List.length_cons, List.length_nil]; omega)
      exact VL.finK rfl (fun _ h => h) (fun _ h => ⟨g2, c2, rfl, h.lose⟩)
    exact Obs.nil
  case end1 =>
    intro w1 hO1
    rintro _ rfl _ ⟨g2, c2, rfl, h7⟩
    refine VL.turn (G' := Own (⟨w8, keys (wblk g gp c parts.length bad :: brow gp c parts :: H)⟩ :: ⟨w, keys (wblk g gp c parts.length bad :: brow gp c parts :: H)⟩ :: S) (wblk g gp c parts.length bad :: brow g2 c2 (parts ++ [l]) :: H)) (fun w' e => e ▸ h7) ?_
    refine VL.nilCheck rfl ?_
    refine VL.fieldAddr rfl fo181_0 rfl ?_
    refine VL.store (L := [1, 1]) (qs := [[rowV g2 (parts ++ [l]).length c2]]) 0 0 1 rfl rfl rfl (.inr ⟨kd31, rfl⟩) rfl rfl rfl (by intro u hu; simp [cat] at hu; subst hu; rfl) rfl rfl ?_
    refine VL.nil ?_
    refine VX.end0 rfl (fun we hw => ?_)
    exact ⟨rfl, g2, c2, hw.lose.lose⟩

end Go.Proofs.Ytcfecmoagfgnaaa

/- wire: what takes pieces. -/
namespace Go.Proofs.Ytcfecmoagfgnaaa
open Go.Vc Go.Pl

/-- The variable of what takes pieces. -/
abbrev rblk (g : Nat) (p : Option Addr) (m c : Nat) (why : Nat) : Chunk := blk g 196 [1, 1] [[.slice p m c], [.int .i64 why]]

theorem fail_r {m : Nat} {S : List Snap} {H : List Chunk} {w : World} {g : Nat} {p : Option Addr} {c : Nat} {why : Nat} (ho : Own S (rblk g p m c why :: H) w) (e : Nat) : Calls Try.prog 125 #[.pointer (some ⟨g, 0, none⟩), .int .i64 e] w (Ret fun v w' => v = .tuple #[] ∧ Own S (rblk g p m c (failW why e) :: H) w') := by
  refine enter (G := Own (⟨w, keys (rblk g p m c why :: H)⟩ :: S) (rblk g p m c why :: H)) ho.keep Try.func125 rfl Try.ntmps125 rfl ?_
  refine VC.seq ?_
  refine VC.region ?_
  refine VL.move rfl ?_
  refine VL.nilCheck rfl ?_
  refine VL.fieldAddr rfl fo196_1 rfl ?_
  refine VL.load (v := .int .i64 why) 0 1 rfl kd35 (fun _ h => h) rfl rfl rfl ?_
  refine VL.eql rfl rfl ?_
  refine VL.case (fun h0_4 => ?_) (fun h0_4 => ?_)
  · refine VL.nil ?_
    refine VX.next ?_
    refine VC.yes rfl ?_
    refine VC.region ?_
    refine VL.move rfl ?_
    refine VL.move rfl ?_
    refine VL.nilCheck rfl ?_
    refine VL.fieldAddr rfl fo196_1 rfl ?_
    refine VL.store (L := [1, 1]) (qs := [[.int .i64 e]]) 0 1 1 rfl rfl rfl (.inr ⟨kd35, rfl⟩) rfl rfl rfl (by intro u hu; simp [cat] at hu; subst hu; rfl) rfl rfl ?_
    refine VL.nil ?_
    refine VX.end0 rfl (fun we hw => ?_)
    exact ⟨rfl, by rw [show failW why e = e from if_pos (by omega)]; exact hw.lose⟩
  · refine VL.nil ?_
    refine VX.next ?_
    refine VC.no rfl ?_
    refine VC.skip ?_
    refine VX.end0 rfl (fun we hw => ?_)
    exact ⟨rfl, by rw [show failW why e = why from if_neg (by omega)]; exact hw.lose⟩

theorem piece_r {S : List Snap} {H : List Chunk} {w : World} {g : Nat} {p : Option Addr} {c : Nat} {parts : List (List UInt8)} {why : Nat} (ho : Own S (rblk g p parts.length c why :: H) w) (hA : Arr 1 bytesR (g :: keys H) w p parts c) : Calls Try.prog 124 #[.pointer (some ⟨g, 0, none⟩)] w (Ret fun v w' => ∃ p' c' pb cb, v = .slice pb (nextP parts).length cb ∧ Own S (rblk g p' (parts.drop 1).length c' (nextW parts why) :: H) w' ∧ Arr 1 bytesR (g :: keys H) w' p' (parts.drop 1) c' ∧ Bytes (g :: keys H) w' pb (nextP parts) cb) := by
  refine enter (G := Own (⟨w, keys (rblk g p parts.length c why :: H)⟩ :: S) (rblk g p parts.length c why :: H)) ho.keep Try.func124 rfl Try.ntmps124 rfl ?_
  refine VC.seq ?_
  refine VC.region ?_
  refine VL.assign rfl ?_
  refine VL.nil ?_
  refine VX.next ?_
  refine VC.seq ?_
  refine VC.seq ?_
  refine VC.region ?_
  refine VL.move rfl ?_
  refine VL.nilCheck rfl ?_
  refine VL.fieldAddr rfl fo196_0 rfl ?_
  refine VL.load (v := .slice p parts.length c) 0 0 rfl kd31 (fun _ h => h) rfl rfl rfl ?_
  refine VL.len Try.underlying31 rfl rfl ?_
  refine VL.eql rfl rfl ?_
  refine VL.case (fun h1_5 => ?_) (fun h1_5 => ?_)
  · refine VL.nil ?_
    refine VX.next ?_
    refine VC.yes rfl ?_
    refine VC.seq ?_
    refine VC.region ?_
    refine VL.move rfl ?_
    refine VL.call Try.func125 rfl (by decide) rfl (fun w' hw => fail_r hw 141) (fun v => ?_)
    refine VL.fact fun e => ?_
    subst e
    refine VL.nil ?_
    refine VX.next ?_
    refine VC.seq ?_
    refine VC.region ?_
    refine VL.assign rfl ?_
    refine VL.nil ?_
    refine VX.next ?_
    refine VC.ret ?_
    refine VX.then_ret ?_
    refine VX.ret1 rfl rfl (fun we hw => ?_)
    obtain rfl : parts = [] := List.eq_nil_of_length_eq_zero (by omega)
    exact ⟨p, c, none, 0, rfl, hw.lose, hA.nowK (s := ⟨w, _⟩) (Mono.slice Mono.byte) hw (List.mem_cons_self ..) rfl, Arr.none⟩
  · refine VL.nil ?_
    refine VX.next ?_
    refine VC.no rfl ?_
    refine VC.skip ?_
    refine VX.next ?_
    refine VC.seq ?_
    obtain ⟨b, r, rfl⟩ : ∃ b r, parts = b :: r := by
      cases parts with
      | nil => exact absurd rfl h1_5
      | cons b r => exact ⟨b, r, rfl⟩
    refine VC.region ?_
    refine VL.move rfl ?_
    refine VL.nilCheck rfl ?_
    refine VL.fieldAddr rfl fo196_0 rfl ?_
    refine VL.load (v := .slice p (b :: r).length c) 0 0 rfl kd31 (fun _ h => h) rfl rfl rfl ?_
    refine VL.index rfl rfl Try.underlying31 sz31 hA (by omega) (by simp only [List.length_cons]; omega) ?_
    refine VL.elem (s := ⟨w, _⟩) 0 0 rfl kd24 (fun _ h => h) (List.mem_cons_self ..) (Mono.slice Mono.byte) hA (y := b) rfl (by omega) (by omega) (fun vs v hl hr hv => ?_)
    obtain ⟨p3, c3, rfl, hA3⟩ := hr
    simp at hv
    subst hv
    refine VL.assign rfl ?_
    refine VL.nil ?_
    refine VX.next ?_
    refine VC.seq ?_
    refine VC.region ?_
    refine VL.move rfl ?_
    refine VL.move rfl ?_
    refine VL.nilCheck rfl ?_
    refine VL.fieldAddr rfl fo196_0 rfl ?_
    refine VL.load (v := .slice p (b :: r).length c) 0 0 rfl kd31 (fun _ h => h) rfl rfl rfl ?_
    refine VL.dropS 1 rfl rfl Try.underlying31 sz31 hA (by simp) (fun p5 hA5 => ?_)
    refine VL.nilCheck rfl ?_
    refine VL.fieldAddr rfl fo196_0 rfl ?_
    refine VL.store (L := [1, 1]) (qs := [[.slice p5 ((b :: r).drop 1).length (c - 1)]]) 0 0 1 rfl rfl rfl (.inr ⟨kd31, rfl⟩) rfl rfl rfl (by intro u hu; simp [cat] at hu; subst hu; rfl) rfl rfl ?_
    refine VL.nil ?_
    refine VX.next ?_
    refine VC.seq ?_
    refine VC.region ?_
    refine VL.move rfl ?_
    refine VL.assign rfl ?_
    refine VL.nil ?_
    refine VX.next ?_
    refine VC.ret ?_
    refine VX.ret1 rfl rfl (fun we hw => ?_)
    refine ⟨p5, c - 1, p3, c3, rfl, hw.lose, ?_, ?_⟩
    · exact hA5.nowK (s := ⟨w, _⟩) (Mono.slice Mono.byte) hw (List.mem_cons_self ..) rfl
    · exact hA3.nowK (s := ⟨w, _⟩) Mono.byte hw (List.mem_cons_self ..) rfl

theorem end_r {S : List Snap} {H : List Chunk} {w : World} {g : Nat} {p : Option Addr} {c : Nat} {parts : List (List UInt8)} {why : Nat} (ho : Own S (rblk g p parts.length c why :: H) w) : Calls Try.prog 126 #[.pointer (some ⟨g, 0, none⟩)] w (Ret fun v w' => v = .int .i64 (endW parts why) ∧ Own S (rblk g p parts.length c (endW parts why) :: H) w') := by
  refine enter (G := Own (⟨w, keys (rblk g p parts.length c why :: H)⟩ :: S) (rblk g p parts.length c why :: H)) ho.keep Try.func126 rfl Try.ntmps126 rfl ?_
  refine VC.seq ?_
  refine VC.region ?_
  refine VL.assign rfl ?_
  refine VL.nil ?_
  refine VX.next ?_
  refine VC.seq ?_
  refine VC.seq ?_
  refine VC.region ?_
  refine VL.move rfl ?_
  refine VL.nilCheck rfl ?_
  refine VL.fieldAddr rfl fo196_0 rfl ?_
  refine VL.load (v := .slice p parts.length c) 0 0 rfl kd31 (fun _ h => h) rfl rfl rfl ?_
  refine VL.len Try.underlying31 rfl rfl ?_
  refine VL.gtr rfl rfl ?_
  refine VL.case (fun h1_5 => ?_) (fun h1_5 => ?_)
  · refine VL.nil ?_
    refine VX.next ?_
    refine VC.yes rfl ?_
    refine VC.region ?_
    refine VL.move rfl ?_
    refine VL.call Try.func125 rfl (by decide) rfl (fun w' hw => fail_r hw 141) (fun v => ?_)
    refine VL.fact fun e => ?_
    subst e
    refine VL.nil ?_
    refine VX.next ?_
    refine VC.seq ?_
    refine VC.region ?_
    refine VL.move rfl ?_
    refine VL.nilCheck rfl ?_
    refine VL.fieldAddr rfl fo196_1 rfl ?_
    refine VL.load (v := .int .i64 (failW why 141)) 0 1 rfl kd35 (fun _ h => h) rfl rfl rfl ?_
    refine VL.assign rfl ?_
    refine VL.nil ?_
    refine VX.next ?_
    refine VC.ret ?_
    refine VX.ret1 rfl rfl (fun we hw => ?_)
    have e : endW parts why = failW why 141 := if_neg (fun e => by rw [e] at h1_5; exact absurd h1_5 (by simp))
    rw [e]
    exact ⟨rfl, hw.lose⟩
  · refine VL.nil ?_
    refine VX.next ?_
    refine VC.no rfl ?_
    refine VC.skip ?_
    refine VX.next ?_
    refine VC.seq ?_
    refine VC.region ?_
    refine VL.move rfl ?_
    refine VL.nilCheck rfl ?_
    refine VL.fieldAddr rfl fo196_1 rfl ?_
    refine VL.load (v := .int .i64 (why)) 0 1 rfl kd35 (fun _ h => h) rfl rfl rfl ?_
    refine VL.assign rfl ?_
    refine VL.nil ?_
    refine VX.next ?_
    refine VC.ret ?_
    refine VX.ret1 rfl rfl (fun we hw => ?_)
    have e : endW parts why = why := if_pos (List.eq_nil_of_length_eq_zero (by omega))
    rw [e]
    exact ⟨rfl, hw.lose⟩

theorem num_r {S : List Snap} {H : List Chunk} {w : World} {g : Nat} {p : Option Addr} {c : Nat} {parts : List (List UInt8)} {why : Nat} (ho : Own S (rblk g p parts.length c why :: H) w) (hA : Arr 1 bytesR (g :: keys H) w p parts c) (k : Nat) (h1 : 1 ≤ k) (h8 : k ≤ 8) : Calls Try.prog 132 #[.pointer (some ⟨g, 0, none⟩), .int .i64 k] w (Ret fun v w' => ∃ p' c', v = .int .u64 (takeN parts k) ∧ Own S (rblk g p' (parts.drop 1).length c' (lenW parts why k) :: H) w' ∧ Arr 1 bytesR (g :: keys H) w' p' (parts.drop 1) c') := by
  refine enter (G := Own (⟨w, keys (rblk g p parts.length c why :: H)⟩ :: S) (rblk g p parts.length c why :: H)) ho.keep Try.func132 rfl Try.ntmps132 rfl ?_
  refine VC.seq ?_
  refine VC.region ?_
  refine VL.assign rfl ?_
  refine VL.nil ?_
  refine VX.next ?_
  refine VC.seq ?_
  refine VC.region ?_
  refine VL.move rfl ?_
  refine VL.call Try.func124 rfl (by decide) rfl (fun w' hw => piece_r hw (hA.nowK (s := ⟨w, _⟩) (Mono.slice Mono.byte) hw (List.mem_cons_self ..) rfl)) (fun v => ?_)
  refine VL.at (fun w1 h1w => ?_)
  obtain ⟨p1, c1, pb, cb, rfl, hO, hA1, hB1⟩ := h1w
  refine VL.toOwn hO ?_
  refine VL.assign rfl ?_
  refine VL.nil ?_
  refine VX.next ?_
  refine VC.seq ?_
  refine VC.seq ?_
  refine VC.region ?_
  refine VL.move rfl ?_
  refine VL.len Try.underlying24 rfl rfl ?_
  refine VL.move rfl ?_
  refine VL.neq rfl rfl ?_
  refine VL.case (fun h2_3 => ?_) (fun h2_3 => ?_)
  · refine VL.nil ?_
    refine VX.next ?_
    refine VC.yes rfl ?_
    refine VC.seq ?_
    refine VC.region ?_
    refine VL.move rfl ?_
    refine VL.call Try.func125 rfl (by decide) rfl (fun w' hw => fail_r hw 141) (fun v => ?_)
    refine VL.fact fun e => ?_
    subst e
    refine VL.nil ?_
    refine VX.next ?_
    refine VC.seq ?_
    refine VC.region ?_
    refine VL.assign rfl ?_
    refine VL.nil ?_
    refine VX.next ?_
    refine VC.ret ?_
    refine VX.then_ret ?_
    refine VX.ret1 rfl rfl (fun we hw => ?_)
    have hne : (nextP parts).length ≠ k := by omega
    exact ⟨p1, c1, by rw [show takeN parts k = 0 from if_neg hne]; rfl, by rw [show lenW parts why k = failW (nextW parts why) 141 from if_neg hne]; exact hw.lose.lose, hA1.nowK (s := ⟨w1, _⟩) (Mono.slice Mono.byte) hw (List.mem_cons_self ..) rfl⟩
  · refine VL.nil ?_
    refine VX.next ?_
    refine VC.no rfl ?_
    refine VC.skip ?_
    refine VX.next ?_
    refine VC.seq ?_
    refine VC.region ?_
    refine VL.move rfl ?_
    refine VL.call Try.func28 rfl (by decide) rfl (fun w' hw => get_any hw (hB1.now (s := ⟨w1, _⟩) Mono.byte hw (List.mem_cons_self ..))) (fun v => ?_)
    refine VL.at (fun w2 h1w => ?_)
    obtain ⟨hO2, ⟨_, _, rfl⟩ | ⟨hno, _⟩⟩ := h1w
    rotate_left
    · omega
    refine VL.toOwn hO2 ?_
    refine VL.move rfl ?_
    refine VL.extract rfl rfl ?_
    refine VL.extract rfl rfl ?_
    refine VL.assign rfl ?_
    refine VL.assign rfl ?_
    refine VL.nil ?_
    refine VX.next ?_
    refine VC.seq ?_
    refine VC.region ?_
    refine VL.move rfl ?_
    refine VL.assign rfl ?_
    refine VL.nil ?_
    refine VX.next ?_
    refine VC.ret ?_
    refine VX.ret1 rfl rfl (fun we hw => ?_)
    have he : (nextP parts).length = k := by omega
    exact ⟨p1, c1, by rw [show takeN parts k = num (nextP parts) from if_pos he]; rfl, by rw [show lenW parts why k = nextW parts why from if_pos he]; exact hw.lose.lose.lose, hA1.nowK (s := ⟨w1, _⟩) (Mono.slice Mono.byte) hw (by repeat (first | exact List.mem_cons_self .. | apply List.mem_cons_of_mem)) rfl⟩

theorem byte_r {S : List Snap} {H : List Chunk} {w : World} {g : Nat} {p : Option Addr} {c : Nat} {parts : List (List UInt8)} {why : Nat} (ho : Own S (rblk g p parts.length c why :: H) w) (hA : Arr 1 bytesR (g :: keys H) w p parts c) : Calls Try.prog 122 #[.pointer (some ⟨g, 0, none⟩)] w (Ret fun v w' => ∃ p' c', v = .int .u8 (takeN parts 1) ∧ Own S (rblk g p' (parts.drop 1).length c' (lenW parts why 1) :: H) w' ∧ Arr 1 bytesR (g :: keys H) w' p' (parts.drop 1) c') := by
  refine enter (G := Own (⟨w, keys (rblk g p parts.length c why :: H)⟩ :: S) (rblk g p parts.length c why :: H)) ho.keep Try.func122 rfl Try.ntmps122 rfl ?_
  refine VC.seq ?_
  refine VC.region ?_
  refine VL.assign rfl ?_
  refine VL.nil ?_
  refine VX.next ?_
  refine VC.seq ?_
  refine VC.region ?_
  refine VL.move rfl ?_
  refine VL.call Try.func132 rfl (by decide) rfl (fun w' hw => num_r hw (hA.nowK (s := ⟨w, _⟩) (Mono.slice Mono.byte) hw (List.mem_cons_self ..) rfl) 1 (by decide) (by decide)) (fun v => ?_)
  refine VL.at (fun w1 h1w => ?_)
  obtain ⟨p1, c1, rfl, hO, hA1⟩ := h1w
  refine VL.toOwn hO ?_
  refine VL.conv (by rw [Try.underlying22]; rfl) Try.underlying5 rfl (by have := takeN_lt parts 1; simp only [InR]; omega) ?_
  refine VL.assign rfl ?_
  refine VL.nil ?_
  refine VX.next ?_
  refine VC.ret ?_
  refine VX.ret1 rfl rfl (fun we hw => ?_)
  exact ⟨p1, c1, rfl, hw.lose.lose, hA1.nowK (s := ⟨w1, _⟩) (Mono.slice Mono.byte) hw (List.mem_cons_self ..) rfl⟩

theorem short_r {S : List Snap} {H : List Chunk} {w : World} {g : Nat} {p : Option Addr} {c : Nat} {parts : List (List UInt8)} {why : Nat} (ho : Own S (rblk g p parts.length c why :: H) w) (hA : Arr 1 bytesR (g :: keys H) w p parts c) : Calls Try.prog 130 #[.pointer (some ⟨g, 0, none⟩)] w (Ret fun v w' => ∃ p' c', v = .int .u16 (takeN parts 2) ∧ Own S (rblk g p' (parts.drop 1).length c' (lenW parts why 2) :: H) w' ∧ Arr 1 bytesR (g :: keys H) w' p' (parts.drop 1) c') := by
  refine enter (G := Own (⟨w, keys (rblk g p parts.length c why :: H)⟩ :: S) (rblk g p parts.length c why :: H)) ho.keep Try.func130 rfl Try.ntmps130 rfl ?_
  refine VC.seq ?_
  refine VC.region ?_
  refine VL.assign rfl ?_
  refine VL.nil ?_
  refine VX.next ?_
  refine VC.seq ?_
  refine VC.region ?_
  refine VL.move rfl ?_
  refine VL.call Try.func132 rfl (by decide) rfl (fun w' hw => num_r hw (hA.nowK (s := ⟨w, _⟩) (Mono.slice Mono.byte) hw (List.mem_cons_self ..) rfl) 2 (by decide) (by decide)) (fun v => ?_)
  refine VL.at (fun w1 h1w => ?_)
  obtain ⟨p1, c1, rfl, hO, hA1⟩ := h1w
  refine VL.toOwn hO ?_
  refine VL.conv (by rw [Try.underlying22]; rfl) Try.underlying68 rfl (by have := takeN_lt parts 2; simp only [InR]; omega) ?_
  refine VL.assign rfl ?_
  refine VL.nil ?_
  refine VX.next ?_
  refine VC.ret ?_
  refine VX.ret1 rfl rfl (fun we hw => ?_)
  exact ⟨p1, c1, rfl, hw.lose.lose, hA1.nowK (s := ⟨w1, _⟩) (Mono.slice Mono.byte) hw (List.mem_cons_self ..) rfl⟩

theorem plan196 : planOf Try.prog 196 = some (placesL 0 [1, 1], (cat [[.slice none 0 0], [.int .i64 0]]).toArray) := by kernel_rfl

theorem open_r {S : List Snap} {H : List Chunk} {w : World} (ho : Own S H w) {p : Option Addr} {l : List UInt8} {c : Nat} (hA : Bytes (keys H) w p l c) : Calls Try.prog 121 #[.slice p l.length c] w (Ret fun v w' => ∃ g p' c', v = .pointer (some ⟨g, 0, none⟩) ∧ Own S (rblk g p' (openP l).length c' (openW l) :: H) w' ∧ Arr 1 bytesR (g :: keys H) w' p' (openP l) c') := by
  refine enter (G := Own (⟨w, keys H⟩ :: S) H) ho.keep Try.func121 rfl Try.ntmps121 rfl ?_
  refine VC.seq ?_
  refine VC.region ?_
  refine VL.assign rfl ?_
  refine VL.nil ?_
  refine VX.next ?_
  refine VC.seq ?_
  refine VC.region ?_
  refine VL.move rfl ?_
  refine VL.call Try.func32 rfl (by decide) rfl (fun w' hw => split_any hw (hA.now (s := ⟨w, keys H⟩) Mono.byte hw (by repeat (first | exact List.mem_cons_self .. | apply List.mem_cons_of_mem)))) (fun v => ?_)
  refine VL.at (fun w1 h1w => ?_)
  obtain ⟨hO, p1, c1, rfl, hA1⟩ := h1w
  refine VL.toOwn hO ?_
  refine VL.move rfl ?_
  refine VL.extract rfl rfl ?_
  refine VL.extract rfl rfl ?_
  refine VL.assign rfl ?_
  refine VL.assign rfl ?_
  refine VL.nil ?_
  refine VX.next ?_
  refine VC.seq ?_
  refine VC.seq ?_
  refine VC.region ?_
  refine VL.move rfl ?_
  refine VL.neq rfl rfl ?_
  refine VL.case (fun h2_1 => ?_) (fun h2_1 => ?_)
  · have hs : (splitB l).2 = [] := split_err l (by omega)
    refine VL.move rfl ?_
    refine VL.pass rfl rfl rfl rfl rfl ?_
    refine VL.pass rfl rfl rfl rfl rfl ?_
    refine VL.pass rfl rfl rfl rfl rfl ?_
    refine VL.pick_t rfl rfl ?_
    refine VL.nil ?_
    refine VX.next ?_
    refine VC.yes rfl ?_
    refine VC.seq ?_
    refine VC.region ?_
    refine VL.build (zs := [[.slice none 0 0], [.int .i64 0]]) [(1, [.int .i64 141])] plan196 rfl ⟨⟨rfl, ⟨_, rfl, rfl⟩, rfl⟩, trivial⟩ rfl ?_
    refine VL.box (L := [1, 1]) (ps := [[.slice none 0 0], [.int .i64 141]]) rfl rfl rfl (fun gr => ?_)
    refine VL.assign rfl ?_
    refine VL.nil ?_
    refine VX.next ?_
    refine VC.ret ?_
    refine VX.then_ret ?_
    refine VX.ret1 rfl rfl (fun we hw => ?_)
    refine ⟨gr, none, 0, rfl, ?_, ?_⟩
    · have e1 : openP l = [] := hs
      have e2 : openW l = 141 := if_pos hs
      rw [e1, e2]; exact hw.lose.lose
    · rw [show openP l = [] from hs]; exact Arr.none
  · refine VL.move rfl ?_
    refine VL.go rfl rfl rfl ?_
    refine VL.move rfl ?_
    refine VL.go rfl rfl rfl ?_
    refine VL.len Try.underlying31 rfl rfl ?_
    refine VL.go rfl rfl rfl ?_
    refine VL.eql rfl rfl ?_
    refine VL.case (fun h2_5 => ?_) (fun h2_5 => ?_)
    · have hs : (splitB l).2 = [] := List.eq_nil_of_length_eq_zero (by omega)
      refine VL.pick_f rfl rfl ?_
      refine VL.nil ?_
      refine VX.next ?_
      refine VC.yes rfl ?_
      refine VC.seq ?_
      refine VC.region ?_
      refine VL.build (zs := [[.slice none 0 0], [.int .i64 0]]) [(1, [.int .i64 141])] plan196 rfl ⟨⟨rfl, ⟨_, rfl, rfl⟩, rfl⟩, trivial⟩ rfl ?_
      refine VL.box (L := [1, 1]) (ps := [[.slice none 0 0], [.int .i64 141]]) rfl rfl rfl (fun gr => ?_)
      refine VL.assign rfl ?_
      refine VL.nil ?_
      refine VX.next ?_
      refine VC.ret ?_
      refine VX.then_ret ?_
      refine VX.ret1 rfl rfl (fun we hw => ?_)
      refine ⟨gr, none, 0, rfl, ?_, ?_⟩
      · have e1 : openP l = [] := hs
        have e2 : openW l = 141 := if_pos hs
        rw [e1, e2]; exact hw.lose.lose
      · rw [show openP l = [] from hs]; exact Arr.none
    · have hs : (splitB l).2 ≠ [] := fun e => h2_5 (by rw [e]; rfl)
      refine VL.pick_f rfl rfl ?_
      refine VL.nil ?_
      refine VX.next ?_
      refine VC.no rfl ?_
      refine VC.skip ?_
      refine VX.next ?_
      refine VC.seq ?_
      refine VC.region ?_
      refine VL.move rfl ?_
      refine VL.build (zs := [[.slice none 0 0], [.int .i64 0]]) [(0, [.slice p1 (splitB l).2.length c1])] plan196 rfl ⟨⟨rfl, ⟨_, rfl, rfl⟩, rfl⟩, trivial⟩ rfl ?_
      refine VL.box (L := [1, 1]) (ps := [[.slice p1 (splitB l).2.length c1], [.int .i64 0]]) rfl rfl rfl (fun gr => ?_)
      refine VL.assign rfl ?_
      refine VL.nil ?_
      refine VX.next ?_
      refine VC.ret ?_
      refine VX.ret1 rfl rfl (fun we hw => ?_)
      refine ⟨gr, p1, c1, rfl, ?_, ?_⟩
      · rw [show openW l = 0 from if_neg hs]; exact hw.lose.lose
      · exact hA1.nowK (s := ⟨w1, _⟩) (Mono.slice Mono.byte) hw (List.mem_cons_self ..) rfl

end Go.Proofs.Ytcfecmoagfgnaaa

/- wire: what takes pieces, wherever it lies. -/
namespace Go.Proofs.Ytcfecmoagfgnaaa
open Go.Vc Go.Pl

/-- The reading of the variable of what takes pieces. -/
def rdR (parts : List (List UInt8)) (why : Nat) : Rel (List (List Value)) := fun K w _ ps => ∃ p c, ps = [[.slice p parts.length c], [.int .i64 why]] ∧ Arr 1 bytesR K w p parts c
theorem Mono_rd (parts : List (List UInt8)) (why : Nat) : Mono (rdR parts why) := fun _ _ _ _ _ ha ⟨p, c, e, h⟩ => ⟨p, c, e, h.after (Mono.slice Mono.byte) ha⟩
/-- What takes pieces: those that are left; the error. -/
def rch (g : Nat) (parts : List (List UInt8)) (why : Nat) : Chunk := xblk g 196 [1, 1] (rdR parts why) (Mono_rd parts why)
theorem openR {S : List Snap} {H : List Chunk} {w : World} {g : Nat} {parts : List (List UInt8)} {why : Nat} (h : Own S (rch g parts why :: H) w) : ∃ p c, Own S (rblk g p parts.length c why :: H) w ∧ Arr 1 bytesR (g :: keys H) w p parts c := by
  obtain ⟨ps, h1, p, c, rfl, h2⟩ := h.openX
  exact ⟨p, c, h1, h2⟩
theorem shutR {S : List Snap} {H : List Chunk} {w : World} {g : Nat} {parts : List (List UInt8)} {why : Nat} {p : Option Addr} {c : Nat} (h : Own S (rblk g p parts.length c why :: H) w) (hA : Arr 1 bytesR (g :: keys H) w p parts c) : Own S (rch g parts why :: H) w :=
  h.shutX (Mono_rd parts why) ⟨p, c, rfl, hA⟩
theorem set_at {H : List Chunk} {i : Nat} {c : Chunk} (hi : H[i]? = some c) (c' : Chunk) : (H.set i c')[i]? = some c' := by
  have := (List.getElem?_eq_some_iff.1 hi).1
  rw [List.getElem?_set_self (by simpa using this)]
theorem open_R {S : List Snap} {H : List Chunk} {w : World} (ho : Own S H w) {p : Option Addr} {l : List UInt8} {c : Nat} (hA : Bytes (keys H) w p l c) : Calls Try.prog 121 #[.slice p l.length c] w (Ret fun v w' => ∃ g, v = .pointer (some ⟨g, 0, none⟩) ∧ Own S (rch g (openP l) (openW l) :: H) w') :=
  calls_mono (open_r ho hA) fun v w' ⟨g, p', c', e, h1, h2⟩ => ⟨g, e, shutR h1 h2⟩
theorem fail_R {S : List Snap} {H : List Chunk} {w : World} {g : Nat} {parts : List (List UInt8)} {why : Nat} {i : Nat} (hi : H[i]? = some (rch g parts why)) (ho : Own S H w) (e : Nat) : Calls Try.prog 125 #[.pointer (some ⟨g, 0, none⟩), .int .i64 e] w (Ret fun v w' => v = .tuple #[] ∧ Own S (H.set i (rch g parts (failW why e))) w') := by
  have h0 := (ho.front hi).keep
  obtain ⟨p, c, h1, h2⟩ := openR h0
  refine calls_mono (fail_r h1 e) fun v w' ⟨e1, h3⟩ => ⟨e1, ?_⟩
  have := shutR h3 (h2.nowK (s := ⟨w, _⟩) (K := g :: keys (H.eraseIdx i)) (Mono.slice Mono.byte) h3 (by repeat (first | exact List.mem_cons_self .. | apply List.mem_cons_of_mem)) rfl)
  exact (this.lose).back hi
theorem end_R {S : List Snap} {H : List Chunk} {w : World} {g : Nat} {parts : List (List UInt8)} {why : Nat} {i : Nat} (hi : H[i]? = some (rch g parts why)) (ho : Own S H w) : Calls Try.prog 126 #[.pointer (some ⟨g, 0, none⟩)] w (Ret fun v w' => v = .int .i64 (endW parts why) ∧ Own S (H.set i (rch g parts (endW parts why))) w') := by
  have h0 := (ho.front hi).keep
  obtain ⟨p, c, h1, h2⟩ := openR h0
  refine calls_mono (end_r h1) fun v w' ⟨e1, h3⟩ => ⟨e1, ?_⟩
  have := shutR h3 (h2.nowK (s := ⟨w, _⟩) (K := g :: keys (H.eraseIdx i)) (Mono.slice Mono.byte) h3 (by repeat (first | exact List.mem_cons_self .. | apply List.mem_cons_of_mem)) rfl)
  exact (this.lose).back hi
theorem piece_R {S : List Snap} {H : List Chunk} {w : World} {g : Nat} {parts : List (List UInt8)} {why : Nat} {i : Nat} (hi : H[i]? = some (rch g parts why)) (ho : Own S H w) : Calls Try.prog 124 #[.pointer (some ⟨g, 0, none⟩)] w (Ret fun v w' => ∃ pb cb, v = .slice pb (nextP parts).length cb ∧ Own S (H.set i (rch g (parts.drop 1) (nextW parts why))) w' ∧ Bytes (keys (H.set i (rch g (parts.drop 1) (nextW parts why)))) w' pb (nextP parts) cb) := by
  have h0 := ho.front hi
  obtain ⟨p, c, h1, h2⟩ := openR h0
  refine calls_mono (piece_r h1 h2) fun v w' ⟨p', c', pb, cb, e1, h3, h4, h5⟩ => ⟨pb, cb, e1, (shutR h3 h4).back hi, h5.keysTo Mono.byte fun k hk => ?_⟩
  exact (keys_set hi k).1 hk
theorem num_R {S : List Snap} {H : List Chunk} {w : World} {g : Nat} {parts : List (List UInt8)} {why : Nat} {i : Nat} (hi : H[i]? = some (rch g parts why)) (ho : Own S H w) (k : Nat) (h1 : 1 ≤ k) (h8 : k ≤ 8) : Calls Try.prog 132 #[.pointer (some ⟨g, 0, none⟩), .int .i64 k] w (Ret fun v w' => v = .int .u64 (takeN parts k) ∧ Own S (H.set i (rch g (parts.drop 1) (lenW parts why k))) w') := by
  have h0 := ho.front hi
  obtain ⟨p, c, h1', h2⟩ := openR h0
  exact calls_mono (num_r h1' h2 k h1 h8) fun v w' ⟨p', c', e1, h3, h4⟩ => ⟨e1, (shutR h3 h4).back hi⟩
theorem byte_R {S : List Snap} {H : List Chunk} {w : World} {g : Nat} {parts : List (List UInt8)} {why : Nat} {i : Nat} (hi : H[i]? = some (rch g parts why)) (ho : Own S H w) : Calls Try.prog 122 #[.pointer (some ⟨g, 0, none⟩)] w (Ret fun v w' => v = .int .u8 (takeN parts 1) ∧ Own S (H.set i (rch g (parts.drop 1) (lenW parts why 1))) w') := by
  have h0 := ho.front hi
  obtain ⟨p, c, h1', h2⟩ := openR h0
  exact calls_mono (byte_r h1' h2) fun v w' ⟨p', c', e1, h3, h4⟩ => ⟨e1, (shutR h3 h4).back hi⟩
theorem short_R {S : List Snap} {H : List Chunk} {w : World} {g : Nat} {parts : List (List UInt8)} {why : Nat} {i : Nat} (hi : H[i]? = some (rch g parts why)) (ho : Own S H w) : Calls Try.prog 130 #[.pointer (some ⟨g, 0, none⟩)] w (Ret fun v w' => v = .int .u16 (takeN parts 2) ∧ Own S (H.set i (rch g (parts.drop 1) (lenW parts why 2))) w') := by
  have h0 := ho.front hi
  obtain ⟨p, c, h1', h2⟩ := openR h0
  exact calls_mono (short_r h1' h2) fun v w' ⟨p', c', e1, h3, h4⟩ => ⟨e1, (shutR h3 h4).back hi⟩
theorem zero80 : (Try.prog.info? 80).bind (·.zero) = some (.agg ((zeros 64).map bv).toArray) := by kernel_rfl
theorem keyOf_takeB (parts : List (List UInt8)) : keyOf (nextP parts) = takeB 32 parts := rfl

theorem key_R {S : List Snap} {H : List Chunk} {w : World} {g : Nat} {parts : List (List UInt8)} {why : Nat} {i : Nat} (hi : H[i]? = some (rch g parts why)) (ho : Own S H w) : Calls Try.prog 129 #[.pointer (some ⟨g, 0, none⟩)] w (Ret fun v w' => v = .agg ((takeB 32 parts).map bv).toArray ∧ Own S (H.set i (rch g (parts.drop 1) (lenW parts why 32))) w') := by
  refine enter (G := Own S H) ho Try.func129 rfl Try.ntmps129 rfl ?_
  refine VC.seq ?_
  refine VC.region ?_
  refine VL.alloc (L := [32]) (ps := [key0.map bv]) zero44 rfl rfl (fun g2 => ?_)
  refine VL.nil ?_
  refine VX.next ?_
  refine VC.seq ?_
  refine VC.region ?_
  refine VL.move rfl ?_
  refine VL.call Try.func124 rfl (by decide) rfl (fun w' hw => piece_R (i := i + 1) hi hw) (fun v => ?_)
  refine VL.at (fun w1 h1w => ?_)
  obtain ⟨pb, cb, rfl, hO, hB1⟩ := h1w
  have hi2 := set_at hi (rch g (parts.drop 1) (nextW parts why))
  refine VL.toOwn hO ?_
  refine VL.call Try.func36 rfl (by decide) rfl (fun w' hw => key_any hw (hB1.now (s := ⟨w1, _⟩) Mono.byte hw (by repeat (first | exact List.mem_cons_self .. | apply List.mem_cons_of_mem)))) (fun v => ?_)
  refine VL.at (fun w2 h1w => ?_)
  obtain ⟨hO2, rfl⟩ := h1w
  refine VL.toOwn hO2 ?_
  refine VL.move rfl ?_
  refine VL.extract rfl rfl ?_
  refine VL.extract rfl rfl ?_
  refine VL.alloc (L := [32]) (ps := [key0.map bv]) zero44 rfl rfl (fun g3 => ?_)
  refine VL.store (L := [32]) (qs := [(keyOf (nextP parts)).map bv]) 0 0 1 rfl rfl rfl (.inl kd44) rfl rfl (by simp [keyOf_length]) (ok1_bytes _) rfl rfl ?_
  refine VL.assign rfl ?_
  refine VL.nil ?_
  refine VX.next ?_
  refine VC.seq ?_
  refine VC.seq ?_
  refine VC.region ?_
  refine VL.move rfl ?_
  refine VL.not rfl ?_
  refine VL.nil ?_
  refine VX.next ?_
  refine VC.split rfl (fun hc12 => ?_) (fun hc12 => ?_)
  · refine VC.region ?_
    refine VL.move rfl ?_
    refine VL.call Try.func125 rfl (by decide) rfl (fun w' hw => fail_R (i := i + 2) hi2 hw 141) (fun v => ?_)
    refine VL.fact fun e => ?_
    subst e
    refine VL.nil ?_
    refine VX.next ?_
    refine VC.seq ?_
    refine VC.region ?_
    refine VL.loads (cs := (keyOf (nextP parts)).map bv) 0 0 1 rfl kd44 (fun _ h => h) rfl rfl rfl rfl ?_
    refine VL.store (L := [32]) (qs := [(keyOf (nextP parts)).map bv]) 1 0 1 rfl rfl rfl (.inl kd44) rfl rfl (by simp [keyOf_length]) (ok1_bytes _) rfl rfl ?_
    refine VL.nil ?_
    refine VX.next ?_
    refine VC.ret ?_
    refine VX.ret_cell1 (cs := (keyOf (nextP parts)).map bv) 1 rfl rfl (by rw [List.length_map, keyOf_length]; exact kd44) (fun _ h => h) rfl rfl (fun we hw => ?_)
    refine ⟨by rw [keyOf_takeB], ?_⟩
    rw [show lenW parts why 32 = failW (nextW parts why) 141 from if_neg (by simpa using hc12)]
    rw [← List.set_set (a := rch g (parts.drop 1) (nextW parts why))]
    exact hw.drop.drop.lose.lose
  · refine VC.skip ?_
    refine VX.next ?_
    refine VC.seq ?_
    refine VC.region ?_
    refine VL.loads (cs := (keyOf (nextP parts)).map bv) 0 0 1 rfl kd44 (fun _ h => h) rfl rfl rfl rfl ?_
    refine VL.store (L := [32]) (qs := [(keyOf (nextP parts)).map bv]) 1 0 1 rfl rfl rfl (.inl kd44) rfl rfl (by simp [keyOf_length]) (ok1_bytes _) rfl rfl ?_
    refine VL.nil ?_
    refine VX.next ?_
    refine VC.ret ?_
    refine VX.ret_cell1 (cs := (keyOf (nextP parts)).map bv) 1 rfl rfl (by rw [List.length_map, keyOf_length]; exact kd44) (fun _ h => h) rfl rfl (fun we hw => ?_)
    refine ⟨by rw [keyOf_takeB], ?_⟩
    rw [show lenW parts why 32 = nextW parts why from if_pos (by simpa using hc12)]
    exact hw.drop.drop.lose.lose

theorem sig_R {S : List Snap} {H : List Chunk} {w : World} {g : Nat} {parts : List (List UInt8)} {why : Nat} {i : Nat} (hi : H[i]? = some (rch g parts why)) (ho : Own S H w) : Calls Try.prog 131 #[.pointer (some ⟨g, 0, none⟩)] w (Ret fun v w' => v = .agg ((takeB 64 parts).map bv).toArray ∧ Own S (H.set i (rch g (parts.drop 1) (lenW parts why 64))) w') := by
  refine enter (G := Own S H) ho Try.func131 rfl Try.ntmps131 rfl ?_
  refine VC.seq ?_
  refine VC.region ?_
  refine VL.alloc (L := [64]) (ps := [(zeros 64).map bv]) zero80 rfl rfl (fun g2 => ?_)
  refine VL.nil ?_
  refine VX.next ?_
  refine VC.seq ?_
  refine VC.region ?_
  refine VL.alloc (L := [64]) (ps := [(zeros 64).map bv]) zero80 rfl rfl (fun g3 => ?_)
  refine VL.nil ?_
  refine VX.next ?_
  refine VC.seq ?_
  refine VC.region ?_
  refine VL.move rfl ?_
  refine VL.call Try.func124 rfl (by decide) rfl (fun w' hw => piece_R (i := i + 2) hi hw) (fun v => ?_)
  refine VL.at (fun w1 h1w => ?_)
  obtain ⟨pb, cb, rfl, hO, hB1⟩ := h1w
  have hi2 := set_at hi (rch g (parts.drop 1) (nextW parts why))
  refine VL.toOwn hO ?_
  refine VL.assign rfl ?_
  refine VL.nil ?_
  refine VX.next ?_
  refine VC.seq ?_
  refine VC.seq ?_
  refine VC.region ?_
  refine VL.move rfl ?_
  refine VL.len Try.underlying24 rfl rfl ?_
  refine VL.neq rfl rfl ?_
  refine VL.case (fun h3_2 => ?_) (fun h3_2 => ?_)
  · refine VL.nil ?_
    refine VX.next ?_
    refine VC.yes rfl ?_
    refine VC.seq ?_
    refine VC.region ?_
    refine VL.move rfl ?_
    refine VL.call Try.func125 rfl (by decide) rfl (fun w' hw => fail_R (i := i + 2) hi2 hw 141) (fun v => ?_)
    refine VL.fact fun e => ?_
    subst e
    refine VL.nil ?_
    refine VX.next ?_
    refine VC.seq ?_
    refine VC.region ?_
    refine VL.loads (cs := (zeros 64).map bv) 0 0 1 rfl kd80 (fun _ h => h) rfl rfl rfl rfl ?_
    refine VL.store (L := [64]) (qs := [(zeros 64).map bv]) 1 0 1 rfl rfl rfl (.inl kd80) rfl rfl rfl (ok1_bytes _) rfl rfl ?_
    refine VL.nil ?_
    refine VX.next ?_
    refine VC.ret ?_
    refine VX.then_ret ?_
    refine VX.ret_cell1 (cs := (zeros 64).map bv) 1 rfl rfl kd80 (fun _ h => h) rfl rfl (fun we hw => ?_)
    refine ⟨by rw [show takeB 64 parts = zeros 64 from if_neg (by omega)], ?_⟩
    rw [show lenW parts why 64 = failW (nextW parts why) 141 from if_neg (by omega)]
    rw [← List.set_set (a := rch g (parts.drop 1) (nextW parts why))]
    exact hw.drop.drop.lose
  · refine VL.nil ?_
    refine VX.next ?_
    refine VC.no rfl ?_
    refine VC.skip ?_
    refine VX.next ?_
    refine VC.seq ?_
    have hl : (nextP parts).length = 64 := by omega
    refine VC.region ?_
    refine VL.sliceArr Try.underlying80 (by kernel_rfl) rfl ?_
    refine VL.move rfl ?_
    refine VL.copyAll (cur := (zeros 64).map bv) (l := nextP parts) 0 rfl Try.underlying24 (by kernel_rfl) rfl rfl rfl hl (by omega) (fun _ h => (hB1.now (s := ⟨w1, _⟩) Mono.byte h (by repeat (first | exact List.mem_cons_self .. | apply List.mem_cons_of_mem))).bytes) rfl (fun _ => ?_)
    refine VL.nil ?_
    refine VX.next ?_
    refine VC.seq ?_
    refine VC.region ?_
    refine VL.loads (cs := (nextP parts).map bv) 0 0 1 rfl kd80 (fun _ h => h) rfl rfl rfl rfl ?_
    refine VL.store (L := [64]) (qs := [(nextP parts).map bv]) 1 0 1 rfl rfl rfl (.inl kd80) rfl rfl (by simp [hl]) (ok1_bytes _) rfl rfl ?_
    refine VL.nil ?_
    refine VX.next ?_
    refine VC.ret ?_
    refine VX.ret_cell1 (cs := (nextP parts).map bv) 1 rfl rfl (by rw [List.length_map, hl]; exact kd80) (fun _ h => h) rfl rfl (fun we hw => ?_)
    refine ⟨by rw [show takeB 64 parts = nextP parts from if_pos hl], ?_⟩
    rw [show lenW parts why 64 = nextW parts why from if_pos hl]
    exact hw.drop.drop.lose

end Go.Proofs.Ytcfecmoagfgnaaa

/- The things as cells: their parts, their zeros; one against the other. -/
namespace Go.Proofs.Ytcfecmoagfgnaaa
open Go.Vc Go.Pl

abbrev headerV (x : Header)  : List (List Value) := [x.session.map bv, [.bool x.first], x.agree.map bv, x.signer.map bv, x.base.map bv, [.int .u16 x.id], x.ratchet.map bv, [.int .u16 x.n], [.int .u16 x.prev]]
abbrev headerL : List Nat := [32, 1, 32, 32, 32, 1, 32, 1, 1]
theorem zero70 : (Try.prog.info? 70).bind (·.zero) = some (.agg (cat (headerV header0 )).toArray) := by kernel_rfl
theorem built70 : Try.prog.built 70 [] = some (cat (headerV header0 )).toArray := by kernel_rfl
theorem guard70 : Try.prog.eqGuardType Try.prog.depth 70 = false := by kernel_rfl
abbrev headerZ : List (List Value) := [(zeros 32).map bv, [.bool false], (zeros 32).map bv, (zeros 32).map bv, (zeros 32).map bv, [.int .u16 0], (zeros 32).map bv, [.int .u16 0], [.int .u16 0]]
abbrev headerFL : List Nat := [32, 1, 32, 32, 32, 1, 32, 1, 1]
theorem plan70 : planOf Try.prog 70 = some (placesL 0 headerFL, (cat headerZ).toArray) := by kernel_rfl
theorem headerV_len {x : Header} (h : x.ok)  : (headerV x ).map List.length = headerL := by simp [h.session, h.agree, h.signer, h.base, h.ratchet]
theorem headerV_ok1 (x : Header)  : ok1 (cat (headerV x )) := by
  intro u hu
  rw [cat_eq] at hu
  simp only [List.mem_flatten, List.mem_cons, List.not_mem_nil, or_false] at hu
  obtain ⟨l, hl, hu⟩ := hu
  rcases hl with rfl | rfl | rfl | rfl | rfl | rfl | rfl | rfl | rfl <;> first | (simp only [List.mem_singleton] at hu; subst hu; rfl) | exact ok1_bytes _ u hu
abbrev bundleV (x : Bundle)  : List (List Value) := [[.int .u8 x.device], x.agree.map bv, x.signer.map bv, [.int .u16 x.id], x.once.map bv, x.sig.map bv]
abbrev bundleL : List Nat := [1, 32, 32, 1, 32, 64]
theorem zero82 : (Try.prog.info? 82).bind (·.zero) = some (.agg (cat (bundleV bundle0 )).toArray) := by kernel_rfl
theorem built82 : Try.prog.built 82 [] = some (cat (bundleV bundle0 )).toArray := by kernel_rfl
theorem guard82 : Try.prog.eqGuardType Try.prog.depth 82 = false := by kernel_rfl
abbrev bundleZ : List (List Value) := [[.int .u8 0], (zeros 32).map bv, (zeros 32).map bv, [.int .u16 0], (zeros 32).map bv, (zeros 64).map bv]
abbrev bundleFL : List Nat := [1, 32, 32, 1, 32, 64]
theorem plan82 : planOf Try.prog 82 = some (placesL 0 bundleFL, (cat bundleZ).toArray) := by kernel_rfl
theorem bundleV_len {x : Bundle} (h : x.ok)  : (bundleV x ).map List.length = bundleL := by simp [h.agree, h.signer, h.once, h.sig]
theorem bundleV_ok1 (x : Bundle)  : ok1 (cat (bundleV x )) := by
  intro u hu
  rw [cat_eq] at hu
  simp only [List.mem_flatten, List.mem_cons, List.not_mem_nil, or_false] at hu
  obtain ⟨l, hl, hu⟩ := hu
  rcases hl with rfl | rfl | rfl | rfl | rfl | rfl <;> first | (simp only [List.mem_singleton] at hu; subst hu; rfl) | exact ok1_bytes _ u hu
abbrev letterV (x : Letter) (p : Option Addr) (c : Nat) : List (List Value) := [[.int .u8 x.src], [.int .u8 x.dst], x.header.session.map bv, [.bool x.header.first], x.header.agree.map bv, x.header.signer.map bv, x.header.base.map bv, [.int .u16 x.header.id], x.header.ratchet.map bv, [.int .u16 x.header.n], [.int .u16 x.header.prev], [.slice p x.body.length c]]
abbrev letterL : List Nat := [1, 1, 32, 1, 32, 32, 32, 1, 32, 1, 1, 1]
theorem zero72 : (Try.prog.info? 72).bind (·.zero) = some (.agg (cat (letterV letter0 none 0)).toArray) := by kernel_rfl
theorem built72 : Try.prog.built 72 [] = some (cat (letterV letter0 none 0)).toArray := by kernel_rfl
abbrev letterZ : List (List Value) := [[.int .u8 0], [.int .u8 0], cat (headerV header0), [.slice none 0 0]]
abbrev letterFL : List Nat := [1, 1, 164, 1]
theorem plan72 : planOf Try.prog 72 = some (placesL 0 letterFL, (cat letterZ).toArray) := by kernel_rfl
theorem letterV_len {x : Letter} (h : x.ok) {p : Option Addr} {c : Nat} : (letterV x p c).map List.length = letterL := by simp [h.header.session, h.header.agree, h.header.signer, h.header.base, h.header.ratchet]
theorem letterV_ok1 (x : Letter) (p : Option Addr) (c : Nat) : ok1 (cat (letterV x p c)) := by
  intro u hu
  rw [cat_eq] at hu
  simp only [List.mem_flatten, List.mem_cons, List.not_mem_nil, or_false] at hu
  obtain ⟨l, hl, hu⟩ := hu
  rcases hl with rfl | rfl | rfl | rfl | rfl | rfl | rfl | rfl | rfl | rfl | rfl | rfl <;> first | (simp only [List.mem_singleton] at hu; subst hu; rfl) | exact ok1_bytes _ u hu
abbrev vouchV (x : Vouch)  : List (List Value) := [[.int .u8 x.notary], x.sig.map bv]
abbrev vouchL : List Nat := [1, 64]
theorem zero202 : (Try.prog.info? 202).bind (·.zero) = some (.agg (cat (vouchV vouch0 )).toArray) := by kernel_rfl
theorem built202 : Try.prog.built 202 [] = some (cat (vouchV vouch0 )).toArray := by kernel_rfl
theorem guard202 : Try.prog.eqGuardType Try.prog.depth 202 = false := by kernel_rfl
abbrev vouchZ : List (List Value) := [[.int .u8 0], (zeros 64).map bv]
abbrev vouchFL : List Nat := [1, 64]
theorem plan202 : planOf Try.prog 202 = some (placesL 0 vouchFL, (cat vouchZ).toArray) := by kernel_rfl
theorem vouchV_len {x : Vouch} (h : x.ok)  : (vouchV x ).map List.length = vouchL := by simp [h.sig]
theorem vouchV_ok1 (x : Vouch)  : ok1 (cat (vouchV x )) := by
  intro u hu
  rw [cat_eq] at hu
  simp only [List.mem_flatten, List.mem_cons, List.not_mem_nil, or_false] at hu
  obtain ⟨l, hl, hu⟩ := hu
  rcases hl with rfl | rfl <;> first | (simp only [List.mem_singleton] at hu; subst hu; rfl) | exact ok1_bytes _ u hu
abbrev objectV (x : Object) (q : Option Addr) (d : Nat) : List (List Value) := [[.int .u8 x.server], [.int .u8 x.n], x.key.map bv, [.int .u32 x.since], [.int .u32 x.till], x.sig.map bv, [.slice q x.vouches.length d]]
abbrev objectL : List Nat := [1, 1, 32, 1, 1, 64, 1]
theorem zero85 : (Try.prog.info? 85).bind (·.zero) = some (.agg (cat (objectV object0 none 0)).toArray) := by kernel_rfl
theorem built85 : Try.prog.built 85 [] = some (cat (objectV object0 none 0)).toArray := by kernel_rfl
abbrev objectZ : List (List Value) := [[.int .u8 0], [.int .u8 0], (zeros 32).map bv, [.int .u32 0], [.int .u32 0], (zeros 64).map bv, [.slice none 0 0]]
abbrev objectFL : List Nat := [1, 1, 32, 1, 1, 64, 1]
theorem plan85 : planOf Try.prog 85 = some (placesL 0 objectFL, (cat objectZ).toArray) := by kernel_rfl
theorem objectV_len {x : Object} (h : x.ok) {q : Option Addr} {d : Nat} : (objectV x q d).map List.length = objectL := by simp [h.key, h.sig]
theorem objectV_ok1 (x : Object) (q : Option Addr) (d : Nat) : ok1 (cat (objectV x q d)) := by
  intro u hu
  rw [cat_eq] at hu
  simp only [List.mem_flatten, List.mem_cons, List.not_mem_nil, or_false] at hu
  obtain ⟨l, hl, hu⟩ := hu
  rcases hl with rfl | rfl | rfl | rfl | rfl | rfl | rfl <;> first | (simp only [List.mem_singleton] at hu; subst hu; rfl) | exact ok1_bytes _ u hu
theorem arr_len {l : List UInt8} {n : Nat} (h : l.length = n) : [l.map bv].map List.length = [n] := by simp [h]
theorem arr_q {l : List UInt8} {n : Nat} (h : l.length = n) : some n = some (l.map bv).length := by simp [h]
theorem guard80 : Try.prog.eqGuardType Try.prog.depth 80 = false := by kernel_rfl
theorem built44 : Try.prog.built 44 [] = some ((zeros 32).map bv).toArray := by kernel_rfl
theorem built80 : Try.prog.built 80 [] = some ((zeros 64).map bv).toArray := by kernel_rfl
theorem zero43 : (Try.prog.info? 43).bind (·.zero) = some (.agg ((zeros 32).map bv).toArray) := by kernel_rfl
theorem zero79 : (Try.prog.info? 79).bind (·.zero) = some (.agg ((zeros 64).map bv).toArray) := by kernel_rfl
theorem eqKey {l r : List UInt8} (k : Nat) (hl : l.length = 32) (hr : r.length = 32) : EqT Try.prog (k + 2) 44 (.agg (l.map bv).toArray) (.agg (r.map bv).toArray) (l = r) := EqT.arr Try.underlying44 Try.underlying5 kd5 hl hr
theorem eqSig {l r : List UInt8} (k : Nat) (hl : l.length = 64) (hr : r.length = 64) : EqT Try.prog (k + 2) 80 (.agg (l.map bv).toArray) (.agg (r.map bv).toArray) (l = r) := EqT.arr Try.underlying80 Try.underlying5 kd5 hl hr
def vouchR : Rel Vouch := fun _ _ vs v => v.ok ∧ vs = cat (vouchV v)
theorem Mono_vouch : Mono vouchR := fun _ _ _ _ _ _ h => h
theorem natInt {a b : Nat} : ((a : Int) = (b : Int)) ↔ a = b := Int.natCast_inj

theorem eqHeader {x y : Header} (hx : x.ok) (hy : y.ok) : EqT Try.prog 10000 70 (.agg (cat (headerV x)).toArray) (.agg (cat (headerV y)).toArray) (x = y) := by
  refine (EqT.struct (P := Try.prog) (d := 9999) (t := 70) (ps := headerV x) (qs := headerV y) (bs := [x.session = y.session, x.first = y.first, x.agree = y.agree, x.signer = y.signer, x.base = y.base, x.id = y.id, x.ratchet = y.ratchet, x.n = y.n, x.prev = y.prev]) (by kernel_rfl) (by kernel_rfl) (by kernel_rfl) ?_).imp ?_
  · rw [show ((Try.prog.fieldsOf 70).toList.map fun f => (f.type, f.offset)) = [(44, 0), (4, 32), (44, 33), (44, 65), (44, 97), (68, 129), (44, 130), (68, 162), (68, 163)] by kernel_rfl]
    exact ⟨⟨by simp [List.length_map, hx.session, List.length_map, hx.agree, List.length_map, hx.signer, List.length_map, hx.base, List.length_map, hx.ratchet], by simp [hx.session, hy.session], .inr ⟨by rw [List.length_map, hx.session]; exact kd44, eqKey 9997 hx.session hy.session⟩⟩, ⟨⟨by simp [List.length_map, hx.session, List.length_map, hx.agree, List.length_map, hx.signer, List.length_map, hx.base, List.length_map, hx.ratchet], rfl, .inl ⟨kd4, _, _, rfl, rfl, EqT.bool Try.underlying4⟩⟩, ⟨⟨by simp [List.length_map, hx.session, List.length_map, hx.agree, List.length_map, hx.signer, List.length_map, hx.base, List.length_map, hx.ratchet], by simp [hx.agree, hy.agree], .inr ⟨by rw [List.length_map, hx.agree]; exact kd44, eqKey 9997 hx.agree hy.agree⟩⟩, ⟨⟨by simp [List.length_map, hx.session, List.length_map, hx.agree, List.length_map, hx.signer, List.length_map, hx.base, List.length_map, hx.ratchet], by simp [hx.signer, hy.signer], .inr ⟨by rw [List.length_map, hx.signer]; exact kd44, eqKey 9997 hx.signer hy.signer⟩⟩, ⟨⟨by simp [List.length_map, hx.session, List.length_map, hx.agree, List.length_map, hx.signer, List.length_map, hx.base, List.length_map, hx.ratchet], by simp [hx.base, hy.base], .inr ⟨by rw [List.length_map, hx.base]; exact kd44, eqKey 9997 hx.base hy.base⟩⟩, ⟨⟨by simp [List.length_map, hx.session, List.length_map, hx.agree, List.length_map, hx.signer, List.length_map, hx.base, List.length_map, hx.ratchet], rfl, .inl ⟨kd68, _, _, rfl, rfl, (EqT.int Try.underlying68).imp natInt⟩⟩, ⟨⟨by simp [List.length_map, hx.session, List.length_map, hx.agree, List.length_map, hx.signer, List.length_map, hx.base, List.length_map, hx.ratchet], by simp [hx.ratchet, hy.ratchet], .inr ⟨by rw [List.length_map, hx.ratchet]; exact kd44, eqKey 9997 hx.ratchet hy.ratchet⟩⟩, ⟨⟨by simp [List.length_map, hx.session, List.length_map, hx.agree, List.length_map, hx.signer, List.length_map, hx.base, List.length_map, hx.ratchet], rfl, .inl ⟨kd68, _, _, rfl, rfl, (EqT.int Try.underlying68).imp natInt⟩⟩, ⟨⟨by simp [List.length_map, hx.session, List.length_map, hx.agree, List.length_map, hx.signer, List.length_map, hx.base, List.length_map, hx.ratchet], rfl, .inl ⟨kd68, _, _, rfl, rfl, (EqT.int Try.underlying68).imp natInt⟩⟩, trivial⟩⟩⟩⟩⟩⟩⟩⟩⟩
  · constructor
    · rintro ⟨h0, h1, h2, h3, h4, h5, h6, h7, h8, _⟩
      obtain ⟨a0, a1, a2, a3, a4, a5, a6, a7, a8⟩ := x
      obtain ⟨b0, b1, b2, b3, b4, b5, b6, b7, b8⟩ := y
      simp only at h0 h1 h2 h3 h4 h5 h6 h7 h8
      subst h0 h1 h2 h3 h4 h5 h6 h7 h8
      rfl
    · rintro rfl
      exact ⟨rfl, rfl, rfl, rfl, rfl, rfl, rfl, rfl, rfl, trivial⟩
theorem eqBundle {x y : Bundle} (hx : x.ok) (hy : y.ok) : EqT Try.prog 10000 82 (.agg (cat (bundleV x)).toArray) (.agg (cat (bundleV y)).toArray) (x = y) := by
  refine (EqT.struct (P := Try.prog) (d := 9999) (t := 82) (ps := bundleV x) (qs := bundleV y) (bs := [x.device = y.device, x.agree = y.agree, x.signer = y.signer, x.id = y.id, x.once = y.once, x.sig = y.sig]) (by kernel_rfl) (by kernel_rfl) (by kernel_rfl) ?_).imp ?_
  · rw [show ((Try.prog.fieldsOf 82).toList.map fun f => (f.type, f.offset)) = [(5, 0), (44, 1), (44, 33), (68, 65), (44, 66), (80, 98)] by kernel_rfl]
    exact ⟨⟨by simp [List.length_map, hx.agree, List.length_map, hx.signer, List.length_map, hx.once, List.length_map, hx.sig], rfl, .inl ⟨kd5, _, _, rfl, rfl, (EqT.int Try.underlying5).imp natInt⟩⟩, ⟨⟨by simp [List.length_map, hx.agree, List.length_map, hx.signer, List.length_map, hx.once, List.length_map, hx.sig], by simp [hx.agree, hy.agree], .inr ⟨by rw [List.length_map, hx.agree]; exact kd44, eqKey 9997 hx.agree hy.agree⟩⟩, ⟨⟨by simp [List.length_map, hx.agree, List.length_map, hx.signer, List.length_map, hx.once, List.length_map, hx.sig], by simp [hx.signer, hy.signer], .inr ⟨by rw [List.length_map, hx.signer]; exact kd44, eqKey 9997 hx.signer hy.signer⟩⟩, ⟨⟨by simp [List.length_map, hx.agree, List.length_map, hx.signer, List.length_map, hx.once, List.length_map, hx.sig], rfl, .inl ⟨kd68, _, _, rfl, rfl, (EqT.int Try.underlying68).imp natInt⟩⟩, ⟨⟨by simp [List.length_map, hx.agree, List.length_map, hx.signer, List.length_map, hx.once, List.length_map, hx.sig], by simp [hx.once, hy.once], .inr ⟨by rw [List.length_map, hx.once]; exact kd44, eqKey 9997 hx.once hy.once⟩⟩, ⟨⟨by simp [List.length_map, hx.agree, List.length_map, hx.signer, List.length_map, hx.once, List.length_map, hx.sig], by simp [hx.sig, hy.sig], .inr ⟨by rw [List.length_map, hx.sig]; exact kd80, eqSig 9997 hx.sig hy.sig⟩⟩, trivial⟩⟩⟩⟩⟩⟩
  · constructor
    · rintro ⟨h0, h1, h2, h3, h4, h5, _⟩
      obtain ⟨a0, a1, a2, a3, a4, a5⟩ := x
      obtain ⟨b0, b1, b2, b3, b4, b5⟩ := y
      simp only at h0 h1 h2 h3 h4 h5
      subst h0 h1 h2 h3 h4 h5
      rfl
    · rintro rfl
      exact ⟨rfl, rfl, rfl, rfl, rfl, rfl, trivial⟩
theorem eqVouch {x y : Vouch} (hx : x.ok) (hy : y.ok) : EqT Try.prog 10000 202 (.agg (cat (vouchV x)).toArray) (.agg (cat (vouchV y)).toArray) (x = y) := by
  refine (EqT.struct (P := Try.prog) (d := 9999) (t := 202) (ps := vouchV x) (qs := vouchV y) (bs := [x.notary = y.notary, x.sig = y.sig]) (by kernel_rfl) (by kernel_rfl) (by kernel_rfl) ?_).imp ?_
  · rw [show ((Try.prog.fieldsOf 202).toList.map fun f => (f.type, f.offset)) = [(5, 0), (80, 1)] by kernel_rfl]
    exact ⟨⟨by simp [List.length_map, hx.sig], rfl, .inl ⟨kd5, _, _, rfl, rfl, (EqT.int Try.underlying5).imp natInt⟩⟩, ⟨⟨by simp [List.length_map, hx.sig], by simp [hx.sig, hy.sig], .inr ⟨by rw [List.length_map, hx.sig]; exact kd80, eqSig 9997 hx.sig hy.sig⟩⟩, trivial⟩⟩
  · constructor
    · rintro ⟨h0, h1, _⟩
      obtain ⟨a0, a1⟩ := x
      obtain ⟨b0, b1⟩ := y
      simp only at h0 h1
      subst h0 h1
      rfl
    · rintro rfl
      exact ⟨rfl, rfl, trivial⟩
end Go.Proofs.Ytcfecmoagfgnaaa

/- wire: what gathers pieces: at its beginning, at its end. -/
namespace Go.Proofs.Ytcfecmoagfgnaaa
open Go.Vc Go.Pl

theorem plan181 : planOf Try.prog 181 = some (placesL 0 [1, 1], (cat [[.slice none 0 0], [.bool false]]).toArray) := by kernel_rfl
theorem Own.newW {S : List Snap} {H : List Chunk} {w : World} {g : Nat} {bad : Bool} (h : Own S (blk g 181 [1, 1] [[rowV none 0 0], [.bool bad]] :: H) w) : Own S (wblk g none 0 ([] : List (List UInt8)).length bad :: brow none 0 [] :: H) w :=
  (Own.arow_nil (Mono.slice Mono.byte) 24 1 h).perm (List.Perm.swap _ _ _)
theorem fits1 {m : Nat} (h : m < 256) : Fits 1 m := h
theorem fits2 {m : Nat} (h : m < 65536) : Fits 2 m := h
theorem fits4 {m : Nat} (h : m < 4294967296) : Fits 4 m := h
theorem inr_u64 {m : Nat} (h : m < 4294967296) : InR .u64 (m : Int) :=
  ⟨Int.natCast_nonneg _, by
    have : (m : Int) ≤ 4294967296 := by omega
    exact Int.le_trans this (by decide)⟩
theorem cat_size {α : Type} {ps : List (List α)} {L : List Nat} (h : ps.map List.length = L) : (cat ps).length = L.sum := by rw [cat_eq, List.length_flatten, h]
/-- What a text's answer says: it, or none. -/
abbrev RetO (S : List Snap) (H : List Chunk) (o : Option (List UInt8)) : Ending → World → Prop := Ret fun v w' => ∃ p c, v = .tuple #[.slice p (o.getD []).length c, .bool o.isSome] ∧ Own S H w' ∧ Bytes (keys H) w' p (o.getD []) c
theorem done_O {S : List Snap} {H : List Chunk} {w : World} {g : Nat} {gp : Option Nat} {c : Nat} {parts : List (List UInt8)} {bad : Bool} (ho : Own S (wblk g gp c parts.length bad :: brow gp c parts :: H) w) : Calls Try.prog 118 #[.pointer (some ⟨g, 0, none⟩)] w (RetO S H (joinO parts (!bad))) := by
  refine calls_mono (done_w ho) fun v w' ⟨h1, h2⟩ => ?_
  rcases h2 with ⟨h3, h4, p, c, e, hA⟩ | ⟨h3, e⟩
  · have e2 : joinO parts (!bad) = some (joinB parts) := joinO_some h3 (by simp [h4])
    rw [e2]
    exact ⟨p, c, e, h1, hA⟩
  · have e2 : joinO parts (!bad) = none := joinO_none fun h => h3 ⟨h.1, by simpa using h.2⟩
    rw [e2]
    exact ⟨none, 0, e, h1, Arr.none⟩
end Go.Proofs.Ytcfecmoagfgnaaa

/- wire: bytes of bundles, headers, letters. -/
namespace Go.Proofs.Ytcfecmoagfgnaaa
open Go.Vc Go.Pl

theorem postO {S : List Snap} {H : List Chunk} {o o' : Option (List UInt8)} (e : o' = o) {v : Value} {w' : World} (h : ∃ p c, v = .tuple #[.slice p (o'.getD []).length c, .bool o'.isSome] ∧ Own S H w' ∧ Bytes (keys H) w' p (o'.getD []) c) : ∃ p c, v = .tuple #[.slice p (o.getD []).length c, .bool o.isSome] ∧ Own S H w' ∧ Bytes (keys H) w' p (o.getD []) c := by subst e; exact h

theorem putBundle_w {S : List Snap} {H : List Chunk} {w : World} (ho : Own S H w) {x : Bundle} (hx : x.ok) : Calls Try.prog 60 #[.agg (cat (bundleV x)).toArray] w (RetO S H (some (bundleB x))) := by
  have hx1 := hx.device
  have hx2 := hx.id
  refine enter (G := Own (⟨w, keys H⟩ :: S) H) ho.keep Try.func60 rfl Try.ntmps60 rfl ?_
  refine VC.seq ?_
  refine VC.region ?_
  refine VL.box (L := bundleL) (ps := (bundleV (x))) rfl rfl (bundleV_len hx) (fun g1 => ?_)
  refine VL.assign rfl ?_
  refine VL.assign rfl ?_
  refine VL.nil ?_
  refine VX.next ?_
  refine VC.seq ?_
  refine VC.region ?_
  refine VL.build (zs := [[.slice none 0 0], [.bool false]]) [] plan181 rfl trivial rfl ?_
  refine VL.box (L := [1, 1]) (ps := [[rowV none 0 0], [.bool false]]) rfl rfl rfl (fun g2 => ?_)
  refine VL.turn (fun w' hw => Own.newW hw) ?_
  refine VL.assign rfl ?_
  refine VL.nil ?_
  refine VX.next ?_
  refine VC.seq ?_
  refine VC.region ?_
  refine VL.move rfl ?_
  refine VL.fieldAddr rfl fo82_0 rfl ?_
  refine VL.load (v := .int .u8 (x.device)) 2 0 rfl kd5 (fun _ h => h) rfl rfl rfl ?_
  refine VL.conv (by rw [Try.underlying5]; rfl) Try.underlying22 rfl (inr_u64 (by omega)) ?_
  refine VL.call Try.func116 rfl (by decide) rfl (fun w' hw => num_w hw (by simp only [List.length_append, List.length_cons, List.length_nil, List.length_map]; omega) (x.device) (fits_small (by omega)) 1 (by decide) (by decide) (fits1 (by omega))) (fun v => ?_)
  refine VL.fact fun e5 => ?_
  subst e5
  refine VL.ex fun gp3 => VL.ex fun c4 => ?_
  refine VL.nil ?_
  refine VX.next ?_
  refine VC.seq ?_
  refine VC.region ?_
  refine VL.move rfl ?_
  refine VL.fieldAddr rfl fo82_1 rfl ?_
  refine VL.loads (cs := (x.agree).map bv) 2 1 1 rfl kd44 (fun _ h => h) rfl rfl rfl rfl ?_
  refine VL.call Try.func119 rfl (by decide) rfl (fun w' hw => key_w hw (by simp only [List.length_append, List.length_cons, List.length_nil, List.length_map]; omega) (l := x.agree) hx.agree) (fun v => ?_)
  refine VL.fact fun e8 => ?_
  subst e8
  refine VL.ex fun gp6 => VL.ex fun c7 => ?_
  refine VL.nil ?_
  refine VX.next ?_
  refine VC.seq ?_
  refine VC.region ?_
  refine VL.move rfl ?_
  refine VL.fieldAddr rfl fo82_2 rfl ?_
  refine VL.loads (cs := (x.signer).map bv) 2 2 1 rfl kd44 (fun _ h => h) rfl rfl rfl rfl ?_
  refine VL.call Try.func119 rfl (by decide) rfl (fun w' hw => key_w hw (by simp only [List.length_append, List.length_cons, List.length_nil, List.length_map]; omega) (l := x.signer) hx.signer) (fun v => ?_)
  refine VL.fact fun e11 => ?_
  subst e11
  refine VL.ex fun gp9 => VL.ex fun c10 => ?_
  refine VL.nil ?_
  refine VX.next ?_
  refine VC.seq ?_
  refine VC.region ?_
  refine VL.move rfl ?_
  refine VL.fieldAddr rfl fo82_3 rfl ?_
  refine VL.load (v := .int .u16 (x.id)) 2 3 rfl kd68 (fun _ h => h) rfl rfl rfl ?_
  refine VL.conv (by rw [Try.underlying68]; rfl) Try.underlying22 rfl (inr_u64 (by omega)) ?_
  refine VL.call Try.func116 rfl (by decide) rfl (fun w' hw => num_w hw (by simp only [List.length_append, List.length_cons, List.length_nil, List.length_map]; omega) (x.id) (fits_small (by omega)) 2 (by decide) (by decide) (fits2 (by omega))) (fun v => ?_)
  refine VL.fact fun e14 => ?_
  subst e14
  refine VL.ex fun gp12 => VL.ex fun c13 => ?_
  refine VL.nil ?_
  refine VX.next ?_
  refine VC.seq ?_
  refine VC.region ?_
  refine VL.move rfl ?_
  refine VL.fieldAddr rfl fo82_4 rfl ?_
  refine VL.loads (cs := (x.once).map bv) 2 4 1 rfl kd44 (fun _ h => h) rfl rfl rfl rfl ?_
  refine VL.call Try.func119 rfl (by decide) rfl (fun w' hw => key_w hw (by simp only [List.length_append, List.length_cons, List.length_nil, List.length_map]; omega) (l := x.once) hx.once) (fun v => ?_)
  refine VL.fact fun e17 => ?_
  subst e17
  refine VL.ex fun gp15 => VL.ex fun c16 => ?_
  refine VL.nil ?_
  refine VX.next ?_
  refine VC.seq ?_
  refine VC.region ?_
  refine VL.move rfl ?_
  refine VL.fieldAddr rfl fo82_5 rfl ?_
  refine VL.loads (cs := (x.sig).map bv) 2 5 1 rfl kd80 (fun _ h => h) rfl rfl rfl rfl ?_
  refine VL.call Try.func128 rfl (by decide) rfl (fun w' hw => sig_w hw (by simp only [List.length_append, List.length_cons, List.length_nil, List.length_map]; omega) (l := x.sig) hx.sig) (fun v => ?_)
  refine VL.fact fun e20 => ?_
  subst e20
  refine VL.ex fun gp18 => VL.ex fun c19 => ?_
  refine VL.nil ?_
  refine VX.next ?_
  refine VC.seq ?_
  refine VC.region ?_
  refine VL.move rfl ?_
  refine VL.call Try.func118 rfl (by decide) rfl (fun w' hw => done_O hw) (fun v => ?_)
  refine VL.at (fun w21 h1w => ?_)
  obtain ⟨p22, c23, rfl, hO25, hA24⟩ := h1w
  refine VL.toOwn hO25 ?_
  refine VL.extract rfl rfl ?_
  refine VL.extract rfl rfl ?_
  refine VL.assign rfl ?_
  refine VL.assign rfl ?_
  refine VL.nil ?_
  refine VX.next ?_
  refine VC.ret ?_
  refine VX.ret2 rfl rfl rfl (fun we hw => ?_)
  exact postO (joinO_some (bundleP_ok hx) rfl) ⟨p22, c23, rfl, hw.drop.sub (fun _ hs => by repeat (first | exact hs | apply List.mem_cons_of_mem)), (hA24.now (s := ⟨w21, _⟩) Mono.byte hw.drop (by repeat (first | exact List.mem_cons_self .. | apply List.mem_cons_of_mem)))⟩

theorem headerO_none {x : Header} (h : headerFit x = false) : (none : Option (List UInt8)) = headerO x := by unfold headerO; rw [h]; rfl
theorem headerO_is {x : Header} (hx : x.ok) (h : headerFit x = true) : joinO (headerP x) true = headerO x := by rw [← headerO_joinO hx, h]

theorem headerBytes_w {S : List Snap} {H : List Chunk} {w : World} (ho : Own S H w) {x : Header} (hx : x.ok) : Calls Try.prog 52 #[.agg (cat (headerV x)).toArray] w (RetO S H (headerO x)) := by
  have hx1 := hx.id
  have hx2 := hx.n
  have hx3 := hx.prev
  refine enter (G := Own (⟨w, keys H⟩ :: S) H) ho.keep Try.func52 rfl Try.ntmps52 rfl ?_
  refine VC.seq ?_
  refine VC.region ?_
  refine VL.box (L := headerL) (ps := (headerV (x))) rfl rfl (headerV_len hx) (fun g1 => ?_)
  refine VL.assign rfl ?_
  refine VL.assign rfl ?_
  refine VL.nil ?_
  refine VX.next ?_
  refine VC.seq ?_
  refine VC.seq ?_
  refine VC.region ?_
  refine VL.fieldAddr rfl fo70_1 rfl ?_
  refine VL.load (v := .bool x.first) 0 1 rfl kd4 (fun _ h => h) rfl rfl rfl ?_
  cases h1_1 : x.first
  · refine VL.not rfl ?_
    refine VL.move rfl ?_
    refine VL.go rfl rfl rfl ?_
    refine VL.fieldAddr rfl fo70_2 rfl ?_
    refine VL.go rfl rfl rfl ?_
    refine VL.loads (cs := (x.agree).map bv) 0 2 1 rfl kd44 (fun _ h => h) rfl rfl rfl rfl ?_
    refine VL.go rfl rfl rfl ?_
    refine VL.build0 (cs := (zeros 32).map bv) built44 ?_
    refine VL.go rfl rfl rfl ?_
    refine VL.neT guard44 rfl rfl (eqKey 9998 hx.agree rfl) (fun b h1_7 => ?_)
    cases b
    · have h1_7 := mt h1_7.2 (by decide)
      refine VL.go rfl rfl rfl ?_
      refine VL.move rfl ?_
      refine VL.pass rfl rfl rfl rfl rfl ?_
      refine VL.pass rfl rfl rfl rfl rfl ?_
      refine VL.pass rfl rfl rfl rfl rfl ?_
      refine VL.pass rfl rfl rfl rfl rfl ?_
      refine VL.go rfl rfl rfl ?_
      refine VL.pick_t rfl rfl ?_
      refine VL.go rfl rfl rfl ?_
      refine VL.move rfl ?_
      refine VL.pass rfl rfl rfl rfl rfl ?_
      refine VL.pass rfl rfl rfl rfl rfl ?_
      refine VL.pass rfl rfl rfl rfl rfl ?_
      refine VL.pass rfl rfl rfl rfl rfl ?_
      refine VL.go rfl rfl rfl ?_
      refine VL.pick_t rfl rfl ?_
      refine VL.go rfl rfl rfl ?_
      refine VL.move rfl ?_
      refine VL.pass rfl rfl rfl rfl rfl ?_
      refine VL.pass rfl rfl rfl rfl rfl ?_
      refine VL.pass rfl rfl rfl rfl rfl ?_
      refine VL.go rfl rfl rfl ?_
      refine VL.pick_t rfl rfl ?_
      refine VL.pick_t rfl rfl ?_
      refine VL.nil ?_
      refine VX.next ?_
      refine VC.yes rfl ?_
      refine VC.seq ?_
      refine VC.region ?_
      refine VL.assign rfl ?_
      refine VL.assign rfl ?_
      refine VL.nil ?_
      refine VX.next ?_
      refine VC.ret ?_
      refine VX.then_ret ?_
      refine VX.ret2 rfl rfl rfl (fun we hw => ?_)
      exact postO (headerO_none (by unfold headerFit; simp [h1_1, h1_7])) ⟨none, 0, rfl, hw.drop.sub (fun _ hs => by repeat (first | exact hs | apply List.mem_cons_of_mem)), Arr.none⟩
    · have h1_7 := h1_7.1 rfl
      refine VL.go rfl rfl rfl ?_
      refine VL.move rfl ?_
      refine VL.go rfl rfl rfl ?_
      refine VL.fieldAddr rfl fo70_3 rfl ?_
      refine VL.go rfl rfl rfl ?_
      refine VL.loads (cs := (x.signer).map bv) 0 3 1 rfl kd44 (fun _ h => h) rfl rfl rfl rfl ?_
      refine VL.go rfl rfl rfl ?_
      refine VL.build0 (cs := (zeros 32).map bv) built44 ?_
      refine VL.go rfl rfl rfl ?_
      refine VL.neT guard44 rfl rfl (eqKey 9998 hx.signer rfl) (fun b h1_12 => ?_)
      cases b
      · have h1_12 := mt h1_12.2 (by decide)
        refine VL.go rfl rfl rfl ?_
        refine VL.pick_f rfl rfl ?_
        refine VL.go rfl rfl rfl ?_
        refine VL.move rfl ?_
        refine VL.pass rfl rfl rfl rfl rfl ?_
        refine VL.pass rfl rfl rfl rfl rfl ?_
        refine VL.pass rfl rfl rfl rfl rfl ?_
        refine VL.pass rfl rfl rfl rfl rfl ?_
        refine VL.go rfl rfl rfl ?_
        refine VL.pick_t rfl rfl ?_
        refine VL.go rfl rfl rfl ?_
        refine VL.move rfl ?_
        refine VL.pass rfl rfl rfl rfl rfl ?_
        refine VL.pass rfl rfl rfl rfl rfl ?_
        refine VL.pass rfl rfl rfl rfl rfl ?_
        refine VL.go rfl rfl rfl ?_
        refine VL.pick_t rfl rfl ?_
        refine VL.pick_t rfl rfl ?_
        refine VL.nil ?_
        refine VX.next ?_
        refine VC.yes rfl ?_
        refine VC.seq ?_
        refine VC.region ?_
        refine VL.assign rfl ?_
        refine VL.assign rfl ?_
        refine VL.nil ?_
        refine VX.next ?_
        refine VC.ret ?_
        refine VX.then_ret ?_
        refine VX.ret2 rfl rfl rfl (fun we hw => ?_)
        exact postO (headerO_none (by unfold headerFit; simp [h1_1, h1_7, h1_12])) ⟨none, 0, rfl, hw.drop.sub (fun _ hs => by repeat (first | exact hs | apply List.mem_cons_of_mem)), Arr.none⟩
      · have h1_12 := h1_12.1 rfl
        refine VL.go rfl rfl rfl ?_
        refine VL.pick_f rfl rfl ?_
        refine VL.go rfl rfl rfl ?_
        refine VL.move rfl ?_
        refine VL.go rfl rfl rfl ?_
        refine VL.fieldAddr rfl fo70_4 rfl ?_
        refine VL.go rfl rfl rfl ?_
        refine VL.loads (cs := (x.base).map bv) 0 4 1 rfl kd44 (fun _ h => h) rfl rfl rfl rfl ?_
        refine VL.go rfl rfl rfl ?_
        refine VL.build0 (cs := (zeros 32).map bv) built44 ?_
        refine VL.go rfl rfl rfl ?_
        refine VL.neT guard44 rfl rfl (eqKey 9998 hx.base rfl) (fun b h1_18 => ?_)
        cases b
        · have h1_18 := mt h1_18.2 (by decide)
          refine VL.go rfl rfl rfl ?_
          refine VL.pick_f rfl rfl ?_
          refine VL.go rfl rfl rfl ?_
          refine VL.move rfl ?_
          refine VL.pass rfl rfl rfl rfl rfl ?_
          refine VL.pass rfl rfl rfl rfl rfl ?_
          refine VL.pass rfl rfl rfl rfl rfl ?_
          refine VL.go rfl rfl rfl ?_
          refine VL.pick_t rfl rfl ?_
          refine VL.pick_t rfl rfl ?_
          refine VL.nil ?_
          refine VX.next ?_
          refine VC.yes rfl ?_
          refine VC.seq ?_
          refine VC.region ?_
          refine VL.assign rfl ?_
          refine VL.assign rfl ?_
          refine VL.nil ?_
          refine VX.next ?_
          refine VC.ret ?_
          refine VX.then_ret ?_
          refine VX.ret2 rfl rfl rfl (fun we hw => ?_)
          exact postO (headerO_none (by unfold headerFit; simp [h1_1, h1_7, h1_12, h1_18])) ⟨none, 0, rfl, hw.drop.sub (fun _ hs => by repeat (first | exact hs | apply List.mem_cons_of_mem)), Arr.none⟩
        · have h1_18 := h1_18.1 rfl
          refine VL.go rfl rfl rfl ?_
          refine VL.pick_f rfl rfl ?_
          refine VL.go rfl rfl rfl ?_
          refine VL.move rfl ?_
          refine VL.go rfl rfl rfl ?_
          refine VL.fieldAddr rfl fo70_5 rfl ?_
          refine VL.go rfl rfl rfl ?_
          refine VL.load (v := .int .u16 (x.id)) 0 5 rfl kd68 (fun _ h => h) rfl rfl rfl ?_
          refine VL.go rfl rfl rfl ?_
          refine VL.neq rfl rfl ?_
          refine VL.case (fun h1_23 => ?_) (fun h1_23 => ?_)
          · have h1_23 : x.id ≠ 0 := by omega
            refine VL.go rfl rfl rfl ?_
            refine VL.pick_f rfl rfl ?_
            refine VL.pick_t rfl rfl ?_
            refine VL.nil ?_
            refine VX.next ?_
            refine VC.yes rfl ?_
            refine VC.seq ?_
            refine VC.region ?_
            refine VL.assign rfl ?_
            refine VL.assign rfl ?_
            refine VL.nil ?_
            refine VX.next ?_
            refine VC.ret ?_
            refine VX.then_ret ?_
            refine VX.ret2 rfl rfl rfl (fun we hw => ?_)
            exact postO (headerO_none (by unfold headerFit; simp [h1_1, h1_7, h1_12, h1_18, h1_23])) ⟨none, 0, rfl, hw.drop.sub (fun _ hs => by repeat (first | exact hs | apply List.mem_cons_of_mem)), Arr.none⟩
          · have h1_23 : x.id = 0 := by omega
            refine VL.go rfl rfl rfl ?_
            refine VL.pick_f rfl rfl ?_
            refine VL.pick_t rfl rfl ?_
            refine VL.nil ?_
            refine VX.next ?_
            refine VC.no rfl ?_
            refine VC.skip ?_
            refine VX.next ?_
            refine VC.seq ?_
            refine VC.region ?_
            refine VL.build (zs := [[.slice none 0 0], [.bool false]]) [] plan181 rfl trivial rfl ?_
            refine VL.box (L := [1, 1]) (ps := [[rowV none 0 0], [.bool false]]) rfl rfl rfl (fun g2 => ?_)
            refine VL.turn (fun w' hw => Own.newW hw) ?_
            refine VL.assign rfl ?_
            refine VL.nil ?_
            refine VX.next ?_
            refine VC.seq ?_
            refine VC.region ?_
            refine VL.assign rfl ?_
            refine VL.nil ?_
            refine VX.next ?_
            refine VC.seq ?_
            refine VC.seq ?_
            refine VC.region ?_
            refine VL.fieldAddr rfl fo70_1 rfl ?_
            refine VL.load (v := .bool x.first) 2 1 rfl kd4 (fun _ h => h) rfl rfl rfl ?_
            rw [h1_1]
            refine VL.nil ?_
            refine VX.next ?_
            refine VC.no rfl ?_
            refine VC.skip ?_
            refine VX.next ?_
            refine VC.seq ?_
            refine VC.region ?_
            refine VL.move rfl ?_
            refine VL.fieldAddr rfl fo70_0 rfl ?_
            refine VL.loads (cs := (x.session).map bv) 2 0 1 rfl kd44 (fun _ h => h) rfl rfl rfl rfl ?_
            refine VL.call Try.func119 rfl (by decide) rfl (fun w' hw => key_w hw (by simp only [List.length_append, List.length_cons, List.length_nil, List.length_map]; omega) (l := x.session) hx.session) (fun v => ?_)
            refine VL.fact fun e5 => ?_
            subst e5
            refine VL.ex fun gp3 => VL.ex fun c4 => ?_
            refine VL.nil ?_
            refine VX.next ?_
            refine VC.seq ?_
            refine VC.region ?_
            refine VL.move rfl ?_
            refine VL.move rfl ?_
            refine VL.call Try.func116 rfl (by decide) rfl (fun w' hw => num_w hw (by simp only [List.length_append, List.length_cons, List.length_nil, List.length_map]; omega) (0) (fits_small (by omega)) 1 (by decide) (by decide) (fits1 (by omega))) (fun v => ?_)
            refine VL.fact fun e8 => ?_
            subst e8
            refine VL.ex fun gp6 => VL.ex fun c7 => ?_
            refine VL.nil ?_
            refine VX.next ?_
            refine VC.seq ?_
            refine VC.region ?_
            refine VL.move rfl ?_
            refine VL.fieldAddr rfl fo70_2 rfl ?_
            refine VL.loads (cs := (x.agree).map bv) 2 2 1 rfl kd44 (fun _ h => h) rfl rfl rfl rfl ?_
            refine VL.call Try.func119 rfl (by decide) rfl (fun w' hw => key_w hw (by simp only [List.length_append, List.length_cons, List.length_nil, List.length_map]; omega) (l := x.agree) hx.agree) (fun v => ?_)
            refine VL.fact fun e11 => ?_
            subst e11
            refine VL.ex fun gp9 => VL.ex fun c10 => ?_
            refine VL.nil ?_
            refine VX.next ?_
            refine VC.seq ?_
            refine VC.region ?_
            refine VL.move rfl ?_
            refine VL.fieldAddr rfl fo70_3 rfl ?_
            refine VL.loads (cs := (x.signer).map bv) 2 3 1 rfl kd44 (fun _ h => h) rfl rfl rfl rfl ?_
            refine VL.call Try.func119 rfl (by decide) rfl (fun w' hw => key_w hw (by simp only [List.length_append, List.length_cons, List.length_nil, List.length_map]; omega) (l := x.signer) hx.signer) (fun v => ?_)
            refine VL.fact fun e14 => ?_
            subst e14
            refine VL.ex fun gp12 => VL.ex fun c13 => ?_
            refine VL.nil ?_
            refine VX.next ?_
            refine VC.seq ?_
            refine VC.region ?_
            refine VL.move rfl ?_
            refine VL.fieldAddr rfl fo70_4 rfl ?_
            refine VL.loads (cs := (x.base).map bv) 2 4 1 rfl kd44 (fun _ h => h) rfl rfl rfl rfl ?_
            refine VL.call Try.func119 rfl (by decide) rfl (fun w' hw => key_w hw (by simp only [List.length_append, List.length_cons, List.length_nil, List.length_map]; omega) (l := x.base) hx.base) (fun v => ?_)
            refine VL.fact fun e17 => ?_
            subst e17
            refine VL.ex fun gp15 => VL.ex fun c16 => ?_
            refine VL.nil ?_
            refine VX.next ?_
            refine VC.seq ?_
            refine VC.region ?_
            refine VL.move rfl ?_
            refine VL.fieldAddr rfl fo70_5 rfl ?_
            refine VL.load (v := .int .u16 (x.id)) 2 5 rfl kd68 (fun _ h => h) rfl rfl rfl ?_
            refine VL.conv (by rw [Try.underlying68]; rfl) Try.underlying22 rfl (inr_u64 (by omega)) ?_
            refine VL.call Try.func116 rfl (by decide) rfl (fun w' hw => num_w hw (by simp only [List.length_append, List.length_cons, List.length_nil, List.length_map]; omega) (x.id) (fits_small (by omega)) 2 (by decide) (by decide) (fits2 (by omega))) (fun v => ?_)
            refine VL.fact fun e20 => ?_
            subst e20
            refine VL.ex fun gp18 => VL.ex fun c19 => ?_
            refine VL.nil ?_
            refine VX.next ?_
            refine VC.seq ?_
            refine VC.region ?_
            refine VL.move rfl ?_
            refine VL.fieldAddr rfl fo70_6 rfl ?_
            refine VL.loads (cs := (x.ratchet).map bv) 2 6 1 rfl kd44 (fun _ h => h) rfl rfl rfl rfl ?_
            refine VL.call Try.func119 rfl (by decide) rfl (fun w' hw => key_w hw (by simp only [List.length_append, List.length_cons, List.length_nil, List.length_map]; omega) (l := x.ratchet) hx.ratchet) (fun v => ?_)
            refine VL.fact fun e23 => ?_
            subst e23
            refine VL.ex fun gp21 => VL.ex fun c22 => ?_
            refine VL.nil ?_
            refine VX.next ?_
            refine VC.seq ?_
            refine VC.region ?_
            refine VL.move rfl ?_
            refine VL.fieldAddr rfl fo70_7 rfl ?_
            refine VL.load (v := .int .u16 (x.n)) 2 7 rfl kd68 (fun _ h => h) rfl rfl rfl ?_
            refine VL.conv (by rw [Try.underlying68]; rfl) Try.underlying22 rfl (inr_u64 (by omega)) ?_
            refine VL.call Try.func116 rfl (by decide) rfl (fun w' hw => num_w hw (by simp only [List.length_append, List.length_cons, List.length_nil, List.length_map]; omega) (x.n) (fits_small (by omega)) 2 (by decide) (by decide) (fits2 (by omega))) (fun v => ?_)
            refine VL.fact fun e26 => ?_
            subst e26
            refine VL.ex fun gp24 => VL.ex fun c25 => ?_
            refine VL.nil ?_
            refine VX.next ?_
            refine VC.seq ?_
            refine VC.region ?_
            refine VL.move rfl ?_
            refine VL.fieldAddr rfl fo70_8 rfl ?_
            refine VL.load (v := .int .u16 (x.prev)) 2 8 rfl kd68 (fun _ h => h) rfl rfl rfl ?_
            refine VL.conv (by rw [Try.underlying68]; rfl) Try.underlying22 rfl (inr_u64 (by omega)) ?_
            refine VL.call Try.func116 rfl (by decide) rfl (fun w' hw => num_w hw (by simp only [List.length_append, List.length_cons, List.length_nil, List.length_map]; omega) (x.prev) (fits_small (by omega)) 2 (by decide) (by decide) (fits2 (by omega))) (fun v => ?_)
            refine VL.fact fun e29 => ?_
            subst e29
            refine VL.ex fun gp27 => VL.ex fun c28 => ?_
            refine VL.nil ?_
            refine VX.next ?_
            refine VC.seq ?_
            refine VC.region ?_
            refine VL.move rfl ?_
            refine VL.call Try.func118 rfl (by decide) rfl (fun w' hw => done_O hw) (fun v => ?_)
            refine VL.at (fun w30 h1w => ?_)
            obtain ⟨p31, c32, rfl, hO34, hA33⟩ := h1w
            refine VL.toOwn hO34 ?_
            refine VL.extract rfl rfl ?_
            refine VL.extract rfl rfl ?_
            refine VL.assign rfl ?_
            refine VL.assign rfl ?_
            refine VL.nil ?_
            refine VX.next ?_
            refine VC.ret ?_
            refine VX.ret2 rfl rfl rfl (fun we hw => ?_)
            exact postO ((by rw [← headerO_is hx (by unfold headerFit; simp [h1_1, h1_7, h1_12, h1_18, h1_23])]; unfold headerP; rw [h1_1]; rfl)) ⟨p31, c32, rfl, hw.drop.sub (fun _ hs => by repeat (first | exact hs | apply List.mem_cons_of_mem)), (hA33.now (s := ⟨w30, _⟩) Mono.byte hw.drop (by repeat (first | exact List.mem_cons_self .. | apply List.mem_cons_of_mem)))⟩
  · refine VL.not rfl ?_
    refine VL.move rfl ?_
    refine VL.pass rfl rfl rfl rfl rfl ?_
    refine VL.pass rfl rfl rfl rfl rfl ?_
    refine VL.pass rfl rfl rfl rfl rfl ?_
    refine VL.pass rfl rfl rfl rfl rfl ?_
    refine VL.pass rfl rfl rfl rfl rfl ?_
    refine VL.passu rfl rfl rfl rfl ?_
    refine VL.passu rfl rfl rfl rfl ?_
    refine VL.passu rfl rfl rfl rfl ?_
    refine VL.passu rfl rfl rfl rfl ?_
    refine VL.pass rfl rfl rfl rfl rfl ?_
    refine VL.pass rfl rfl rfl rfl rfl ?_
    refine VL.passu rfl rfl rfl rfl ?_
    refine VL.passu rfl rfl rfl rfl ?_
    refine VL.passu rfl rfl rfl rfl ?_
    refine VL.passu rfl rfl rfl rfl ?_
    refine VL.pass rfl rfl rfl rfl rfl ?_
    refine VL.pass rfl rfl rfl rfl rfl ?_
    refine VL.passu rfl rfl rfl rfl ?_
    refine VL.passu rfl rfl rfl rfl ?_
    refine VL.passu rfl rfl rfl rfl ?_
    refine VL.pass rfl rfl rfl rfl rfl ?_
    refine VL.pick_f rfl rfl ?_
    refine VL.nil ?_
    refine VX.next ?_
    refine VC.no rfl ?_
    refine VC.skip ?_
    refine VX.next ?_
    refine VC.seq ?_
    refine VC.region ?_
    refine VL.build (zs := [[.slice none 0 0], [.bool false]]) [] plan181 rfl trivial rfl ?_
    refine VL.box (L := [1, 1]) (ps := [[rowV none 0 0], [.bool false]]) rfl rfl rfl (fun g35 => ?_)
    refine VL.turn (fun w' hw => Own.newW hw) ?_
    refine VL.assign rfl ?_
    refine VL.nil ?_
    refine VX.next ?_
    refine VC.seq ?_
    refine VC.region ?_
    refine VL.assign rfl ?_
    refine VL.nil ?_
    refine VX.next ?_
    refine VC.seq ?_
    refine VC.seq ?_
    refine VC.region ?_
    refine VL.fieldAddr rfl fo70_1 rfl ?_
    refine VL.load (v := .bool x.first) 2 1 rfl kd4 (fun _ h => h) rfl rfl rfl ?_
    rw [h1_1]
    refine VL.nil ?_
    refine VX.next ?_
    refine VC.yes rfl ?_
    refine VC.region ?_
    refine VL.assign rfl ?_
    refine VL.nil ?_
    refine VX.next ?_
    refine VC.seq ?_
    refine VC.region ?_
    refine VL.move rfl ?_
    refine VL.fieldAddr rfl fo70_0 rfl ?_
    refine VL.loads (cs := (x.session).map bv) 2 0 1 rfl kd44 (fun _ h => h) rfl rfl rfl rfl ?_
    refine VL.call Try.func119 rfl (by decide) rfl (fun w' hw => key_w hw (by simp only [List.length_append, List.length_cons, List.length_nil, List.length_map]; omega) (l := x.session) hx.session) (fun v => ?_)
    refine VL.fact fun e38 => ?_
    subst e38
    refine VL.ex fun gp36 => VL.ex fun c37 => ?_
    refine VL.nil ?_
    refine VX.next ?_
    refine VC.seq ?_
    refine VC.region ?_
    refine VL.move rfl ?_
    refine VL.move rfl ?_
    refine VL.call Try.func116 rfl (by decide) rfl (fun w' hw => num_w hw (by simp only [List.length_append, List.length_cons, List.length_nil, List.length_map]; omega) (1) (fits_small (by omega)) 1 (by decide) (by decide) (fits1 (by omega))) (fun v => ?_)
    refine VL.fact fun e41 => ?_
    subst e41
    refine VL.ex fun gp39 => VL.ex fun c40 => ?_
    refine VL.nil ?_
    refine VX.next ?_
    refine VC.seq ?_
    refine VC.region ?_
    refine VL.move rfl ?_
    refine VL.fieldAddr rfl fo70_2 rfl ?_
    refine VL.loads (cs := (x.agree).map bv) 2 2 1 rfl kd44 (fun _ h => h) rfl rfl rfl rfl ?_
    refine VL.call Try.func119 rfl (by decide) rfl (fun w' hw => key_w hw (by simp only [List.length_append, List.length_cons, List.length_nil, List.length_map]; omega) (l := x.agree) hx.agree) (fun v => ?_)
    refine VL.fact fun e44 => ?_
    subst e44
    refine VL.ex fun gp42 => VL.ex fun c43 => ?_
    refine VL.nil ?_
    refine VX.next ?_
    refine VC.seq ?_
    refine VC.region ?_
    refine VL.move rfl ?_
    refine VL.fieldAddr rfl fo70_3 rfl ?_
    refine VL.loads (cs := (x.signer).map bv) 2 3 1 rfl kd44 (fun _ h => h) rfl rfl rfl rfl ?_
    refine VL.call Try.func119 rfl (by decide) rfl (fun w' hw => key_w hw (by simp only [List.length_append, List.length_cons, List.length_nil, List.length_map]; omega) (l := x.signer) hx.signer) (fun v => ?_)
    refine VL.fact fun e47 => ?_
    subst e47
    refine VL.ex fun gp45 => VL.ex fun c46 => ?_
    refine VL.nil ?_
    refine VX.next ?_
    refine VC.seq ?_
    refine VC.region ?_
    refine VL.move rfl ?_
    refine VL.fieldAddr rfl fo70_4 rfl ?_
    refine VL.loads (cs := (x.base).map bv) 2 4 1 rfl kd44 (fun _ h => h) rfl rfl rfl rfl ?_
    refine VL.call Try.func119 rfl (by decide) rfl (fun w' hw => key_w hw (by simp only [List.length_append, List.length_cons, List.length_nil, List.length_map]; omega) (l := x.base) hx.base) (fun v => ?_)
    refine VL.fact fun e50 => ?_
    subst e50
    refine VL.ex fun gp48 => VL.ex fun c49 => ?_
    refine VL.nil ?_
    refine VX.next ?_
    refine VC.seq ?_
    refine VC.region ?_
    refine VL.move rfl ?_
    refine VL.fieldAddr rfl fo70_5 rfl ?_
    refine VL.load (v := .int .u16 (x.id)) 2 5 rfl kd68 (fun _ h => h) rfl rfl rfl ?_
    refine VL.conv (by rw [Try.underlying68]; rfl) Try.underlying22 rfl (inr_u64 (by omega)) ?_
    refine VL.call Try.func116 rfl (by decide) rfl (fun w' hw => num_w hw (by simp only [List.length_append, List.length_cons, List.length_nil, List.length_map]; omega) (x.id) (fits_small (by omega)) 2 (by decide) (by decide) (fits2 (by omega))) (fun v => ?_)
    refine VL.fact fun e53 => ?_
    subst e53
    refine VL.ex fun gp51 => VL.ex fun c52 => ?_
    refine VL.nil ?_
    refine VX.next ?_
    refine VC.seq ?_
    refine VC.region ?_
    refine VL.move rfl ?_
    refine VL.fieldAddr rfl fo70_6 rfl ?_
    refine VL.loads (cs := (x.ratchet).map bv) 2 6 1 rfl kd44 (fun _ h => h) rfl rfl rfl rfl ?_
    refine VL.call Try.func119 rfl (by decide) rfl (fun w' hw => key_w hw (by simp only [List.length_append, List.length_cons, List.length_nil, List.length_map]; omega) (l := x.ratchet) hx.ratchet) (fun v => ?_)
    refine VL.fact fun e56 => ?_
    subst e56
    refine VL.ex fun gp54 => VL.ex fun c55 => ?_
    refine VL.nil ?_
    refine VX.next ?_
    refine VC.seq ?_
    refine VC.region ?_
    refine VL.move rfl ?_
    refine VL.fieldAddr rfl fo70_7 rfl ?_
    refine VL.load (v := .int .u16 (x.n)) 2 7 rfl kd68 (fun _ h => h) rfl rfl rfl ?_
    refine VL.conv (by rw [Try.underlying68]; rfl) Try.underlying22 rfl (inr_u64 (by omega)) ?_
    refine VL.call Try.func116 rfl (by decide) rfl (fun w' hw => num_w hw (by simp only [List.length_append, List.length_cons, List.length_nil, List.length_map]; omega) (x.n) (fits_small (by omega)) 2 (by decide) (by decide) (fits2 (by omega))) (fun v => ?_)
    refine VL.fact fun e59 => ?_
    subst e59
    refine VL.ex fun gp57 => VL.ex fun c58 => ?_
    refine VL.nil ?_
    refine VX.next ?_
    refine VC.seq ?_
    refine VC.region ?_
    refine VL.move rfl ?_
    refine VL.fieldAddr rfl fo70_8 rfl ?_
    refine VL.load (v := .int .u16 (x.prev)) 2 8 rfl kd68 (fun _ h => h) rfl rfl rfl ?_
    refine VL.conv (by rw [Try.underlying68]; rfl) Try.underlying22 rfl (inr_u64 (by omega)) ?_
    refine VL.call Try.func116 rfl (by decide) rfl (fun w' hw => num_w hw (by simp only [List.length_append, List.length_cons, List.length_nil, List.length_map]; omega) (x.prev) (fits_small (by omega)) 2 (by decide) (by decide) (fits2 (by omega))) (fun v => ?_)
    refine VL.fact fun e62 => ?_
    subst e62
    refine VL.ex fun gp60 => VL.ex fun c61 => ?_
    refine VL.nil ?_
    refine VX.next ?_
    refine VC.seq ?_
    refine VC.region ?_
    refine VL.move rfl ?_
    refine VL.call Try.func118 rfl (by decide) rfl (fun w' hw => done_O hw) (fun v => ?_)
    refine VL.at (fun w63 h1w => ?_)
    obtain ⟨p64, c65, rfl, hO67, hA66⟩ := h1w
    refine VL.toOwn hO67 ?_
    refine VL.extract rfl rfl ?_
    refine VL.extract rfl rfl ?_
    refine VL.assign rfl ?_
    refine VL.assign rfl ?_
    refine VL.nil ?_
    refine VX.next ?_
    refine VC.ret ?_
    refine VX.ret2 rfl rfl rfl (fun we hw => ?_)
    exact postO ((by rw [← headerO_is hx (by unfold headerFit; simp [h1_1])]; unfold headerP; rw [h1_1]; rfl)) ⟨p64, c65, rfl, hw.drop.sub (fun _ hs => by repeat (first | exact hs | apply List.mem_cons_of_mem)), (hA66.now (s := ⟨w63, _⟩) Mono.byte hw.drop (by repeat (first | exact List.mem_cons_self .. | apply List.mem_cons_of_mem)))⟩

theorem putLetter_w {S : List Snap} {H : List Chunk} {w : World} (ho : Own S H w) {x : Letter} (hx : x.ok) {p : Option Addr} {c : Nat} (hA : Bytes (keys H) w p x.body c) : Calls Try.prog 50 #[.agg (cat (letterV x p c)).toArray] w (RetO S H (letterO x)) := by
  have hx1 := hx.src
  have hx2 := hx.dst
  refine enter (G := Own (⟨w, keys H⟩ :: S) H) ho.keep Try.func50 rfl Try.ntmps50 rfl ?_
  refine VC.seq ?_
  refine VC.region ?_
  refine VL.box (L := letterL) (ps := (letterV (x) p c)) rfl rfl (letterV_len hx) (fun g1 => ?_)
  refine VL.assign rfl ?_
  refine VL.assign rfl ?_
  refine VL.nil ?_
  refine VX.next ?_
  refine VC.seq ?_
  refine VC.region ?_
  refine VL.build (zs := [[.slice none 0 0], [.bool false]]) [] plan181 rfl trivial rfl ?_
  refine VL.box (L := [1, 1]) (ps := [[rowV none 0 0], [.bool false]]) rfl rfl rfl (fun g2 => ?_)
  refine VL.turn (fun w' hw => Own.newW hw) ?_
  refine VL.assign rfl ?_
  refine VL.nil ?_
  refine VX.next ?_
  refine VC.seq ?_
  refine VC.region ?_
  refine VL.move rfl ?_
  refine VL.fieldAddr rfl fo72_0 rfl ?_
  refine VL.load (v := .int .u8 (x.src)) 2 0 rfl kd5 (fun _ h => h) rfl rfl rfl ?_
  refine VL.conv (by rw [Try.underlying5]; rfl) Try.underlying22 rfl (inr_u64 (by omega)) ?_
  refine VL.call Try.func116 rfl (by decide) rfl (fun w' hw => num_w hw (by simp only [List.length_append, List.length_cons, List.length_nil, List.length_map]; omega) (x.src) (fits_small (by omega)) 1 (by decide) (by decide) (fits1 (by omega))) (fun v => ?_)
  refine VL.fact fun e5 => ?_
  subst e5
  refine VL.ex fun gp3 => VL.ex fun c4 => ?_
  refine VL.nil ?_
  refine VX.next ?_
  refine VC.seq ?_
  refine VC.region ?_
  refine VL.move rfl ?_
  refine VL.fieldAddr rfl fo72_1 rfl ?_
  refine VL.load (v := .int .u8 (x.dst)) 2 1 rfl kd5 (fun _ h => h) rfl rfl rfl ?_
  refine VL.conv (by rw [Try.underlying5]; rfl) Try.underlying22 rfl (inr_u64 (by omega)) ?_
  refine VL.call Try.func116 rfl (by decide) rfl (fun w' hw => num_w hw (by simp only [List.length_append, List.length_cons, List.length_nil, List.length_map]; omega) (x.dst) (fits_small (by omega)) 1 (by decide) (by decide) (fits1 (by omega))) (fun v => ?_)
  refine VL.fact fun e8 => ?_
  subst e8
  refine VL.ex fun gp6 => VL.ex fun c7 => ?_
  refine VL.nil ?_
  refine VX.next ?_
  refine VC.seq ?_
  refine VC.region ?_
  refine VL.move rfl ?_
  refine VL.fieldAddr rfl fo72_2 rfl ?_
  refine VL.loads (cs := cat (headerV (x.header))) 2 2 9 rfl kd70 (fun _ h => h) rfl rfl rfl rfl ?_
  refine VL.call Try.func52 rfl (by decide) rfl (fun w' hw => headerBytes_w hw (x := x.header) hx.header) (fun v => ?_)
  refine VL.at (fun w9 h1w => ?_)
  obtain ⟨p10, c11, rfl, hO13, hA12⟩ := h1w
  refine VL.toOwn hO13 ?_
  refine VL.extract rfl rfl ?_
  refine VL.extract rfl rfl ?_
  refine VL.call Try.func117 rfl (by decide) rfl (fun w' hw => piece_w hw (by simp only [List.length_append, List.length_cons, List.length_nil, List.length_map]; omega) (hA12.now (s := ⟨w9, _⟩) Mono.byte hw (by repeat (first | exact List.mem_cons_self .. | apply List.mem_cons_of_mem))) (((headerO (x.header)).isSome))) (fun v => ?_)
  refine VL.fact fun e16 => ?_
  subst e16
  refine VL.ex fun gp14 => VL.ex fun c15 => ?_
  refine VL.nil ?_
  refine VX.next ?_
  refine VC.seq ?_
  refine VC.region ?_
  refine VL.move rfl ?_
  refine VL.fieldAddr rfl fo72_3 rfl ?_
  refine VL.load (v := .slice p (x.body).length c) 2 11 rfl kd24 (fun _ h => h) rfl rfl rfl ?_
  refine VL.call Try.func117 rfl (by decide) rfl (fun w' hw => piece_w hw (by simp only [List.length_append, List.length_cons, List.length_nil, List.length_map]; omega) (hA.now (s := ⟨w, _⟩) Mono.byte hw (by repeat (first | exact List.mem_cons_self .. | apply List.mem_cons_of_mem))) true) (fun v => ?_)
  refine VL.fact fun e19 => ?_
  subst e19
  refine VL.ex fun gp17 => VL.ex fun c18 => ?_
  refine VL.nil ?_
  refine VX.next ?_
  refine VC.seq ?_
  refine VC.region ?_
  refine VL.move rfl ?_
  refine VL.call Try.func118 rfl (by decide) rfl (fun w' hw => done_O hw) (fun v => ?_)
  refine VL.at (fun w20 h1w => ?_)
  obtain ⟨p21, c22, rfl, hO24, hA23⟩ := h1w
  refine VL.toOwn hO24 ?_
  refine VL.extract rfl rfl ?_
  refine VL.extract rfl rfl ?_
  refine VL.assign rfl ?_
  refine VL.assign rfl ?_
  refine VL.nil ?_
  refine VX.next ?_
  refine VC.ret ?_
  refine VX.ret2 rfl rfl rfl (fun we hw => ?_)
  exact postO ((by unfold letterO; congr 1; cases (headerO x.header).isSome <;> rfl)) ⟨p21, c22, rfl, hw.drop.sub (fun _ hs => by repeat (first | exact hs | apply List.mem_cons_of_mem)), (hA23.now (s := ⟨w20, _⟩) Mono.byte hw.drop (by repeat (first | exact List.mem_cons_self .. | apply List.mem_cons_of_mem)))⟩

end Go.Proofs.Ytcfecmoagfgnaaa

