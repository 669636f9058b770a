/- The statement FedqLoads is proved, for every input: part 5 of 26 of the texts that it needs. -/
import Derived.Test.YtcfecmoagfgnaaaMfloAD
/- Plain facts on what goes over the net: the things, their pieces, what pieces are read as. -/
namespace Go.Pl

def zeros (n : Nat) : List UInt8 := List.replicate n 0
theorem zeros_length (n : Nat) : (zeros n).length = n := List.length_replicate

/-! Pieces that are taken one by one: an error stays. -/
/-- An error stays; else this one comes. -/
def failW (why e : Nat) : Nat := if why = 0 then e else why
/-- The next piece; what is left; the error. -/
def nextP (parts : List (List UInt8)) : List UInt8 := parts.headD []
def nextW (parts : List (List UInt8)) (why : Nat) : Nat := if parts = [] then failW why 141 else why
def takeN (parts : List (List UInt8)) (k : Nat) : Nat := if (nextP parts).length = k then num (nextP parts) else 0
/-- The error behind a piece that must be k bytes long. -/
def lenW (parts : List (List UInt8)) (why k : Nat) : Nat := if (nextP parts).length = k then nextW parts why else failW (nextW parts why) 141
def takeB (k : Nat) (parts : List (List UInt8)) : List UInt8 := if (nextP parts).length = k then nextP parts else zeros k
theorem takeN_lt (parts : List (List UInt8)) (k : Nat) : takeN parts k < 256 ^ k := by
 unfold takeN
 split
 ·rename_i h
  have := num_lt (nextP parts)
  rwa [h] at this
 ·exact Nat.pow_pos (by decide)
theorem takeB_length (parts : List (List UInt8)) (k : Nat) : (takeB k parts).length = k := by
 unfold takeB
 split
 ·assumption
 ·exact zeros_length k
/-- What is opened: the pieces; the error. -/
def openP (l : List UInt8) : List (List UInt8) := (splitB l).2
def openW (l : List UInt8) : Nat := if (splitB l).2 = [] then 141 else 0
/-- Nothing may be left. -/
def endW (parts : List (List UInt8)) (why : Nat) : Nat := if parts = [] then why else failW why 141
/-- The error behind a row of pieces, some of them of a fixed length. -/
def stepW (ps : List (List UInt8)) (why : Nat) : Option Nat → Nat
  | some k => lenW ps why k
  | none => nextW ps why
def takesW : List (Option Nat) → List (List UInt8) → Nat → Nat
  | [], _, why => why
  | k :: ks, ps, why => takesW ks (ps.drop 1) (stepW ps why k)
/-- The pieces begin with pieces of these lengths. -/
def fitsP : List (Option Nat) → List (List UInt8) → Prop
  | [], _ => True
  | _ :: _, [] => False
  | k :: ks, p :: ps => (∀ n, k = some n → p.length = n) ∧ fitsP ks ps

instance lenDec (k : Option Nat) (p : List UInt8) : Decidable (∀ n, k = some n → p.length = n) :=
  match k with
  | none => isTrue (fun _ e => nomatch e)
  | some n => if h : p.length = n then isTrue (fun _ e => by cases e; exact h) else isFalse (fun f => h (f n rfl))
def fitsDec : (ks : List (Option Nat)) → (ps : List (List UInt8)) → Decidable (fitsP ks ps)
  | [], _ => isTrue trivial
  | _ :: _, [] => isFalse id
  | k :: ks, p :: ps =>
    have := fitsDec ks ps
    inferInstanceAs (Decidable ((∀ n, k = some n → p.length = n) ∧ fitsP ks ps))
instance (ks : List (Option Nat)) (ps : List (List UInt8)) : Decidable (fitsP ks ps) := fitsDec ks ps
instance (ls : List (List UInt8)) : Decidable (joinOk ls) := by unfold joinOk; infer_instance

theorem failW_0 (e : Nat) : failW 0 e = e := rfl
theorem failW_pos {why : Nat} (h : why ≠ 0) (e : Nat) : failW why e = why := if_neg h
theorem nextW_141 (ps : List (List UInt8)) : nextW ps 141 = 141 := by unfold nextW; split <;> rfl
theorem lenW_141 (ps : List (List UInt8)) (k : Nat) : lenW ps 141 k = 141 := by
 unfold lenW
 rw [nextW_141]
 split <;> rfl
theorem stepW_141 (ps : List (List UInt8)) (k : Option Nat) : stepW ps 141 k = 141 := by
 cases k
 ·exact nextW_141 ps
 ·exact lenW_141 ps _
theorem takesW_141 : ∀ (ks : List (Option Nat)) (ps : List (List UInt8)), takesW ks ps 141 = 141
 | [], _ => rfl
 | k :: ks, ps => by rw [takesW, stepW_141]; exact takesW_141 ks _
theorem endW_141 (ps : List (List UInt8)) : endW ps 141 = 141 := by unfold endW; split <;> rfl
theorem nextW_nil (why : Nat) : nextW [] why = failW why 141 := rfl
theorem nextW_cons (p : List UInt8) (r : List (List UInt8)) (why : Nat) : nextW (p :: r) why = why := if_neg (by simp)
theorem lenW_cons (p : List UInt8) (r : List (List UInt8)) (k : Nat) : lenW (p :: r) 0 k = if p.length = k then 0 else 141 := by
 unfold lenW
 rw [nextW_cons]; rfl
theorem lenW_nil (k : Nat) : lenW [] 0 k = 141 := by
 unfold lenW
 rw [nextW_nil]
 split <;> rfl
theorem stepW_nil (k : Option Nat) : stepW [] 0 k = 141 := by
 cases k
 ·rfl
 ·exact lenW_nil _
theorem takesW_0 : ∀ (ks : List (Option Nat)) (ps : List (List UInt8)), (fitsP ks ps → takesW ks ps 0 = 0) ∧ (¬ fitsP ks ps → takesW ks ps 0 = 141)
 | [], ps => ⟨fun _ => rfl, fun h => absurd trivial h⟩
 | k :: ks, [] => ⟨fun h => h.elim, fun _ => by rw [takesW, stepW_nil, takesW_141]⟩
 | k :: ks, p :: r => by
  have ih := takesW_0 ks r
  rw [takesW]
  have hd : (p :: r).drop 1 = r := rfl
  rw [hd]
  cases k with
  | none =>
   rw [show stepW (p :: r) 0 none = 0 from nextW_cons p r 0]
   exact ⟨fun h => ih.1 h.2, fun h => ih.2 fun h2 => h ⟨fun n e => (by cases e), h2⟩⟩
  | some k =>
   rw [show stepW (p :: r) 0 (some k) = if p.length = k then 0 else 141 from lenW_cons p r k]
   by_cases hp : p.length = k
   ·rw [if_pos hp]
    exact ⟨fun h => ih.1 h.2, fun h => ih.2 fun h2 => h ⟨fun n e => by cases e; exact hp, h2⟩⟩
   ·rw [if_neg hp, takesW_141]
    exact ⟨fun h => absurd (h.1 k rfl) hp, fun _ => rfl⟩
theorem openW_cases (l : List UInt8) : (openP l = [] ∧ openW l = 141) ∨ (openP l ≠ [] ∧ openW l = 0) := by
 unfold openP openW
 by_cases h : (splitB l).2 = []
 ·exact .inl ⟨h, if_pos h⟩
 ·exact .inr ⟨h, if_neg h⟩
theorem takesW_open {ks : List (Option Nat)} (hk : ks ≠ []) (l : List UInt8) : (fitsP ks (openP l) → takesW ks (openP l) (openW l) = 0) ∧ (¬ fitsP ks (openP l) → takesW ks (openP l) (openW l) = 141) := by
 rcases openW_cases l with ⟨h1, h2⟩ | ⟨h1, h2⟩
 ·rw [h2, takesW_141, h1]
  refine ⟨fun h => ?_, fun _ => rfl⟩
  cases ks with
  | nil => exact absurd rfl hk
  | cons k ks => exact h.elim
 ·rw [h2]; exact takesW_0 ks _
theorem fitsP_length : ∀ {ks : List (Option Nat)} {ps : List (List UInt8)}, fitsP ks ps → ks.length ≤ ps.length
 | [], _, _ => Nat.zero_le _
 | _ :: _, [], h => h.elim
 | _ :: ks, _ :: ps, h => by
  have := fitsP_length h.2
  simp only [List.length_cons]; omega
/-- What is read is what was joined. -/
theorem open_join {ls : List (List UInt8)} (h : joinOk ls) : openP (joinB ls) = ls := by unfold openP; rw [split_join h]
theorem join_open {l : List UInt8} (h : openP l ≠ []) : joinOk (openP l) ∧ joinB (openP l) = l := by
 unfold openP at h ⊢
 have h0 : (splitB l).1 = 0 := by
  by_cases h1 : (splitB l).1 = 0
  ·exact h1
  ·exact absurd (split_err l h1) h
 exact split_ok (show splitB l = (0, (splitB l).2) by rw [← h0])

theorem be_one (n : Nat) : be 1 n = [UInt8.ofNat n] := by simp [be]
theorem num_be' {k n : Nat} (h : n < 256 ^ k) : num (be k n) = n := by rw [num_be, Nat.mod_eq_of_lt h]
theorem takeN_cons {p : List UInt8} {r : List (List UInt8)} {k : Nat} (h : p.length = k) : takeN (p :: r) k = num p := if_pos h
theorem takeB_cons {p : List UInt8} {r : List (List UInt8)} {k : Nat} (h : p.length = k) : takeB k (p :: r) = p := if_pos h
theorem be_take {p : List UInt8} {k : Nat} (h : p.length = k) : be k (num p) = p := by subst h; exact be_num p

/-! A thing's text, or none. -/
def joinO (ps : List (List UInt8)) (ok : Bool) : Option (List UInt8) := if joinOk ps ∧ ok = true then some (joinB ps) else none
theorem joinO_some {ps : List (List UInt8)} {ok : Bool} (h : joinOk ps) (h2 : ok = true) : joinO ps ok = some (joinB ps) := if_pos ⟨h, h2⟩
theorem joinO_none {ps : List (List UInt8)} {ok : Bool} (h : ¬ (joinOk ps ∧ ok = true)) : joinO ps ok = none := if_neg h
theorem joinO_eq {ps : List (List UInt8)} {ok : Bool} {l : List UInt8} (h : joinO ps ok = some l) : joinOk ps ∧ ok = true ∧ l = joinB ps := by
 unfold joinO at h
 split at h
 ·rename_i h1
  cases h
  exact ⟨h1.1, h1.2, rfl⟩
 ·cases h

/-! The things -/
structure Bundle where
  device : Nat
  agree : List UInt8
  signer : List UInt8
  id : Nat
  once : List UInt8
  sig : List UInt8
structure Bundle.ok (x : Bundle) : Prop where
  device : x.device < 256
  agree : x.agree.length = 32
  signer : x.signer.length = 32
  id : x.id < 65536
  once : x.once.length = 32
  sig : x.sig.length = 64
def bundle0 : Bundle := ⟨0, zeros 32, zeros 32, 0, zeros 32, zeros 64⟩
theorem bundle0_ok : bundle0.ok := ⟨by decide, rfl, rfl, by decide, rfl, rfl⟩
def bundleP (x : Bundle) : List (List UInt8) := [be 1 x.device, x.agree, x.signer, be 2 x.id, x.once, x.sig]
def bundleB (x : Bundle) : List UInt8 := joinB (bundleP x)
abbrev bundleK : List (Option Nat) := [some 1, some 32, some 32, some 2, some 32, some 64]
def bundleOf (a : List (List UInt8)) : Bundle :=
  ⟨takeN a 1, takeB 32 (a.drop 1), takeB 32 ((a.drop 1).drop 1), takeN (((a.drop 1).drop 1).drop 1) 2, takeB 32 ((((a.drop 1).drop 1).drop 1).drop 1), takeB 64 (((((a.drop 1).drop 1).drop 1).drop 1).drop 1)⟩
theorem bundleP_ok {x : Bundle} (h : x.ok) : joinOk (bundleP x) := by
 refine ⟨by simp [bundleP], fun p hp => ?_⟩
 simp only [bundleP, List.mem_cons, List.not_mem_nil, or_false] at hp
 rcases hp with rfl | rfl | rfl | rfl | rfl | rfl <;> simp [be_length, h.agree, h.signer, h.once, h.sig]
theorem bundleOf_ok (a : List (List UInt8)) : (bundleOf a).ok := ⟨takeN_lt _ 1, takeB_length _ _, takeB_length _ _, takeN_lt _ 2, takeB_length _ _, takeB_length _ _⟩
theorem bundleOf_P {x : Bundle} (h : x.ok) (r : List (List UInt8)) : bundleOf (bundleP x ++ r) = x := by
 obtain ⟨a, b, c, d, e, f⟩ := x
 have h1 := h.device; have h2 := h.agree; have h3 := h.signer; have h4 := h.id; have h5 := h.once; have h6 := h.sig
 simp only at h1 h2 h3 h4 h5 h6
 simp only [bundleOf, bundleP, List.cons_append, List.drop_succ_cons, List.drop_zero]
 rw [takeN_cons (be_length 1 a), takeB_cons h2, takeB_cons h3, takeN_cons (be_length 2 d), takeB_cons h5, takeB_cons h6, num_be' (by omega), num_be' (by omega)]
theorem bundleP_of {ps : List (List UInt8)} (h : fitsP bundleK ps) (hl : ps.length = 6) : bundleP (bundleOf ps) = ps := by
 match ps, hl with
 | [a, b, c, d, e, f], _ =>
  obtain ⟨h1, h2, h3, h4, h5, h6, _⟩ := h
  have h1 := h1 1 rfl; have h2 := h2 32 rfl; have h3 := h3 32 rfl; have h4 := h4 2 rfl; have h5 := h5 32 rfl; have h6 := h6 64 rfl
  simp only [bundleOf, bundleP, List.drop_succ_cons, List.drop_zero]
  rw [takeN_cons h1, takeB_cons h2, takeB_cons h3, takeN_cons h4, takeB_cons h5, takeB_cons h6, be_take h1, be_take h4]
theorem bundleP_fits {x : Bundle} (h : x.ok) : fitsP bundleK (bundleP x) := by
 refine ⟨?_, ?_, ?_, ?_, ?_, ?_, trivial⟩ <;> intro n e <;> cases e <;> first | exact be_length _ _ | exact h.agree | exact h.signer | exact h.once | exact h.sig
abbrev bundleC (l : List UInt8) : Prop := fitsP bundleK (openP l) ∧ (openP l).length = 6
def bundleR (l : List UInt8) : Option Bundle := if bundleC l then some (bundleOf (openP l)) else none
theorem ne_nil_of_length {α : Type} {l : List α} {n : Nat} (h : l.length = n) (hn : 0 < n) : l ≠ [] := fun e => by subst e; simp at h; omega
theorem bundleR_iff {l : List UInt8} {x : Bundle} : bundleR l = some x ↔ x.ok ∧ bundleB x = l := by
 unfold bundleR
 constructor
 ·intro h
  split at h
  ·rename_i h1
   cases h
   refine ⟨bundleOf_ok _, ?_⟩
   unfold bundleB
   rw [bundleP_of h1.1 h1.2]
   exact (join_open (ne_nil_of_length h1.2 (by decide))).2
  ·cases h
 ·rintro ⟨h, rfl⟩
  have e : openP (bundleB x) = bundleP x := open_join (bundleP_ok h)
  rw [if_pos (show bundleC _ by unfold bundleC; rw [e]; exact ⟨bundleP_fits h, rfl⟩), e]
  have := bundleOf_P h []
  rw [List.append_nil] at this
  rw [this]
/-- The program's answer. -/
theorem bundle_why (l : List UInt8) : endW ((openP l).drop 6) (takesW bundleK (openP l) (openW l)) = if (bundleR l).isSome then 0 else 141 := by
 obtain ⟨h1, h2⟩ := takesW_open (ks := bundleK) (by simp) l
 unfold bundleR
 by_cases hf : fitsP bundleK (openP l)
 ·rw [h1 hf]
  have := fitsP_length hf
  simp only [List.length_cons, List.length_nil] at this
  by_cases hl : (openP l).length = 6
  ·rw [if_pos (show bundleC l from ⟨hf, hl⟩)]
   unfold endW
   rw [if_pos (List.drop_eq_nil_of_le (by omega))]; rfl
  ·rw [if_neg (show ¬ bundleC l from fun h => hl h.2)]
   unfold endW
   rw [if_neg (fun h => hl (by have := List.drop_eq_nil_iff.1 h; omega))]; rfl
 ·rw [h2 hf, if_neg (show ¬ bundleC l from fun h => hf h.1), endW_141]; rfl

structure Header where
  session : List UInt8
  first : Bool
  agree : List UInt8
  signer : List UInt8
  base : List UInt8
  id : Nat
  ratchet : List UInt8
  n : Nat
  prev : Nat
structure Header.ok (x : Header) : Prop where
  session : x.session.length = 32
  agree : x.agree.length = 32
  signer : x.signer.length = 32
  base : x.base.length = 32
  id : x.id < 65536
  ratchet : x.ratchet.length = 32
  n : x.n < 65536
  prev : x.prev < 65536
def header0 : Header := ⟨zeros 32, false, zeros 32, zeros 32, zeros 32, 0, zeros 32, 0, 0⟩
theorem header0_ok : header0.ok := ⟨rfl, rfl, rfl, rfl, by decide, rfl, by decide, by decide⟩
def headerP (h : Header) : List (List UInt8) := [h.session, be 1 (if h.first then 1 else 0), h.agree, h.signer, h.base, be 2 h.id, h.ratchet, be 2 h.n, be 2 h.prev]
/-- A header that isn't a first letter's has nothing of one. -/
def headerFit (h : Header) : Bool := h.first || (decide (h.agree = zeros 32) && decide (h.signer = zeros 32) && decide (h.base = zeros 32) && decide (h.id = 0))
def headerO (h : Header) : Option (List UInt8) := if headerFit h then some (joinB (headerP h)) else none
abbrev headerK : List (Option Nat) := [some 32, some 1, some 32, some 32, some 32, some 2, some 32, some 2, some 2]
theorem headerP_ok {x : Header} (h : x.ok) : joinOk (headerP x) := by
 refine ⟨by simp [headerP], fun p hp => ?_⟩
 simp only [headerP, List.mem_cons, List.not_mem_nil, or_false] at hp
 rcases hp with rfl | rfl | rfl | rfl | rfl | rfl | rfl | rfl | rfl <;> simp [be_length, h.session, h.agree, h.signer, h.base, h.ratchet]
theorem headerO_joinO {x : Header} (h : x.ok) : joinO (headerP x) (headerFit x) = headerO x := by
 unfold headerO
 cases e : headerFit x
 ·rw [joinO_none (by simp), if_neg (by simp)]
 ·rw [joinO_some (headerP_ok h) rfl, if_pos rfl]
/-- What the first nine pieces say; the number of the second. -/
def firstOf (a : List (List UInt8)) : Nat := takeN (a.drop 1) 1
def headerOf (a : List (List UInt8)) : Header :=
  ⟨takeB 32 a, decide (firstOf a = 1), takeB 32 ((a.drop 1).drop 1), takeB 32 (((a.drop 1).drop 1).drop 1), takeB 32 ((((a.drop 1).drop 1).drop 1).drop 1), takeN (((((a.drop 1).drop 1).drop 1).drop 1).drop 1) 2, takeB 32 ((((((a.drop 1).drop 1).drop 1).drop 1).drop 1).drop 1), takeN (((((((a.drop 1).drop 1).drop 1).drop 1).drop 1).drop 1).drop 1) 2, takeN ((((((((a.drop 1).drop 1).drop 1).drop 1).drop 1).drop 1).drop 1).drop 1) 2⟩
theorem headerOf_ok (a : List (List UInt8)) : (headerOf a).ok := ⟨takeB_length _ _, takeB_length _ _, takeB_length _ _, takeB_length _ _, takeN_lt _ 2, takeB_length _ _, takeN_lt _ 2, takeN_lt _ 2⟩
theorem headerOf_P {x : Header} (h : x.ok) (r : List (List UInt8)) : headerOf (headerP x ++ r) = x ∧ firstOf (headerP x ++ r) = (if x.first then 1 else 0) := by
 obtain ⟨a, b, c, d, e, f, g, i, j⟩ := x
 have h1 := h.session; have h2 := h.agree; have h3 := h.signer; have h4 := h.base; have h5 := h.id; have h6 := h.ratchet; have h7 := h.n; have h8 := h.prev
 simp only at h1 h2 h3 h4 h5 h6 h7 h8
 have hf : firstOf (headerP ⟨a, b, c, d, e, f, g, i, j⟩ ++ r) = (if b then 1 else 0) := by
  simp only [firstOf, headerP, List.cons_append, List.drop_succ_cons, List.drop_zero]
  rw [takeN_cons (be_length 1 _), num_be' (by split <;> decide)]
 refine ⟨?_, hf⟩
 unfold headerOf
 rw [hf]
 simp only [headerP, List.cons_append, List.drop_succ_cons, List.drop_zero]
 rw [takeB_cons h1, takeB_cons h2, takeB_cons h3, takeB_cons h4, takeN_cons (be_length 2 _), takeB_cons h6, takeN_cons (be_length 2 _), takeN_cons (be_length 2 _), num_be' (by omega), num_be' (by omega), num_be' (by omega)]
 cases b <;> rfl
theorem headerP_of {ps : List (List UInt8)} (h : fitsP headerK ps) (hl : ps.length = 9) (hf : firstOf ps ≤ 1) : headerP (headerOf ps) = ps := by
 match ps, hl with
 | [a, b, c, d, e, f, g, i, j], _ =>
  obtain ⟨h1, h2, h3, h4, h5, h6, h7, h8, h9, _⟩ := h
  have h1 := h1 32 rfl; have h2 := h2 1 rfl; have h3 := h3 32 rfl; have h4 := h4 32 rfl; have h5 := h5 32 rfl; have h6 := h6 2 rfl; have h7 := h7 32 rfl; have h8 := h8 2 rfl; have h9 := h9 2 rfl
  have e2 : firstOf [a, b, c, d, e, f, g, i, j] = num b := takeN_cons h2
  rw [e2] at hf
  have e3 : (if num b = 1 then 1 else 0) = num b := by split <;> omega
  simp only [headerP, headerOf, e2, List.drop_succ_cons, List.drop_zero, decide_eq_true_eq]
  rw [e3, takeB_cons h1, takeB_cons h3, takeB_cons h4, takeB_cons h5, takeN_cons h6, takeB_cons h7, takeN_cons h8, takeN_cons h9, be_take h2, be_take h6, be_take h8, be_take h9]
theorem headerP_fits {x : Header} (h : x.ok) : fitsP headerK (headerP x) := by
 refine ⟨?_, ?_, ?_, ?_, ?_, ?_, ?_, ?_, ?_, trivial⟩ <;> intro n e <;> cases e <;> first | exact be_length _ _ | exact h.session | exact h.agree | exact h.signer | exact h.base | exact h.ratchet
abbrev headerC (l : List UInt8) : Prop := fitsP headerK (openP l) ∧ (openP l).length = 9 ∧ firstOf (openP l) ≤ 1 ∧ headerFit (headerOf (openP l)) = true
def headerR (l : List UInt8) : Option Header := if headerC l then some (headerOf (openP l)) else none
theorem headerR_iff {l : List UInt8} {x : Header} : headerR l = some x ↔ x.ok ∧ headerO x = some l := by
 unfold headerR
 constructor
 ·intro h
  split at h
  ·rename_i h1
   cases h
   refine ⟨headerOf_ok _, ?_⟩
   unfold headerO
   rw [if_pos h1.2.2.2, headerP_of h1.1 h1.2.1 h1.2.2.1, (join_open (ne_nil_of_length h1.2.1 (by decide))).2]
  ·cases h
 ·rintro ⟨h, h2⟩
  unfold headerO at h2
  split at h2
  ·rename_i hf
   cases h2
   have e : openP (joinB (headerP x)) = headerP x := open_join (headerP_ok h)
   have := headerOf_P h []
   rw [List.append_nil] at this
   rw [if_pos (show headerC _ by unfold headerC; rw [e, this.1, this.2]; exact ⟨headerP_fits h, rfl, by split <;> omega, hf⟩), e, this.1]
  ·cases h2
theorem header_why (l : List UInt8) : endW ((openP l).drop 9) (if (headerO (headerOf (openP l))).isSome = true ∧ firstOf (openP l) ≤ 1 then takesW headerK (openP l) (openW l) else failW (takesW headerK (openP l) (openW l)) 141) = if (headerR l).isSome then 0 else 141 := by
 obtain ⟨h1, h2⟩ := takesW_open (ks := headerK) (by simp) l
 unfold headerR headerO
 by_cases hf : fitsP headerK (openP l)
 ·rw [h1 hf]
  have := fitsP_length hf
  simp only [List.length_cons, List.length_nil] at this
  have hsome : (if headerFit (headerOf (openP l)) = true then some (joinB (headerP (headerOf (openP l)))) else none).isSome = headerFit (headerOf (openP l)) := by cases headerFit (headerOf (openP l)) <;> rfl
  rw [hsome]
  by_cases hg : headerFit (headerOf (openP l)) = true ∧ firstOf (openP l) ≤ 1
  ·rw [if_pos hg]
   by_cases hl : (openP l).length = 9
   ·rw [if_pos (show headerC l from ⟨hf, hl, hg.2, hg.1⟩)]
    unfold endW
    rw [if_pos (List.drop_eq_nil_of_le (by omega))]; rfl
   ·rw [if_neg (show ¬ headerC l from fun h => hl h.2.1)]
    unfold endW
    rw [if_neg (fun h => hl (by have := List.drop_eq_nil_iff.1 h; omega))]; rfl
  ·rw [if_neg (show ¬ headerC l from fun h => hg ⟨h.2.2.2, h.2.2.1⟩), if_neg hg, failW_0, endW_141]; rfl
 ·rw [h2 hf, if_neg (show ¬ headerC l from fun h => hf h.1)]
  have : (if (if headerFit (headerOf (openP l)) = true then some (joinB (headerP (headerOf (openP l)))) else none).isSome = true ∧ firstOf (openP l) ≤ 1 then 141 else failW 141 141) = 141 := by
   generalize (if headerFit (headerOf (openP l)) = true then some (joinB (headerP (headerOf (openP l)))) else none).isSome = b
   split <;> rfl
  rw [this, endW_141]; rfl

structure Letter where
  src : Nat
  dst : Nat
  header : Header
  body : List UInt8
structure Letter.ok (x : Letter) : Prop where
  src : x.src < 256
  dst : x.dst < 256
  header : x.header.ok
def letter0 : Letter := ⟨0, 0, header0, []⟩
theorem letter0_ok : letter0.ok := ⟨by decide, by decide, header0_ok⟩
def letterP (x : Letter) : List (List UInt8) := [be 1 x.src, be 1 x.dst, (headerO x.header).getD [], x.body]
def letterO (x : Letter) : Option (List UInt8) := joinO (letterP x) (headerO x.header).isSome
abbrev letterK : List (Option Nat) := [some 1, some 1, none]
def letterOf (a : List (List UInt8)) (h : Header) : Letter := ⟨takeN a 1, takeN (a.drop 1) 1, h, nextP (((a.drop 1).drop 1).drop 1)⟩
abbrev letterC (l : List UInt8) : Prop := fitsP [some 1, some 1, none, none] (openP l) ∧ (openP l).length = 4
def letterR (l : List UInt8) : Option Letter :=
  if letterC l then (headerR (nextP (((openP l).drop 1).drop 1))).map (letterOf (openP l)) else none
theorem letterR_iff {l : List UInt8} {x : Letter} : letterR l = some x ↔ x.ok ∧ letterO x = some l := by
 unfold letterR
 constructor
 ·intro h
  split at h
  ·rename_i h1
   obtain ⟨hd, h2, rfl⟩ := Option.map_eq_some_iff.1 h
   rw [headerR_iff] at h2
   refine ⟨⟨takeN_lt _ 1, takeN_lt _ 1, h2.1⟩, ?_⟩
   have hj := join_open (ne_nil_of_length h1.2 (by decide))
   obtain ⟨hf, hl⟩ := h1
   have h2' := h2.2
   have e : letterP (letterOf (openP l) hd) = openP l := by
    clear hj h h2
    generalize openP l = ps at *
    match ps, hl with
    | [a, b, c, d], _ =>
     obtain ⟨h3, h4, _⟩ := hf
     have h3 := h3 1 rfl; have h4 := h4 1 rfl
     have h2' : headerO hd = some c := h2'
     simp only [letterP, letterOf, List.drop_succ_cons, List.drop_zero]
     rw [takeN_cons h3, takeN_cons h4, be_take h3, be_take h4, h2']; rfl
   unfold letterO
   have e2 : (headerO (letterOf (openP l) hd).header).isSome = true := by
    show (headerO hd).isSome = true
    rw [h2.2]; rfl
   rw [e, joinO_some hj.1 e2, hj.2]
  ·cases h
 ·rintro ⟨h, h2⟩
  obtain ⟨h3, h4, rfl⟩ := joinO_eq h2
  have eo := open_join h3
  obtain ⟨hb, hb2⟩ := Option.isSome_iff_exists.1 h4
  have e : headerR ((headerO x.header).getD []) = some x.header := headerR_iff.2 ⟨h.header, by rw [hb2]; rfl⟩
  have hfit : fitsP [some 1, some 1, none, none] (letterP x) := ⟨fun n e => by cases e; exact be_length _ _, fun n e => by cases e; exact be_length _ _, fun n e => (by cases e), fun n e => (by cases e), trivial⟩
  rw [if_pos (show letterC _ by unfold letterC; rw [eo]; exact ⟨hfit, rfl⟩), eo]
  have e3 : nextP (((letterP x).drop 1).drop 1) = (headerO x.header).getD [] := rfl
  rw [e3, e, Option.map_some]
  obtain ⟨a, b, c, d⟩ := x
  have h5 := h.src; have h6 := h.dst
  simp only at h5 h6
  simp only [letterOf, letterP, List.drop_succ_cons, List.drop_zero]
  rw [takeN_cons (be_length 1 a), takeN_cons (be_length 1 b), num_be' (by omega), num_be' (by omega)]; rfl
theorem letterK_of {ps : List (List UInt8)} (h : fitsP [some 1, some 1, none, none] ps) : fitsP letterK ps := by
 match ps with
 | [] => exact h.elim
 | [a] => exact h.2.elim
 | [a, b] => exact h.2.2.elim
 | a :: b :: c :: r => exact ⟨h.1, h.2.1, h.2.2.1, trivial⟩
/-- The program's answer: the header's error comes between. -/
theorem letter_why (l : List UInt8) : endW ((openP l).drop 4) (nextW ((((openP l).drop 1).drop 1).drop 1) (failW (takesW letterK (openP l) (openW l)) (if (headerR (nextP (((openP l).drop 1).drop 1))).isSome then 0 else 141))) = if (letterR l).isSome then 0 else 141 := by
 obtain ⟨h1, h2⟩ := takesW_open (ks := letterK) (by simp) l
 unfold letterR
 by_cases hf : fitsP letterK (openP l)
 ·rw [h1 hf]
  cases hh : headerR (nextP (((openP l).drop 1).drop 1)) with
  | none =>
   have e : failW 0 (if (none : Option Header).isSome = true then 0 else 141) = 141 := rfl
   rw [e, nextW_141, endW_141]
   split <;> rfl
  | some hd =>
   have e : failW 0 (if (some hd).isSome = true then 0 else 141) = 0 := rfl
   rw [e]
   by_cases hl : (openP l).length = 4
   ·have hc : letterC l := by
     refine ⟨?_, hl⟩
     generalize openP l = ps at *
     match ps, hl with
     | [a, b, c, d], _ => exact ⟨hf.1, hf.2.1, fun n e => (by cases e), fun n e => (by cases e), trivial⟩
    rw [if_pos hc]
    generalize openP l = ps at *
    match ps, hl with
    | [a, b, c, d], _ => rfl
   ·rw [if_neg (show ¬ letterC l from fun h => hl h.2)]
    have := fitsP_length hf
    simp only [List.length_cons, List.length_nil] at this
    generalize openP l = ps at *
    match ps with
    | [] => exact hf.elim
    | [a] => exact hf.2.elim
    | [a, b] => exact hf.2.2.elim
    | [a, b, c] => rfl
    | [a, b, c, d] => exact absurd rfl hl
    | a :: b :: c :: d :: e :: r => rfl
 ·rw [h2 hf, failW_pos (by decide), nextW_141, endW_141]
  rw [if_neg (show ¬ letterC l from fun h => hf (letterK_of h.1))]; rfl

structure Vouch where
  notary : Nat
  sig : List UInt8
structure Vouch.ok (x : Vouch) : Prop where
  notary : x.notary < 256
  sig : x.sig.length = 64
def vouch0 : Vouch := ⟨0, zeros 64⟩
def vouchB (x : Vouch) : List UInt8 := UInt8.ofNat x.notary :: x.sig
def vouchOf (p : List UInt8) : Vouch := ⟨(p.headD 0).toNat, p.drop 1⟩
theorem vouchOf_ok {p : List UInt8} (h : p.length = 65) : (vouchOf p).ok := ⟨UInt8.toNat_lt _, by simp [vouchOf, h]⟩
theorem vouchB_of {p : List UInt8} (h : p.length = 65) : vouchB (vouchOf p) = p := by
 cases p with
 | nil => simp at h
 | cons a r => simp [vouchB, vouchOf]
theorem vouchOf_B {x : Vouch} (h : x.ok) : vouchOf (vouchB x) = x := by
 obtain ⟨a, b⟩ := x
 have := h.notary
 simp only at this
 simp [vouchB, vouchOf, Nat.mod_eq_of_lt this]
theorem vouchB_length {x : Vouch} (h : x.ok) : (vouchB x).length = 65 := by simp [vouchB, h.sig]

structure Object where
  server : Nat
  n : Nat
  key : List UInt8
  since : Nat
  till : Nat
  sig : List UInt8
  vouches : List Vouch
structure Object.ok (x : Object) : Prop where
  server : x.server < 256
  n : x.n < 256
  key : x.key.length = 32
  since : x.since < 4294967296
  till : x.till < 4294967296
  sig : x.sig.length = 64
  vouches : ∀ v ∈ x.vouches, v.ok
def object0 : Object := ⟨0, 0, zeros 32, 0, 0, zeros 64, []⟩
theorem object0_ok : object0.ok := ⟨by decide, by decide, rfl, by decide, by decide, rfl, by simp [object0]⟩
def objectP0 (x : Object) : List (List UInt8) := [be 1 x.server, be 1 x.n, x.key, be 4 x.since, be 4 x.till, x.sig]
def objectP (x : Object) : List (List UInt8) := objectP0 x ++ x.vouches.map vouchB
def objectO (x : Object) : Option (List UInt8) := if x.vouches.length ≤ 4 then some (joinB (objectP x)) else none
abbrev objectK : List (Option Nat) := [some 1, some 1, some 32, some 4, some 4, some 64]
def objectOf (a : List (List UInt8)) (vs : List Vouch) : Object :=
  ⟨takeN a 1, takeN (a.drop 1) 1, takeB 32 ((a.drop 1).drop 1), takeN (((a.drop 1).drop 1).drop 1) 4, takeN ((((a.drop 1).drop 1).drop 1).drop 1) 4, takeB 64 (((((a.drop 1).drop 1).drop 1).drop 1).drop 1), vs⟩
theorem objectP_ok {x : Object} (h : x.ok) (h4 : x.vouches.length ≤ 4) : joinOk (objectP x) := by
 refine ⟨by simp [objectP, objectP0]; omega, fun p hp => ?_⟩
 rw [objectP, List.mem_append] at hp
 rcases hp with hp | hp
 ·simp only [objectP0, List.mem_cons, List.not_mem_nil, or_false] at hp
  rcases hp with rfl | rfl | rfl | rfl | rfl | rfl <;> simp [be_length, h.key, h.sig]
 ·obtain ⟨v, hv, rfl⟩ := List.mem_map.1 hp
  rw [vouchB_length (h.vouches v hv)]; decide
abbrev objectC (l : List UInt8) : Prop := fitsP objectK (openP l) ∧ (openP l).length ≤ 10 ∧ ∀ p ∈ (openP l).drop 6, p.length = 65
def objectR (l : List UInt8) : Option Object :=
  if objectC l then some (objectOf (openP l) (((openP l).drop 6).map vouchOf)) else none
theorem objectR_iff {l : List UInt8} {x : Object} : objectR l = some x ↔ x.ok ∧ objectO x = some l := by
 unfold objectR
 constructor
 ·intro h
  split at h
  ·rename_i h1
   cases h
   obtain ⟨hf, hl, hv⟩ := h1
   have hlen := fitsP_length hf
   simp only [List.length_cons, List.length_nil] at hlen
   refine ⟨⟨takeN_lt _ 1, takeN_lt _ 1, takeB_length _ _, takeN_lt _ 4, takeN_lt _ 4, takeB_length _ _, fun v hv' => ?_⟩, ?_⟩
   ·obtain ⟨p, hp, rfl⟩ := List.mem_map.1 hv'
    exact vouchOf_ok (hv p hp)
   ·unfold objectO
    rw [if_pos (by simp [objectOf]; omega)]
    have hj := (join_open (l := l) (fun e => by rw [e] at hlen; simp at hlen)).2
    have e : objectP (objectOf (openP l) (((openP l).drop 6).map vouchOf)) = openP l := by
     have e1 : (((openP l).drop 6).map vouchOf).map vouchB = (openP l).drop 6 := by
      rw [List.map_map]
      conv => rhs; rw [← List.map_id ((openP l).drop 6)]
      exact List.map_congr_left fun p hp => vouchB_of (hv p hp)
     unfold objectP
     show objectP0 _ ++ (((openP l).drop 6).map vouchOf).map vouchB = _
     rw [e1]
     generalize openP l = ps at *
     match ps with
     | [] => exact hf.elim
     | [_] => exact hf.2.elim
     | [_, _] => exact hf.2.2.elim
     | [_, _, _] => exact hf.2.2.2.elim
     | [_, _, _, _] => exact hf.2.2.2.2.elim
     | [_, _, _, _, _] => exact hf.2.2.2.2.2.elim
     | a :: b :: c :: d :: e :: f :: r =>
      obtain ⟨h1, h2, h3, h4, h5, h6, _⟩ := hf
      have h1 := h1 1 rfl; have h2 := h2 1 rfl; have h3 := h3 32 rfl; have h4 := h4 4 rfl; have h5 := h5 4 rfl; have h6 := h6 64 rfl
      simp only [objectP0, objectOf, List.drop_succ_cons, List.drop_zero]
      rw [takeN_cons h1, takeN_cons h2, takeB_cons h3, takeN_cons h4, takeN_cons h5, takeB_cons h6, be_take h1, be_take h2, be_take h4, be_take h5]; rfl
    rw [e, hj]
  ·cases h
 ·rintro ⟨h, h2⟩
  unfold objectO at h2
  split at h2
  ·rename_i h4
   cases h2
   have eo := open_join (objectP_ok h h4)
   have hd : (objectP x).drop 6 = x.vouches.map vouchB := rfl
   have hf : fitsP objectK (objectP x) := by
    refine ⟨?_, ?_, ?_, ?_, ?_, ?_, trivial⟩ <;> intro n e <;> cases e <;> first | exact be_length _ _ | exact h.key | exact h.sig
   rw [if_pos (show objectC _ by
    unfold objectC
    rw [eo, hd]
    exact ⟨hf, by simp [objectP, objectP0]; omega, fun p hp => by
     obtain ⟨v, hv, rfl⟩ := List.mem_map.1 hp
     exact vouchB_length (h.vouches v hv)⟩), eo, hd]
   have e1 : (x.vouches.map vouchB).map vouchOf = x.vouches := by
    rw [List.map_map]
    conv => rhs; rw [← List.map_id x.vouches]
    exact List.map_congr_left fun v hv => vouchOf_B (h.vouches v hv)
   rw [e1]
   obtain ⟨a, b, c, d, e, f, g⟩ := x
   have h1 := h.server; have h2 := h.n; have h3 := h.key; have h5 := h.since; have h6 := h.till; have h7 := h.sig
   simp only at h1 h2 h3 h5 h6 h7
   simp only [objectOf, objectP, objectP0, List.cons_append, List.drop_succ_cons, List.drop_zero]
   rw [takeN_cons (be_length 1 a), takeN_cons (be_length 1 b), takeB_cons h3, takeN_cons (be_length 4 d), takeN_cons (be_length 4 e), takeB_cons h7, num_be' (by omega), num_be' (by omega), num_be' (by omega), num_be' (by omega)]
  ·cases h2
/-- The vouches that the program takes: as many as fit, at most four; what is left; whether one did not fit. -/
def vouchesW : Nat → List (List UInt8) → List Vouch × List (List UInt8) × Bool
  | 0, ps => ([], ps, true)
  | _ + 1, [] => ([], [], true)
  | k + 1, p :: ps => if p.length = 65 then let r := vouchesW k ps; (vouchOf p :: r.1, r.2.1, r.2.2) else ([], ps, false)
theorem vouchesW_spec : ∀ (k : Nat) (ps : List (List UInt8)), ((ps.length ≤ k ∧ ∀ p ∈ ps, p.length = 65) → vouchesW k ps = (ps.map vouchOf, [], true)) ∧ (¬ (ps.length ≤ k ∧ ∀ p ∈ ps, p.length = 65) → (vouchesW k ps).2.2 = false ∨ (vouchesW k ps).2.1 ≠ [])
 | 0, [] => ⟨fun _ => rfl, fun h => absurd ⟨Nat.le_refl _, by simp⟩ h⟩
 | 0, p :: ps => ⟨fun h => absurd h.1 (by simp), fun _ => .inr (by simp [vouchesW])⟩
 | k + 1, [] => ⟨fun _ => rfl, fun h => absurd ⟨by simp, by simp⟩ h⟩
 | k + 1, p :: ps => by
  obtain ⟨h1, h2⟩ := vouchesW_spec k ps
  unfold vouchesW
  by_cases hp : p.length = 65
  ·rw [if_pos hp]
   constructor
   ·intro h
    rw [h1 ⟨by have := h.1; simp at this; omega, fun q hq => h.2 q (by simp [hq])⟩]; rfl
   ·intro h
    exact h2 fun h3 => h ⟨by simp; omega, fun q hq => by
     rcases List.mem_cons.1 hq with rfl | hq
     ·exact hp
     ·exact h3.2 q hq⟩
  ·rw [if_neg hp]
   exact ⟨fun h => absurd (h.2 p (by simp)) hp, fun _ => .inl rfl⟩
theorem object_why (l : List UInt8) : endW (vouchesW 4 ((openP l).drop 6)).2.1 (if (vouchesW 4 ((openP l).drop 6)).2.2 then takesW objectK (openP l) (openW l) else failW (takesW objectK (openP l) (openW l)) 141) = if (objectR l).isSome then 0 else 141 := by
 obtain ⟨h1, h2⟩ := takesW_open (ks := objectK) (by simp) l
 obtain ⟨v1, v2⟩ := vouchesW_spec 4 ((openP l).drop 6)
 unfold objectR
 by_cases hf : fitsP objectK (openP l)
 ·rw [h1 hf]
  have hlen := fitsP_length hf
  simp only [List.length_cons, List.length_nil] at hlen
  by_cases hv : ((openP l).drop 6).length ≤ 4 ∧ ∀ p ∈ (openP l).drop 6, p.length = 65
  ·rw [v1 hv, if_pos (show objectC l from ⟨hf, by have := hv.1; simp at this; omega, hv.2⟩)]; rfl
  ·rw [if_neg (show ¬ objectC l from fun h => hv ⟨by have := h.2.1; rw [List.length_drop]; omega, h.2.2⟩)]
   rcases v2 hv with h | h
   ·rw [h]
    have e : (if false = true then 0 else failW 0 141) = 141 := rfl
    rw [e, endW_141]; rfl
   ·unfold endW
    rw [if_neg h]
    cases (vouchesW 4 ((openP l).drop 6)).2.2 <;> rfl
 ·rw [h2 hf, if_neg (show ¬ objectC l from fun h => hf h.1)]
  have e : (if (vouchesW 4 ((openP l).drop 6)).2.2 = true then 141 else failW 141 141) = 141 := by split <;> rfl
  rw [e, endW_141]; rfl
theorem object_vouches {l : List UInt8} (h : (objectR l).isSome = true) : objectR l = some (objectOf (openP l) (vouchesW 4 ((openP l).drop 6)).1) := by
 unfold objectR at h ⊢
 split at h
 ·rename_i h1
  rw [if_pos h1, (vouchesW_spec 4 ((openP l).drop 6)).1 ⟨by have := h1.2.1; simp; omega, h1.2.2⟩]
 ·cases h
end Go.Pl

/- What the smaller functions of package octet compute: by a walk through each. -/
namespace Go.Proofs.Ytcfecmoagfgnaaa
open Go.Vc Go.Pl

theorem clone_nil {S : List Snap} {H : List Chunk} {w : World} (ho : Own S H w) {c : Nat} : Calls Try.prog 109 #[.slice none 0 c] w (Ret fun v w' => ∃ p' c', v = .slice p' 0 c' ∧ Own S H w' ∧ Bytes (keys H) w' p' [] c') := by
 refine enter (G := Own (⟨w, keys H⟩ :: S) H) ho.keep Try.func109 rfl Try.ntmps109 rfl ?_
 refine VC.sr ?_
 refine VL.assign rfl ?_
 refine VL.nn ?_
 refine VC.seq ?_
 refine VC.sr ?_
 refine VL.move rfl ?_
 refine VL.eqnil Try.underlying24 rfl rfl ?_
 refine VL.nn ?_
 refine VC.yes rfl ?_
 refine VC.sr ?_
 refine VL.assign rfl ?_
 refine VL.nn ?_
 refine VC.ret ?_
 refine VX.then_ret ?_
 refine VX.ret1 rfl rfl (fun w hw => ?_)
 exact ⟨none, 0, rfl, hw.lose, Arr.after ⟨by simp, by simp [maxLen], fun _ => rfl, by simp⟩ Mono.byte (hw.after (List.mem_cons_self ..))⟩

theorem clone_some {S : List Snap} {H : List Chunk} {w : World} (ho : Own S H w) {a : Addr} {l : List UInt8} {c : Nat} (hA : Bytes (keys H) w (some a) l c) (hl : l.length ≤ 1099511627776) : Calls Try.prog 109 #[.slice (some a) l.length c] w (Ret fun v w' => ∃ p' c', v = .slice p' l.length c' ∧ Own S H w' ∧ Bytes (keys H) w' p' l c') := by
 refine enter (G := Own (⟨w, keys H⟩ :: S) H) ho.keep Try.func109 rfl Try.ntmps109 rfl ?_
 refine VC.sr ?_
 refine VL.assign rfl ?_
 refine VL.nn ?_
 refine VC.seq ?_
 refine VC.sr ?_
 refine VL.move rfl ?_
 refine VL.eqnil Try.underlying24 rfl rfl ?_
 refine VL.nn ?_
 refine VC.no rfl ?_
 refine VC.skip ?_
 refine VX.next ?_
 refine VC.sr ?_
 refine VL.lit el24 rfl rfl rfl (by simp) (by simp [ok1]) (fun g => ?_)
 refine VL.move rfl ?_
 refine VL.append 0 el24 rfl rfl rfl rfl (fun _ h => (hA.now (s := ⟨w, keys H⟩) Mono.byte h.drop (List.mem_cons_self ..)).bytes) (by simp) (ok1_bytes l) (by omega) (by omega) (fun g1 c1 => ?_)
 refine VL.assign rfl ?_
 refine VL.nn ?_
 refine VC.ret ?_
 refine VX.ret1 rfl rfl (fun w hw => ?_)
 have hb := hw.letBytes (l := l) (by omega) (by simp)
 exact ⟨_, _, by simp [rowV], hw.drop.lose, hb⟩

theorem clone_any {S : List Snap} {H : List Chunk} {w : World} (ho : Own S H w) {p : Option Addr} {l : List UInt8} {c : Nat} (hA : Bytes (keys H) w p l c) (hl : l.length ≤ 1099511627776) : Calls Try.prog 109 #[.slice p l.length c] w (Ret fun v w' => ∃ p' c', v = .slice p' l.length c' ∧ Own S H w' ∧ Bytes (keys H) w' p' l c') := by
 cases p with
 | none =>
  have h1 := hA.nil rfl
  have h2 := hA.le
  obtain rfl : l = [] := List.eq_nil_of_length_eq_zero (by omega)
  exact clone_nil ho
 | some a => exact clone_some ho hA hl

theorem get_any {S : List Snap} {H : List Chunk} {w : World} (ho : Own S H w) {p : Option Addr} {l : List UInt8} {c : Nat} (hA : Bytes (keys H) w p l c) : Calls Try.prog 28 #[.slice p l.length c] w (Ret fun v w' => Own S H w' ∧ ((1 ≤ l.length ∧ l.length ≤ 8 ∧ v = .tuple #[.int .u64 (num l), .bool true]) ∨ ((l.length < 1 ∨ 8 < l.length) ∧ v = .tuple #[.int .u64 0, .bool false]))) := by
 refine enter (G := Own (⟨w, keys H⟩ :: S) H) ho.keep Try.func28 rfl Try.ntmps28 rfl ?_
 refine VC.sr ?_
 refine VL.assign rfl ?_
 refine VL.assign rfl ?_
 refine VL.nn ?_
 refine VC.seq ?_
 refine VC.sr ?_
 refine VL.move rfl ?_
 refine VL.len Try.underlying24 rfl rfl ?_
 refine VL.lss rfl rfl ?_
 refine VL.case (fun h1_2 => ?_) (fun h1_2 => ?_)
 ·refine VL.move rfl ?_
  refine VL.pass rfl rfl rfl rfl rfl ?_
  refine VL.pass rfl rfl rfl rfl rfl ?_
  refine VL.pass rfl rfl rfl rfl rfl ?_
  refine VL.pick_t rfl rfl ?_
  refine VL.nn ?_
  refine VC.yes rfl ?_
  refine VC.sr ?_
  refine VL.assign rfl ?_
  refine VL.assign rfl ?_
  refine VL.nn ?_
  refine VC.ret ?_
  refine VX.then_ret ?_
  refine VX.ret2 rfl rfl rfl (fun w hw => ?_)
  exact ⟨hw.lose, .inr ⟨by omega, rfl⟩⟩
 ·refine VL.move rfl ?_
  refine VL.go rfl rfl rfl ?_
  refine VL.move rfl ?_
  refine VL.go rfl rfl rfl ?_
  refine VL.len Try.underlying24 rfl rfl ?_
  refine VL.go rfl rfl rfl ?_
  refine VL.gtr rfl rfl ?_
  refine VL.case (fun h1_6 => ?_) (fun h1_6 => ?_)
  ·refine VL.pick_f rfl rfl ?_
   refine VL.nn ?_
   refine VC.yes rfl ?_
   refine VC.sr ?_
   refine VL.assign rfl ?_
   refine VL.assign rfl ?_
   refine VL.nn ?_
   refine VC.ret ?_
   refine VX.then_ret ?_
   refine VX.ret2 rfl rfl rfl (fun w hw => ?_)
   exact ⟨hw.lose, .inr ⟨by omega, rfl⟩⟩
  ·refine VL.pick_f rfl rfl ?_
   refine VL.nn ?_
   refine VC.no rfl ?_
   refine VC.skip ?_
   refine VX.next ?_
   refine VC.sr ?_
   refine VL.assign rfl ?_
   refine VL.nn ?_
   refine VC.seq ?_
   refine VC.sr ?_
   refine VL.move rfl ?_
   refine VL.len Try.underlying24 rfl rfl ?_
   refine VL.move rfl ?_
   refine VL.nn ?_
   refine VC.block ?_
   refine VC.loop (X := Nat) (fun k => [(15, .slice p l.length c), (16, .int .i64 l.length), (17, .int .i64 k), (4, .int .u64 (num (l.take k)))]) (fun k w' => k ≤ l.length ∧ Own (⟨w, keys H⟩ :: S) H w') (fun k => l.length - k) 0 ⟨rfl, rfl, rfl, rfl, trivial⟩ (fun _ h => ⟨Nat.zero_le _, h⟩) (fun k => VC.fact fun hk => ?_)
   ·skip
    refine VC.sr ?_
    refine VL.lss rfl rfl ?_
    refine VL.case (fun h5_0 => ?_) (fun h5_0 => ?_)
    ·refine VL.nn ?_
     refine VC.seq ?_
     refine VC.yes rfl ?_
     refine VC.skip ?_
     refine VX.next ?_
     refine VC.seq ?_
     refine VC.block ?_
     refine VC.sr ?_
     have hlt : k < l.length := by omega
     have hsn : num (l.take (k + 1)) = num (l.take k) * 256 + l[k].toNat := by rw [List.take_succ_eq_append_getElem hlt, num_snoc]
     have hnl : num (l.take k) ≤ 72057594037927935 := by
      have h1 := num_lt (l.take k)
      have h2 : (l.take k).length ≤ 7 := by rw [List.length_take]; omega
      have h3 : 256 ^ (l.take k).length ≤ 256 ^ 7 := Nat.pow_le_pow_right (by decide) h2
      have h4 : (256 : Nat) ^ 7 = 72057594037927936 := by decide
      omega
     refine VL.index rfl rfl Try.underlying24 sz24 hA (by omega) (by omega) ?_
     refine VL.byte (s := ⟨w, keys H⟩) (y := l[k]) rfl kd5 (fun _ h => h) (List.mem_cons_self ..) hA (by simp [hlt]) ?_
     refine VL.assign rfl ?_
     refine VL.nn ?_
     refine VC.region ?_
     refine VL.move rfl ?_
     refine VL.shl rfl rfl (by omega) (by simp only [IntKind.bits]; omega) ?_
     refine VL.move rfl ?_
     have hb := l[k].toNat_lt
     refine VL.conv (by rw [Try.underlying5]; rfl) Try.underlying22 rfl (by simp only [InR]; omega) ?_
     refine VL.bits (.inr (.inl rfl)) rfl rfl ?_
     rw [u64_or_byte _ _ hnl (by omega)]
     refine VL.assign rfl ?_
     refine VL.nil ?_
     refine VX.block_normal ?_
     refine VX.next ?_
     refine VC.region ?_
     refine VL.add rfl rfl (by simp only [InR]; omega) ?_
     refine VL.move rfl ?_
     refine VL.nil ?_
     refine VX.round (k + 1) ⟨rfl, rfl, rfl, ?_, trivial⟩ (fun _ h => ⟨by omega, h⟩) (by omega)
     simp only [hsn]; rfl
    ·refine VL.nn ?_
     refine VC.seq ?_
     refine VC.no rfl ?_
     refine VC.exit ?_
     refine VX.then_exit ?_
     refine VX.then_exit ?_
     refine VX.block_here ?_
     refine VX.next ?_
     refine VC.sr ?_
     refine VL.move rfl ?_
     refine VL.assign rfl ?_
     refine VL.assign rfl ?_
     refine VL.nn ?_
     refine VC.ret ?_
     refine VX.ret2 rfl rfl rfl (fun w hw => ?_)
     obtain rfl : k = l.length := by omega
     refine ⟨hw.lose, .inl ⟨by omega, by omega, ?_⟩⟩
     rw [List.take_length]

end Go.Proofs.Ytcfecmoagfgnaaa

/- What octet.Put, and the reference, make of a number: by a walk through each. -/
namespace Go.Proofs.Ytcfecmoagfgnaaa
open Go.Vc Go.Pl

theorem put_any {S : List Snap} {H : List Chunk} {w : World} (ho : Own S H w) (m : Nat) (hm : Fits 8 m) (z : Int) : Calls Try.prog 25 #[.int .u64 m, .int .i64 z] w (Ret fun v w' => Own S H w' ∧ ((1 ≤ z ∧ z ≤ 8 ∧ Fits z.toNat m ∧ ∃ p c, v = .tuple #[.slice p z.toNat c, .bool true] ∧ Bytes (keys H) w' p (be z.toNat m) c) ∨ (¬ (1 ≤ z ∧ z ≤ 8 ∧ Fits z.toNat m) ∧ v = .tuple #[.slice none 0 0, .bool false]))) := by
 refine enter (G := Own (⟨w, keys H⟩ :: S) H) ho.keep Try.func25 rfl Try.ntmps25 rfl ?_
 refine VC.sr ?_
 refine VL.assign rfl ?_
 refine VL.assign rfl ?_
 refine VL.nn ?_
 refine VC.seq ?_
 refine VC.sr ?_
 refine VL.move rfl ?_
 refine VL.lss rfl rfl ?_
 refine VL.case (fun h1_1 => ?_) (fun h1_1 => ?_)
 ·refine VL.move rfl ?_
  refine VL.pass rfl rfl rfl rfl rfl ?_
  refine VL.pass rfl rfl rfl rfl rfl ?_
  refine VL.pick_t rfl rfl ?_
  refine VL.move rfl ?_
  refine VL.pass rfl rfl rfl rfl rfl ?_
  refine VL.pass rfl rfl rfl rfl rfl ?_
  refine VL.pass rfl rfl rfl rfl rfl ?_
  refine VL.passu rfl rfl rfl rfl ?_
  refine VL.passu rfl rfl rfl rfl ?_
  refine VL.passu rfl rfl rfl rfl ?_
  refine VL.passu rfl rfl rfl rfl ?_
  refine VL.passu rfl rfl rfl rfl ?_
  refine VL.pass rfl rfl rfl rfl rfl ?_
  refine VL.pick_t rfl rfl ?_
  refine VL.nn ?_
  refine VC.yes rfl ?_
  refine VC.sr ?_
  refine VL.assign rfl ?_
  refine VL.assign rfl ?_
  refine VL.nn ?_
  refine VC.ret ?_
  refine VX.then_ret ?_
  refine VX.ret2 rfl rfl rfl (fun w hw => ?_)
  refine ⟨hw.lose, .inr ⟨?_, rfl⟩⟩
  omega
 ·refine VL.move rfl ?_
  refine VL.go rfl rfl rfl ?_
  refine VL.move rfl ?_
  refine VL.go rfl rfl rfl ?_
  refine VL.gtr rfl rfl ?_
  refine VL.case (fun h1_4 => ?_) (fun h1_4 => ?_)
  ·refine VL.pick_f rfl rfl ?_
   refine VL.move rfl ?_
   refine VL.pass rfl rfl rfl rfl rfl ?_
   refine VL.pass rfl rfl rfl rfl rfl ?_
   refine VL.pass rfl rfl rfl rfl rfl ?_
   refine VL.passu rfl rfl rfl rfl ?_
   refine VL.passu rfl rfl rfl rfl ?_
   refine VL.passu rfl rfl rfl rfl ?_
   refine VL.passu rfl rfl rfl rfl ?_
   refine VL.passu rfl rfl rfl rfl ?_
   refine VL.pass rfl rfl rfl rfl rfl ?_
   refine VL.pick_t rfl rfl ?_
   refine VL.nn ?_
   refine VC.yes rfl ?_
   refine VC.sr ?_
   refine VL.assign rfl ?_
   refine VL.assign rfl ?_
   refine VL.nn ?_
   refine VC.ret ?_
   refine VX.then_ret ?_
   refine VX.ret2 rfl rfl rfl (fun w hw => ?_)
   refine ⟨hw.lose, .inr ⟨?_, rfl⟩⟩
   omega
  ·refine VL.pick_f rfl rfl ?_
   refine VL.move rfl ?_
   refine VL.go rfl rfl rfl ?_
   refine VL.move rfl ?_
   refine VL.go rfl rfl rfl ?_
   refine VL.lss rfl rfl ?_
   refine VL.case (fun h1_8 => ?_) (fun h1_8 => ?_)
   ·refine VL.go rfl rfl rfl ?_
    refine VL.move rfl ?_
    refine VL.go rfl rfl rfl ?_
    refine VL.move rfl ?_
    refine VL.go rfl rfl rfl ?_
    refine VL.move rfl ?_
    refine VL.go rfl rfl rfl ?_
    refine VL.mul rfl rfl (by simp only [InR]; omega) ?_
    refine VL.go rfl rfl rfl ?_
    refine VL.shr rfl rfl (by omega) (by simp only [IntKind.bits]; omega) ?_
    obtain ⟨k, rfl⟩ : ∃ k : Nat, z = k := ⟨z.toNat, by omega⟩
    rw [shr_int]
    refine VL.go rfl rfl rfl ?_
    refine VL.neq rfl rfl ?_
    refine VL.case (fun h14 => ?_) (fun h14 => ?_)
    ·have hd := (div_zero_iff m k)
     refine VL.go rfl rfl rfl ?_
     refine VL.pick_t rfl rfl ?_
     refine VL.pick_f rfl rfl ?_
     refine VL.nn ?_
     refine VC.yes rfl ?_
     refine VC.sr ?_
     refine VL.assign rfl ?_
     refine VL.assign rfl ?_
     refine VL.nn ?_
     refine VC.ret ?_
     refine VX.then_ret ?_
     refine VX.ret2 rfl rfl rfl (fun w hw => ?_)
     refine ⟨hw.lose, .inr ⟨?_, rfl⟩⟩
     rintro ⟨_, _, h3⟩
     exact absurd (hd.2 h3) (by omega)
    ·have hd := (div_zero_iff m k)
     refine VL.go rfl rfl rfl ?_
     refine VL.pick_t rfl rfl ?_
     refine VL.pick_f rfl rfl ?_
     refine VL.nn ?_
     refine VC.no rfl ?_
     refine VC.skip ?_
     refine VX.next ?_
     refine VC.sr ?_
     refine VL.move rfl ?_
     refine VL.make el24 rfl rfl rfl rfl (by omega) (by omega) (fun g => ?_)
     refine VL.assign rfl ?_
     refine VL.nn ?_
     refine VC.seq ?_
     refine VC.sr ?_
     refine VL.move rfl ?_
     refine VL.len Try.underlying24 rfl rfl ?_
     refine VL.move rfl ?_
     refine VL.nn ?_
     refine VC.block ?_
     refine VC.loop (X := Nat) (fun i => [(0, .int .u64 m), (1, .int .i64 k), (6, rowV (some g) k k), (28, .int .i64 k), (29, .int .i64 i)]) (fun i w' => i ≤ k ∧ Own (⟨w, keys H⟩ :: S) (row 5 1 (some g) k k ((midb k i m).map bv) :: H) w') (fun i => k - i) 0 ⟨rfl, rfl, rfl, rfl, rfl, trivial⟩ (fun w' h => ⟨Nat.zero_le _, ?_⟩) (fun i => VC.fact fun hi => ?_)
     ·rw [midb_start]; simpa [bv] using h
     ·skip
      refine VC.sr ?_
      refine VL.lss rfl rfl ?_
      refine VL.case (fun h5_0 => ?_) (fun h5_0 => ?_)
      ·refine VL.nn ?_
       refine VC.seq ?_
       refine VC.yes rfl ?_
       refine VC.skip ?_
       refine VX.next ?_
       refine VC.seq ?_
       refine VC.block ?_
       refine VC.sr ?_
       refine VL.move rfl ?_
       refine VL.assign rfl ?_
       refine VL.nn ?_
       refine VC.region ?_
       refine VL.move rfl ?_
       refine VL.move rfl ?_
       refine VL.sub rfl rfl (by simp only [InR]; omega) ?_
       refine VL.move rfl ?_
       refine VL.sub rfl rfl (by simp only [InR]; omega) ?_
       refine VL.move rfl ?_
       refine VL.move rfl ?_
       refine VL.mul rfl rfl (by simp only [InR]; omega) ?_
       refine VL.shr rfl rfl (by omega) (by simp only [IntKind.bits]; omega) ?_
       rw [shr_int]
       refine VL.convw (by rw [Try.underlying22]; rfl) Try.underlying5 rfl ?_
       rw [byte_wrap]
       refine VL.rowIndex el24 rfl rfl (by omega) (by omega) ?_
       refine VL.rowStore 0 rfl rfl rfl kd5 rfl (by omega) ?_
       refine VL.nil ?_
       refine VX.block_normal ?_
       refine VX.next ?_
       refine VC.region ?_
       refine VL.add rfl rfl (by simp only [InR]; omega) ?_
       refine VL.move rfl ?_
       refine VL.nil ?_
       refine VX.round (i + 1) ⟨rfl, rfl, rfl, rfl, rfl, trivial⟩ (fun w' h => ⟨by omega, ?_⟩) (by omega)
       rw [← midb_set k i m (by omega), List.map_set]
       have e : ((k : Int) - 1 - (i : Int)).toNat * 1 = k - 1 - i := by omega
       rw [e] at h
       exact h
      ·refine VL.nn ?_
       refine VC.seq ?_
       refine VC.no rfl ?_
       refine VC.exit ?_
       refine VX.then_exit ?_
       refine VX.then_exit ?_
       refine VX.block_here ?_
       refine VX.next ?_
       refine VC.sr ?_
       refine VL.move rfl ?_
       refine VL.assign rfl ?_
       refine VL.assign rfl ?_
       refine VL.nn ?_
       refine VC.ret ?_
       refine VX.ret2 rfl rfl rfl (fun w hw => ?_)
       obtain rfl : i = k := by omega
       rw [midb_done] at hw
       have hb := hw.letBytes (l := be i m) (by rw [be_length]) rfl
       refine ⟨hw.drop.lose, .inl ⟨by omega, by omega, ?_, _, _, rfl, hb⟩⟩
       exact hd.1 (by omega)
   ·refine VL.go rfl rfl rfl ?_
    refine VL.move rfl ?_
    refine VL.pass rfl rfl rfl rfl rfl ?_
    refine VL.pass rfl rfl rfl rfl rfl ?_
    refine VL.pass rfl rfl rfl rfl rfl ?_
    refine VL.pass rfl rfl rfl rfl rfl ?_
    refine VL.pass rfl rfl rfl rfl rfl ?_
    refine VL.go rfl rfl rfl ?_
    refine VL.pick_f rfl rfl ?_
    refine VL.pick_f rfl rfl ?_
    refine VL.nn ?_
    refine VC.no rfl ?_
    refine VC.skip ?_
    refine VX.next ?_
    refine VC.seq ?_
    obtain ⟨k, rfl⟩ : ∃ k : Nat, z = k := ⟨z.toNat, by omega⟩
    refine VC.region ?_
    refine VL.move rfl ?_
    refine VL.make el24 rfl rfl rfl rfl (by omega) (by omega) (fun g => ?_)
    refine VL.assign rfl ?_
    refine VL.nn ?_
    refine VC.seq ?_
    refine VC.sr ?_
    refine VL.move rfl ?_
    refine VL.len Try.underlying24 rfl rfl ?_
    refine VL.move rfl ?_
    refine VL.nn ?_
    refine VC.block ?_
    refine VC.loop (X := Nat) (fun i => [(0, .int .u64 m), (1, .int .i64 k), (6, rowV (some g) k k), (28, .int .i64 k), (29, .int .i64 i)]) (fun i w' => i ≤ k ∧ Own (⟨w, keys H⟩ :: S) (row 5 1 (some g) k k ((midb k i m).map bv) :: H) w') (fun i => k - i) 0 ⟨rfl, rfl, rfl, rfl, rfl, trivial⟩ (fun w' h => ⟨Nat.zero_le _, ?_⟩) (fun i => VC.fact fun hi => ?_)
    ·rw [midb_start]; simpa [bv] using h
    ·skip
     refine VC.sr ?_
     refine VL.lss rfl rfl ?_
     refine VL.case (fun h5_0 => ?_) (fun h5_0 => ?_)
     ·refine VL.nn ?_
      refine VC.seq ?_
      refine VC.yes rfl ?_
      refine VC.skip ?_
      refine VX.next ?_
      refine VC.seq ?_
      refine VC.block ?_
      refine VC.sr ?_
      refine VL.move rfl ?_
      refine VL.assign rfl ?_
      refine VL.nn ?_
      refine VC.region ?_
      refine VL.move rfl ?_
      refine VL.move rfl ?_
      refine VL.sub rfl rfl (by simp only [InR]; omega) ?_
      refine VL.move rfl ?_
      refine VL.sub rfl rfl (by simp only [InR]; omega) ?_
      refine VL.move rfl ?_
      refine VL.move rfl ?_
      refine VL.mul rfl rfl (by simp only [InR]; omega) ?_
      refine VL.shr rfl rfl (by omega) (by simp only [IntKind.bits]; omega) ?_
      rw [shr_int]
      refine VL.convw (by rw [Try.underlying22]; rfl) Try.underlying5 rfl ?_
      rw [byte_wrap]
      refine VL.rowIndex el24 rfl rfl (by omega) (by omega) ?_
      refine VL.rowStore 0 rfl rfl rfl kd5 rfl (by omega) ?_
      refine VL.nil ?_
      refine VX.block_normal ?_
      refine VX.next ?_
      refine VC.region ?_
      refine VL.add rfl rfl (by simp only [InR]; omega) ?_
      refine VL.move rfl ?_
      refine VL.nil ?_
      refine VX.round (i + 1) ⟨rfl, rfl, rfl, rfl, rfl, trivial⟩ (fun w' h => ⟨by omega, ?_⟩) (by omega)
      rw [← midb_set k i m (by omega), List.map_set]
      have e : ((k : Int) - 1 - (i : Int)).toNat * 1 = k - 1 - i := by omega
      rw [e] at h
      exact h
     ·refine VL.nn ?_
      refine VC.seq ?_
      refine VC.no rfl ?_
      refine VC.exit ?_
      refine VX.then_exit ?_
      refine VX.then_exit ?_
      refine VX.block_here ?_
      refine VX.next ?_
      refine VC.sr ?_
      refine VL.move rfl ?_
      refine VL.assign rfl ?_
      refine VL.assign rfl ?_
      refine VL.nn ?_
      refine VC.ret ?_
      refine VX.ret2 rfl rfl rfl (fun w hw => ?_)
      obtain rfl : i = k := by omega
      rw [midb_done] at hw
      have hb := hw.letBytes (l := be i m) (by rw [be_length]) rfl
      refine ⟨hw.drop.lose, .inl ⟨by omega, by omega, ?_, _, _, rfl, hb⟩⟩
      obtain rfl : i = 8 := by omega
      exact hm

theorem inr_div {m : Nat} (h : Fits 8 m) (i : Nat) : InR .u64 ((m / 256 ^ i : Nat) : Int) :=
 ⟨Int.natCast_nonneg _, Int.ofNat_le.2 (Nat.le_of_lt_succ (Nat.lt_of_le_of_lt (Nat.div_le_self m (256 ^ i)) (show m < 18446744073709551616 from h)))⟩

theorem refPut_any {S : List Snap} {H : List Chunk} {w : World} (ho : Own S H w) (m : Nat) (hm : Fits 8 m) (z : Int) : Calls Try.prog 26 #[.int .u64 m, .int .i64 z] w (Ret fun v w' => Own S H w' ∧ ((1 ≤ z ∧ z ≤ 8 ∧ Fits z.toNat m ∧ ∃ p c, v = .tuple #[.slice p z.toNat c, .bool true] ∧ Bytes (keys H) w' p (be z.toNat m) c) ∨ (¬ (1 ≤ z ∧ z ≤ 8 ∧ Fits z.toNat m) ∧ v = .tuple #[.slice none 0 0, .bool false]))) := by
 refine enter (G := Own (⟨w, keys H⟩ :: S) H) ho.keep Try.func26 rfl Try.ntmps26 rfl ?_
 refine VC.sr ?_
 refine VL.assign rfl ?_
 refine VL.assign rfl ?_
 refine VL.nn ?_
 refine VC.seq ?_
 refine VC.sr ?_
 refine VL.move rfl ?_
 refine VL.lss rfl rfl ?_
 refine VL.case (fun h1_1 => ?_) (fun h1_1 => ?_)
 ·refine VL.move rfl ?_
  refine VL.pass rfl rfl rfl rfl rfl ?_
  refine VL.pass rfl rfl rfl rfl rfl ?_
  refine VL.pick_t rfl rfl ?_
  refine VL.nn ?_
  refine VC.yes rfl ?_
  refine VC.sr ?_
  refine VL.assign rfl ?_
  refine VL.assign rfl ?_
  refine VL.nn ?_
  refine VC.ret ?_
  refine VX.then_ret ?_
  refine VX.ret2 rfl rfl rfl (fun w hw => ?_)
  exact ⟨hw.lose, .inr ⟨by omega, rfl⟩⟩
 ·refine VL.move rfl ?_
  refine VL.go rfl rfl rfl ?_
  refine VL.move rfl ?_
  refine VL.go rfl rfl rfl ?_
  refine VL.gtr rfl rfl ?_
  refine VL.case (fun h1_4 => ?_) (fun h1_4 => ?_)
  ·refine VL.pick_f rfl rfl ?_
   refine VL.nn ?_
   refine VC.yes rfl ?_
   refine VC.sr ?_
   refine VL.assign rfl ?_
   refine VL.assign rfl ?_
   refine VL.nn ?_
   refine VC.ret ?_
   refine VX.then_ret ?_
   refine VX.ret2 rfl rfl rfl (fun w hw => ?_)
   exact ⟨hw.lose, .inr ⟨by omega, rfl⟩⟩
  ·refine VL.pick_f rfl rfl ?_
   refine VL.nn ?_
   refine VC.no rfl ?_
   refine VC.skip ?_
   refine VX.next ?_
   refine VC.seq ?_
   obtain ⟨k, rfl⟩ : ∃ k : Nat, z = k := ⟨z.toNat, by omega⟩
   refine VC.region ?_
   refine VL.move rfl ?_
   refine VL.make el24 rfl rfl rfl rfl (by omega) (by omega) (fun g => ?_)
   refine VL.assign rfl ?_
   refine VL.nn ?_
   refine VC.seq ?_
   refine VC.sr ?_
   refine VL.move rfl ?_
   refine VL.sub rfl rfl (by simp only [InR]; omega) ?_
   refine VL.assign rfl ?_
   refine VL.nn ?_
   refine VC.block ?_
   refine VC.loop (X := Nat) (fun i => [(0, .int .u64 ((m / 256 ^ i : Nat) : Int)), (1, .int .i64 k), (6, rowV (some g) k k), (7, .int .i64 ((k : Int) - 1 - i))]) (fun i w' => i ≤ k ∧ Own (⟨w, keys H⟩ :: S) (row 5 1 (some g) k k ((midb k i m).map bv) :: H) w') (fun i => k - i) 0 ⟨?_, rfl, rfl, ?_, trivial⟩ (fun w' h => ⟨Nat.zero_le _, ?_⟩) (fun i => VC.fact fun hi => ?_)
   ·show some (Value.int .u64 (m : Int)) = some (Value.int .u64 _)
    simp
   ·show some (Value.int .i64 ((k : Int) - 1)) = _
    simp
   ·rw [midb_start]; simpa [bv] using h
   ·skip
    refine VC.seq ?_
    refine VC.sr ?_
    refine VL.move rfl ?_
    refine VL.geq rfl rfl ?_
    refine VL.case (fun h5_1 => ?_) (fun h5_1 => ?_)
    ·refine VL.nn ?_
     refine VC.yes rfl ?_
     refine VC.skip ?_
     refine VX.next ?_
     refine VC.seq ?_
     refine VC.block ?_
     refine VC.sr ?_
     refine VL.move rfl ?_
     refine VL.move rfl ?_
     refine VL.move rfl ?_
     refine VL.rem rfl rfl (Int.natCast_nonneg _) (by omega) ?_
     refine VL.convw (by rw [Try.underlying22]; rfl) Try.underlying5 rfl ?_
     rw [byte_rem]
     refine VL.rowIndex el24 rfl rfl (by omega) (by omega) ?_
     refine VL.rowStore 0 rfl rfl rfl kd5 rfl (by omega) ?_
     refine VL.nn ?_
     refine VC.region ?_
     refine VL.move rfl ?_
     refine VL.quo rfl rfl (Int.natCast_nonneg _) (by omega) (inr_div hm i) ?_
     refine VL.assign rfl ?_
     refine VL.nil ?_
     refine VX.block_normal ?_
     refine VX.next ?_
     refine VC.region ?_
     refine VL.move rfl ?_
     refine VL.sub rfl rfl (by simp only [InR]; omega) ?_
     refine VL.assign rfl ?_
     refine VL.nil ?_
     refine VX.round (i + 1) ⟨?_, rfl, rfl, ?_, trivial⟩ (fun w' h => ⟨by omega, ?_⟩) (by omega)
     ·show some (Value.int .u64 _) = some (Value.int .u64 _)
      rw [Nat.pow_succ, ← Nat.div_div_eq_div_mul]; rfl
     ·show some (Value.int .i64 _) = some (Value.int .i64 _)
      congr 2; omega
     ·rw [← midb_set k i m (by omega), List.map_set]
      have e : ((k : Int) - 1 - (i : Int)).toNat * 1 = k - 1 - i := by omega
      rw [e] at h
      exact h
    ·refine VL.nn ?_
     refine VC.no rfl ?_
     refine VC.exit ?_
     refine VX.then_exit ?_
     refine VX.then_exit ?_
     refine VX.block_here ?_
     refine VX.next ?_
     refine VC.seq ?_
     refine VC.seq ?_
     obtain rfl : i = k := by omega
     have hd := div_zero_iff m i
     refine VC.region ?_
     refine VL.move rfl ?_
     refine VL.neq rfl rfl ?_
     refine VL.case (fun h9_1 => ?_) (fun h9_1 => ?_)
     ·refine VL.nn ?_
      refine VC.yes rfl ?_
      refine VC.sr ?_
      refine VL.assign rfl ?_
      refine VL.assign rfl ?_
      refine VL.nn ?_
      refine VC.ret ?_
      refine VX.then_ret ?_
      refine VX.ret2 rfl rfl rfl (fun w hw => ?_)
      refine ⟨hw.drop.lose, .inr ⟨?_, rfl⟩⟩
      rintro ⟨_, _, h3⟩
      exact absurd (hd.2 h3) (by omega)
     ·refine VL.nn ?_
      refine VC.no rfl ?_
      refine VC.skip ?_
      refine VX.next ?_
      refine VC.sr ?_
      refine VL.move rfl ?_
      refine VL.assign rfl ?_
      refine VL.assign rfl ?_
      refine VL.nn ?_
      refine VC.ret ?_
      refine VX.ret2 rfl rfl rfl (fun w hw => ?_)
      rw [midb_done] at hw
      have hb := hw.letBytes (l := be i m) (by rw [be_length]) rfl
      exact ⟨hw.drop.lose, .inl ⟨by omega, by omega, hd.1 (by omega), _, _, rfl, hb⟩⟩

theorem fits_small {m : Nat} (h : m ≤ 4294967295) : Fits 8 m := Nat.lt_of_le_of_lt h (by decide)

theorem num_any {S : List Snap} {H : List Chunk} {w : World} (ho : Own S H w) (m k : Nat) (hm : m ≤ 4294967295) (h1 : 1 ≤ k) (h8 : k ≤ 8) (hf : Fits k m) : Calls Try.prog 108 #[.int .i64 m, .int .i64 k] w (Ret fun v w' => Own S H w' ∧ ∃ p c, v = .slice p k c ∧ Bytes (keys H) w' p (be k m) c) := by
 refine enter (G := Own (⟨w, keys H⟩ :: S) H) ho.keep Try.func108 rfl Try.ntmps108 rfl ?_
 refine VC.sr ?_
 refine VL.assign rfl ?_
 refine VL.nn ?_
 refine VC.sr ?_
 refine VL.move rfl ?_
 refine VL.conv (by rw [Try.underlying3]; rfl) Try.underlying22 rfl (by simp only [InR]; omega) ?_
 refine VL.move rfl ?_
 refine VL.call Try.func26 rfl (by decide) rfl (fun w' hw => refPut_any hw m (fits_small hm) k) (fun v => ?_)
 refine VL.at (fun w1 h1w => ?_)
 obtain ⟨hO, ⟨_, _, _, p, c, rfl, hA⟩ | ⟨hno, _⟩⟩ := h1w
 rotate_left
 ·exact absurd ⟨by omega, by omega, by rw [Int.toNat_natCast]; exact hf⟩ hno
 refine VL.toOwn hO ?_
 refine VL.move rfl ?_
 refine VL.extract rfl rfl ?_
 refine VL.extract rfl rfl ?_
 refine VL.assign rfl ?_
 refine VL.assign rfl ?_
 refine VL.nn ?_
 refine VC.sr ?_
 refine VL.move rfl ?_
 refine VL.assign rfl ?_
 refine VL.nn ?_
 refine VC.ret ?_
 refine VX.ret1 rfl rfl (fun w hw => ?_)
 refine ⟨hw.lose.lose, p, c, rfl, ?_⟩
 exact hA.now (s := ⟨w1, keys H⟩) Mono.byte hw (List.mem_cons_self ..)

theorem bytes_any {S : List Snap} {H : List Chunk} {w : World} (ho : Own S H w) {p q : Option Addr} {l k : List UInt8} {c d : Nat} (hA : Bytes (keys H) w p l c) (hB : Bytes (keys H) w q k d) : Calls Try.prog 27 #[.slice p l.length c, .slice q k.length d] w (Ret fun v w' => Own S H w' ∧ v = .bool (decide (l = k))) := by
 refine enter (G := Own (⟨w, keys H⟩ :: S) H) ho.keep Try.func27 rfl Try.ntmps27 rfl ?_
 refine VC.sr ?_
 refine VL.assign rfl ?_
 refine VL.nn ?_
 refine VC.sr ?_
 refine VL.move rfl ?_
 refine VL.str (s := ⟨w, keys H⟩) Try.underlying24 Try.underlying5 Try.underlying9 rfl (fun _ h => h) (List.mem_cons_self ..) hA ?_
 refine VL.move rfl ?_
 refine VL.str (s := ⟨w, keys H⟩) Try.underlying24 Try.underlying5 Try.underlying9 rfl (fun _ h => h) (List.mem_cons_self ..) hB ?_
 refine VL.eqls rfl rfl ?_
 refine VL.assign rfl ?_
 refine VL.nn ?_
 refine VC.ret ?_
 refine VX.ret1 rfl rfl (fun w hw => ?_)
 refine ⟨hw.lose, ?_⟩
 have : ((⟨l.toArray⟩ : ByteArray) = ⟨k.toArray⟩) ↔ l = k := by simp
 rw [decide_eq_decide.2 this]

end Go.Proofs.Ytcfecmoagfgnaaa

