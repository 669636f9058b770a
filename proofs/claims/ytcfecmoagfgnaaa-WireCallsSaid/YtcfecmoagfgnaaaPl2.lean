/- Plain facts on the joined text, continued: cut short; with more behind it. -/
import Derived.Test.YtcfecmoagfgnaaaPl
namespace Go.Pl

theorem pre2_head (p : List UInt8) (r : List UInt8) (h : p.length ≤ 4096) : pre2 (be 2 p.length ++ r) = p.length := by
  rw [be_two]
  simp [pre2]; omega

theorem cutB_take : ∀ (ls acc : List (List UInt8)), (∀ p ∈ ls, p.length ≤ 4096) → ∀ k, k < (body ls).length → cutB ls.length ((body ls).take k) acc = (20, [])
  | [], _, _, k, hk => by simp [body] at hk
  | p :: ls, acc, h, k, hk => by
    have hp : p.length ≤ 4096 := h p (by simp)
    rw [body_cons, List.length_append, List.length_append, be_length] at hk
    rw [List.length_cons, body_cons]
    by_cases h2 : k < 2
    · exact cutB_short (by simp only [List.length_take]; omega)
    · have e1 : (be 2 p.length ++ (p ++ body ls)).take k = be 2 p.length ++ (p ++ body ls).take (k - 2) := by
        rw [List.take_append, be_length, List.take_of_length_le (by rw [be_length]; omega)]
      rw [e1]
      have e2 : (be 2 p.length ++ (p ++ body ls).take (k - 2)).drop 2 = (p ++ body ls).take (k - 2) := by
        rw [List.drop_append_of_le_length (by rw [be_length]; omega), List.drop_eq_nil_of_le (by rw [be_length]; omega)]; rfl
      rw [cutB_next (by rw [List.length_append, be_length]; omega), pre2_head _ _ hp, e2, if_neg (by omega)]
      split
      · rfl
      · rename_i h3
        have hl : ((p ++ body ls).take (k - 2)).length = k - 2 := by rw [List.length_take, List.length_append]; omega
        rw [hl] at h3
        have e3 : ((p ++ body ls).take (k - 2)).drop p.length = (body ls).take (k - 2 - p.length) := by
          rw [List.drop_take, List.drop_left]
        rw [e3]
        exact cutB_take ls _ (fun q hq => h q (by simp [hq])) _ (by omega)

theorem split_take {ls : List (List UInt8)} (h : joinOk ls) {k : Nat} (hk : k < (joinB ls).length) : splitB ((joinB ls).take k) = (20, []) := by
  cases k with
  | zero => rfl
  | succ k =>
    have h1 := h.1
    have e : (UInt8.ofNat ls.length).toNat = ls.length := by simp [Nat.mod_eq_of_lt (show ls.length < 256 by omega)]
    unfold joinB at hk ⊢
    rw [List.take_succ_cons, splitB_cons, e, if_neg (by omega)]
    exact cutB_take ls [] h.2 k (by simpa using hk)

theorem cutB_more : ∀ (ls acc : List (List UInt8)) (x : List UInt8), (∀ p ∈ ls, p.length ≤ 4096) → cutB ls.length (body ls ++ x) acc = if x = [] then (0, acc ++ ls) else (21, [])
  | [], acc, x, _ => by
    show cutB 0 x acc = _
    rw [cutB_done, List.append_nil]
  | p :: ls, acc, x, h => by
    have hp : p.length ≤ 4096 := h p (by simp)
    rw [body_cons, List.length_cons, List.append_assoc, List.append_assoc]
    have e2 : (be 2 p.length ++ (p ++ (body ls ++ x))).drop 2 = p ++ (body ls ++ x) := by
      rw [List.drop_append_of_le_length (by rw [be_length]; omega), List.drop_eq_nil_of_le (by rw [be_length]; omega)]; rfl
    rw [cutB_next (by rw [List.length_append, be_length]; omega), pre2_head _ _ hp, e2, if_neg (by omega), if_neg (by rw [List.length_append]; omega), List.drop_left, List.take_left, cutB_more ls _ x (fun q hq => h q (by simp [hq]))]
    simp

theorem split_more {ls : List (List UInt8)} (h : joinOk ls) (x : List UInt8) : splitB (joinB ls ++ x) = if x = [] then (0, ls) else (21, []) := by
  have h1 := h.1
  have e : (UInt8.ofNat ls.length).toNat = ls.length := by simp [Nat.mod_eq_of_lt (show ls.length < 256 by omega)]
  unfold joinB
  rw [List.cons_append, splitB_cons, e, if_neg (by omega), cutB_more ls [] x h.2]; rfl

theorem joinB_le {ls : List (List UInt8)} (h : joinOk ls) : (joinB ls).length ≤ 263000 := by
  have h1 := h.1
  have h2 := body_le h.2
  have h3 := Nat.mul_le_mul_left 4098 h1
  unfold joinB
  rw [List.length_cons]; omega
end Go.Pl
