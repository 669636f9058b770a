/- Plain facts on numbers and bytes: no program in sight. -/
import Derived.Laws.BitsAllLaws
import Derived.Laws.BitsLemmas
namespace Go.Pl

/-- A number's last k bytes, the greatest first. -/
def be : Nat → Nat → List UInt8
  | 0, _ => []
  | k + 1, n => UInt8.ofNat (n / 256 ^ k) :: be k n

/-- What bytes say as a number. -/
def num (l : List UInt8) : Nat := l.foldl (fun a b => a * 256 + b.toNat) 0

theorem be_length (k n : Nat) : (be k n).length = k := by
  induction k with
  | zero => rfl
  | succ k ih => simp [be, ih]

theorem num_snoc (l : List UInt8) (b : UInt8) : num (l ++ [b]) = num l * 256 + b.toNat := by simp [num]

theorem foldl_num (l : List UInt8) : ∀ a, l.foldl (fun a b => a * 256 + b.toNat) a = a * 256 ^ l.length + num l := by
  induction l with
  | nil => intro a; simp [num]
  | cons b r ih =>
    intro a
    simp only [num, List.foldl_cons, List.length_cons] at ih ⊢
    rw [ih, ih (0 * 256 + b.toNat), Nat.pow_succ, Nat.add_mul]
    simp only [Nat.zero_mul, Nat.zero_add]
    rw [Nat.mul_assoc, Nat.mul_comm 256, Nat.add_assoc]

theorem num_cons (b : UInt8) (l : List UInt8) : num (b :: l) = b.toNat * 256 ^ l.length + num l := by
  have := foldl_num l b.toNat
  simpa [num] using this

theorem num_lt (l : List UInt8) : num l < 256 ^ l.length := by
  induction l with
  | nil => simp [num]
  | cons b r ih =>
    rw [num_cons, List.length_cons, Nat.pow_succ]
    have hb : b.toNat ≤ 255 := by have := b.toNat_lt; omega
    have := Nat.mul_le_mul_right (256 ^ r.length) hb
    omega

theorem num_be (k n : Nat) : num (be k n) = n % 256 ^ k := by
  induction k with
  | zero => simp [be, num, Nat.mod_one]
  | succ k ih =>
    rw [be, num_cons, be_length, ih]
    have h1 : (UInt8.ofNat (n / 256 ^ k)).toNat = n / 256 ^ k % 256 := by simp
    rw [h1, Nat.pow_succ, Nat.mod_mul, Nat.mul_comm (256 ^ k)]
    omega

theorem be_add_mul (k : Nat) : ∀ (m n : Nat), be k (m * 256 ^ k + n) = be k n := by
  induction k with
  | zero => intro m n; rfl
  | succ k ih =>
    intro m n
    have hp : 0 < 256 ^ k := Nat.pow_pos (by decide)
    have e : m * 256 ^ (k + 1) + n = (m * 256) * 256 ^ k + n := by rw [Nat.pow_succ, Nat.mul_comm (256 ^ k), ← Nat.mul_assoc]
    rw [be, be, e, ih (m * 256) n]
    congr 1
    rw [Nat.add_comm, Nat.add_mul_div_right _ _ hp]
    apply UInt8.toNat_inj.1
    simp

theorem be_num (l : List UInt8) : be l.length (num l) = l := by
  induction l with
  | nil => rfl
  | cons b r ih =>
    have hp : 0 < 256 ^ r.length := Nat.pow_pos (by decide)
    rw [List.length_cons, be, num_cons, be_add_mul, ih]
    congr 1
    rw [Nat.add_comm, Nat.add_mul_div_right _ _ hp, Nat.div_eq_of_lt (num_lt r)]
    simp

theorem be_inj {k a b : Nat} (ha : a < 256 ^ k) (hb : b < 256 ^ k) (h : be k a = be k b) : a = b := by
  have := congrArg num h
  rwa [num_be, num_be, Nat.mod_eq_of_lt ha, Nat.mod_eq_of_lt hb] at this

theorem or_byte (a b : Nat) (hb : b < 256) : a * 256 ||| b = a * 256 + b := by
  have := Nat.two_pow_add_eq_or_of_lt (i := 8) (b := b) (by simpa using hb) a
  simp at this
  rw [Nat.mul_comm, this]

theorem u64_or_byte (a b : Nat) (ha : a ≤ 72057594037927935) (hb : b < 256) : bits .or .u64 (IntKind.u64.wrap ((a : Int) * 2 ^ (8 : Int).toNat)) (b : Int) = ((a * 256 + b : Nat) : Int) := by
  have h1 : a * 256 < 18446744073709551616 := Nat.lt_of_le_of_lt (Nat.mul_le_mul_right 256 ha) (by decide)
  have h2 : b < 18446744073709551616 := Nat.lt_trans hb (by decide)
  have h8 : (2 : Int) ^ (8 : Int).toNat = 256 := by decide
  have h3 : ((a * 256 : Nat) : Int) < ((18446744073709551616 : Nat) : Int) := Int.ofNat_lt.2 h1
  have h4 : ((a : Int) * 256) = ((a * 256 : Nat) : Int) := by rw [Int.natCast_mul]; rfl
  have h5 : ((a * 256 : Nat) : Int) % 18446744073709551616 = ((a * 256 : Nat) : Int) := Int.emod_eq_of_lt (Int.natCast_nonneg _) h3
  rw [h8, IntKind.wrap_u64, h4, h5, u64_or_nat (a * 256) b h1 h2, or_byte a b hb]

/-- k bytes hold the number (behind a name: great numerals stay out of the walks' sight). -/
def Fits (k m : Nat) : Prop := m < 256 ^ k

/-- The bytes in the middle of being written. -/
def midb (size i n : Nat) : List UInt8 := List.replicate (size - i) 0 ++ be i n

theorem midb_set (size i n : Nat) (h : i < size) : (midb size i n).set (size - 1 - i) (UInt8.ofNat (n / 256 ^ i)) = midb size (i + 1) n := by
  unfold midb
  rw [be]
  have e : size - i = (size - (i + 1)) + 1 := by omega
  rw [e, List.replicate_succ', List.append_assoc, List.set_append, if_neg (by simp; omega)]
  simp only [List.length_replicate]
  rw [show size - 1 - i - (size - (i + 1)) = 0 by omega]
  simp

theorem midb_done (size n : Nat) : midb size size n = be size n := by simp [midb]
theorem midb_start (size n : Nat) : midb size 0 n = List.replicate size 0 := by simp [midb, be]

theorem pow_shr (k : Nat) : (2 : Nat) ^ (8 * k) = 256 ^ k := by rw [Nat.pow_mul]

theorem shr_int (n k : Nat) : (n : Int) / 2 ^ (8 * (k : Int)).toNat = ((n / 256 ^ k : Nat) : Int) := by
  have e : (8 * (k : Int)).toNat = 8 * k := by omega
  rw [e, ← pow_shr]
  simp

theorem byte_wrap (m : Nat) : IntKind.u8.wrap (m : Int) = ((UInt8.ofNat m).toNat : Int) := by
  rw [IntKind.wrap_u8']; simp

theorem byte_rem (m : Nat) : IntKind.u8.wrap ((m : Int) % 256) = ((UInt8.ofNat m).toNat : Int) := by
  rw [IntKind.wrap_u8']; simp

theorem div_zero_iff (n k : Nat) : n / 256 ^ k = 0 ↔ Fits k n := by
  have hp : 0 < 256 ^ k := Nat.pow_pos (by decide)
  constructor
  · intro h; exact (Nat.div_eq_zero_iff_lt hp).1 h
  · intro h; exact Nat.div_eq_of_lt h

/-- Pieces, each behind its length. -/
def body (ls : List (List UInt8)) : List UInt8 := ls.flatMap fun p => be 2 p.length ++ p
/-- The joined text. -/
def joinB (ls : List (List UInt8)) : List UInt8 := UInt8.ofNat ls.length :: body ls
def joinOk (ls : List (List UInt8)) : Prop := ls.length ≤ 64 ∧ ∀ p ∈ ls, p.length ≤ 4096

theorem body_snoc (ls : List (List UInt8)) (p : List UInt8) : body (ls ++ [p]) = body ls ++ (be 2 p.length ++ p) := by simp [body]
theorem body_cons (p : List UInt8) (ls : List (List UInt8)) : body (p :: ls) = be 2 p.length ++ (p ++ body ls) := by simp [body]
theorem be_two (n : Nat) : be 2 n = [UInt8.ofNat (n / 256), UInt8.ofNat n] := by simp [be]
theorem body_le {ls : List (List UInt8)} (h : ∀ p ∈ ls, p.length ≤ 4096) : (body ls).length ≤ 4098 * ls.length := by
  induction ls with
  | nil => simp [body]
  | cons p r ih =>
    have h1 := h p (by simp)
    have h2 := ih (fun q hq => h q (by simp [hq]))
    rw [body_cons]
    simp only [List.length_append, be_length, List.length_cons]
    omega
theorem fits_two {n : Nat} (h : n ≤ 65535) : Fits 2 n := Nat.lt_of_le_of_lt h (by decide)

theorem i64_or_nat (a b : Nat) (ha : a < 4611686018427387904) (hb : b < 4611686018427387904) : bits .or .i64 (a : Int) (b : Int) = ((a ||| b : Nat) : Int) := by
  have hx : a ||| b < 2 ^ 62 := Nat.or_lt_two_pow (by omega) (by omega)
  have e1 : (BitVec.ofInt 64 (a : Int)).toNat = a := by rw [BitVec.ofInt_natCast, BitVec.toNat_ofNat]; exact Nat.mod_eq_of_lt (by omega)
  have e2 : (BitVec.ofInt 64 (b : Int)).toNat = b := by rw [BitVec.ofInt_natCast, BitVec.toNat_ofNat]; exact Nat.mod_eq_of_lt (by omega)
  show IntKind.i64.wrap ((BitVec.ofInt 64 (a : Int) ||| BitVec.ofInt 64 (b : Int)).toNat : Int) = _
  rw [BitVec.toNat_or, e1, e2, IntKind.wrap_i64]
  omega

theorem i64_shl8 (a : Nat) (ha : a < 65536) : IntKind.i64.wrap ((a : Int) * 2 ^ (8 : Int).toNat) = ((a * 256 : Nat) : Int) := by
  have h8 : (2 : Int) ^ (8 : Int).toNat = 256 := by decide
  rw [h8, IntKind.wrap_i64]
  omega

theorem i64_or_byte (a b : Nat) (ha : a < 65536) (hb : b < 256) : bits .or .i64 ((a * 256 : Nat) : Int) (b : Int) = ((a * 256 + b : Nat) : Int) := by
  rw [i64_or_nat _ _ (by omega) (by omega), or_byte a b hb]

/-! The joined text, cut: its error's number (0: none) and its pieces. -/
def cutB : Nat → List UInt8 → List (List UInt8) → Nat × List (List UInt8)
  | 0, [], acc => (0, acc)
  | 0, _ :: _, _ => (21, [])
  | k + 1, a :: b :: r, acc => if a.toNat * 256 + b.toNat > 4096 then (5, []) else if a.toNat * 256 + b.toNat > r.length then (20, []) else cutB k (r.drop (a.toNat * 256 + b.toNat)) (acc ++ [r.take (a.toNat * 256 + b.toNat)])
  | _ + 1, _, _ => (20, [])

def splitB : List UInt8 → Nat × List (List UInt8)
  | [] => (20, [])
  | n :: r => if n.toNat > 64 then (4, []) else cutB n.toNat r []

theorem splitB_cons (n : UInt8) (r : List UInt8) : splitB (n :: r) = if n.toNat > 64 then (4, []) else cutB n.toNat r [] := rfl

theorem cutB_short {k : Nat} {l : List UInt8} {acc : List (List UInt8)} (h : l.length < 2) : cutB (k + 1) l acc = (20, []) := by
  match l with
  | [] => rfl
  | [_] => rfl
  | a :: b :: r => simp at h; omega

theorem cutB_done {l : List UInt8} {acc : List (List UInt8)} : cutB 0 l acc = if l = [] then (0, acc) else (21, []) := by
  cases l <;> simp [cutB]

/-- The next piece's length, as it stands ahead of it. -/
def pre2 (l : List UInt8) : Nat := (l.getD 0 0).toNat * 256 + (l.getD 1 0).toNat

theorem cutB_next {k : Nat} {l : List UInt8} {acc : List (List UInt8)} (h : 2 ≤ l.length) : cutB (k + 1) l acc = if pre2 l > 4096 then (5, []) else if pre2 l > (l.drop 2).length then (20, []) else cutB k ((l.drop 2).drop (pre2 l)) (acc ++ [(l.drop 2).take (pre2 l)]) := by
  match l with
  | [] => simp at h
  | [_] => simp at h
  | a :: b :: r => rfl

theorem cutB_join : ∀ (ls acc : List (List UInt8)), (∀ p ∈ ls, p.length ≤ 4096) → cutB ls.length (body ls) acc = (0, acc ++ ls)
  | [], acc, _ => by simp [cutB, body]
  | p :: ls, acc, h => by
    have hp : p.length ≤ 4096 := h p (by simp)
    rw [body_cons, be_two, List.length_cons]
    show cutB (ls.length + 1) (UInt8.ofNat (p.length / 256) :: UInt8.ofNat p.length :: (p ++ body ls)) acc = _
    rw [cutB_next (by simp)]
    have e : pre2 (UInt8.ofNat (p.length / 256) :: UInt8.ofNat p.length :: (p ++ body ls)) = p.length := by
      simp [pre2]; omega
    rw [e, if_neg (by omega), if_neg (by simp)]
    simp only [List.drop_succ_cons, List.drop_zero, List.drop_left, List.take_left]
    rw [cutB_join ls _ (fun q hq => h q (by simp [hq]))]
    simp

theorem split_join {ls : List (List UInt8)} (h : joinOk ls) : splitB (joinB ls) = (0, ls) := by
  have h1 := h.1
  have e : (UInt8.ofNat ls.length).toNat = ls.length := by simp [Nat.mod_eq_of_lt (show ls.length < 256 by omega)]
  unfold joinB
  rw [splitB_cons, e, if_neg (by omega), cutB_join ls [] h.2]; rfl

theorem be_pre2 (l : List UInt8) (h : 2 ≤ l.length) : l = be 2 (pre2 l) ++ l.drop 2 := by
  match l, h with
  | a :: b :: r, _ =>
    have ha := a.toNat_lt
    have hb := b.toNat_lt
    have e5 : pre2 (a :: b :: r) = a.toNat * 256 + b.toNat := rfl
    have h6 : UInt8.ofNat ((a.toNat * 256 + b.toNat) / 256) = a := UInt8.toNat_inj.1 (by simp; omega)
    have h7 : UInt8.ofNat (a.toNat * 256 + b.toNat) = b := UInt8.toNat_inj.1 (by simp)
    rw [be_two, e5, h6, h7]; rfl

theorem cutB_ok : ∀ (k : Nat) (l : List UInt8) (acc ls : List (List UInt8)), cutB k l acc = (0, ls) → ∃ ls', ls = acc ++ ls' ∧ ls'.length = k ∧ (∀ p ∈ ls', p.length ≤ 4096) ∧ l = body ls'
  | 0, l, acc, ls, h => by
    rw [cutB_done] at h
    split at h
    · rename_i hl
      simp at h
      exact ⟨[], by simp [h], rfl, by simp, by simp [hl, body]⟩
    · simp at h
  | k + 1, l, acc, ls, h => by
    by_cases h2 : 2 ≤ l.length
    · rw [cutB_next h2] at h
      split at h
      · simp at h
      · split at h
        · simp at h
        · rename_i h3 h4
          obtain ⟨ls', e1, e2, e3, e4⟩ := cutB_ok k _ _ _ h
          have hlen : ((l.drop 2).take (pre2 l)).length = pre2 l := by rw [List.length_take]; omega
          refine ⟨(l.drop 2).take (pre2 l) :: ls', by simp [e1], by simp [e2], fun p hp => ?_, ?_⟩
          · rcases List.mem_cons.1 hp with rfl | hp
            · omega
            · exact e3 p hp
          · rw [body_cons, hlen, ← e4, List.take_append_drop]
            exact be_pre2 l h2
    · rw [cutB_short (by omega)] at h; simp at h

theorem split_ok {l : List UInt8} {ls : List (List UInt8)} (h : splitB l = (0, ls)) : joinOk ls ∧ joinB ls = l := by
  cases l with
  | nil => simp [splitB] at h
  | cons n r =>
    rw [splitB_cons] at h
    split at h
    · simp at h
    · obtain ⟨ls', e1, e2, e3, e4⟩ := cutB_ok _ _ _ _ h
      simp at e1
      subst e1
      refine ⟨⟨by omega, e3⟩, ?_⟩
      unfold joinB
      rw [e2, ← e4]; simp

theorem cutB_err : ∀ (k : Nat) (l : List UInt8) (acc : List (List UInt8)), (cutB k l acc).1 ≠ 0 → (cutB k l acc).2 = []
  | 0, l, acc => by rw [cutB_done]; split <;> simp
  | k + 1, l, acc => by
    by_cases h2 : 2 ≤ l.length
    · rw [cutB_next h2]
      split
      · simp
      · split
        · simp
        · exact cutB_err k _ _
    · rw [cutB_short (by omega)]; simp
theorem split_err (l : List UInt8) (h : (splitB l).1 ≠ 0) : (splitB l).2 = [] := by
  cases l with
  | nil => rfl
  | cons n r =>
    rw [splitB_cons] at h ⊢
    split at h
    · rename_i h1; rw [if_pos h1]
    · rename_i h1; rw [if_neg h1]; exact cutB_err _ _ _ h
end Go.Pl
