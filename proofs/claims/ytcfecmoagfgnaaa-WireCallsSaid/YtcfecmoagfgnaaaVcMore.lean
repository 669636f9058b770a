/- The rules of the walks, continued: small ones. -/
import Derived.Test.YtcfecmoagfgnaaaTab
import Derived.WalkSpells
namespace Go.Vc

theorem ok1_bytes (l : List UInt8) : ok1 (l.map bv) := fun v hv => by
  obtain ⟨b, _, rfl⟩ := List.mem_map.1 hv
  rfl

theorem byte_val {n : Nat} (h : n < 256) : Value.int .u8 (n : Int) = bv (UInt8.ofNat n) := by
  have : (UInt8.ofNat n).toNat = n := by simp [Nat.mod_eq_of_lt h]
  unfold bv; rw [this]

/-- The cells of a row that is owned. -/
theorem Own.rowCells {S : List Snap} {H : List Chunk} {w : World} (h : Own S H w) {e : TypeId} {sz : Nat} {g : Option Nat} {m c : Nat} {xs : List Value} (i : Nat) (hi : H[i]? = some (row e sz g m c xs)) : CellsAt w (g.map fun g => ⟨g, 0, none⟩) xs := by
  obtain ⟨hrow, _⟩ := h.holds _ (List.mem_of_getElem? hi)
  have hs := ownsRow_sizes hrow
  cases g with
  | none =>
    refine .inl ⟨rfl, ?_⟩
    have h0 := hs.2.2.2.1 rfl
    have hm : m = 0 := by omega
    subst hm
    exact List.eq_nil_of_length_eq_zero (by simpa using hs.1)
  | some g0 => exact .inr ⟨_, rfl, hrow.cells (g := g0) rfl⟩

theorem Arr.small {X : Type} {sz : Nat} {R : Rel X} {K : List Nat} {w : World} {p : Option Addr} {xs : List X} {c : Nat} (h : Arr sz R K w p xs c) : xs.length ≤ 9223372036854775807 := by
  have h1 := h.le
  have h2 := h.cap
  simp only [maxLen] at h2
  omega

section
variable {P : Program} {n : Nat} {Q : Exit → Act → World → Prop} {σ : Sl} {G : World → Prop} {ops : Array Oper} {rest : List Oper}
variable {d : Nat} {ty : TypeId} {pos : String} {aft : Array Edge}

/-- The guard itself was passed over. -/
theorem VL.passu {o : Oper} {j t : Nat} {b : Bool} (hg : o.guard = some (j, b)) (ho : o.dst = some d) (hd : (ops[j]?).bind (·.dst) = some t) (ht : look σ t = some undef) (h : VL P n ops Q rest ((d, undef) :: σ) G) (hdn : Nat.blt d n = true := by rfl) : VL P n ops Q (o :: rest) σ G := by
  intro a w ha hw
  have hy : yielded ops a.tmps j = none := by
    have := ha.at_ t _ ht
    rw [Array.getD_eq_getD_getElem?] at this
    unfold yielded
    rw [hd]
    simp only [Option.bind_some]
    cases e : a.tmps[t]? with
    | none => rfl
    | some u => simp [e] at this; rw [this]; rfl
  unfold wpList
  have h2 : Region.wanted o (yielded ops a.tmps) = false := by
    simp only [Region.wanted, hg, hy]
    rfl
  rw [if_neg (by simp [h2]), ho]
  exact h _ _ (ha.put hdn) hw

/-- A slice against nil. -/
theorem VL.eqnil {x y : Operand} {t ty' e : TypeId} {p : Option Addr} {m c : Nat} (ht : P.underlying t = some (.slice e)) (hx : ev σ x = some (.slice p m c)) (hy : ev σ y = some (.slice none 0 0)) (h : VL P n ops Q rest ((d, .bool p.isNone) :: σ) G) (hdn : Nat.blt d n = true := by rfl) : VL P n ops Q (⟨some d, .binOp .eql t x y ty', ty, pos, aft, none⟩ :: rest) σ G :=
  VL.val rfl rfl hdn (fun c' w ha _ => by
    have e2 : eqGuard .eql t x y (.slice p m c) (.slice none 0 0) = pure () := rfl
    have := Lib.run_eql_slice_nil (P := P) w t e p m c 0 0 ht
    simp [execOp, ha.ev hx, ha.ev hy, e2, this]) h
end
end Go.Vc
