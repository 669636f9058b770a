/- The rules of the walks, continued: bytes that are read, owned or not: a view. -/
import Derived.Test.YtcfecmoagfgnaaaVcSet
namespace Go.Vc

/-- Whatever else is owned on top, and whatever worlds are kept beside: there these bytes lie. -/
def Vw (S : List Snap) (H : List Chunk) (p : Option Addr) (l : List UInt8) (c : Nat) : Prop :=
  ∀ S' A w', (∀ s ∈ S, s ∈ S') → Own S' (A ++ H) w' → Bytes [] w' p l c

theorem Arr.bare {X : Type} {sz : Nat} {R : Rel X} {K : List Nat} {w : World} {p : Option Addr} {xs : List X} {c : Nat} (h : Arr sz R K w p xs c) (hR : Mono R) : Arr sz R [] w p xs c :=
  Arr.after (s := ⟨w, K⟩) h hR ⟨⟨rfl, rfl, rfl, Nat.le_refl _, fun _ _ _ => rfl⟩, by simp⟩

theorem Vw.of {S : List Snap} {H : List Chunk} {s : Snap} {p : Option Addr} {l : List UInt8} {c : Nat} (hs : s ∈ S) (h : Bytes s.K s.w p l c) : Vw S H p l c :=
  fun _ _ _ hS ho => (h.now Mono.byte ho (hS s hs)).bare Mono.byte

theorem Vw.up {S S1 : List Snap} {H : List Chunk} {p : Option Addr} {l : List UInt8} {c : Nat} (h : Vw S H p l c) (A : List Chunk) (hS : ∀ s ∈ S, s ∈ S1) : Vw S1 (A ++ H) p l c :=
  fun S' B w' h1 ho => h S' (B ++ A) w' (fun s hs => h1 s (hS s hs)) (by rw [List.append_assoc]; exact ho)

theorem Vw.ofRow {S : List Snap} {H : List Chunk} {e : TypeId} {g : Option Nat} {c m : Nat} {xs : List Value} {l : List UInt8} (i : Nat) (hi : H[i]? = some (row e 1 g m c xs)) (hm : m = l.length) (hx : xs = l.map bv) : Vw S H (g.map fun g => ⟨g, 0, none⟩) l c :=
  fun S' A w' _ ho => by
    have hi2 : (A ++ H)[A.length + i]? = some (row e 1 g m c xs) := by rw [List.getElem?_append_right (by omega), Nat.add_sub_cancel_left]; exact hi
    exact ((ho.perm (perm_at hi2).symm).letBytes hm hx).bare Mono.byte

section
variable {P : Program} {n : Nat} {Q : Exit → Act → World → Prop} {σ : Sl} {G : World → Prop} {ops : Array Oper} {rest : List Oper}
variable {d : Nat} {ty : TypeId} {pos : String} {aft : Array Edge}
variable {S : List Snap} {H H' : List Chunk}

theorem VL.byteV {t : TypeId} {x : Operand} {p : Option Addr} {c : Nat} {l : List UInt8} {o : Nat} {y : UInt8} (hx : ev σ x = some (pAt p o)) (ht : kindOf P t = some none) (hA : ∀ w, G w → Bytes [] w p l c)
    (hj : l[o]? = some y) (k : VL P n ops Q rest ((d, .int .u8 y.toNat) :: σ) G) (hdn : Nat.blt d n = true := by rfl) : VL P n ops Q (⟨some d, .load t x, ty, pos, aft, none⟩ :: rest) σ G :=
  VL.val rfl rfl hdn (fun b w hb hw => by
    obtain ⟨vs, a, rfl, hl, hr, hc⟩ := (hA w hw).cell hj
    have hr : vs = [bv y] := hr
    subst hr
    have hcell := hc 0 (bv y) rfl
    have hx' := hb.ev hx
    simp only [pAt, Option.map_some] at hx'
    rw [Nat.mul_one, Nat.add_zero] at hcell
    simp [execOp, hx', run_load_cell ht hcell, bv]) k

theorem VL.dropV {t e : TypeId} {c : Nat} {x o : Operand} {k : IntKind} {l : List UInt8} {p : Option Addr} {w' : World} (a : Nat) (hx : ev σ x = some (.slice p l.length c)) (ho : ev σ o = some (.int k (a : Int))) (ht : P.underlying t = some (.slice e)) (hsz : (P.info? e).map (·.size) = some 1) (hO : Own S H w') (hV : Vw S H p l c) (ha : a ≤ l.length)
    (h : ∀ p', Vw S H p' (l.drop a) (c - a) → VL P n ops Q rest ((d, .slice p' (l.drop a).length (c - a)) :: σ) G) (hdn : Nat.blt d n = true := by rfl) : VL P n ops Q (⟨some d, .slice t x (some o) none none, ty, pos, aft, none⟩ :: rest) σ G := by
  have hA := hV S [] w' (fun _ h => h) hO
  have hle := hA.le
  refine VL.val rfl rfl hdn (fun b' w hb' _ => ?_) (h (if c = a then p else p.map (·.add (a * 1))) (fun S' A w2 h1 h2 => (hV S' A w2 h1 h2).drop a (by omega)))
  have := run_sliceAt (P := P) (w := w) (p := p) (m := l.length) (c := c) (a := a) (b := l.length) (hi := none) (lo := some (.int k (a : Int))) ht hsz (.inr ⟨k, rfl⟩) (.inl ⟨rfl, rfl⟩) ha hle
  simp only [Nat.mul_one] at this
  simp [execOp, hb'.ev hx, hb'.ev ho, this]

theorem VL.takeV {t e : TypeId} {c : Nat} {x o : Operand} {k : IntKind} {l : List UInt8} {p : Option Addr} {w' : World} (b : Nat) (hx : ev σ x = some (.slice p l.length c)) (ho : ev σ o = some (.int k (b : Int))) (ht : P.underlying t = some (.slice e)) (hsz : (P.info? e).map (·.size) = some 1) (hO : Own S H w') (hV : Vw S H p l c) (hb : b ≤ l.length)
    (h : ∀ p', Vw S H p' (l.take b) c → VL P n ops Q rest ((d, .slice p' (l.take b).length c) :: σ) G) (hdn : Nat.blt d n = true := by rfl) : VL P n ops Q (⟨some d, .slice t x none (some o) none, ty, pos, aft, none⟩ :: rest) σ G := by
  have hA := hV S [] w' (fun _ h => h) hO
  have hle := hA.le
  refine VL.val rfl rfl hdn (fun b' w hb' _ => ?_) (h p (fun S' A w2 h1 h2 => (hV S' A w2 h1 h2).take b))
  have := run_sliceAt (P := P) (w := w) (p := p) (m := l.length) (c := c) (a := 0) (b := b) (lo := none) (hi := some (.int k (b : Int))) ht hsz (.inl ⟨rfl, rfl⟩) (.inr ⟨k, rfl⟩) (Nat.zero_le _) (by omega)
  have e1 : (if c = 0 then p else p.map (·.add (0 * 1))) = p := by
    split
    · rfl
    · cases p <;> simp [Addr.add]
  rw [e1] at this
  have hmin : min b l.length = b := Nat.min_eq_left hb
  simp [execOp, hb'.ev hx, hb'.ev ho, this, hmin]

/-- A row of something has a block. -/
theorem VC.someRow {e : TypeId} {sz m c : Nat} {g : Option Nat} {xs : List Value} {code : Code} (hm : 0 < m) (h : ∀ g', g = some g' → VC P n Q code σ (Own S (row e sz g m c xs :: H))) : VC P n Q code σ (Own S (row e sz g m c xs :: H)) := fun a w ha hw => by
  obtain ⟨hrow, _⟩ := hw.holds (row e sz g m c xs) (by simp)
  have hs := ownsRow_sizes hrow
  cases g with
  | none => have := hs.2.2.2.1 rfl; omega
  | some g' => exact h g' rfl a w ha hw

theorem VL.rowByte {t e : TypeId} {x : Operand} {g m c j : Nat} {l : List UInt8} {y : UInt8} (i : Nat) (hx : ev σ x = some (.pointer (some ⟨g, j, none⟩))) (ht : kindOf P t = some none) (hG : ∀ w, G w → Own S H w) (hi : H[i]? = some (row e 1 (some g) m c (l.map bv))) (hy : l[j]? = some y)
    (k : VL P n ops Q rest ((d, bv y) :: σ) G) (hdn : Nat.blt d n = true := by rfl) : VL P n ops Q (⟨some d, .load t x, ty, pos, aft, none⟩ :: rest) σ G :=
  VL.val rfl rfl hdn (fun b w hb hw => by
    obtain ⟨hrow, _⟩ := (hG w hw).holds _ (List.mem_of_getElem? hi)
    have hc := hrow.cells (g := g) rfl j (bv y) (by rw [List.getElem?_map, hy]; rfl)
    rw [add_lit, Nat.zero_add] at hc
    simp [execOp, hb.ev hx, run_load_cell ht hc]) k

def vwF {K : List Nat} (S : List Snap) (H : List Chunk) (l : List UInt8) : SFact K := ⟨fun v _ => ∃ p c, v = .slice p l.length c ∧ Vw S H p l c, false, fun _ _ _ _ _ h => h⟩
end
end Go.Vc
