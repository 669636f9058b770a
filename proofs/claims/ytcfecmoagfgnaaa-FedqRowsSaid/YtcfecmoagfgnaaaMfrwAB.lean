/- The statement FedqRows is proved, for every input: part 2 of 21 of the texts that it needs. -/
import Derived.Test.YtcfecmoagfgnaaaMfrwAA
import Derived.Laws.BytesString
import Derived.Test.YtcfecmoagfgnaaaRows
import Derived.WalkSpells
/- The rules of the walks, continued: slices that are only read (a fact of a world as it was), and slices that the call itself makes (a chunk). -/
namespace Go.Vc

/-- How an element's cells read as x, in a world, off blocks that are not of K. -/
abbrev Rel (X : Type) := List Nat → World → List Value → X → Prop

/-- The world turns elsewhere alone. -/
def After (s : Snap) (K' : List Nat) (w : World) : Prop := s.ok w ∧ ∀ k ∈ K', k ∈ s.K ∨ s.w.heap.size ≤ k

def Mono {X : Type} (R : Rel X) : Prop := ∀ s K' w vs x, After s K' w → R s.K s.w vs x → R K' w vs x

/-- The address of cell o behind the slice's beginning. -/
def pAt (p : Option Addr) (o : Nat) : Value := .pointer (p.map fun a => ⟨a.block, a.off + o, none⟩)

structure Arr {X : Type} (sz : Nat) (R : Rel X) (K : List Nat) (w : World) (p : Option Addr) (xs : List X) (c : Nat) : Prop where
  le : xs.length ≤ c
  cap : c ≤ maxLen
  nil : p = none → c = 0
  at_ : ∀ a, p = some a → 0 < c → a.spot = none ∧ a.block ∉ K ∧ a.block < w.heap.size ∧ ∃ cs e fr, w.heap[a.block]? = some (.cells cs e fr) ∧
    ∀ j x, xs[j]? = some x → ∃ vs, vs.length = sz ∧ R K w vs x ∧ ∀ i v, vs[i]? = some v → cs[a.off + (j * sz + i)]? = some v

/-- A slice's value. -/
def RV {X : Type} (sz : Nat) (R : Rel X) : Rel (List X) := fun K w vs xs => ∃ p c, vs = [.slice p xs.length c] ∧ Arr sz R K w p xs c

def bv (b : UInt8) : Value := .int .u8 b.toNat
def byteR : Rel UInt8 := fun _ _ vs b => vs = [bv b]
abbrev Bytes (K : List Nat) (w : World) (p : Option Addr) (l : List UInt8) (c : Nat) : Prop := Arr 1 byteR K w p l c
abbrev bytesR : Rel (List UInt8) := RV 1 byteR

theorem Mono.byte : Mono byteR := fun _ _ _ _ _ _ h => h

theorem Arr.after {X : Type} {sz : Nat} {R : Rel X} {s : Snap} {K' : List Nat} {w : World} {p : Option Addr} {xs : List X} {c : Nat} (h : Arr sz R s.K s.w p xs c) (hR : Mono R) (ha : After s K' w) : Arr sz R K' w p xs c :=
 ⟨h.le, h.cap, h.nil, fun a e hc => by
  obtain ⟨h1, h2, h3, cs, el, fr, hg, hx⟩ := h.at_ a e hc
  refine ⟨h1, fun hk => ?_, Nat.lt_of_lt_of_le h3 ha.1.size, cs, el, fr, (ha.1.block _ h3 h2).trans hg, fun j x hj => ?_⟩
  ·rcases ha.2 _ hk with h4 | h4
   ·exact h2 h4
   ·omega
  ·obtain ⟨vs, e1, e2, e3⟩ := hx j x hj
   exact ⟨vs, e1, hR s K' w vs x ha e2, e3⟩⟩

theorem Mono.slice {X : Type} {sz : Nat} {R : Rel X} (hR : Mono R) : Mono (RV sz R) := fun _ _ _ _ _ ha ⟨p, c, e, h⟩ => ⟨p, c, e, h.after hR ha⟩

theorem Own.after {S : List Snap} {H : List Chunk} {w : World} (h : Own S H w) {s : Snap} (hs : s ∈ S) : After s (keys H) w := h.snap s hs

theorem Arr.now {X : Type} {sz : Nat} {R : Rel X} {S : List Snap} {H : List Chunk} {s : Snap} {w : World} {p : Option Addr} {xs : List X} {c : Nat} (h : Arr sz R s.K s.w p xs c) (hR : Mono R) (ho : Own S H w) (hs : s ∈ S) : Arr sz R (keys H) w p xs c :=
 h.after hR (ho.after hs)

theorem Arr.isAt {X : Type} {sz : Nat} {R : Rel X} {K : List Nat} {w : World} {p : Option Addr} {xs : List X} {c : Nat} (h : Arr sz R K w p xs c) (hn : 0 < xs.length) : ∃ a, p = some a := by
 cases p with
 | none => have := h.nil rfl; have := h.le; omega
 | some a => exact ⟨a, rfl⟩

theorem Arr.take {X : Type} {sz : Nat} {R : Rel X} {K : List Nat} {w : World} {p : Option Addr} {xs : List X} {c : Nat} (h : Arr sz R K w p xs c) (m : Nat) : Arr sz R K w p (xs.take m) c :=
 ⟨by have := h.le; simp; omega, h.cap, h.nil, fun a e hc => by
  obtain ⟨h1, h2, h3, cs, el, fr, hg, hx⟩ := h.at_ a e hc
  refine ⟨h1, h2, h3, cs, el, fr, hg, fun j x hj => hx j x ?_⟩
  rw [List.getElem?_take] at hj
  split at hj
  ·exact hj
  ·cases hj⟩

/-- Cut off at the front. -/
theorem Arr.drop {X : Type} {sz : Nat} {R : Rel X} {K : List Nat} {w : World} {p : Option Addr} {xs : List X} {c : Nat} (h : Arr sz R K w p xs c) (m : Nat) (hm : m ≤ c) :
  Arr sz R K w (if c = m then p else p.map (·.add (m * sz))) (xs.drop m) (c - m) := by
 refine ⟨by have := h.le; simp; omega, by have := h.cap; omega, fun e => ?_, fun a e hc0 => ?_⟩
 ·split at e
  ·omega
  ·cases p with
   | none => have := h.nil rfl; omega
   | some a => simp at e
 ·split at e
  ·omega
  ·cases p with
   | none => simp at e
   | some b =>
    obtain ⟨h1, h2, h3, cs, el, fr, hg, hx⟩ := h.at_ b rfl (by omega)
    simp at e
    have hb : a.block = b.block ∧ a.spot = none ∧ a.off = b.off + m * sz := by
     rw [← e]
     unfold Addr.add
     split
     ·rename_i h0; simp [h0, h1]
     ·simp
    refine ⟨hb.2.1, by rw [hb.1]; exact h2, by rw [hb.1]; exact h3, cs, el, fr, by rw [hb.1]; exact hg, fun j x hj => ?_⟩
    rw [List.getElem?_drop] at hj
    obtain ⟨vs, e1, e2, e3⟩ := hx _ x hj
    refine ⟨vs, e1, e2, fun i v hv => ?_⟩
    rw [hb.2.2, ← e3 i v hv]
    congr 1
    rw [Nat.add_mul]; omega

/-- What the first cells of a slice hold. -/
def CellsAt (w : World) (p : Option Addr) (news : List Value) : Prop := (p = none ∧ news = []) ∨ ∃ a, p = some a ∧ ∀ j u, news[j]? = some u → w.cell? (a.add j) = some u

theorem Arr.bytes {K : List Nat} {w : World} {p : Option Addr} {l : List UInt8} {c : Nat} (h : Bytes K w p l c) : CellsAt w p (l.map bv) := by
 cases p with
 | none =>
  have := h.nil rfl; have := h.le
  have e : l = [] := List.eq_nil_of_length_eq_zero (by omega)
  exact .inl ⟨rfl, by simp [e]⟩
 | some a =>
  refine .inr ⟨a, rfl, fun j u hu => ?_⟩
  rw [List.getElem?_map] at hu
  cases hb : l[j]? with
  | none => simp [hb] at hu
  | some b =>
   obtain ⟨h1, h2, h3, cs, el, fr, hg, hx⟩ := h.at_ a rfl (by have := (List.getElem?_eq_some_iff.1 hb).1; have := h.le; omega)
   simp [hb] at hu
   obtain ⟨vs, e1, e2, e3⟩ := hx j b hb
   have := e3 0 (bv b) (by rw [e2]; rfl)
   have ha : a.add j = ⟨a.block, a.off + j, none⟩ := by
    obtain ⟨ab, ao, asp⟩ := a
    simp at h1; subst h1
    exact add_lit _ _ _
   rw [ha]
   simp only [World.cell?, hg]
   simpa [← hu] using this

section
variable {P : Program} {n : Nat} {Q : Exit → Act → World → Prop} {σ : Sl} {G : World → Prop} {ops : Array Oper} {rest : List Oper}
variable {d : Nat} {ty : TypeId} {pos : String} {aft : Array Edge}
variable {S : List Snap} {H H' : List Chunk}
variable {X : Type} {sz : Nat} {R : Rel X} {s : Snap} {p : Option Addr} {xs : List X} {c : Nat}

theorem run_indexAt {t e : TypeId} {K : List Nat} {w w' : World} (ht : P.underlying t = some (.slice e)) (hsz : (P.info? e).map (·.size) = some sz) (h : Arr sz R K w' p xs c) {k : IntKind} {i : Int} (h0 : 0 ≤ i) (h1 : i < xs.length) :
  (Instr.indexAt t (.slice p xs.length c) (.int k i)).run P w = .ok (pAt p (i.toNat * sz)) w := by
 obtain ⟨a, rfl⟩ := h.isAt (by omega)
 obtain ⟨h2, _⟩ := h.at_ a rfl (by have := h.le; omega)
 cases hi : P.info? e with
 | none => simp [hi] at hsz
 | some inf =>
  simp [hi] at hsz
  have ha : a.add (i.toNat * sz) = ⟨a.block, a.off + i.toNat * sz, none⟩ := by
   obtain ⟨ab, ao, asp⟩ := a
   simp at h2; subst h2
   exact add_lit _ _ _
  simp [Instr.indexAt, asIntOf, run_underlying ht, h0, h1, sizeOf, typeInfo, hi, hsz, pAt, ha]

theorem VL.index {x y : Operand} {t e : TypeId} {k : IntKind} {i : Int} {K : List Nat} {w' : World} (hx : ev σ x = some (.slice p xs.length c)) (hy : ev σ y = some (.int k i)) (ht : P.underlying t = some (.slice e)) (hsz : (P.info? e).map (·.size) = some sz) (hA : Arr sz R K w' p xs c)
  (h0 : 0 ≤ i) (h1 : i < xs.length) (h : VL P n ops Q rest ((d, pAt p (i.toNat * sz)) :: σ) G) (hdn : Nat.blt d n = true := by rfl) : VL P n ops Q (⟨some d, .indexAddr t x y, ty, pos, aft, none⟩ :: rest) σ G :=
 VL.val rfl rfl hdn (fun a w ha _ => by simp [execOp, ha.ev hx, ha.ev hy, run_indexAt ht hsz hA h0 h1]) h

theorem VL.fieldAt {x : Operand} {s : TypeId} {f off o : Nat} (hx : ev σ x = some (pAt p o)) (hp : p.isSome = true) (hf : fieldOff P s f = some off)
  (k : VL P n ops Q rest ((d, pAt p (o + off)) :: σ) G) (hdn : Nat.blt d n = true := by rfl) : VL P n ops Q (⟨some d, .fieldAddr s x f, ty, pos, aft, none⟩ :: rest) σ G := by
 cases p with
 | none => simp at hp
 | some a =>
  refine VL.fieldAddr (g := a.block) (o := a.off + o) (off := off) (o' := a.off + (o + off)) (by simpa [pAt] using hx) hf (by omega) ?_ hdn
  simpa [pAt] using k

/-- The element's cells, read. -/
theorem Arr.cell {K : List Nat} {w : World} (h : Arr sz R K w p xs c) {j : Nat} {x : X} (hj : xs[j]? = some x) : ∃ vs a, p = some a ∧ vs.length = sz ∧ R K w vs x ∧ ∀ i v, vs[i]? = some v → w.cell? ⟨a.block, a.off + (j * sz + i), none⟩ = some v := by
 obtain ⟨a, rfl⟩ := h.isAt (by have := (List.getElem?_eq_some_iff.1 hj).1; omega)
 obtain ⟨_, _, _, cs, el, fr, hg, hx⟩ := h.at_ a rfl (by have := (List.getElem?_eq_some_iff.1 hj).1; have := h.le; omega)
 obtain ⟨vs, e1, e2, e3⟩ := hx j x hj
 exact ⟨vs, a, rfl, e1, e2, fun i v hv => by simp [World.cell?, hg, e3 i v hv]⟩

/-- A cell of element j: cell number i of it. -/
theorem VL.elem {t : TypeId} {x : Operand} {o : Nat} (j i : Nat) {y : X} (hx : ev σ x = some (pAt p o)) (ht : kindOf P t = some none) (hG : ∀ w, G w → Own S H w) (hs : s ∈ S) (hR : Mono R) (hA : Arr sz R s.K s.w p xs c)
  (hj : xs[j]? = some y) (ho : o = j * sz + i) (hi : i < sz)
  (k : ∀ vs v, vs.length = sz → R s.K s.w vs y → vs[i]? = some v → VL P n ops Q rest ((d, v) :: σ) G) (hdn : Nat.blt d n = true := by rfl) : VL P n ops Q (⟨some d, .load t x, ty, pos, aft, none⟩ :: rest) σ G := by
 obtain ⟨vs, a, rfl, hl, hr, hc⟩ := hA.cell hj
 have hv : vs[i]? = some vs[i] := List.getElem?_eq_getElem (by omega)
 refine VL.val rfl rfl hdn (fun b w hb hw => ?_) (k vs vs[i] hl hr hv)
 obtain ⟨vs', a', e, hl', _, hc'⟩ := (hA.now hR (hG w hw) hs).cell hj
 cases e
 obtain ⟨h1, h2, h3, cs, el, fr, hg, _⟩ := hA.at_ a rfl (by have := (List.getElem?_eq_some_iff.1 hj).1; have := hA.le; omega)
 have hsame : w.cell? ⟨a.block, a.off + (j * sz + i), none⟩ = some vs[i] := by
  have := hc i _ hv
  have hb := ((hG w hw).after hs).1.block a.block h3 h2
  rw [← this]
  simp only [World.cell?, hb]
 have hx' := hb.ev hx
 simp only [pAt, Option.map_some] at hx'
 subst ho
 simp [execOp, hx', run_load_cell ht hsame]

/-- A struct or array within element j. -/
theorem VL.elems {t : TypeId} {x : Operand} {o m : Nat} (j i : Nat) {y : X} (hx : ev σ x = some (pAt p o)) (ht : kindOf P t = some (some m)) (hG : ∀ w, G w → Own S H w) (hs : s ∈ S) (hA : Arr sz R s.K s.w p xs c)
  (hj : xs[j]? = some y) (ho : o = j * sz + i) (hi : i + m ≤ sz)
  (k : ∀ vs, vs.length = sz → R s.K s.w vs y → VL P n ops Q rest ((d, .agg ((vs.drop i).take m).toArray) :: σ) G) (hdn : Nat.blt d n = true := by rfl) : VL P n ops Q (⟨some d, .load t x, ty, pos, aft, none⟩ :: rest) σ G := by
 obtain ⟨vs, a, rfl, hl, hr, hc⟩ := hA.cell hj
 refine VL.val rfl rfl hdn (fun b w hb hw => ?_) (k vs hl hr)
 obtain ⟨h1, h2, h3, cs, el, fr, hg, _⟩ := hA.at_ a rfl (by have := (List.getElem?_eq_some_iff.1 hj).1; have := hA.le; omega)
 have hbk := ((hG w hw).after hs).1.block a.block h3 h2
 have hlen : ((vs.drop i).take m).length = m := by simp; omega
 have hcell : ∀ q v, ((vs.drop i).take m)[q]? = some v → w.cell? ((⟨a.block, a.off + o, none⟩ : Addr).add q) = some v := by
  intro q v hq
  rw [List.getElem?_take] at hq
  split at hq
  ·rw [List.getElem?_drop] at hq
   have := hc (i + q) v hq
   rw [add_lit, ← this]
   subst ho
   rw [show a.off + (j * sz + i) + q = a.off + (j * sz + (i + q)) by omega]
   simp only [World.cell?, hbk]
  ·cases hq
 have hx' := hb.ev hx
 simp only [pAt, Option.map_some] at hx'
 simp [execOp, hx', run_load_agg (by rw [hlen]; exact ht) hcell]

/-- A byte. -/
theorem VL.byte {t : TypeId} {x : Operand} {l : List UInt8} {o : Nat} {y : UInt8} (hx : ev σ x = some (pAt p o)) (ht : kindOf P t = some none) (hG : ∀ w, G w → Own S H w) (hs : s ∈ S) (hA : Bytes s.K s.w p l c)
  (hj : l[o]? = some y) (k : VL P n ops Q rest ((d, .int .u8 y.toNat) :: σ) G) (hdn : Nat.blt d n = true := by rfl) : VL P n ops Q (⟨some d, .load t x, ty, pos, aft, none⟩ :: rest) σ G :=
 VL.elem o 0 hx ht hG hs Mono.byte hA hj (by omega) (by omega) (fun vs v _ hr hv => by
  rw [hr] at hv
  simp at hv
  subst hv
  exact k) hdn

/-- 'x[lo:hi]' -/
theorem run_sliceAt {t e : TypeId} {w : World} (ht : P.underlying t = some (.slice e)) (hsz : (P.info? e).map (·.size) = some sz) {p : Option Addr} {m c : Nat} {lo hi : Option Value} {a b : Nat}
  (hlo : (lo = none ∧ a = 0) ∨ ∃ k, lo = some (.int k (a : Int))) (hhi : (hi = none ∧ b = m) ∨ ∃ k, hi = some (.int k (b : Int))) (hab : a ≤ b) (hbc : b ≤ c) :
  (Instr.sliceAt t (.slice p m c) lo hi none).run P w = .ok (.slice (if c = a then p else p.map (·.add (a * sz))) (b - a) (c - a)) w := by
 cases hinf : P.info? e with
 | none => simp [hinf] at hsz
 | some inf =>
  simp [hinf] at hsz
  have h1 : (0 : Int) ≤ b ∧ (b : Int) ≤ c := by omega
  have h2 : (0 : Int) ≤ a ∧ (a : Int) ≤ b := by omega
  rcases hlo with ⟨rfl, rfl⟩ | ⟨k, rfl⟩ <;> rcases hhi with ⟨rfl, rfl⟩ | ⟨k', rfl⟩ <;>
   simp [Instr.sliceAt, Instr.slice, run_underlying ht, Instr.sliceBounds, Instr.sliceBound, asIntOf, sizeOf, typeInfo, hinf, hsz, h1, h2, hab, hbc]

theorem VL.cut {t e : TypeId} {x : Operand} {lo hi : Option Operand} {vlo vhi : Option Value} {K : List Nat} {w' : World} (a b : Nat) (hx : ev σ x = some (.slice p xs.length c)) (ht : P.underlying t = some (.slice e)) (hsz : (P.info? e).map (·.size) = some sz) (hA : Arr sz R K w' p xs c)
  (hlo : lo.bind (ev σ) = vlo) (hlo' : lo.isSome = vlo.isSome) (hhi : hi.bind (ev σ) = vhi) (hhi' : hi.isSome = vhi.isSome)
  (ha : (vlo = none ∧ a = 0) ∨ ∃ k, vlo = some (.int k (a : Int))) (hb : (vhi = none ∧ b = xs.length) ∨ ∃ k, vhi = some (.int k (b : Int))) (hab : a ≤ b) (hbc : b ≤ xs.length)
  (k : ∀ p', Arr sz R K w' p' ((xs.drop a).take (b - a)) (c - a) → VL P n ops Q rest ((d, .slice p' (b - a) (c - a)) :: σ) G) (hdn : Nat.blt d n = true := by rfl) : VL P n ops Q (⟨some d, .slice t x lo hi none, ty, pos, aft, none⟩ :: rest) σ G := by
 have hle := hA.le
 refine VL.val rfl rfl hdn (fun b' w hb' _ => ?_) (k _ ((hA.drop a (by omega)).take (b - a)))
 have e1 : lo.map b'.eval = vlo := by
  cases lo with
  | none => simpa using hlo
  | some o => simp at hlo hlo' ⊢; cases vlo with
   | none => simp at hlo'
   | some v => simp [hb'.ev hlo]
 have e2 : hi.map b'.eval = vhi := by
  cases hi with
  | none => simpa using hhi
  | some o => simp at hhi hhi' ⊢; cases vhi with
   | none => simp at hhi'
   | some v => simp [hb'.ev hhi]
 simp [execOp, hb'.ev hx, e1, e2, run_sliceAt (P := P) (w := w) ht hsz ha hb hab (by omega : b ≤ c)]

/-- 'string(b)' -/
theorem foldl_push (l : List UInt8) : ∀ acc : List UInt8, ((l.map fun b => (b.toNat : Int)).foldl (fun r n => r.push (UInt8.ofNat n.toNat)) (ByteArray.mk acc.toArray)) = ByteArray.mk (acc ++ l).toArray := by
 induction l with
 | nil => intro acc; simp
 | cons b r ih =>
  intro acc
  have h : (ByteArray.mk acc.toArray).push (UInt8.ofNat ((b.toNat : Int)).toNat) = ByteArray.mk (acc ++ [b]).toArray := by
   simp [ByteArray.push]
  simp only [List.map_cons, List.foldl_cons, h, ih, List.append_assoc, List.singleton_append]

theorem run_string {w : World} {K : List Nat} {l : List UInt8} (hA : Bytes K w p l c) : (Conv.bytesToString (.slice p l.length c)).run P w = .ok (.string ⟨l.toArray⟩) w := by
 cases p with
 | none =>
  have := hA.nil rfl; have := hA.le
  have e : l = [] := List.eq_nil_of_length_eq_zero (by omega)
  subst e; rfl
 | some a =>
  rcases hA.bytes with ⟨h, _⟩ | ⟨a', h, hc⟩
  ·cases h
  ·cases h
   have hl := run_loadCells_list (P := P) w a (l.map bv) hc
   have hm : (l.map fun b => (b.toNat : Int)).map (Value.int .u8) = l.map bv := by rw [List.map_map]; rfl
   rw [List.length_map] at hl
   have := run_bytesToString (P := P) w a l.length c (l.map fun b => (b.toNat : Int)) (by rw [hm]; exact hl)
   rw [this, show ByteArray.empty = ByteArray.mk ([] : List UInt8).toArray from rfl, foldl_push]
   simp

theorem VL.str {src dst e : TypeId} {x : Operand} {l : List UInt8} (hs1 : P.underlying src = some (.slice e)) (he : P.underlying e = some (.int .u8)) (hd1 : P.underlying dst = some .string) (hx : ev σ x = some (.slice p l.length c)) (hG : ∀ w, G w → Own S H w) (hs : s ∈ S) (hA : Bytes s.K s.w p l c)
  (k : VL P n ops Q rest ((d, .string ⟨l.toArray⟩) :: σ) G) (hdn : Nat.blt d n = true := by rfl) : VL P n ops Q (⟨some d, .convert src dst x, ty, pos, aft, none⟩ :: rest) σ G :=
 VL.val rfl rfl hdn (fun a w ha hw => by
  have := run_string (P := P) (hA.now Mono.byte (hG w hw) hs)
  cases p <;> simp [execOp, ha.ev hx, convert, run_underlying hs1, run_underlying hd1, run_underlying he, this]) k

/-- Two strings, one against the other. -/
theorem VL.eqls {x y : Operand} {t ty' : TypeId} {a b : ByteArray} (hx : ev σ x = some (.string a)) (hy : ev σ y = some (.string b)) (h : VL P n ops Q rest ((d, .bool (decide (a = b))) :: σ) G) (hdn : Nat.blt d n = true := by rfl) : VL P n ops Q (⟨some d, .binOp .eql t x y ty', ty, pos, aft, none⟩ :: rest) σ G :=
 VL.val rfl rfl hdn (fun c w ha _ => by
  have e : eqGuard .eql t x y (.string a) (.string b) = pure () := rfl
  have e2 : (a.toList == b.toList) = decide (a = b) := by
   by_cases hab : a = b
   ·subst hab; simp
   ·have : a.toList ≠ b.toList := fun h0 => hab (by
     rw [ByteArray.toList_eq, ByteArray.toList_eq] at h0
     obtain ⟨⟨u⟩⟩ := a
     obtain ⟨⟨v⟩⟩ := b
     simp at h0
     rw [h0])
    simp [hab, this]
  simp [execOp, ha.ev hx, ha.ev hy, e, binOp, Op.stringOp, e2]) h
end
end Go.Vc

/- The rules of the walks, in short words. -/
namespace Go.Vc
section
variable {P : Program} {n : Nat} {Q : Exit → Act → World → Prop} {σ : Sl} {ops : Array Oper} {l : List Oper} {S : List Snap} {H : List Chunk} {a0 a1 a2 a3 a4 a5 a6 c : Chunk} {w : World} {X : Type} {R : Rel X} {sz m : Nat} {p : Option Addr} {xs : List X}
theorem VL.set0 (h : VL P n ops Q l σ (Own S (c :: H))) : VL P n ops Q l σ (Own S ((a0 :: H).set 0 c)) := h
theorem ownSet0 (h : Own S ((a0 :: H).set 0 c) w) : Own S (c :: H) w := h
theorem arrSet0 (h : Arr sz R (keys ((a0 :: H).set 0 c)) w p xs m) : Arr sz R (keys (c :: H)) w p xs m := h
theorem VL.set1 (h : VL P n ops Q l σ (Own S (a0 :: c :: H))) : VL P n ops Q l σ (Own S ((a0 :: a1 :: H).set 1 c)) := h
theorem ownSet1 (h : Own S ((a0 :: a1 :: H).set 1 c) w) : Own S (a0 :: c :: H) w := h
theorem arrSet1 (h : Arr sz R (keys ((a0 :: a1 :: H).set 1 c)) w p xs m) : Arr sz R (keys (a0 :: c :: H)) w p xs m := h
theorem VL.set2 (h : VL P n ops Q l σ (Own S (a0 :: a1 :: c :: H))) : VL P n ops Q l σ (Own S ((a0 :: a1 :: a2 :: H).set 2 c)) := h
theorem ownSet2 (h : Own S ((a0 :: a1 :: a2 :: H).set 2 c) w) : Own S (a0 :: a1 :: c :: H) w := h
theorem arrSet2 (h : Arr sz R (keys ((a0 :: a1 :: a2 :: H).set 2 c)) w p xs m) : Arr sz R (keys (a0 :: a1 :: c :: H)) w p xs m := h
theorem VL.set3 (h : VL P n ops Q l σ (Own S (a0 :: a1 :: a2 :: c :: H))) : VL P n ops Q l σ (Own S ((a0 :: a1 :: a2 :: a3 :: H).set 3 c)) := h
theorem ownSet3 (h : Own S ((a0 :: a1 :: a2 :: a3 :: H).set 3 c) w) : Own S (a0 :: a1 :: a2 :: c :: H) w := h
theorem arrSet3 (h : Arr sz R (keys ((a0 :: a1 :: a2 :: a3 :: H).set 3 c)) w p xs m) : Arr sz R (keys (a0 :: a1 :: a2 :: c :: H)) w p xs m := h
theorem VL.set4 (h : VL P n ops Q l σ (Own S (a0 :: a1 :: a2 :: a3 :: c :: H))) : VL P n ops Q l σ (Own S ((a0 :: a1 :: a2 :: a3 :: a4 :: H).set 4 c)) := h
theorem ownSet4 (h : Own S ((a0 :: a1 :: a2 :: a3 :: a4 :: H).set 4 c) w) : Own S (a0 :: a1 :: a2 :: a3 :: c :: H) w := h
theorem arrSet4 (h : Arr sz R (keys ((a0 :: a1 :: a2 :: a3 :: a4 :: H).set 4 c)) w p xs m) : Arr sz R (keys (a0 :: a1 :: a2 :: a3 :: c :: H)) w p xs m := h
theorem VL.set5 (h : VL P n ops Q l σ (Own S (a0 :: a1 :: a2 :: a3 :: a4 :: c :: H))) : VL P n ops Q l σ (Own S ((a0 :: a1 :: a2 :: a3 :: a4 :: a5 :: H).set 5 c)) := h
theorem ownSet5 (h : Own S ((a0 :: a1 :: a2 :: a3 :: a4 :: a5 :: H).set 5 c) w) : Own S (a0 :: a1 :: a2 :: a3 :: a4 :: c :: H) w := h
theorem arrSet5 (h : Arr sz R (keys ((a0 :: a1 :: a2 :: a3 :: a4 :: a5 :: H).set 5 c)) w p xs m) : Arr sz R (keys (a0 :: a1 :: a2 :: a3 :: a4 :: c :: H)) w p xs m := h
theorem VL.set6 (h : VL P n ops Q l σ (Own S (a0 :: a1 :: a2 :: a3 :: a4 :: a5 :: c :: H))) : VL P n ops Q l σ (Own S ((a0 :: a1 :: a2 :: a3 :: a4 :: a5 :: a6 :: H).set 6 c)) := h
theorem ownSet6 (h : Own S ((a0 :: a1 :: a2 :: a3 :: a4 :: a5 :: a6 :: H).set 6 c) w) : Own S (a0 :: a1 :: a2 :: a3 :: a4 :: a5 :: c :: H) w := h
theorem arrSet6 (h : Arr sz R (keys ((a0 :: a1 :: a2 :: a3 :: a4 :: a5 :: a6 :: H).set 6 c)) w p xs m) : Arr sz R (keys (a0 :: a1 :: a2 :: a3 :: a4 :: a5 :: c :: H)) w p xs m := h
theorem VL.nn {Q' : Exit → Act → World → Prop} {G : World → Prop} {y : Code} (h : VC P n Q y σ G) : VL P n ops (Exit.then (y.wp P Q) Q') [] σ G := VL.nil (VX.next h)
theorem VC.sr {G : World → Prop} {id : Nat} {l : List Oper} {y : Code} (h : VL P n l.toArray (Exit.then (y.wp P Q) Q) l σ G) : VC P n Q (.seq (.region id l.toArray false) y) σ G := VC.seq (VC.region h)
theorem Arr.nowA {S : List Snap} {H : List Chunk} {w : World} {X : Type} {R : Rel X} {s : Snap} {sz : Nat} {p : Option Addr} {xs : List X} {c : Nat} (h : Arr sz R s.K s.w p xs c) (hR : Mono R) (ho : Own S H w) (hs : s ∈ S := by repeat (first | exact List.mem_cons_self .. | apply List.mem_cons_of_mem)) : Arr sz R (keys H) w p xs c := h.now hR ho hs
theorem Own.subA {S S' : List Snap} {H : List Chunk} {w : World} (h : Own S' H w) (hs : ∀ s ∈ S, s ∈ S' := by intro s hs; repeat (first | exact hs | apply List.mem_cons_of_mem)) : Own S H w := ⟨h.nodup, h.lt, h.holds, fun s hm => h.snap s (hs s hm)⟩
end
end Go.Vc

/- The rules of the walks, continued: slices that the call itself makes: literals, make, append, a store at an index; and how they are let go. -/
namespace Go.Vc

/-- The value of a slice that begins a block of its own (or is nil). -/
def rowV (g : Option Nat) (m c : Nat) : Value := .slice (g.map fun g => ⟨g, 0, none⟩) m c

def row (e : TypeId) (sz : Nat) (g : Option Nat) (m c : Nat) (xs : List Value) : Chunk :=
  ⟨g.toList, fun _ w => w.ownsRow 0 e sz (rowV g m c) m xs ∧ ok1 xs, fun _ _ w w' h _ _ ⟨⟨h1, h2⟩, h3⟩ => ⟨⟨h1, by
    rcases h2 with h2 | ⟨g', cap, cur, e1, e2, e3, r⟩
    · exact .inl h2
    · refine .inr ⟨g', cap, cur, e1, e2, ?_, r⟩
      cases g with
      | none => simp [rowV] at e1
      | some g0 =>
        simp [rowV] at e1
        rw [h g' (by simp [e1.1])]
        exact e3⟩, h3⟩⟩

theorem ownsRow_sizes {w : World} {e : TypeId} {sz : Nat} {g : Option Nat} {m c : Nat} {xs : List Value} (h : w.ownsRow 0 e sz (rowV g m c) m xs) : xs.length = m * sz ∧ m ≤ c ∧ c ≤ maxLen ∧ (g = none → c = 0) ∧ (∀ k, g = some k → k < w.heap.size) := by
 obtain ⟨h1, h2⟩ := h
 rcases h2 with ⟨e1, e2⟩ | ⟨g', cap, cur, e1, _, e3, e4, e5, _⟩
 ·cases g with
  | none => simp [rowV] at e1; refine ⟨h1, by omega, by simp [maxLen]; omega, fun _ => by omega, by simp⟩
  | some k => simp [rowV] at e1
 ·cases g with
  | none => simp [rowV] at e1
  | some k =>
   simp [rowV] at e1
   refine ⟨h1, by omega, by omega, by simp, fun k' hk => ?_⟩
   have := (Array.getElem?_eq_some_iff.1 e3).1
   simp at hk; omega

section
variable {P : Program} {n : Nat} {Q : Exit → Act → World → Prop} {σ : Sl} {G : World → Prop} {ops : Array Oper} {rest : List Oper}
variable {d : Nat} {ty : TypeId} {pos : String} {aft : Array Edge}
variable {S : List Snap} {H H' : List Chunk}

theorem Own.row_nil (e : TypeId) (sz : Nat) {w : World} (h : Own S H w) : Own S (row e sz none 0 0 [] :: H) w := by
 have := Own.grow (A := [row e sz none 0 0 []]) h rfl rfl rfl (Nat.le_refl _) (fun _ _ => rfl) (by simp [keys, row]) (by simp [keys, row]) (by
  intro a ha
  simp at ha
  subst ha
  exact ⟨World.ownsRow_nil w 0 e sz, by simp [ok1]⟩)
 simpa using this

/-- A chunk at place i gives way to another one. -/
theorem Own.set {w w' : World} {i : Nat} {c c' : Chunk} (h : Own S H w) (hi : H[i]? = some c) (hos : w'.os = w.os) (htape : w'.tape = w.tape) (hout : w'.output = w.output)
  (hsz : w.heap.size ≤ w'.heap.size) (hb : ∀ k, k < w.heap.size → k ∉ c.ks → w'.heap[k]? = w.heap[k]?)
  (hn : c'.ks.Nodup) (hA : ∀ k ∈ c'.ks, (k ∈ c.ks ∨ w.heap.size ≤ k) ∧ k < w'.heap.size) (hφ : ∀ K, c'.φ K w') (hH : H.set i c' = H') : Own S H' w' := by
 have hlt := (List.getElem?_eq_some_iff.1 hi).1
 have h1 := h.perm (perm_at hi).symm
 have := Own.step (A := [c']) (w' := w') h1 hos htape hout hsz hb (by simpa [keys] using hn) (by simpa [keys] using hA) (by intro a ha; simp at ha; subst ha; exact hφ _)
 rw [← hH]
 exact Own.perm this (perm_set _ _ _ hlt)

/-- A new block that begins with these cells is a row of its own. -/
theorem new_row {w w' : World} {e : TypeId} {sz m c : Nat} {xs : List Value} {cells : Array Value} {z : Array Value} (hh : w'.heap = w.heap.push (.cells cells e)) (hcells : cells = xs.toArray ++ Builtin.zeroCells z (c - m)) (hx : xs.length = m * sz)
  (hz : z.size = sz) (hmc : m ≤ c) (hc : c ≤ maxLen) : w'.ownsRow 0 e sz (rowV (some w.heap.size) m c) m xs := by
 refine ⟨hx, .inr ⟨w.heap.size, c, cells, rfl, Nat.zero_le _, ?_, hmc, hc, ?_, ?_⟩⟩
 ·rw [hh]; simp
 ·rw [hcells, Array.size_append, size_zeroCells, hz, List.size_toArray, hx, ← Nat.add_mul]
  congr 1; omega
 ·rw [hcells, Array.toList_append, ← hx]
  simp

/-- append, off whatever cells. -/
theorem run_append_cells {t ty e : TypeId} {inf : TypeInfo} {z : Value} {sz : Nat} (ht : P.underlying t = some (.slice e)) (hi : P.info? e = some inf) (hz : inf.zero = some z) (hsize : inf.size = sz) (hzs : z.cells.size = sz) (hsz : 0 < sz)
  {w : World} {g : Option Nat} {m c : Nat} {xs : List Value} (hrow : w.ownsRow 0 e sz (rowV g m c) m xs) {p : Option Addr} {k cap : Nat} {news : List Value} (hc : CellsAt w p news) (hl : news.length = k * sz) (h1 : ok1 news)
  (hb : (m + k) * inf.bytes ≤ 140737488355328) (hm : m + k ≤ maxLen) :
  ∃ g' c' w', (Builtin.append_ #[t, t] ty #[rowV g m c, .slice p k cap]).run P w = .ok (rowV g' (m + k) c') w' ∧ w'.ownsRow 0 e sz (rowV g' (m + k) c') (m + k) (xs ++ news) ∧ w.grownBy w' g ∧ (g' = g ∨ g' = some w.heap.size) := by
 have hs := ownsRow_sizes hrow
 have h63 : m + k ≤ 9223372036854775807 := by simp only [maxLen] at hm; omega
 rcases hc with ⟨rfl, rfl⟩ | ⟨a, rfl, hc⟩
 ·have hk : k = 0 := by
   rcases Nat.eq_zero_or_pos k with h | h
   ·exact h
   ·have := Nat.mul_pos h hsz; simp at hl; omega
  subst hk
  refine ⟨g, c, w, ?_, by simpa using hrow, ⟨rfl, rfl, rfl, Nat.le_refl _, fun _ _ _ => rfl⟩, .inl rfl⟩
  cases g with
  | none => simp [Builtin.append_, rowV, run_underlying ht, sizeOf, typeInfo, hi, Builtin.lenOf, Builtin.firstCells, hs.2.1]
  | some g0 => simp [Builtin.append_, rowV, run_underlying ht, sizeOf, typeInfo, hi, Builtin.lenOf, Builtin.firstCells, storeCells, hs.2.1]
 ·have hlen : (xs ++ news).length = (m + k) * sz := by rw [List.length_append, hs.1, hl, Nat.add_mul]
  cases g with
  | none =>
   have hc0 : c = 0 := hs.2.2.2.1 rfl
   have hm0 : m = 0 := by omega
   subst hc0 hm0
   have hx0 : xs = [] := List.eq_nil_of_length_eq_zero (by simpa using hs.1)
   subst hx0
   by_cases hk : k = 0
   ·subst hk
    have hn0 : news = [] := List.eq_nil_of_length_eq_zero (by simpa using hl)
    subst hn0
    refine ⟨none, 0, w, ?_, by simpa using hrow, ⟨rfl, rfl, rfl, Nat.le_refl _, fun _ _ _ => rfl⟩, .inl rfl⟩
    simp [Builtin.append_, rowV, run_underlying ht, sizeOf, typeInfo, hi, Builtin.lenOf, Builtin.firstCells, loadCells, loadCellsFrom]
   ·have hr := run_append_nil (P := P) w t ty e inf z ht hi hz a k cap news (by rw [hsize]; exact hl) hc (by omega) (by omega) (by simp only [Nat.zero_add] at hb; omega)
    refine ⟨some w.heap.size, _, _, by simpa [rowV] using hr, ?_, ?_, .inr rfl⟩
    ·simp only [Nat.zero_add, List.nil_append]
     exact new_row (z := z.cells) rfl rfl (by simpa using hl) hzs (grownCap_ge _ _ _ _) (grownCap_le_maxLen _ _ _ _ (by omega))
    ·exact ⟨rfl, rfl, rfl, by simp, fun j hj _ => Go.heap_alloc_old w.drew _ hj⟩
  | some g0 =>
   rcases hrow.2 with ⟨e1, _⟩ | ⟨g1, cap1, cur, e1, _, e3, e4, e5, e6, e7⟩
   ·simp [rowV] at e1
   ·simp [rowV] at e1
    obtain ⟨rfl, rfl⟩ := e1
    by_cases hroom : m + k ≤ c
    ·have hfit : m * inf.size + news.length ≤ cur.size := by rw [hl, e6, hsize, ← Nat.add_mul]; exact Nat.mul_le_mul_right _ hroom
     have hr := run_append_room (P := P) w t ty e inf ht hi g0 m c cur e3 a k cap news (by rw [hsize]; exact hl) hc h1 hroom hfit
     refine ⟨some g0, c, _, hr, ⟨hlen, .inr ⟨g0, c, _, rfl, Nat.zero_le _, setRow_heap w g0 cur _ e _ e3, hroom, e5, ?_, ?_⟩⟩, ⟨rfl, rfl, rfl, by simp, fun j _ hj => setRow_other w g0 j _ (fun h => hj (by rw [h]))⟩, .inl rfl⟩
     ·simp only [List.size_toArray, List.length_append, List.length_take, List.length_drop, Array.length_toList]
      rw [hsize] at hfit ⊢
      omega
     ·simp only
      rw [hsize, e7, ← hlen]
      exact List.take_left
    ·have holds : ∀ j u, xs[j]? = some u → w.cell? ((⟨g0, 0, none⟩ : Addr).add j) = some u := hrow.cells (g := g0) rfl
     have hr := run_append_grow (P := P) w t ty e inf z ht hi hz ⟨g0, 0, none⟩ m c xs (by rw [hsize]; exact hs.1) holds a k cap news (by rw [hsize]; exact hl) hc (by omega) (by omega) (growslice_fits (by omega) hb)
     refine ⟨some w.heap.size, _, _, hr, ?_, ?_, .inr rfl⟩
     ·exact new_row (z := z.cells) (xs := xs ++ news) rfl (by simp) hlen hzs (grownCap_ge _ _ _ _) (grownCap_le_maxLen _ _ _ _ hm)
     ·exact ⟨rfl, rfl, rfl, by simp, fun j hj _ => Go.heap_alloc_old w.drew _ hj⟩

/-- The element type's row of the program's table: its zero, its cells, its bytes. -/
structure Elem (P : Program) (t e : TypeId) (sz by_ : Nat) (z : Value) : Prop where
  under : P.underlying t = some (.slice e)
  info : (P.info? e).map (fun i => (i.size, i.bytes)) = some (sz, by_)
  zero : (P.info? e).bind (·.zero) = some z
  zsize : z.cells.size = sz
  pos : 0 < sz

theorem Elem.get {t e : TypeId} {sz by_ : Nat} {z : Value} (h : Elem P t e sz by_ z) : ∃ inf, P.info? e = some inf ∧ inf.zero = some z ∧ inf.size = sz ∧ inf.bytes = by_ := by
 have h1 := h.info
 have h2 := h.zero
 cases hi : P.info? e with
 | none => simp [hi] at h1
 | some inf => simp [hi] at h1 h2; exact ⟨inf, rfl, h2, h1.1, h1.2⟩

/-- 'out = append(out, x...)': chunk i is out's row. -/
theorem VL.append {x y : Operand} {t e : TypeId} {sz by_ : Nat} {z : Value} {tys : Array TypeId} {g : Option Nat} {m c k cap : Nat} {xs news : List Value} {p : Option Addr} (i : Nat) (hE : Elem P t e sz by_ z) (htys : tys = #[t, t])
  (hx : ev σ x = some (rowV g m c)) (hy : ev σ y = some (.slice p k cap)) (hi : H[i]? = some (row e sz g m c xs)) (hc : ∀ w, Own S H w → CellsAt w p news) (hl : news.length = k * sz) (h1 : ok1 news) (hb : (m + k) * by_ ≤ 140737488355328) (hm : m + k ≤ 9223372036854775807)
  (h : ∀ g' c', VL P n ops Q rest ((d, rowV g' (m + k) c') :: σ) (Own S (H.set i (row e sz g' (m + k) c' (xs ++ news))))) (hdn : Nat.blt d n = true := by rfl) : VL P n ops Q (⟨some d, .call ⟨.builtin .append, #[x, y], tys⟩, ty, pos, aft, none⟩ :: rest) σ (Own S H) := by
 subst htys
 refine VL.act (K := fun v w' => ∃ g' c', v = rowV g' (m + k) c' ∧ Own S (H.set i (row e sz g' (m + k) c' (xs ++ news))) w') rfl rfl hdn (fun a w ha hw => ?_) (fun v => VL.ex fun g' => VL.ex fun c' => VL.fact fun e => by subst e; exact h g' c')
 obtain ⟨inf, hi1, hi2, hi3, hi4⟩ := hE.get
 obtain ⟨hrow, hok⟩ := hw.holds _ (List.mem_of_getElem? hi)
 have hs := ownsRow_sizes hrow
 obtain ⟨g', c', w', hr, ho, hg, hgg⟩ := run_append_cells (P := P) (ty := ty) hE.under hi1 hi2 hi3 hE.zsize hE.pos hrow (hc w hw) (k := k) (cap := cap) hl h1 (by rw [hi4]; exact hb) (by simp only [maxLen]; omega)
 refine ⟨_, w', ?_, g', c', rfl, ?_⟩
 ·simp [execOp, resolve, invoke, builtin, ha.ev hx, ha.ev hy, hr]
 ·refine hw.set (c' := row e sz g' (m + k) c' (xs ++ news)) hi hg.os hg.tape hg.output hg.size (fun q hq hqk => hg.block q hq (fun e => hqk ?_)) ?_ ?_ (fun _ => ⟨ho, ?_⟩) rfl
  ·simp [row, ← e]
  ·cases g' <;> simp [row]
  ·intro q hq
   have hs' := ownsRow_sizes ho
   have : g' = some q := by simpa [row] using hq
   refine ⟨?_, hs'.2.2.2.2 q this⟩
   rcases hgg with h2 | h2
   ·left; rw [h2] at this; simp [row, this]
   ·right; rw [h2] at this; simp at this; omega
  ·intro v hv
   rw [List.mem_append] at hv
   exact hv.elim (hok v) (h1 v)

/-- 'make([]T, n)'. -/
theorem VL.make {x y : Operand} {t e : TypeId} {sz by_ : Nat} {z : Value} {k1 k2 : IntKind} {m : Nat} (hE : Elem P t e sz by_ z) (hx : ev σ x = some (.int k1 (m : Int))) (hy : ev σ y = some (.int k2 (m : Int))) (hz1 : sz = 1) (hz2 : z.oneCell' = true) (hb : by_ * m ≤ 140737488355328) (hm : m ≤ 9223372036854775807)
  (h : ∀ g, VL P n ops Q rest ((d, rowV (some g) m m) :: σ) (Own S (row e 1 (some g) m m (List.replicate m z) :: H))) (hdn : Nat.blt d n = true := by rfl) : VL P n ops Q (⟨some d, .makeSlice t x y, ty, pos, aft, none⟩ :: rest) σ (Own S H) := by
 subst hz1
 refine VL.act (K := fun v w' => ∃ g, v = rowV (some g) m m ∧ Own S (row e 1 (some g) m m (List.replicate m z) :: H) w') rfl rfl hdn (fun a w ha hw => ?_) (fun v => VL.ex fun g => VL.fact fun e => by subst e; exact h g)
 obtain ⟨inf, hi1, hi2, hi3, hi4⟩ := hE.get
 obtain ⟨w', hr, ho, hg⟩ := run_make_full (P := P) w 0 t e inf z 1 hE.under hi1 hi2 hi3 k1 k2 m (by rw [hi4]; omega) (by simp only [maxLen]; omega) (Nat.zero_le _)
 have hzc : z.cells = #[z] := by cases z <;> first | rfl | (simp [Value.oneCell'] at hz2)
 rw [hzc, Nat.mul_one, toList_madeCells_one] at ho
 refine ⟨_, w', by simp [execOp, ha.ev hx, ha.ev hy, hr, rowV], w.heap.size, rfl, ?_⟩
 have hs := ownsRow_sizes (g := some w.heap.size) ho
 have := Own.grow (A := [row e 1 (some w.heap.size) m m (List.replicate m z)]) hw hg.os hg.tape hg.output hg.size (fun q hq => hg.block q hq (by simp)) (by simp [keys, row]) (fun q hq => ?_) (fun a ha => ?_)
 ·simpa using this
 ·simp [keys, row] at hq
  subst hq
  exact ⟨Nat.le_refl _, hs.2.2.2.2 _ rfl⟩
 ·simp at ha; subst ha
  exact ⟨ho, fun v hv => by simp at hv; rw [hv.2]; exact hz2⟩

/-- The parts of a literal, one behind the other from place k on. -/
def evps (σ : Sl) : Nat → List (Nat × Operand) → Option (List Value)
  | _, [] => some []
  | k, (i, x) :: r => bif Nat.beq i k then match ev σ x, evps σ (k + 1) r with
      | some v, some vs => some (v :: vs)
      | _, _ => none
    else none

def numbered : Nat → List Value → List (Nat × Value)
  | _, [] => []
  | k, v :: r => (k, v) :: numbered (k + 1) r

theorem evps_spec {a : Act} (ha : Agr n σ a) : ∀ (parts : List (Nat × Operand)) (k : Nat) (vs : List Value), evps σ k parts = some vs → parts.map (fun (i, x) => (i, a.eval x)) = numbered k vs ∧ vs.length = parts.length
 | [], k, vs, h => by simp [evps] at h; simp [h, numbered]
 | (i, x) :: r, k, vs, h => by
  unfold evps at h
  cases hb : Nat.beq i k with
  | false => simp [hb] at h
  | true =>
   cases h1 : ev σ x with
   | none => simp [hb, h1] at h
   | some v =>
    cases h2 : evps σ (k + 1) r with
    | none => simp [hb, h1, h2] at h
    | some us =>
     simp [hb, h1, h2] at h
     subst h
     obtain ⟨e1, e2⟩ := evps_spec ha r (k + 1) us h2
     have := Nat.eq_of_beq_eq_true hb
     subst this
     simp [numbered, ha.ev h1, e1, e2]

theorem set_seg (vs : List Value) : ∀ (j off : Nat) (cells : Array Value), off + j + vs.length ≤ cells.size →
  (vs.zipIdx j).foldl (fun cs (c, i) => cs.setIfInBounds (off + i) c) cells = (cells.toList.take (off + j) ++ vs ++ cells.toList.drop (off + j + vs.length)).toArray := by
 induction vs with
 | nil => intro j off cells _; simp
 | cons v r ih =>
  intro j off cells h
  simp only [List.length_cons] at h
  simp only [List.zipIdx_cons, List.foldl_cons]
  rw [ih (j + 1) off _ (by simp; omega)]
  apply Array.ext'
  simp only [Array.toList_setIfInBounds, List.length_cons]
  rw [List.set_eq_take_append_cons_drop, if_pos (by simp; omega)]
  have hl : (cells.toList.take (off + j)).length = off + j := by simp; omega
  rw [List.take_append, List.drop_append, hl]
  simp only [show off + (j + 1) - (off + j) = 1 by omega, show off + (j + 1) + r.length - (off + j) = r.length + 1 by omega, List.take_succ_cons, List.take_zero, List.drop_succ_cons, List.drop_drop]
  rw [List.take_of_length_le (by omega), List.drop_eq_nil_of_le (by omega)]
  simp only [List.nil_append, List.append_assoc, List.singleton_append]
  congr 3
  omega

theorem fill_seq {sz : Nat} : ∀ (vs : List Value) (k : Nat) (cells : Array Value), (∀ v ∈ vs, v.cells.size = sz) → (k + vs.length) * sz ≤ cells.size →
  Instr.fill (fun i => some (i * sz, sz)) cells (numbered k vs) = some (cells.toList.take (k * sz) ++ vs.flatMap (·.cells.toList) ++ cells.toList.drop ((k + vs.length) * sz)).toArray
 | [], k, cells, _, _ => by simp [numbered, Instr.fill]
 | v :: r, k, cells, hv, hle => by
  have h1 := hv v (by simp)
  have h2 : (k + (r.length + 1)) * sz = k * sz + sz + r.length * sz := by rw [Nat.add_mul, Nat.add_mul, Nat.one_mul]; omega
  simp only [List.length_cons, h2] at hle
  have hc : ¬ (v.cells.size ≠ sz ∨ k * sz + v.cells.size > cells.size) := by rw [h1]; simp; omega
  have hs := set_seg v.cells.toList 0 (k * sz) cells (by simp [h1]; omega)
  have hz : (v.cells.zipIdx.foldl (fun cs (c, j) => cs.setIfInBounds (k * sz + j) c) cells) = (cells.toList.take (k * sz) ++ v.cells.toList ++ cells.toList.drop (k * sz + sz)).toArray := by
   rw [← Array.foldl_toList, Array.toList_zipIdx, hs]
   simp [h1]
  simp only [numbered, Instr.fill]
  rw [if_neg (by simpa using hc), hz, fill_seq r (k + 1) _ (fun u hu => hv u (by simp [hu])) (by
   simp only [List.size_toArray, List.length_append, List.length_take, List.length_drop, Array.length_toList, h1]
   rw [Nat.add_mul, Nat.add_mul, Nat.one_mul]
   omega)]
  congr 1
  apply Array.ext'
  have ek : (k + 1) * sz = k * sz + sz := by rw [Nat.add_mul, Nat.one_mul]
  have ek2 : (k + 1 + r.length) * sz = k * sz + sz + r.length * sz := by rw [Nat.add_mul, ek]
  have hl : (cells.toList.take (k * sz) ++ v.cells.toList).length = k * sz + sz := by simp [h1]; omega
  simp only [List.length_cons, h2, List.flatMap_cons]
  rw [ek, ek2, List.take_append, hl, List.drop_append, hl, Nat.sub_self, List.take_zero, List.append_nil, List.take_of_length_le (by omega), List.drop_eq_nil_of_le (by omega), List.nil_append, List.drop_drop, show k * sz + sz + r.length * sz - (k * sz + sz) = r.length * sz by omega]
  simp only [List.append_assoc]

/-- A literal: its cells. -/
theorem VL.lit {t e : TypeId} {sz by_ : Nat} {z : Value} {len : Nat} {parts : List (Nat × Operand)} {vs : List Value} (hE : Elem P t e sz by_ z) (hlen : Nat.ble (len * sz) 16777216 = true) (hk : parts.length = len)
  (hp : evps σ 0 parts = some vs) (hv : ∀ v ∈ vs, v.cells.size = sz) (h1 : ok1 (vs.flatMap (·.cells.toList)))
  (h : ∀ g, VL P n ops Q rest ((d, rowV (some g) len len) :: σ) (Own S (row e sz (some g) len len (vs.flatMap (·.cells.toList)) :: H))) (hdn : Nat.blt d n = true := by rfl) : VL P n ops Q (⟨some d, .buildSlice t len parts.toArray, ty, pos, aft, none⟩ :: rest) σ (Own S H) := by
 refine VL.act (K := fun v w' => ∃ g, v = rowV (some g) len len ∧ Own S (row e sz (some g) len len (vs.flatMap (·.cells.toList)) :: H) w') rfl rfl hdn (fun a w ha hw => ?_) (fun v => VL.ex fun g => VL.fact fun e => by subst e; exact h g)
 obtain ⟨inf, hi1, hi2, hi3, hi4⟩ := hE.get
 obtain ⟨hm, hvl⟩ := evps_spec ha parts 0 vs hp
 have hle : len * sz ≤ 16777216 := by simpa [Nat.ble_eq] using hlen
 have hcl : ∀ us : List Value, (∀ v ∈ us, v.cells.size = sz) → (us.flatMap (·.cells.toList)).length = us.length * sz := by
  intro us
  induction us with
  | nil => intro _; simp
  | cons u r ih =>
   intro hu
   rw [List.flatMap_cons, List.length_append, ih (fun v hv => hu v (by simp [hv])), Array.length_toList, hu u (by simp), List.length_cons, Nat.add_mul, Nat.one_mul]
   omega
 have hl := hcl vs hv
 rw [hvl, hk] at hl
 have hr : (Instr.buildSlice t len (parts.toArray.map fun (i, x) => (i, a.eval x))).run P w = .ok (rowV (some w.heap.size) len len) (w.alloc (.cells (vs.flatMap (·.cells.toList)).toArray e)) := by
  have hf := fill_seq (sz := sz) vs 0 ((Array.range (len * sz)).map (z.cells[· % z.cells.size]!)) hv (by simp [hvl, hk])
  simp only [Nat.zero_mul, List.take_zero, List.nil_append, Nat.zero_add, hvl, hk] at hf
  rw [List.drop_eq_nil_of_le (by simp), List.append_nil] at hf
  have hn : ¬ (16777216 < len * sz) := by omega
  have he : (parts.toArray.map fun (i, x) => (i, a.eval x)).toList = numbered 0 vs := by rw [← hm]; simp
  by_cases h0 : len * sz = 0
  ·rw [h0, Array.range_zero'] at hf
   have hf' : Instr.fill (fun i => some (i * sz, sz)) #[] (numbered 0 vs) = some (vs.flatMap (·.cells.toList)).toArray := by simpa using hf
   unfold Instr.buildSlice
   simp only [he]
   simp [run_underlying hE.under, sizeOf, typeInfo, hi1, hi3, h0, newRow, rowV, Array.range_zero', hf']
  ·unfold Instr.buildSlice
   simp only [he]
   simp [run_underlying hE.under, sizeOf, typeInfo, hi1, hi3, hn, h0, zeroValue, hi2, hf, newRow, rowV]
 refine ⟨_, w.alloc (.cells (vs.flatMap (·.cells.toList)).toArray e), by simp only [execOp, Sem.run_bind, hr, Result.andThen_ok, Sem.run_pure], w.heap.size, rfl, ?_⟩
 have hpos := hE.pos
 have hll : len ≤ 16777216 := Nat.le_trans (Nat.le_mul_of_pos_right len hpos) hle
 have := Own.grow (A := [row e sz (some w.heap.size) len len (vs.flatMap (·.cells.toList))]) (w' := w.alloc (.cells (vs.flatMap (·.cells.toList)).toArray e)) hw rfl rfl rfl (by simp) (fun q hq => Go.heap_alloc_old w _ hq) (by simp [keys, row]) (by simp [keys, row]) (fun a ha => ?_)
 ·simpa using this
 ·simp at ha; subst ha
  exact ⟨World.ownsRow_lit w (vs.flatMap (·.cells.toList)).toArray len (Nat.zero_le _) (by simp only [maxLen]; omega) (by simpa using hl), h1⟩

/-- A row's slice is indexed. -/
theorem VL.rowIndex {x y : Operand} {t e : TypeId} {sz by_ : Nat} {z : Value} {k : IntKind} {j : Int} {g m c : Nat} (hE : Elem P t e sz by_ z) (hx : ev σ x = some (rowV (some g) m c)) (hy : ev σ y = some (.int k j)) (h0 : 0 ≤ j) (h1 : j < m)
  (h : VL P n ops Q rest ((d, .pointer (some ⟨g, j.toNat * sz, none⟩)) :: σ) G) (hdn : Nat.blt d n = true := by rfl) : VL P n ops Q (⟨some d, .indexAddr t x y, ty, pos, aft, none⟩ :: rest) σ G :=
 VL.val rfl rfl hdn (fun a w ha _ => by
  obtain ⟨inf, hi1, hi2, hi3, hi4⟩ := hE.get
  simp [execOp, ha.ev hx, ha.ev hy, rowV, Instr.indexAt, asIntOf, run_underlying hE.under, h0, h1, sizeOf, typeInfo, hi1, hi3, add_lit]) h

/-- A store into a row of one cell an element. -/
theorem VL.rowStore {t e : TypeId} {x y : Operand} {g m c j : Nat} {v : Value} {xs : List Value} (i : Nat) (hx : ev σ x = some (.pointer (some ⟨g, j, none⟩))) (hy : ev σ y = some v) (hv : v.oneCell' = true) (ht : kindOf P t = some none) (hi : H[i]? = some (row e 1 (some g) m c xs)) (hj : j < m)
  (k : VL P n ops Q rest σ (Own S (H.set i (row e 1 (some g) m c (xs.set j v))))) : VL P n ops Q (⟨none, .store t x y, ty, pos, aft, none⟩ :: rest) σ (Own S H) :=
 VL.act0 rfl rfl (fun a w ha hw => by
  obtain ⟨hrow, hok⟩ := hw.holds _ (List.mem_of_getElem? hi)
  rcases hrow.2 with ⟨e1, _⟩ | ⟨g1, cap1, cur, e1, _, e3, e4, e5, e6, e7⟩
  ·simp [rowV] at e1
  ·simp [rowV] at e1
   obtain ⟨rfl, rfl⟩ := e1
   rw [Nat.mul_one] at e6 e7
   have hvc : v.cells = [v].toArray := by cases v <;> first | rfl | (simp [Value.oneCell'] at hv)
   have hst := run_store_cells (P := P) (t := t) (w := w) (g := g) (o := j) (T := e) (cur := cur.toList) (vs := [v]) hvc (.inr ⟨ht, rfl⟩) (by simpa using e3) (by simp; omega) (by intro u hu; simp at hu; rw [hu]; exact hv)
   refine ⟨w.setRow g (cur.toList.take j ++ [v] ++ cur.toList.drop (j + [v].length)).toArray, by simp only [execOp, ha.ev hx, ha.ev hy, Sem.run_bind, hst, Result.andThen_ok, Sem.run_pure], ?_⟩
   have hset : cur.toList.take j ++ [v] ++ cur.toList.drop (j + [v].length) = cur.toList.set j v := by
    rw [List.set_eq_take_append_cons_drop, if_pos (by simp; omega)]
    simp
   rw [hset]
   refine hw.set (c' := row e 1 (some g) m c (xs.set j v)) hi rfl rfl rfl (by simp) (fun q _ hq => setRow_other w g q _ (fun e => hq (by simp [row, e]))) (by simp [row]) (fun q hq => ?_) (fun _ => ⟨⟨by simpa using hrow.1, .inr ⟨g, c, _, rfl, Nat.zero_le _, setRow_heap w g _ _ e _ e3, e4, e5, by simpa using e6, ?_⟩⟩, ?_⟩) rfl
   ·simp [row] at hq; subst hq
    exact ⟨.inl (by simp [row]), by simpa using (Array.getElem?_eq_some_iff.1 e3).1⟩
   ·rw [Nat.mul_one, ← e7]
    simp [List.take_set]
   ·intro u hu
    rcases List.mem_or_eq_of_mem_set hu with h | h
    ·exact hok u h
    ·rw [h]; exact hv) k

/-- Let go: what the row holds is a fact. -/
theorem Own.letGo {w : World} {e : TypeId} {sz : Nat} {g : Option Nat} {m c : Nat} {xs : List Value} (h : Own S (row e sz g m c xs :: H) w) {X : Type} {R : Rel X} {ys : List X} (hm : m = ys.length)
  (hx : ∀ j y, ys[j]? = some y → R (keys H) w ((xs.drop (j * sz)).take sz) y) : Arr sz R (keys H) w (g.map fun g => ⟨g, 0, none⟩) ys c := by
 obtain ⟨hrow, _⟩ := h.holds (row e sz g m c xs) (by simp)
 have hs := ownsRow_sizes hrow
 have hnd := h.nodup
 rw [keys_cons, List.nodup_append] at hnd
 refine ⟨by omega, hs.2.2.1, fun e => hs.2.2.2.1 (by cases g <;> simp at e ⊢), fun a ea _ => ?_⟩
 cases g with
 | none => simp at ea
 | some g0 =>
  simp at ea
  subst ea
  rcases hrow.2 with ⟨e1, _⟩ | ⟨g1, cap1, cur, e1, _, e3, e4, e5, e6, e7⟩
  ·simp [rowV] at e1
  ·simp [rowV] at e1
   obtain ⟨rfl, rfl⟩ := e1
   refine ⟨rfl, fun hk => hnd.2.2 g0 (by simp [row]) g0 hk rfl, hs.2.2.2.2 g0 rfl, cur, e, (0, 0), e3, fun j y hj => ⟨_, ?_, hx j y hj, fun i v hv => ?_⟩⟩
   ·have hjl := (List.getElem?_eq_some_iff.1 hj).1
    have : (j + 1) * sz ≤ m * sz := Nat.mul_le_mul_right _ (by omega)
    rw [Nat.add_mul] at this
    simp [hs.1]; omega
   ·rw [List.getElem?_take] at hv
    split at hv
    ·rw [List.getElem?_drop, ← e7, List.getElem?_take] at hv
     split at hv
     ·simpa using hv
     ·cases hv
    ·cases hv

theorem Own.letBytes {w : World} {e : TypeId} {g : Option Nat} {c : Nat} {l : List UInt8} {m : Nat} {xs : List Value} (h : Own S (row e 1 g m c xs :: H) w) (hm : m = l.length) (hx : xs = l.map bv) : Bytes (keys H) w (g.map fun g => ⟨g, 0, none⟩) l c :=
 h.letGo hm fun j y hj => by
  subst hx
  show ((l.map bv).drop (j * 1)).take 1 = [bv y]
  have hlt := (List.getElem?_eq_some_iff.1 hj).1
  rw [Nat.mul_one, List.drop_eq_getElem_cons (by simpa using hlt)]
  simp [(List.getElem?_eq_some_iff.1 hj).2]
end
end Go.Vc

/- What the walks want of the program's tables of types: closed facts, written by a program. -/
namespace Go.Proofs.Ytcfecmoagfgnaaa
open Go.Vc

theorem kd3 : kindOf Try.prog 3 = some none := by kernel_rfl
theorem kd4 : kindOf Try.prog 4 = some none := by kernel_rfl
theorem kd5 : kindOf Try.prog 5 = some none := by kernel_rfl
theorem kd9 : kindOf Try.prog 9 = some none := by kernel_rfl
theorem kd24 : kindOf Try.prog 24 = some none := by kernel_rfl
theorem kd31 : kindOf Try.prog 31 = some none := by kernel_rfl
theorem kd35 : kindOf Try.prog 35 = some none := by kernel_rfl
theorem kd44 : kindOf Try.prog 44 = some (some 32) := by kernel_rfl
theorem kd48 : kindOf Try.prog 48 = some none := by kernel_rfl
theorem kd68 : kindOf Try.prog 68 = some none := by kernel_rfl
theorem kd70 : kindOf Try.prog 70 = some (some 164) := by kernel_rfl
theorem kd72 : kindOf Try.prog 72 = some (some 167) := by kernel_rfl
theorem kd80 : kindOf Try.prog 80 = some (some 64) := by kernel_rfl
theorem kd82 : kindOf Try.prog 82 = some (some 162) := by kernel_rfl
theorem kd83 : kindOf Try.prog 83 = some none := by kernel_rfl
theorem kd85 : kindOf Try.prog 85 = some (some 101) := by kernel_rfl
theorem kd87 : kindOf Try.prog 87 = some (some 433) := by kernel_rfl
theorem kd126 : kindOf Try.prog 126 = some none := by kernel_rfl
theorem kd132 : kindOf Try.prog 132 = some (some 2) := by kernel_rfl
theorem kd157 : kindOf Try.prog 157 = some (some 5) := by kernel_rfl
theorem kd167 : kindOf Try.prog 167 = some (some 3) := by kernel_rfl
theorem kd202 : kindOf Try.prog 202 = some (some 65) := by kernel_rfl
theorem sz24 : (Try.prog.info? 5).map (·.size) = some 1 := by kernel_rfl
theorem el24 : Elem Try.prog 24 5 1 1 (.int .u8 0) := ⟨Try.underlying24, by kernel_rfl, by kernel_rfl, rfl, by decide⟩
theorem sz31 : (Try.prog.info? 24).map (·.size) = some 1 := by kernel_rfl
theorem el31 : Elem Try.prog 31 24 1 24 (.slice none 0 0) := ⟨Try.underlying31, by kernel_rfl, by kernel_rfl, rfl, by decide⟩
theorem sz83 : (Try.prog.info? 202).map (·.size) = some 65 := by kernel_rfl
theorem sz126 : (Try.prog.info? 87).map (·.size) = some 433 := by kernel_rfl
theorem sz158 : (Try.prog.info? 167).map (·.size) = some 3 := by kernel_rfl
theorem sz224 : (Try.prog.info? 126).map (·.size) = some 1 := by kernel_rfl
theorem el224 : Elem Try.prog 224 126 1 24 (.slice none 0 0) := ⟨Try.underlying224, by kernel_rfl, by kernel_rfl, rfl, by decide⟩
theorem sz225 : (Try.prog.info? 9).map (·.size) = some 1 := by kernel_rfl
theorem el225 : Elem Try.prog 225 9 1 16 (.string ByteArray.empty) := ⟨Try.underlying225, by kernel_rfl, by kernel_rfl, rfl, by decide⟩
theorem fo70_0 : fieldOff Try.prog 70 0 = some 0 := by kernel_rfl
theorem fo70_1 : fieldOff Try.prog 70 1 = some 32 := by kernel_rfl
theorem fo70_2 : fieldOff Try.prog 70 2 = some 33 := by kernel_rfl
theorem fo70_3 : fieldOff Try.prog 70 3 = some 65 := by kernel_rfl
theorem fo70_4 : fieldOff Try.prog 70 4 = some 97 := by kernel_rfl
theorem fo70_5 : fieldOff Try.prog 70 5 = some 129 := by kernel_rfl
theorem fo70_6 : fieldOff Try.prog 70 6 = some 130 := by kernel_rfl
theorem fo70_7 : fieldOff Try.prog 70 7 = some 162 := by kernel_rfl
theorem fo70_8 : fieldOff Try.prog 70 8 = some 163 := by kernel_rfl
theorem fo72_0 : fieldOff Try.prog 72 0 = some 0 := by kernel_rfl
theorem fo72_1 : fieldOff Try.prog 72 1 = some 1 := by kernel_rfl
theorem fo72_2 : fieldOff Try.prog 72 2 = some 2 := by kernel_rfl
theorem fo72_3 : fieldOff Try.prog 72 3 = some 166 := by kernel_rfl
theorem fo82_0 : fieldOff Try.prog 82 0 = some 0 := by kernel_rfl
theorem fo82_1 : fieldOff Try.prog 82 1 = some 1 := by kernel_rfl
theorem fo82_2 : fieldOff Try.prog 82 2 = some 33 := by kernel_rfl
theorem fo82_3 : fieldOff Try.prog 82 3 = some 65 := by kernel_rfl
theorem fo82_4 : fieldOff Try.prog 82 4 = some 66 := by kernel_rfl
theorem fo82_5 : fieldOff Try.prog 82 5 = some 98 := by kernel_rfl
theorem fo85_0 : fieldOff Try.prog 85 0 = some 0 := by kernel_rfl
theorem fo85_1 : fieldOff Try.prog 85 1 = some 1 := by kernel_rfl
theorem fo85_2 : fieldOff Try.prog 85 2 = some 2 := by kernel_rfl
theorem fo85_3 : fieldOff Try.prog 85 3 = some 34 := by kernel_rfl
theorem fo85_4 : fieldOff Try.prog 85 4 = some 35 := by kernel_rfl
theorem fo85_5 : fieldOff Try.prog 85 5 = some 36 := by kernel_rfl
theorem fo85_6 : fieldOff Try.prog 85 6 = some 100 := by kernel_rfl
theorem fo87_0 : fieldOff Try.prog 87 0 = some 0 := by kernel_rfl
theorem fo87_1 : fieldOff Try.prog 87 1 = some 1 := by kernel_rfl
theorem fo87_2 : fieldOff Try.prog 87 2 = some 2 := by kernel_rfl
theorem fo87_3 : fieldOff Try.prog 87 3 = some 3 := by kernel_rfl
theorem fo87_4 : fieldOff Try.prog 87 4 = some 170 := by kernel_rfl
theorem fo87_5 : fieldOff Try.prog 87 5 = some 332 := by kernel_rfl
theorem fo132_0 : fieldOff Try.prog 132 0 = some 0 := by kernel_rfl
theorem fo132_1 : fieldOff Try.prog 132 1 = some 1 := by kernel_rfl
theorem fo157_0 : fieldOff Try.prog 157 0 = some 0 := by kernel_rfl
theorem fo157_1 : fieldOff Try.prog 157 1 = some 1 := by kernel_rfl
theorem fo157_2 : fieldOff Try.prog 157 2 = some 2 := by kernel_rfl
theorem fo157_3 : fieldOff Try.prog 157 3 = some 3 := by kernel_rfl
theorem fo157_4 : fieldOff Try.prog 157 4 = some 4 := by kernel_rfl
theorem fo167_0 : fieldOff Try.prog 167 0 = some 0 := by kernel_rfl
theorem fo167_1 : fieldOff Try.prog 167 1 = some 1 := by kernel_rfl
theorem fo167_2 : fieldOff Try.prog 167 2 = some 2 := by kernel_rfl
theorem fo181_0 : fieldOff Try.prog 181 0 = some 0 := by kernel_rfl
theorem fo181_1 : fieldOff Try.prog 181 1 = some 1 := by kernel_rfl
theorem fo196_0 : fieldOff Try.prog 196 0 = some 0 := by kernel_rfl
theorem fo196_1 : fieldOff Try.prog 196 1 = some 1 := by kernel_rfl
theorem fo202_0 : fieldOff Try.prog 202 0 = some 0 := by kernel_rfl
theorem fo202_1 : fieldOff Try.prog 202 1 = some 1 := by kernel_rfl
end Go.Proofs.Ytcfecmoagfgnaaa

/- The rules of the walks, continued: small ones. -/
namespace Go.Vc

theorem ok1_bytes (l : List UInt8) : ok1 (l.map bv) := fun v hv => by
 obtain ⟨b, _, rfl⟩ := List.mem_map.1 hv
 rfl

theorem byte_val {n : Nat} (h : n < 256) : Value.int .u8 (n : Int) = bv (UInt8.ofNat n) := by
 have : (UInt8.ofNat n).toNat = n := by simp [Nat.mod_eq_of_lt h]
 unfold bv; rw [this]

/-- The cells of a row that is owned. -/
theorem Own.rowCells {S : List Snap} {H : List Chunk} {w : World} (h : Own S H w) {e : TypeId} {sz : Nat} {g : Option Nat} {m c : Nat} {xs : List Value} (i : Nat) (hi : H[i]? = some (row e sz g m c xs)) : CellsAt w (g.map fun g => ⟨g, 0, none⟩) xs := by
 obtain ⟨hrow, _⟩ := h.holds _ (List.mem_of_getElem? hi)
 have hs := ownsRow_sizes hrow
 cases g with
 | none =>
  refine .inl ⟨rfl, ?_⟩
  have h0 := hs.2.2.2.1 rfl
  have hm : m = 0 := by omega
  subst hm
  exact List.eq_nil_of_length_eq_zero (by simpa using hs.1)
 | some g0 => exact .inr ⟨_, rfl, hrow.cells (g := g0) rfl⟩

theorem Arr.small {X : Type} {sz : Nat} {R : Rel X} {K : List Nat} {w : World} {p : Option Addr} {xs : List X} {c : Nat} (h : Arr sz R K w p xs c) : xs.length ≤ 9223372036854775807 := by
 have h1 := h.le
 have h2 := h.cap
 simp only [maxLen] at h2
 omega

section
variable {P : Program} {n : Nat} {Q : Exit → Act → World → Prop} {σ : Sl} {G : World → Prop} {ops : Array Oper} {rest : List Oper}
variable {d : Nat} {ty : TypeId} {pos : String} {aft : Array Edge}

/-- The guard itself was passed over. -/
theorem VL.passu {o : Oper} {j t : Nat} {b : Bool} (hg : o.guard = some (j, b)) (ho : o.dst = some d) (hd : (ops[j]?).bind (·.dst) = some t) (ht : look σ t = some undef) (h : VL P n ops Q rest ((d, undef) :: σ) G) (hdn : Nat.blt d n = true := by rfl) : VL P n ops Q (o :: rest) σ G := by
 intro a w ha hw
 have hy : yielded ops a.tmps j = none := by
  have := ha.at_ t _ ht
  rw [Array.getD_eq_getD_getElem?] at this
  unfold yielded
  rw [hd]
  simp only [Option.bind_some]
  cases e : a.tmps[t]? with
  | none => rfl
  | some u => simp [e] at this; rw [this]; rfl
 unfold wpList
 have h2 : Region.wanted o (yielded ops a.tmps) = false := by
  simp only [Region.wanted, hg, hy]
  rfl
 rw [if_neg (by simp [h2]), ho]
 exact h _ _ (ha.put hdn) hw

/-- A slice against nil. -/
theorem VL.eqnil {x y : Operand} {t ty' e : TypeId} {p : Option Addr} {m c : Nat} (ht : P.underlying t = some (.slice e)) (hx : ev σ x = some (.slice p m c)) (hy : ev σ y = some (.slice none 0 0)) (h : VL P n ops Q rest ((d, .bool p.isNone) :: σ) G) (hdn : Nat.blt d n = true := by rfl) : VL P n ops Q (⟨some d, .binOp .eql t x y ty', ty, pos, aft, none⟩ :: rest) σ G :=
 VL.val rfl rfl hdn (fun c' w ha _ => by
  have e2 : eqGuard .eql t x y (.slice p m c) (.slice none 0 0) = pure () := rfl
  have := Lib.run_eql_slice_nil (P := P) w t e p m c 0 0 ht
  simp [execOp, ha.ev hx, ha.ev hy, e2, this]) h
end
end Go.Vc

