/- The rules of the walks, continued: slices that are only read (a fact of a world as it was), and slices that the call itself makes (a chunk). -/
import Derived.Test.YtcfecmoagfgnaaaVcMem
import Derived.Laws.BytesString
namespace Go.Vc

/-- How an element's cells read as x, in a world, off blocks that are not of K. -/
abbrev Rel (X : Type) := List Nat → World → List Value → X → Prop

/-- The world turns elsewhere alone. -/
def After (s : Snap) (K' : List Nat) (w : World) : Prop := s.ok w ∧ ∀ k ∈ K', k ∈ s.K ∨ s.w.heap.size ≤ k

def Mono {X : Type} (R : Rel X) : Prop := ∀ s K' w vs x, After s K' w → R s.K s.w vs x → R K' w vs x

/-- The address of cell o behind the slice's beginning. -/
def pAt (p : Option Addr) (o : Nat) : Value := .pointer (p.map fun a => ⟨a.block, a.off + o, none⟩)

structure Arr {X : Type} (sz : Nat) (R : Rel X) (K : List Nat) (w : World) (p : Option Addr) (xs : List X) (c : Nat) : Prop where
  le : xs.length ≤ c
  cap : c ≤ maxLen
  nil : p = none → c = 0
  at_ : ∀ a, p = some a → 0 < c → a.spot = none ∧ a.block ∉ K ∧ a.block < w.heap.size ∧ ∃ cs e fr, w.heap[a.block]? = some (.cells cs e fr) ∧
    ∀ j x, xs[j]? = some x → ∃ vs, vs.length = sz ∧ R K w vs x ∧ ∀ i v, vs[i]? = some v → cs[a.off + (j * sz + i)]? = some v

/-- A slice's value. -/
def RV {X : Type} (sz : Nat) (R : Rel X) : Rel (List X) := fun K w vs xs => ∃ p c, vs = [.slice p xs.length c] ∧ Arr sz R K w p xs c

def bv (b : UInt8) : Value := .int .u8 b.toNat
def byteR : Rel UInt8 := fun _ _ vs b => vs = [bv b]
abbrev Bytes (K : List Nat) (w : World) (p : Option Addr) (l : List UInt8) (c : Nat) : Prop := Arr 1 byteR K w p l c
abbrev bytesR : Rel (List UInt8) := RV 1 byteR

theorem Mono.byte : Mono byteR := fun _ _ _ _ _ _ h => h

theorem Arr.after {X : Type} {sz : Nat} {R : Rel X} {s : Snap} {K' : List Nat} {w : World} {p : Option Addr} {xs : List X} {c : Nat} (h : Arr sz R s.K s.w p xs c) (hR : Mono R) (ha : After s K' w) : Arr sz R K' w p xs c :=
  ⟨h.le, h.cap, h.nil, fun a e hc => by
    obtain ⟨h1, h2, h3, cs, el, fr, hg, hx⟩ := h.at_ a e hc
    refine ⟨h1, fun hk => ?_, Nat.lt_of_lt_of_le h3 ha.1.size, cs, el, fr, (ha.1.block _ h3 h2).trans hg, fun j x hj => ?_⟩
    · rcases ha.2 _ hk with h4 | h4
      · exact h2 h4
      · omega
    · obtain ⟨vs, e1, e2, e3⟩ := hx j x hj
      exact ⟨vs, e1, hR s K' w vs x ha e2, e3⟩⟩

theorem Mono.slice {X : Type} {sz : Nat} {R : Rel X} (hR : Mono R) : Mono (RV sz R) := fun _ _ _ _ _ ha ⟨p, c, e, h⟩ => ⟨p, c, e, h.after hR ha⟩

theorem Own.after {S : List Snap} {H : List Chunk} {w : World} (h : Own S H w) {s : Snap} (hs : s ∈ S) : After s (keys H) w := h.snap s hs

theorem Arr.now {X : Type} {sz : Nat} {R : Rel X} {S : List Snap} {H : List Chunk} {s : Snap} {w : World} {p : Option Addr} {xs : List X} {c : Nat} (h : Arr sz R s.K s.w p xs c) (hR : Mono R) (ho : Own S H w) (hs : s ∈ S) : Arr sz R (keys H) w p xs c :=
  h.after hR (ho.after hs)

theorem Arr.isAt {X : Type} {sz : Nat} {R : Rel X} {K : List Nat} {w : World} {p : Option Addr} {xs : List X} {c : Nat} (h : Arr sz R K w p xs c) (hn : 0 < xs.length) : ∃ a, p = some a := by
  cases p with
  | none => have := h.nil rfl; have := h.le; omega
  | some a => exact ⟨a, rfl⟩

theorem Arr.take {X : Type} {sz : Nat} {R : Rel X} {K : List Nat} {w : World} {p : Option Addr} {xs : List X} {c : Nat} (h : Arr sz R K w p xs c) (m : Nat) : Arr sz R K w p (xs.take m) c :=
  ⟨by have := h.le; simp; omega, h.cap, h.nil, fun a e hc => by
    obtain ⟨h1, h2, h3, cs, el, fr, hg, hx⟩ := h.at_ a e hc
    refine ⟨h1, h2, h3, cs, el, fr, hg, fun j x hj => hx j x ?_⟩
    rw [List.getElem?_take] at hj
    split at hj
    · exact hj
    · cases hj⟩

/-- Cut off at the front. -/
theorem Arr.drop {X : Type} {sz : Nat} {R : Rel X} {K : List Nat} {w : World} {p : Option Addr} {xs : List X} {c : Nat} (h : Arr sz R K w p xs c) (m : Nat) (hm : m ≤ c) :
    Arr sz R K w (if c = m then p else p.map (·.add (m * sz))) (xs.drop m) (c - m) := by
  refine ⟨by have := h.le; simp; omega, by have := h.cap; omega, fun e => ?_, fun a e hc0 => ?_⟩
  · split at e
    · omega
    · cases p with
      | none => have := h.nil rfl; omega
      | some a => simp at e
  · split at e
    · omega
    · cases p with
      | none => simp at e
      | some b =>
        obtain ⟨h1, h2, h3, cs, el, fr, hg, hx⟩ := h.at_ b rfl (by omega)
        simp at e
        have hb : a.block = b.block ∧ a.spot = none ∧ a.off = b.off + m * sz := by
          rw [← e]
          unfold Addr.add
          split
          · rename_i h0; simp [h0, h1]
          · simp
        refine ⟨hb.2.1, by rw [hb.1]; exact h2, by rw [hb.1]; exact h3, cs, el, fr, by rw [hb.1]; exact hg, fun j x hj => ?_⟩
        rw [List.getElem?_drop] at hj
        obtain ⟨vs, e1, e2, e3⟩ := hx _ x hj
        refine ⟨vs, e1, e2, fun i v hv => ?_⟩
        rw [hb.2.2, ← e3 i v hv]
        congr 1
        rw [Nat.add_mul]; omega

/-- What the first cells of a slice hold. -/
def CellsAt (w : World) (p : Option Addr) (news : List Value) : Prop := (p = none ∧ news = []) ∨ ∃ a, p = some a ∧ ∀ j u, news[j]? = some u → w.cell? (a.add j) = some u

theorem Arr.bytes {K : List Nat} {w : World} {p : Option Addr} {l : List UInt8} {c : Nat} (h : Bytes K w p l c) : CellsAt w p (l.map bv) := by
  cases p with
  | none =>
    have := h.nil rfl; have := h.le
    have e : l = [] := List.eq_nil_of_length_eq_zero (by omega)
    exact .inl ⟨rfl, by simp [e]⟩
  | some a =>
    refine .inr ⟨a, rfl, fun j u hu => ?_⟩
    rw [List.getElem?_map] at hu
    cases hb : l[j]? with
    | none => simp [hb] at hu
    | some b =>
      obtain ⟨h1, h2, h3, cs, el, fr, hg, hx⟩ := h.at_ a rfl (by have := (List.getElem?_eq_some_iff.1 hb).1; have := h.le; omega)
      simp [hb] at hu
      obtain ⟨vs, e1, e2, e3⟩ := hx j b hb
      have := e3 0 (bv b) (by rw [e2]; rfl)
      have ha : a.add j = ⟨a.block, a.off + j, none⟩ := by
        obtain ⟨ab, ao, asp⟩ := a
        simp at h1; subst h1
        exact add_lit _ _ _
      rw [ha]
      simp only [World.cell?, hg]
      simpa [← hu] using this

section
variable {P : Program} {n : Nat} {Q : Exit → Act → World → Prop} {σ : Sl} {G : World → Prop} {ops : Array Oper} {rest : List Oper}
variable {d : Nat} {ty : TypeId} {pos : String} {aft : Array Edge}
variable {S : List Snap} {H H' : List Chunk}
variable {X : Type} {sz : Nat} {R : Rel X} {s : Snap} {p : Option Addr} {xs : List X} {c : Nat}

theorem run_indexAt {t e : TypeId} {K : List Nat} {w w' : World} (ht : P.underlying t = some (.slice e)) (hsz : (P.info? e).map (·.size) = some sz) (h : Arr sz R K w' p xs c) {k : IntKind} {i : Int} (h0 : 0 ≤ i) (h1 : i < xs.length) :
    (Instr.indexAt t (.slice p xs.length c) (.int k i)).run P w = .ok (pAt p (i.toNat * sz)) w := by
  obtain ⟨a, rfl⟩ := h.isAt (by omega)
  obtain ⟨h2, _⟩ := h.at_ a rfl (by have := h.le; omega)
  cases hi : P.info? e with
  | none => simp [hi] at hsz
  | some inf =>
    simp [hi] at hsz
    have ha : a.add (i.toNat * sz) = ⟨a.block, a.off + i.toNat * sz, none⟩ := by
      obtain ⟨ab, ao, asp⟩ := a
      simp at h2; subst h2
      exact add_lit _ _ _
    simp [Instr.indexAt, asIntOf, run_underlying ht, h0, h1, sizeOf, typeInfo, hi, hsz, pAt, ha]

theorem VL.index {x y : Operand} {t e : TypeId} {k : IntKind} {i : Int} {K : List Nat} {w' : World} (hx : ev σ x = some (.slice p xs.length c)) (hy : ev σ y = some (.int k i)) (ht : P.underlying t = some (.slice e)) (hsz : (P.info? e).map (·.size) = some sz) (hA : Arr sz R K w' p xs c)
    (h0 : 0 ≤ i) (h1 : i < xs.length) (h : VL P n ops Q rest ((d, pAt p (i.toNat * sz)) :: σ) G) (hdn : Nat.blt d n = true := by rfl) : VL P n ops Q (⟨some d, .indexAddr t x y, ty, pos, aft, none⟩ :: rest) σ G :=
  VL.val rfl rfl hdn (fun a w ha _ => by simp [execOp, ha.ev hx, ha.ev hy, run_indexAt ht hsz hA h0 h1]) h

theorem VL.fieldAt {x : Operand} {s : TypeId} {f off o : Nat} (hx : ev σ x = some (pAt p o)) (hp : p.isSome = true) (hf : fieldOff P s f = some off)
    (k : VL P n ops Q rest ((d, pAt p (o + off)) :: σ) G) (hdn : Nat.blt d n = true := by rfl) : VL P n ops Q (⟨some d, .fieldAddr s x f, ty, pos, aft, none⟩ :: rest) σ G := by
  cases p with
  | none => simp at hp
  | some a =>
    refine VL.fieldAddr (g := a.block) (o := a.off + o) (off := off) (o' := a.off + (o + off)) (by simpa [pAt] using hx) hf (by omega) ?_ hdn
    simpa [pAt] using k

/-- The element's cells, read. -/
theorem Arr.cell {K : List Nat} {w : World} (h : Arr sz R K w p xs c) {j : Nat} {x : X} (hj : xs[j]? = some x) : ∃ vs a, p = some a ∧ vs.length = sz ∧ R K w vs x ∧ ∀ i v, vs[i]? = some v → w.cell? ⟨a.block, a.off + (j * sz + i), none⟩ = some v := by
  obtain ⟨a, rfl⟩ := h.isAt (by have := (List.getElem?_eq_some_iff.1 hj).1; omega)
  obtain ⟨_, _, _, cs, el, fr, hg, hx⟩ := h.at_ a rfl (by have := (List.getElem?_eq_some_iff.1 hj).1; have := h.le; omega)
  obtain ⟨vs, e1, e2, e3⟩ := hx j x hj
  exact ⟨vs, a, rfl, e1, e2, fun i v hv => by simp [World.cell?, hg, e3 i v hv]⟩

/-- A cell of element j: cell number i of it. -/
theorem VL.elem {t : TypeId} {x : Operand} {o : Nat} (j i : Nat) {y : X} (hx : ev σ x = some (pAt p o)) (ht : kindOf P t = some none) (hG : ∀ w, G w → Own S H w) (hs : s ∈ S) (hR : Mono R) (hA : Arr sz R s.K s.w p xs c)
    (hj : xs[j]? = some y) (ho : o = j * sz + i) (hi : i < sz)
    (k : ∀ vs v, vs.length = sz → R s.K s.w vs y → vs[i]? = some v → VL P n ops Q rest ((d, v) :: σ) G) (hdn : Nat.blt d n = true := by rfl) : VL P n ops Q (⟨some d, .load t x, ty, pos, aft, none⟩ :: rest) σ G := by
  obtain ⟨vs, a, rfl, hl, hr, hc⟩ := hA.cell hj
  have hv : vs[i]? = some vs[i] := List.getElem?_eq_getElem (by omega)
  refine VL.val rfl rfl hdn (fun b w hb hw => ?_) (k vs vs[i] hl hr hv)
  obtain ⟨vs', a', e, hl', _, hc'⟩ := (hA.now hR (hG w hw) hs).cell hj
  cases e
  obtain ⟨h1, h2, h3, cs, el, fr, hg, _⟩ := hA.at_ a rfl (by have := (List.getElem?_eq_some_iff.1 hj).1; have := hA.le; omega)
  have hsame : w.cell? ⟨a.block, a.off + (j * sz + i), none⟩ = some vs[i] := by
    have := hc i _ hv
    have hb := ((hG w hw).after hs).1.block a.block h3 h2
    rw [← this]
    simp only [World.cell?, hb]
  have hx' := hb.ev hx
  simp only [pAt, Option.map_some] at hx'
  subst ho
  simp [execOp, hx', run_load_cell ht hsame]

/-- A struct or array within element j. -/
theorem VL.elems {t : TypeId} {x : Operand} {o m : Nat} (j i : Nat) {y : X} (hx : ev σ x = some (pAt p o)) (ht : kindOf P t = some (some m)) (hG : ∀ w, G w → Own S H w) (hs : s ∈ S) (hA : Arr sz R s.K s.w p xs c)
    (hj : xs[j]? = some y) (ho : o = j * sz + i) (hi : i + m ≤ sz)
    (k : ∀ vs, vs.length = sz → R s.K s.w vs y → VL P n ops Q rest ((d, .agg ((vs.drop i).take m).toArray) :: σ) G) (hdn : Nat.blt d n = true := by rfl) : VL P n ops Q (⟨some d, .load t x, ty, pos, aft, none⟩ :: rest) σ G := by
  obtain ⟨vs, a, rfl, hl, hr, hc⟩ := hA.cell hj
  refine VL.val rfl rfl hdn (fun b w hb hw => ?_) (k vs hl hr)
  obtain ⟨h1, h2, h3, cs, el, fr, hg, _⟩ := hA.at_ a rfl (by have := (List.getElem?_eq_some_iff.1 hj).1; have := hA.le; omega)
  have hbk := ((hG w hw).after hs).1.block a.block h3 h2
  have hlen : ((vs.drop i).take m).length = m := by simp; omega
  have hcell : ∀ q v, ((vs.drop i).take m)[q]? = some v → w.cell? ((⟨a.block, a.off + o, none⟩ : Addr).add q) = some v := by
    intro q v hq
    rw [List.getElem?_take] at hq
    split at hq
    · rw [List.getElem?_drop] at hq
      have := hc (i + q) v hq
      rw [add_lit, ← this]
      subst ho
      rw [show a.off + (j * sz + i) + q = a.off + (j * sz + (i + q)) by omega]
      simp only [World.cell?, hbk]
    · cases hq
  have hx' := hb.ev hx
  simp only [pAt, Option.map_some] at hx'
  simp [execOp, hx', run_load_agg (by rw [hlen]; exact ht) hcell]

/-- A byte. -/
theorem VL.byte {t : TypeId} {x : Operand} {l : List UInt8} {o : Nat} {y : UInt8} (hx : ev σ x = some (pAt p o)) (ht : kindOf P t = some none) (hG : ∀ w, G w → Own S H w) (hs : s ∈ S) (hA : Bytes s.K s.w p l c)
    (hj : l[o]? = some y) (k : VL P n ops Q rest ((d, .int .u8 y.toNat) :: σ) G) (hdn : Nat.blt d n = true := by rfl) : VL P n ops Q (⟨some d, .load t x, ty, pos, aft, none⟩ :: rest) σ G :=
  VL.elem o 0 hx ht hG hs Mono.byte hA hj (by omega) (by omega) (fun vs v _ hr hv => by
    rw [hr] at hv
    simp at hv
    subst hv
    exact k) hdn

/-- 'x[lo:hi]' -/
theorem run_sliceAt {t e : TypeId} {w : World} (ht : P.underlying t = some (.slice e)) (hsz : (P.info? e).map (·.size) = some sz) {p : Option Addr} {m c : Nat} {lo hi : Option Value} {a b : Nat}
    (hlo : (lo = none ∧ a = 0) ∨ ∃ k, lo = some (.int k (a : Int))) (hhi : (hi = none ∧ b = m) ∨ ∃ k, hi = some (.int k (b : Int))) (hab : a ≤ b) (hbc : b ≤ c) :
    (Instr.sliceAt t (.slice p m c) lo hi none).run P w = .ok (.slice (if c = a then p else p.map (·.add (a * sz))) (b - a) (c - a)) w := by
  cases hinf : P.info? e with
  | none => simp [hinf] at hsz
  | some inf =>
    simp [hinf] at hsz
    have h1 : (0 : Int) ≤ b ∧ (b : Int) ≤ c := by omega
    have h2 : (0 : Int) ≤ a ∧ (a : Int) ≤ b := by omega
    rcases hlo with ⟨rfl, rfl⟩ | ⟨k, rfl⟩ <;> rcases hhi with ⟨rfl, rfl⟩ | ⟨k', rfl⟩ <;>
      simp [Instr.sliceAt, Instr.slice, run_underlying ht, Instr.sliceBounds, Instr.sliceBound, asIntOf, sizeOf, typeInfo, hinf, hsz, h1, h2, hab, hbc]

theorem VL.cut {t e : TypeId} {x : Operand} {lo hi : Option Operand} {vlo vhi : Option Value} {K : List Nat} {w' : World} (a b : Nat) (hx : ev σ x = some (.slice p xs.length c)) (ht : P.underlying t = some (.slice e)) (hsz : (P.info? e).map (·.size) = some sz) (hA : Arr sz R K w' p xs c)
    (hlo : lo.bind (ev σ) = vlo) (hlo' : lo.isSome = vlo.isSome) (hhi : hi.bind (ev σ) = vhi) (hhi' : hi.isSome = vhi.isSome)
    (ha : (vlo = none ∧ a = 0) ∨ ∃ k, vlo = some (.int k (a : Int))) (hb : (vhi = none ∧ b = xs.length) ∨ ∃ k, vhi = some (.int k (b : Int))) (hab : a ≤ b) (hbc : b ≤ xs.length)
    (k : ∀ p', Arr sz R K w' p' ((xs.drop a).take (b - a)) (c - a) → VL P n ops Q rest ((d, .slice p' (b - a) (c - a)) :: σ) G) (hdn : Nat.blt d n = true := by rfl) : VL P n ops Q (⟨some d, .slice t x lo hi none, ty, pos, aft, none⟩ :: rest) σ G := by
  have hle := hA.le
  refine VL.val rfl rfl hdn (fun b' w hb' _ => ?_) (k _ ((hA.drop a (by omega)).take (b - a)))
  have e1 : lo.map b'.eval = vlo := by
    cases lo with
    | none => simpa using hlo
    | some o => simp at hlo hlo' ⊢; cases vlo with
      | none => simp at hlo'
      | some v => simp [hb'.ev hlo]
  have e2 : hi.map b'.eval = vhi := by
    cases hi with
    | none => simpa using hhi
    | some o => simp at hhi hhi' ⊢; cases vhi with
      | none => simp at hhi'
      | some v => simp [hb'.ev hhi]
  simp [execOp, hb'.ev hx, e1, e2, run_sliceAt (P := P) (w := w) ht hsz ha hb hab (by omega : b ≤ c)]

/-- 'string(b)' -/
theorem foldl_push (l : List UInt8) : ∀ acc : List UInt8, ((l.map fun b => (b.toNat : Int)).foldl (fun r n => r.push (UInt8.ofNat n.toNat)) (ByteArray.mk acc.toArray)) = ByteArray.mk (acc ++ l).toArray := by
  induction l with
  | nil => intro acc; simp
  | cons b r ih =>
    intro acc
    have h : (ByteArray.mk acc.toArray).push (UInt8.ofNat ((b.toNat : Int)).toNat) = ByteArray.mk (acc ++ [b]).toArray := by
      simp [ByteArray.push]
    simp only [List.map_cons, List.foldl_cons, h, ih, List.append_assoc, List.singleton_append]

theorem run_string {w : World} {K : List Nat} {l : List UInt8} (hA : Bytes K w p l c) : (Conv.bytesToString (.slice p l.length c)).run P w = .ok (.string ⟨l.toArray⟩) w := by
  cases p with
  | none =>
    have := hA.nil rfl; have := hA.le
    have e : l = [] := List.eq_nil_of_length_eq_zero (by omega)
    subst e; rfl
  | some a =>
    rcases hA.bytes with ⟨h, _⟩ | ⟨a', h, hc⟩
    · cases h
    · cases h
      have hl := run_loadCells_list (P := P) w a (l.map bv) hc
      have hm : (l.map fun b => (b.toNat : Int)).map (Value.int .u8) = l.map bv := by rw [List.map_map]; rfl
      rw [List.length_map] at hl
      have := run_bytesToString (P := P) w a l.length c (l.map fun b => (b.toNat : Int)) (by rw [hm]; exact hl)
      rw [this, show ByteArray.empty = ByteArray.mk ([] : List UInt8).toArray from rfl, foldl_push]
      simp

theorem VL.str {src dst e : TypeId} {x : Operand} {l : List UInt8} (hs1 : P.underlying src = some (.slice e)) (he : P.underlying e = some (.int .u8)) (hd1 : P.underlying dst = some .string) (hx : ev σ x = some (.slice p l.length c)) (hG : ∀ w, G w → Own S H w) (hs : s ∈ S) (hA : Bytes s.K s.w p l c)
    (k : VL P n ops Q rest ((d, .string ⟨l.toArray⟩) :: σ) G) (hdn : Nat.blt d n = true := by rfl) : VL P n ops Q (⟨some d, .convert src dst x, ty, pos, aft, none⟩ :: rest) σ G :=
  VL.val rfl rfl hdn (fun a w ha hw => by
    have := run_string (P := P) (hA.now Mono.byte (hG w hw) hs)
    cases p <;> simp [execOp, ha.ev hx, convert, run_underlying hs1, run_underlying hd1, run_underlying he, this]) k

/-- Two strings, one against the other. -/
theorem VL.eqls {x y : Operand} {t ty' : TypeId} {a b : ByteArray} (hx : ev σ x = some (.string a)) (hy : ev σ y = some (.string b)) (h : VL P n ops Q rest ((d, .bool (decide (a = b))) :: σ) G) (hdn : Nat.blt d n = true := by rfl) : VL P n ops Q (⟨some d, .binOp .eql t x y ty', ty, pos, aft, none⟩ :: rest) σ G :=
  VL.val rfl rfl hdn (fun c w ha _ => by
    have e : eqGuard .eql t x y (.string a) (.string b) = pure () := rfl
    have e2 : (a.toList == b.toList) = decide (a = b) := by
      by_cases hab : a = b
      · subst hab; simp
      · have : a.toList ≠ b.toList := fun h0 => hab (by
          rw [ByteArray.toList_eq, ByteArray.toList_eq] at h0
          obtain ⟨⟨u⟩⟩ := a
          obtain ⟨⟨v⟩⟩ := b
          simp at h0
          rw [h0])
        simp [hab, this]
    simp [execOp, ha.ev hx, ha.ev hy, e, binOp, Op.stringOp, e2]) h
end
end Go.Vc
