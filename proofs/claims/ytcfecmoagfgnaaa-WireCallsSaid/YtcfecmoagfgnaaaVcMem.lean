/- The rules of the walks, continued: memory. What a call owns is a list of chunks; what it only reads is a fact of a world as it once was. -/
import Derived.Test.YtcfecmoagfgnaaaVcOps
namespace Go.Vc

/-- A world as it was, and the blocks that may have turned since. -/
structure Snap where
  w : World
  K : List Nat

structure Snap.ok (s : Snap) (w : World) : Prop where
  os : w.os = s.w.os
  tape : w.tape = s.w.tape
  output : w.output = s.w.output
  size : s.w.heap.size ≤ w.heap.size
  block : ∀ k, k < s.w.heap.size → k ∉ s.K → w.heap[k]? = s.w.heap[k]?

/-- Blocks that are owned, and what holds of them; and of memory that nobody turns (K: all blocks that are owned by anybody). -/
structure Chunk where
  ks : List Nat
  φ : List Nat → World → Prop
  loc : ∀ K K' w w', (∀ k ∈ ks, w'.heap[k]? = w.heap[k]?) → Snap.ok ⟨w, K⟩ w' → (∀ k ∈ K', k ∈ K ∨ w.heap.size ≤ k) → φ K w → φ K' w'

def keys (H : List Chunk) : List Nat := H.flatMap (·.ks)

structure Own (S : List Snap) (H : List Chunk) (w : World) : Prop where
  nodup : (keys H).Nodup
  lt : ∀ k ∈ keys H, k < w.heap.size
  holds : ∀ c ∈ H, c.φ (keys H) w
  snap : ∀ s ∈ S, s.ok w ∧ ∀ k ∈ keys H, k ∈ s.K ∨ s.w.heap.size ≤ k

theorem keys_cons (c : Chunk) (H : List Chunk) : keys (c :: H) = c.ks ++ keys H := by simp [keys]

theorem Own.perm {S : List Snap} {H H' : List Chunk} {w : World} (h : Own S H w) (hp : H'.Perm H) : Own S H' w := by
  have hk : (keys H').Perm (keys H) := List.Perm.flatMap_right _ hp
  exact ⟨hk.nodup_iff.2 h.nodup, fun k hm => h.lt k (hk.mem_iff.1 hm), fun c hc => c.loc (keys H) (keys H') w w (fun _ _ => rfl) ⟨rfl, rfl, rfl, Nat.le_refl _, fun _ _ _ => rfl⟩ (fun k hm => .inl (hk.mem_iff.1 hm)) (h.holds c (hp.mem_iff.1 hc)), fun s hs => ⟨(h.snap s hs).1, fun k hm => (h.snap s hs).2 k (hk.mem_iff.1 hm)⟩⟩

/-- One chunk gives way to others; all that was there beside it stays. -/
theorem Own.step {S : List Snap} {c : Chunk} {A H : List Chunk} {w w' : World} (h : Own S (c :: H) w) (hos : w'.os = w.os) (htape : w'.tape = w.tape) (hout : w'.output = w.output)
    (hsz : w.heap.size ≤ w'.heap.size) (hb : ∀ k, k < w.heap.size → k ∉ c.ks → w'.heap[k]? = w.heap[k]?)
    (hn : (keys A).Nodup) (hA : ∀ k ∈ keys A, (k ∈ c.ks ∨ w.heap.size ≤ k) ∧ k < w'.heap.size) (hφ : ∀ a ∈ A, a.φ (keys (A ++ H)) w') : Own S (A ++ H) w' := by
  have e : keys (A ++ H) = keys A ++ keys H := by simp [keys]
  have hc := h.nodup
  rw [keys_cons, List.nodup_append] at hc
  obtain ⟨_, hn2, hd⟩ := hc
  have hlt : ∀ k ∈ keys H, k < w.heap.size := fun k hk => h.lt k (by rw [keys_cons]; simp [hk])
  refine ⟨?_, fun k hk => ?_, fun a ha => ?_, fun s hs => ?_⟩
  · rw [e, List.nodup_append]
    refine ⟨hn, hn2, fun x hx y hy hxy => ?_⟩
    subst hxy
    rcases (hA x hx).1 with h1 | h1
    · exact hd x h1 x hy rfl
    · have := hlt x hy; omega
  · rw [e, List.mem_append] at hk
    rcases hk with hk | hk
    · exact (hA k hk).2
    · exact Nat.lt_of_lt_of_le (hlt k hk) hsz
  · rw [List.mem_append] at ha
    rcases ha with ha | ha
    · exact hφ a ha
    · refine a.loc (keys (c :: H)) _ w w' (fun k hk => hb k ?_ ?_) ⟨hos, htape, hout, hsz, fun k hk hkK => hb k hk (fun hkc => hkK (by rw [keys_cons]; simp [hkc]))⟩ (fun k hkA => ?_) (h.holds a (by simp [ha]))
      · exact hlt k (List.mem_flatMap.2 ⟨a, ha, hk⟩)
      · intro hkc
        exact hd k hkc k (List.mem_flatMap.2 ⟨a, ha, hk⟩) rfl
      · rw [e, List.mem_append] at hkA
        rw [keys_cons, List.mem_append]
        rcases hkA with hkA | hkA
        · rcases (hA k hkA).1 with h1 | h1
          · exact .inl (.inl h1)
          · exact .inr h1
        · exact .inl (.inr hkA)
  · obtain ⟨ho, hk⟩ := h.snap s hs
    refine ⟨⟨hos.trans ho.os, htape.trans ho.tape, hout.trans ho.output, Nat.le_trans ho.size hsz, fun k hks hkK => ?_⟩, fun k hkA => ?_⟩
    · rw [hb k (Nat.lt_of_lt_of_le hks ho.size) ?_]
      · exact ho.block k hks hkK
      · intro hkc
        rcases hk k (by rw [keys_cons]; simp [hkc]) with h1 | h1
        · exact hkK h1
        · omega
    · rw [e, List.mem_append] at hkA
      rcases hkA with hkA | hkA
      · rcases (hA k hkA).1 with h1 | h1
        · exact hk k (by rw [keys_cons]; simp [h1])
        · right; exact Nat.le_trans ho.size h1
      · exact hk k (by rw [keys_cons]; simp [hkA])

/-- Nothing is owned there: the same for none. -/
def nothing : Chunk := ⟨[], fun _ _ => True, fun _ _ _ _ _ _ _ h => h⟩

theorem Own.nothing {S : List Snap} {H : List Chunk} {w : World} (h : Own S H w) : Own S (Vc.nothing :: H) w :=
  ⟨by simpa [keys_cons, Vc.nothing] using h.nodup, fun k hk => h.lt k (by simpa [keys_cons, Vc.nothing] using hk), fun c hc => by
    rcases List.mem_cons.1 hc with rfl | hc
    · trivial
    · simpa [keys_cons, Vc.nothing] using h.holds c hc, fun s hs => ⟨(h.snap s hs).1, fun k hk => (h.snap s hs).2 k (by simpa [keys_cons, Vc.nothing] using hk)⟩⟩

/-- Memory that is new. -/
theorem Own.grow {S : List Snap} {A H : List Chunk} {w w' : World} (h : Own S H w) (hos : w'.os = w.os) (htape : w'.tape = w.tape) (hout : w'.output = w.output)
    (hsz : w.heap.size ≤ w'.heap.size) (hb : ∀ k, k < w.heap.size → w'.heap[k]? = w.heap[k]?)
    (hn : (keys A).Nodup) (hA : ∀ k ∈ keys A, w.heap.size ≤ k ∧ k < w'.heap.size) (hφ : ∀ a ∈ A, a.φ (keys (A ++ H)) w') : Own S (A ++ H) w' :=
  Own.step (Own.nothing h) hos htape hout hsz (fun k hk _ => hb k hk) hn (fun k hk => ⟨.inr (hA k hk).1, (hA k hk).2⟩) hφ

theorem Own.drop {S : List Snap} {c : Chunk} {H : List Chunk} {w : World} (h : Own S (c :: H) w) : Own S H w := by
  have := Own.step (A := []) h rfl rfl rfl (Nat.le_refl _) (fun _ _ _ => rfl) (by simp [keys]) (by simp [keys]) (by simp)
  simpa using this

/-- The world as it is now, kept. -/
theorem Own.keep {S : List Snap} {H : List Chunk} {w : World} (h : Own S H w) : Own (⟨w, keys H⟩ :: S) H w :=
  ⟨h.nodup, h.lt, h.holds, fun s hs => by
    rcases List.mem_cons.1 hs with rfl | hs
    · exact ⟨⟨rfl, rfl, rfl, Nat.le_refl _, fun _ _ _ => rfl⟩, fun k hk => .inl hk⟩
    · exact h.snap s hs⟩
theorem Own.lose {s : Snap} {S : List Snap} {H : List Chunk} {w : World} (h : Own (s :: S) H w) : Own S H w :=
  ⟨h.nodup, h.lt, h.holds, fun s hs => h.snap s (by simp [hs])⟩

theorem Own.start (w : World) : Own [⟨w, []⟩] [] w :=
  ⟨by simp [keys], by simp [keys], by simp, fun s hs => by
    simp at hs; subst hs
    exact ⟨⟨rfl, rfl, rfl, Nat.le_refl _, fun _ _ _ => rfl⟩, by simp [keys]⟩⟩

theorem Own.below {S : List Snap} {H : List Chunk} {w0 w : World} (h : Own S H w) (hs : (⟨w0, []⟩ : Snap) ∈ S) : RowKit.Below w0.heap.size w0 w :=
  let o := (h.snap _ hs).1
  ⟨o.os, o.tape, o.output, o.size, fun k hk => o.block k hk (by simp)⟩

/-! A block of cells -/
def cat {α : Type} : List (List α) → List α
  | [] => []
  | [p] => p
  | p :: q :: r => p ++ cat (q :: r)

theorem cat_eq {α : Type} : ∀ ps : List (List α), cat ps = ps.flatten
  | [] => rfl
  | [p] => by simp [cat]
  | p :: q :: r => by simp [cat, cat_eq (q :: r)]

def blk (g : Nat) (T : TypeId) (L : List Nat) (ps : List (List Value)) : Chunk :=
  ⟨[g], fun _ w => w.heap[g]? = some (.cells (cat ps).toArray T (0, 0)) ∧ ps.map List.length = L, fun _ _ w w' h _ _ hw => ⟨by rw [h g (by simp)]; exact hw.1, hw.2⟩⟩

/-- How many cells a variable of the type takes: none: it is one cell's value. -/
def kindOf (P : Program) (t : TypeId) : Option (Option Nat) :=
  match P.underlying t, P.info? t with
  | some (.struct _), some i => some (some i.size)
  | some (.array ..), some i => some (some i.size)
  | some _, some i => if i.size = 1 then some none else none
  | _, _ => none

theorem kindOf_cell {P : Program} {t : TypeId} (h : kindOf P t = some none) (w : World) : (isAgg t).run P w = .ok false w ∧ (sizeOf t).run P w = .ok 1 w := by
  unfold kindOf at h
  cases hu : P.underlying t with
  | none => simp [hu] at h
  | some d =>
    cases hi : P.info? t with
    | none => cases d <;> simp [hu, hi] at h
    | some i =>
      simp only [hu, hi] at h
      have hsz : i.size = 1 ∧ (match d with | .struct _ | .array _ _ => false | _ => true) = true := by
        cases d <;> simp at h <;> simp [h]
      constructor
      · unfold isAgg
        rw [Sem.run_bind, run_underlying hu w]
        cases d <;> simp_all
      · simp [sizeOf, typeInfo, hi, hsz.1]

theorem kindOf_agg {P : Program} {t : TypeId} {m : Nat} (h : kindOf P t = some (some m)) (w : World) : (isAgg t).run P w = .ok true w ∧ (sizeOf t).run P w = .ok m w := by
  unfold kindOf at h
  cases hu : P.underlying t with
  | none => simp [hu] at h
  | some d =>
    cases hi : P.info? t with
    | none => cases d <;> simp [hu, hi] at h
    | some i =>
      simp only [hu, hi] at h
      have hsz : i.size = m ∧ (match d with | .struct _ | .array _ _ => true | _ => false) = true := by
        cases d <;> simp at h <;> simp [h]
      constructor
      · unfold isAgg
        rw [Sem.run_bind, run_underlying hu w]
        cases d <;> simp_all
      · simp [sizeOf, typeInfo, hi, hsz.1]

theorem add_lit (g o i : Nat) : (⟨g, o, none⟩ : Addr).add i = ⟨g, o + i, none⟩ := by unfold Addr.add; split <;> simp_all

theorem run_load_cell {P : Program} {t : TypeId} (h : kindOf P t = some none) {w : World} {a : Addr} {v : Value} (hc : w.cell? a = some v) : (Instr.loadAt t (.pointer (some a))).run P w = .ok v w := by
  simp [Instr.loadAt, Instr.sureAddr, loadVar, (kindOf_cell h w).1, hc]

theorem run_load_agg {P : Program} {t : TypeId} {cs : List Value} (h : kindOf P t = some (some cs.length)) {w : World} {a : Addr} (hc : ∀ j v, cs[j]? = some v → w.cell? (a.add j) = some v) :
    (Instr.loadAt t (.pointer (some a))).run P w = .ok (.agg cs.toArray) w := by
  simp [Instr.loadAt, Instr.sureAddr, loadVar, (kindOf_agg h w).1, (kindOf_agg h w).2, run_loadCells_list (P := P) w a cs hc]

def ok1 (vs : List Value) : Prop := ∀ v ∈ vs, v.oneCell' = true

theorem run_store_cells {P : Program} {t : TypeId} {w : World} {g o : Nat} {T : TypeId} {cur : List Value} {v : Value} {vs : List Value} (hv : v.cells = vs.toArray)
    (hk : kindOf P t = some (some vs.length) ∨ (kindOf P t = some none ∧ vs.length = 1)) (hg : w.heap[g]? = some (.cells cur.toArray T (0, 0))) (hle : o + vs.length ≤ cur.length) (h1 : ok1 vs) :
    (Instr.storeAt t (.pointer (some ⟨g, o, none⟩)) v).run P w = .ok () (w.setRow g (cur.take o ++ vs ++ cur.drop (o + vs.length)).toArray) := by
  have hst := run_storeCells_at P g o T vs 0 cur.toArray w hg (by simpa using hle) h1
  have hsz : (sizeOf t).run P w = .ok vs.length w := by
    rcases hk with hk | ⟨hk, e⟩
    · exact (kindOf_agg hk w).2
    · rw [e]; exact (kindOf_cell hk w).2
  simp only [Nat.add_zero] at hst
  simp [Instr.storeAt, Instr.sureAddr, storeVar, hsz, hv, hst]

theorem sum_take_length {α : Type} (ps : List (List α)) (j : Nat) : (ps.take j).flatten.length = ((ps.map List.length).take j).sum := by
  rw [List.length_flatten, List.map_take]

/-- The parts from j on, m of them: where they lie. -/
theorem flatten_at {α : Type} (ps : List (List α)) (j m : Nat) : ps.flatten = (ps.take j).flatten ++ (((ps.drop j).take m).flatten ++ (ps.drop (j + m)).flatten) := by
  rw [← List.flatten_append, ← List.flatten_append]
  congr 1
  rw [← List.drop_drop, List.take_append_drop, List.take_append_drop]

def fieldOff (P : Program) (s : TypeId) (f : Nat) : Option Nat :=
  match P.underlying s with
  | some (.struct fs) => match fs[f]? with
    | some fd => match P.info? fd.type with
      | some i => if i.size = 0 then none else some fd.offset
      | none => none
    | none => none
  | _ => none

section
variable {P : Program} {n : Nat} {Q : Exit → Act → World → Prop} {σ : Sl} {G : World → Prop} {ops : Array Oper} {rest : List Oper}
variable {d : Nat} {ty : TypeId} {pos : String} {aft : Array Edge}
variable {S : List Snap} {H H' : List Chunk}

theorem VL.fieldAddr {s : TypeId} {x : Operand} {f g o off o' : Nat} (hx : ev σ x = some (.pointer (some ⟨g, o, none⟩))) (hf : fieldOff P s f = some off) (ho : o + off = o')
    (k : VL P n ops Q rest ((d, .pointer (some ⟨g, o', none⟩)) :: σ) G) (hdn : Nat.blt d n = true := by rfl) : VL P n ops Q (⟨some d, .fieldAddr s x f, ty, pos, aft, none⟩ :: rest) σ G :=
  VL.val rfl rfl hdn (fun a w ha _ => by
    subst ho
    unfold fieldOff at hf
    cases hu : P.underlying s with
    | none => simp [hu] at hf
    | some u =>
      cases u <;> simp [hu] at hf
      rename_i fs
      cases hfd : fs[f]? with
      | none => simp [hfd] at hf
      | some fd =>
        cases hi : P.info? fd.type with
        | none => simp [hfd, hi] at hf
        | some i =>
          simp [hfd, hi] at hf
          simp [execOp, ha.ev hx, Instr.fieldAt, run_underlying hu, hfd, Instr.sureAddr, fieldPlace, sizeOf, typeInfo, hi, hf.1, add_lit, hf.2]) k

/-- One cell out of a block that is owned: chunk i, part j. -/
theorem VL.load {t : TypeId} {x : Operand} {g o : Nat} {v : Value} {T : TypeId} {L : List Nat} {ps : List (List Value)} (i j : Nat) (hx : ev σ x = some (.pointer (some ⟨g, o, none⟩))) (ht : kindOf P t = some none)
    (hO : ∀ w, G w → Own S H w) (hi : H[i]? = some (blk g T L ps)) (hj : ps[j]? = some [v]) (ho : (L.take j).sum = o)
    (k : VL P n ops Q rest ((d, v) :: σ) G) (hdn : Nat.blt d n = true := by rfl) : VL P n ops Q (⟨some d, .load t x, ty, pos, aft, none⟩ :: rest) σ G :=
  VL.val rfl rfl hdn (fun a w ha hw => by
    obtain ⟨hg, hL⟩ := (hO w hw).holds _ (List.mem_of_getElem? hi)
    have hc : w.cell? ⟨g, o, none⟩ = some v := by
      rw [cell_of_row w g o _ T (0, 0) hg]
      have e := flatten_at ps j 1
      have hlen := sum_take_length ps j
      rw [hL, ho] at hlen
      have h1 : (ps.drop j).take 1 = [[v]] := by
        have hlt := (List.getElem?_eq_some_iff.1 hj).1
        rw [List.drop_eq_getElem_cons hlt]
        simp [(List.getElem?_eq_some_iff.1 hj).2]
      rw [h1] at e
      simp only [List.getElem?_toArray, cat_eq, e]
      rw [List.getElem?_append_right (by omega), hlen]
      simp
    simp [execOp, ha.ev hx, run_load_cell ht hc]) k

/-- A struct or array, m parts from part j on. -/
theorem VL.loads {t : TypeId} {x : Operand} {g o sz : Nat} {cs : List Value} {T : TypeId} {L : List Nat} {ps : List (List Value)} (i j m : Nat) (hx : ev σ x = some (.pointer (some ⟨g, o, none⟩))) (ht : kindOf P t = some (some sz))
    (hO : ∀ w, G w → Own S H w) (hi : H[i]? = some (blk g T L ps)) (hj : cat ((ps.drop j).take m) = cs) (ho : (L.take j).sum = o) (hm : ((L.drop j).take m).sum = sz)
    (k : VL P n ops Q rest ((d, .agg cs.toArray) :: σ) G) (hdn : Nat.blt d n = true := by rfl) : VL P n ops Q (⟨some d, .load t x, ty, pos, aft, none⟩ :: rest) σ G :=
  VL.val rfl rfl hdn (fun a w ha hw => by
    obtain ⟨hg, hL⟩ := (hO w hw).holds _ (List.mem_of_getElem? hi)
    rw [cat_eq] at hj
    have hlen := sum_take_length ps j
    rw [hL, ho] at hlen
    have hcl : cs.length = sz := by
      rw [← hj, List.length_flatten, List.map_take, List.map_drop, hL, hm]
    subst hcl
    have hc : ∀ i v, cs[i]? = some v → w.cell? ((⟨g, o, none⟩ : Addr).add i) = some v := by
      intro i v hv
      rw [add_lit, cell_of_row w g _ _ T (0, 0) hg]
      have e := flatten_at ps j m
      rw [hj] at e
      simp only [List.getElem?_toArray, cat_eq, e]
      rw [List.getElem?_append_right (by omega), hlen, List.getElem?_append_left (by have := (List.getElem?_eq_some_iff.1 hv).1; omega)]
      rw [show o + i - o = i by omega]; exact hv
    simp [execOp, ha.ev hx, run_load_agg ht hc]) k

theorem perm_set {α : Type} : ∀ (H : List α) (i : Nat) (c' : α), i < H.length → (H.set i c').Perm (c' :: H.eraseIdx i)
  | [], _, _, h => by simp at h
  | x :: r, 0, c', _ => by simp
  | x :: r, i + 1, c', h => by
    simp only [List.set_cons_succ, List.eraseIdx_cons_succ]
    exact ((perm_set r i c' (by simpa using h)).cons x).trans (List.Perm.swap _ _ _)
theorem perm_at {α : Type} {H : List α} {i : Nat} {c : α} (h : H[i]? = some c) : H.Perm (c :: H.eraseIdx i) := by
  have hlt := (List.getElem?_eq_some_iff.1 h).1
  have := perm_set H i c hlt
  have e : H.set i c = H := by
    rw [← (List.getElem?_eq_some_iff.1 h).2]
    exact List.set_getElem_self hlt
  rwa [e] at this

theorem blk_set {S : List Snap} {H H' : List Chunk} {w : World} {i g : Nat} {T : TypeId} {L : List Nat} {ps ps' : List (List Value)} (h : Own S H w) (hi : H[i]? = some (blk g T L ps)) (hl : ps'.map List.length = L)
    (hH : H.set i (blk g T L ps') = H') : Own S H' (w.setRow g (cat ps').toArray) := by
  have hlt := (List.getElem?_eq_some_iff.1 hi).1
  have e1 : H.Perm (blk g T L ps :: H.eraseIdx i) := perm_at hi
  have e2 : H'.Perm (blk g T L ps' :: H.eraseIdx i) := by
    rw [← hH]
    exact perm_set _ _ _ hlt
  have h1 := h.perm e1.symm
  obtain ⟨hg, _⟩ := h1.holds (blk g T L ps) (by simp)
  refine Own.perm ?_ e2
  have := Own.step (A := [blk g T L ps']) (w' := w.setRow g (cat ps').toArray) h1 rfl rfl rfl (by simp) (fun k _ hk => setRow_other w g k _ (by simpa [blk] using hk)) (by simp [keys, blk]) (fun k hk => ?_) (fun a ha => ?_)
  · simpa using this
  · simp only [keys, blk, List.flatMap_cons, List.flatMap_nil, List.append_nil, List.mem_singleton] at hk
    subst hk
    have hlt2 : k < w.heap.size := (Array.getElem?_eq_some_iff.1 hg).1
    exact ⟨.inl (by simp [blk]), by simpa using hlt2⟩
  · simp at ha
    subst ha
    exact ⟨setRow_heap w g _ _ T _ hg, hl⟩

/-- A store into a block that is owned: the parts from j on, m of them, are now qs. -/
theorem VL.store {t : TypeId} {x y : Operand} {g o : Nat} {v : Value} {T : TypeId} {L : List Nat} {ps qs ps' : List (List Value)} (i j m : Nat) (hx : ev σ x = some (.pointer (some ⟨g, o, none⟩))) (hy : ev σ y = some v) (hv : v.cells = (cat qs).toArray)
    (ht : kindOf P t = some (some ((L.drop j).take m).sum) ∨ (kindOf P t = some none ∧ ((L.drop j).take m).sum = 1)) (hi : H[i]? = some (blk g T L ps)) (ho : (L.take j).sum = o) (hq : qs.map List.length = (L.drop j).take m)
    (h1 : ok1 (cat qs)) (hp : ps.take j ++ (qs ++ ps.drop (j + m)) = ps') (hH : H.set i (blk g T L ps') = H')
    (k : VL P n ops Q rest σ (Own S H')) : VL P n ops Q (⟨none, .store t x y, ty, pos, aft, none⟩ :: rest) σ (Own S H) :=
  VL.act0 rfl rfl (fun a w ha hw => by
    obtain ⟨hg, hL⟩ := hw.holds _ (List.mem_of_getElem? hi)
    have hql : (cat qs).length = ((L.drop j).take m).sum := by rw [cat_eq, List.length_flatten, hq]
    have hlen := sum_take_length ps j
    rw [hL, ho] at hlen
    have e := flatten_at ps j m
    have hmid : ((ps.drop j).take m).flatten.length = ((L.drop j).take m).sum := by
      rw [List.length_flatten, List.map_take, List.map_drop, hL]
    have hle : o + (cat qs).length ≤ (cat ps).length := by
      rw [cat_eq ps, e, hql]
      simp only [List.length_append]
      omega
    have hst := run_store_cells (P := P) (w := w) (g := g) (o := o) (T := T) (cur := cat ps) hv (by rw [hql]; exact ht) hg hle h1
    have hrow : (cat ps).take o ++ cat qs ++ (cat ps).drop (o + (cat qs).length) = cat ps' := by
      rw [← hp, cat_eq, cat_eq, cat_eq, List.flatten_append, List.flatten_append, e, List.append_assoc]
      congr 1
      · rw [List.take_append_of_le_length (by omega), ← hlen, List.take_length]
      · congr 1
        rw [← cat_eq qs, hql, ← hlen, ← hmid, ← List.length_append, ← List.append_assoc, List.drop_left]
    refine ⟨w.setRow g (cat ps').toArray, ?_, ?_⟩
    · rw [hrow] at hst
      simp only [execOp, ha.ev hx, ha.ev hy, Sem.run_bind, hst, Result.andThen_ok, Sem.run_pure]
    · refine blk_set hw hi ?_ hH
      rw [← hp]
      simp only [List.map_append, List.map_take, List.map_drop, hL, hq]
      rw [← List.drop_drop, List.take_append_drop, List.take_append_drop]) k

theorem Own.box {S : List Snap} {H : List Chunk} {w : World} (h : Own S H w) {T : TypeId} {L : List Nat} {ps : List (List Value)} (hl : ps.map List.length = L) : Own S (blk w.heap.size T L ps :: H) (w.alloc (.cells (cat ps).toArray T)) :=
  Own.grow (A := [blk w.heap.size T L ps]) h rfl rfl rfl (by simp) (fun k hk => Go.heap_alloc_old w _ hk) (by simp [keys, blk]) (by simp [keys, blk]) (by
    intro a ha
    simp at ha
    subst ha
    exact ⟨heap_alloc_new w _, hl⟩)

/-- A new variable. -/
theorem VL.box {T : TypeId} {x : Operand} {v : Value} {L : List Nat} {ps : List (List Value)} (hx : ev σ x = some v) (hv : v.cells = (cat ps).toArray) (hl : ps.map List.length = L)
    (k : ∀ g, VL P n ops Q rest ((d, .pointer (some ⟨g, 0, none⟩)) :: σ) (Own S (blk g T L ps :: H))) (hdn : Nat.blt d n = true := by rfl) : VL P n ops Q (⟨some d, .box T x, ty, pos, aft, none⟩ :: rest) σ (Own S H) :=
  VL.act (K := fun v w' => ∃ g, v = .pointer (some ⟨g, 0, none⟩) ∧ Own S (blk g T L ps :: H) w') rfl rfl hdn (fun a w ha hw => ⟨_, _, by
    simp [execOp, ha.ev hx, Instr.box, newVar, newRow, hv], w.heap.size, rfl, hw.box hl⟩) (fun v => VL.ex fun g => VL.fact fun e => by subst e; exact k g)

/-- A new variable of the type's zero. -/
theorem VL.alloc {T : TypeId} {z : Value} {L : List Nat} {ps : List (List Value)} (hz : (P.info? T).bind (·.zero) = some z) (hv : z.cells = (cat ps).toArray) (hl : ps.map List.length = L)
    (k : ∀ g, VL P n ops Q rest ((d, .pointer (some ⟨g, 0, none⟩)) :: σ) (Own S (blk g T L ps :: H))) (hdn : Nat.blt d n = true := by rfl) : VL P n ops Q (⟨some d, .alloc T, ty, pos, aft, none⟩ :: rest) σ (Own S H) :=
  VL.act (K := fun v w' => ∃ g, v = .pointer (some ⟨g, 0, none⟩) ∧ Own S (blk g T L ps :: H) w') rfl rfl hdn (fun a w ha hw => ⟨_, _, by
    cases hi : P.info? T with
    | none => simp [hi] at hz
    | some i =>
      simp [hi] at hz
      simp [execOp, Instr.alloc, zeroValue, typeInfo, hi, hz, newVar, newRow, hv], w.heap.size, rfl, hw.box hl⟩) (fun v => VL.ex fun g => VL.fact fun e => by subst e; exact k g)
end
end Go.Vc
