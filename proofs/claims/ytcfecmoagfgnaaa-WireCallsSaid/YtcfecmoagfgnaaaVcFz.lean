/- The rules of the walks, continued: variables that are only read from now on. -/
import Derived.Test.YtcfecmoagfgnaaaVcEq
import Derived.Test.YtcfecmoagfgnaaaPl
namespace Go.Vc

/-- A variable's cells, as they were: nobody turns them. -/
structure CellsIn (K : List Nat) (w : World) (g : Nat) (T : TypeId) (L : List Nat) (ps : List (List Value)) : Prop where
  row : w.heap[g]? = some (.cells (cat ps).toArray T (0, 0))
  lens : ps.map List.length = L
  out : g ∉ K
  lt : g < w.heap.size

theorem CellsIn.now {s : Snap} {w : World} {g : Nat} {T : TypeId} {L : List Nat} {ps : List (List Value)} (h : CellsIn s.K s.w g T L ps) (hs : s.ok w) : w.heap[g]? = some (.cells (cat ps).toArray T (0, 0)) := by
  rw [hs.block g h.lt h.out]; exact h.row

theorem Own.letCells {S : List Snap} {H : List Chunk} {w : World} {g i : Nat} {T : TypeId} {L : List Nat} {ps : List (List Value)} (h : Own S H w) (hi : H[i]? = some (blk g T L ps)) : Own S (H.eraseIdx i) w ∧ CellsIn (keys (H.eraseIdx i)) w g T L ps := by
  have h1 := h.front hi
  obtain ⟨h2, h3⟩ := h1.holds (blk g T L ps) (by simp)
  have hnd := h1.nodup
  rw [keys_cons, List.nodup_append] at hnd
  exact ⟨h1.drop, h2, h3, fun hk => hnd.2.2 g (by simp [blk]) g hk rfl, h1.lt g (by rw [keys_cons]; simp [blk])⟩

/-- The array in part j, as bytes that are only read. -/
theorem CellsIn.bytes {K : List Nat} {w : World} {g : Nat} {T : TypeId} {L : List Nat} {ps : List (List Value)} (h : CellsIn K w g T L ps) (j o : Nat) {l : List UInt8} {m : Nat} (hj : ps[j]? = some (l.map bv)) (ho : (L.take j).sum = o) (hl : l.length = m) (hm : Nat.ble m 1000 = true) : Arr 1 byteR K w (some ⟨g, o, none⟩) l m := by
  have hm : m ≤ 1000 := by simpa [Nat.ble_eq] using hm
  subst hl
  refine ⟨Nat.le_refl _, by simp only [maxLen]; omega, fun e => (by cases e), fun a e _ => ?_⟩
  cases e
  refine ⟨rfl, h.out, h.lt, _, _, _, h.row, fun i x hx => ⟨[bv x], rfl, rfl, fun k v hv => ?_⟩⟩
  have hk0 : k = 0 := by have := (List.getElem?_eq_some_iff.1 hv).1; simp at this; exact this
  subst hk0
  simp at hv; subst hv
  have hi := (List.getElem?_eq_some_iff.1 hx).1
  have e := flatten_at ps j 1
  have hlen := sum_take_length ps j
  rw [h.lens, ho] at hlen
  have hjl := (List.getElem?_eq_some_iff.1 hj).1
  have h1 : (ps.drop j).take 1 = [l.map bv] := by
    rw [List.drop_eq_getElem_cons hjl, List.take_succ_cons, List.take_zero, (List.getElem?_eq_some_iff.1 hj).2]
  rw [h1] at e
  simp only [List.getElem?_toArray, cat_eq, e, Nat.mul_one, Nat.add_zero]
  rw [List.getElem?_append_right (by omega), hlen, Nat.add_sub_cancel_left, List.getElem?_append_left (by simpa using hi)]
  simp [hx]

section
variable {P : Program} {n : Nat} {Q : Exit → Act → World → Prop} {σ : Sl} {G : World → Prop} {ops : Array Oper} {rest : List Oper}
variable {d : Nat} {ty : TypeId} {pos : String} {aft : Array Edge}
variable {S : List Snap} {H : List Chunk} {s : Snap}

theorem VC.letCells {g : Nat} {T : TypeId} {L : List Nat} {ps : List (List Value)} {code : Code} (i : Nat) (hi : H[i]? = some (blk g T L ps)) (h : ∀ w1, Own S (H.eraseIdx i) w1 → CellsIn (keys (H.eraseIdx i)) w1 g T L ps → VC P n Q code σ (Own (⟨w1, keys (H.eraseIdx i)⟩ :: S) (H.eraseIdx i))) : VC P n Q code σ (Own S H) := fun a w ha hw =>
  h w (hw.letCells hi).1 (hw.letCells hi).2 a w ha (hw.letCells hi).1.keep
theorem VL.letCells {g : Nat} {T : TypeId} {L : List Nat} {ps : List (List Value)} (i : Nat) (hi : H[i]? = some (blk g T L ps)) (h : ∀ w1, Own S (H.eraseIdx i) w1 → CellsIn (keys (H.eraseIdx i)) w1 g T L ps → VL P n ops Q rest σ (Own (⟨w1, keys (H.eraseIdx i)⟩ :: S) (H.eraseIdx i))) : VL P n ops Q rest σ (Own S H) := fun a w ha hw =>
  h w (hw.letCells hi).1 (hw.letCells hi).2 a w ha (hw.letCells hi).1.keep

theorem VL.loadF {t : TypeId} {x : Operand} {g o : Nat} {v : Value} {T : TypeId} {L : List Nat} {ps : List (List Value)} (j : Nat) (hx : ev σ x = some (.pointer (some ⟨g, o, none⟩))) (ht : kindOf P t = some none)
    (hF : CellsIn s.K s.w g T L ps) (hG : ∀ w, G w → s.ok w) (hj : ps[j]? = some [v]) (ho : (L.take j).sum = o)
    (k : VL P n ops Q rest ((d, v) :: σ) G) (hdn : Nat.blt d n = true := by rfl) : VL P n ops Q (⟨some d, .load t x, ty, pos, aft, none⟩ :: rest) σ G :=
  VL.val rfl rfl hdn (fun a w ha hw => by
    have hg := hF.now (hG w hw)
    have hL := hF.lens
    have hc : w.cell? ⟨g, o, none⟩ = some v := by
      rw [cell_of_row w g o _ T (0, 0) hg]
      have e := flatten_at ps j 1
      have hlen := sum_take_length ps j
      rw [hL, ho] at hlen
      have h1 : (ps.drop j).take 1 = [[v]] := by
        have hlt := (List.getElem?_eq_some_iff.1 hj).1
        rw [List.drop_eq_getElem_cons hlt]
        simp [(List.getElem?_eq_some_iff.1 hj).2]
      rw [h1] at e
      simp only [List.getElem?_toArray, cat_eq, e]
      rw [List.getElem?_append_right (by omega), hlen]
      simp
    simp [execOp, ha.ev hx, run_load_cell ht hc]) k

theorem VL.loadsF {t : TypeId} {x : Operand} {g o sz : Nat} {cs : List Value} {T : TypeId} {L : List Nat} {ps : List (List Value)} (j m : Nat) (hx : ev σ x = some (.pointer (some ⟨g, o, none⟩))) (ht : kindOf P t = some (some sz))
    (hF : CellsIn s.K s.w g T L ps) (hG : ∀ w, G w → s.ok w) (hj : cat ((ps.drop j).take m) = cs) (ho : (L.take j).sum = o) (hm : ((L.drop j).take m).sum = sz)
    (k : VL P n ops Q rest ((d, .agg cs.toArray) :: σ) G) (hdn : Nat.blt d n = true := by rfl) : VL P n ops Q (⟨some d, .load t x, ty, pos, aft, none⟩ :: rest) σ G :=
  VL.val rfl rfl hdn (fun a w ha hw => by
    have hg := hF.now (hG w hw)
    have hL := hF.lens
    rw [cat_eq] at hj
    have hlen := sum_take_length ps j
    rw [hL, ho] at hlen
    have hcl : cs.length = sz := by
      rw [← hj, List.length_flatten, List.map_take, List.map_drop, hL, hm]
    subst hcl
    have hc : ∀ i v, cs[i]? = some v → w.cell? ((⟨g, o, none⟩ : Addr).add i) = some v := by
      intro i v hv
      rw [add_lit, cell_of_row w g _ _ T (0, 0) hg]
      have e := flatten_at ps j m
      rw [hj] at e
      have hi := (List.getElem?_eq_some_iff.1 hv).1
      simp only [List.getElem?_toArray, cat_eq, e]
      rw [List.getElem?_append_right (by omega), hlen, Nat.add_sub_cancel_left, List.getElem?_append_left hi]
      exact hv
    simp [execOp, ha.ev hx, run_load_agg ht hc]) k

/-- 'x[:]' of an array that lies in a variable. -/
theorem VL.sliceArrAt {t e : TypeId} {m g o : Nat} {x : Operand} (ht : P.underlying t = some (.array m e)) (he : ((P.info? e).map (·.size)).isSome = true) (hx : ev σ x = some (.pointer (some ⟨g, o, none⟩)))
    (h : VL P n ops Q rest ((d, .slice (some ⟨g, o, none⟩) m m) :: σ) G) (hdn : Nat.blt d n = true := by rfl) : VL P n ops Q (⟨some d, .slice t x none none none, ty, pos, aft, none⟩ :: rest) σ G :=
  VL.val rfl rfl hdn (fun a w ha _ => by
    cases hi : P.info? e with
    | none => simp [hi] at he
    | some inf => simp [execOp, ha.ev hx, Instr.sliceAt, run_underlying ht, Instr.sureAddr, Instr.sliceBounds, sizeOf, typeInfo, hi, Addr.add]) h

/-- '[]byte{x}' -/
theorem VL.litByte {t e : TypeId} {z : Value} {x : Operand} {m : Nat} (hE : Elem P t e 1 1 z) (hx : ev σ x = some (.int .u8 (m : Int))) (hm : m < 256)
    (h : ∀ g w1, Own S H w1 → Bytes (keys H) w1 (some ⟨g, 0, none⟩) (Pl.be 1 m) 1 → VL P n ops Q rest ((d, .slice (some ⟨g, 0, none⟩) (Pl.be 1 m).length 1) :: σ) (Own (⟨w1, keys H⟩ :: S) H)) (hdn : Nat.blt d n = true := by rfl) : VL P n ops Q (⟨some d, .buildSlice t 1 #[(0, x)], ty, pos, aft, none⟩ :: rest) σ (Own S H) := by
  have hp : evps σ 0 [(0, x)] = some [.int .u8 (m : Int)] := by
    simp [evps, hx]
  refine VL.lit (parts := [(0, x)]) hE (by decide) rfl hp (by intro v hv; simp at hv; subst hv; rfl) (by intro u hu; simp [Value.cells] at hu; subst hu; rfl) (fun g => ?_) hdn
  exact VL.letBytes (Pl.be 1 m) (by rw [Pl.be_length]) (by rw [byte_val hm]; simp [Pl.be]; rfl) (fun w1 h1 h2 => by have := h g w1 h1 h2; rw [Pl.be_length] at this; exact this)

/-- 'append(x, y...)' where x has no room: it is new memory, whoever owns x. -/
theorem VL.appendFull {x y : Operand} {t e : TypeId} {z : Value} {tys : Array TypeId} {p q : Option Addr} {l r : List UInt8} {cp c : Nat} (hE : Elem P t e 1 1 z) (htys : tys = #[t, t]) (hx : ev σ x = some (.slice p l.length cp)) (hy : ev σ y = some (.slice q r.length c))
    (hl : 0 < l.length) (hr : 0 < r.length) (hc : cp < l.length + r.length) (hb : l.length + r.length ≤ 100000) (hA : ∀ w, Own S H w → Bytes (keys H) w p l cp) (hB : ∀ w, Own S H w → Bytes (keys H) w q r c)
    (h : ∀ g c' w1, Own S H w1 → Bytes (keys H) w1 (some ⟨g, 0, none⟩) (l ++ r) c' → VL P n ops Q rest ((d, .slice (some ⟨g, 0, none⟩) (l ++ r).length c') :: σ) (Own (⟨w1, keys H⟩ :: S) H)) (hdn : Nat.blt d n = true := by rfl) : VL P n ops Q (⟨some d, .call ⟨.builtin .append, #[x, y], tys⟩, ty, pos, aft, none⟩ :: rest) σ (Own S H) := by
  subst htys
  refine VL.act (K := fun v w' => ∃ g c', v = .slice (some ⟨g, 0, none⟩) (l ++ r).length c' ∧ Own S (row e 1 (some g) (l.length + r.length) c' ((l ++ r).map bv) :: H) w') rfl rfl hdn (fun a w ha hw => ?_) (fun v => VL.ex fun g => VL.ex fun c' => VL.fact fun e0 => by
    subst e0
    exact VL.letBytes (l ++ r) (by rw [List.length_append]) rfl (fun w1 h1 h2 => h g c' w1 h1 h2))
  obtain ⟨inf, hi1, hi2, hi3, hi4⟩ := hE.get
  have hA' := hA w hw
  have hB' := hB w hw
  obtain ⟨b, rfl⟩ := hA'.isAt hl
  obtain ⟨b', rfl⟩ := hB'.isAt hr
  have c1 : ∀ j v, (l.map bv)[j]? = some v → w.cell? (b.add j) = some v := by
    rcases hA'.bytes with ⟨h0, _⟩ | ⟨a0, e0, h0⟩
    · cases h0
    · cases e0; exact h0
  have c2 : ∀ j v, (r.map bv)[j]? = some v → w.cell? (b'.add j) = some v := by
    rcases hB'.bytes with ⟨h0, _⟩ | ⟨a0, e0, h0⟩
    · cases h0
    · cases e0; exact h0
  have hr' := run_append_grow (P := P) w t ty e inf z hE.under hi1 hi2 b l.length cp (l.map bv) (by simp [hi3]) c1 b' r.length c (r.map bv) (by simp [hi3]) c2 hc (by omega) (growslice_fits hc (by rw [hi4]; omega))
  refine ⟨.slice (some ⟨w.heap.size, 0, none⟩) (l.length + r.length) (grownCap w (l.length + r.length) cp e), w.drew.alloc (.cells ((l.map bv).toArray ++ (r.map bv).toArray ++ Builtin.zeroCells z.cells (grownCap w (l.length + r.length) cp e - (l.length + r.length))) e), ?_, w.heap.size, grownCap w (l.length + r.length) cp e, (by rw [List.length_append]), ?_⟩
  · simp only [execOp, resolve, invoke, builtin, Sem.run_bind, List.map_toArray, List.map_cons, List.map_nil, ha.ev hx, ha.ev hy, hr', Result.andThen_ok, Sem.run_pure]
  · have hrow : (w.drew.alloc (.cells ((l.map bv).toArray ++ (r.map bv).toArray ++ Builtin.zeroCells z.cells (grownCap w (l.length + r.length) cp e - (l.length + r.length))) e)).ownsRow 0 e 1 (rowV (some w.heap.size) (l.length + r.length) (grownCap w (l.length + r.length) cp e)) (l.length + r.length) ((l ++ r).map bv) :=
      new_row (z := z.cells) (w := w) rfl (by simp) (by simp) hE.zsize (grownCap_ge _ _ _ _) (grownCap_le_maxLen _ _ _ _ (by simp only [maxLen]; omega))
    have hs := ownsRow_sizes hrow
    have := Own.grow (A := [row e 1 (some w.heap.size) (l.length + r.length) (grownCap w (l.length + r.length) cp e) ((l ++ r).map bv)]) (w' := w.drew.alloc (.cells ((l.map bv).toArray ++ (r.map bv).toArray ++ Builtin.zeroCells z.cells (grownCap w (l.length + r.length) cp e - (l.length + r.length))) e)) hw rfl rfl rfl (by simp) (fun k hk => Go.heap_alloc_old w.drew _ hk) (by simp [keys, row]) (fun k hk => ?_) (fun a0 ha0 => ?_)
    · simpa using this
    · simp [keys, row] at hk
      subst hk
      exact ⟨Nat.le_refl _, hs.2.2.2.2 _ rfl⟩
    · rw [List.mem_singleton] at ha0; subst ha0
      exact ⟨hrow, ok1_bytes _⟩

/-- Slices of bytes, one by one. -/
def RowOf (K : List Nat) (w : World) : List Value → List (List UInt8) → Prop
  | [], [] => True
  | v :: vs, l :: ls => (∃ p c, v = .slice p l.length c ∧ Bytes K w p l c) ∧ RowOf K w vs ls
  | _, _ => False
theorem RowOf.at_ {K : List Nat} {w : World} : ∀ {vs : List Value} {ls : List (List UInt8)}, RowOf K w vs ls → ∀ j y, ls[j]? = some y → bytesR K w ((vs.drop (j * 1)).take 1) y
  | [], [], _, j, y, hj => by simp at hj
  | [], _ :: _, h, _, _, _ => h.elim
  | _ :: _, [], h, _, _, _ => h.elim
  | v :: vs, l :: ls, ⟨⟨p, c, e, hA⟩, h⟩, j, y, hj => by
    cases j with
    | zero =>
      simp at hj; subst hj
      exact ⟨p, c, by simp [e], hA⟩
    | succ j =>
      have := RowOf.at_ h j y (by simpa using hj)
      simpa using this
theorem VL.letRowS {e : TypeId} {m : Nat} {g : Option Nat} {c : Nat} {xs : List Value} (ls : List (List UInt8)) (hm : m = ls.length) (hx : ∀ w, Own S H w → RowOf (keys H) w xs ls) (h : ∀ w1, Own S H w1 → Arr 1 bytesR (keys H) w1 (g.map fun g => ⟨g, 0, none⟩) ls c → VL P n ops Q rest σ (Own (⟨w1, keys H⟩ :: S) H)) : VL P n ops Q rest σ (Own S (row e 1 g m c xs :: H)) :=
  VL.letRow bytesR ls hm (fun w hw => (hx w hw).at_) h

/-- Bytes, and how much room they have. -/
def capF {K : List Nat} (l : List UInt8) (c : Nat) : SFact K := ⟨fun v w => ∃ p, v = .slice p l.length c ∧ Arr 1 byteR K w p l c, false, fun _ _ w _ hs ⟨p, e, h⟩ => ⟨p, e, Arr.after (s := ⟨w, K⟩) h Mono.byte ⟨hs, fun _ hk => .inl hk⟩⟩⟩
/-- A text's answer, as a fact that stays. -/
def outF {K : List Nat} (o : Option (List UInt8)) : SFact K :=
  ⟨fun v w => ∃ p c, v = .tuple #[.slice p (o.getD []).length c, .bool o.isSome] ∧ Arr 1 byteR K w p (o.getD []) c, false, fun _ _ w _ hs ⟨p, c, e, h⟩ => ⟨p, c, e, Arr.after (s := ⟨w, K⟩) h Mono.byte ⟨hs, fun _ hk => .inl hk⟩⟩⟩
/-- A fact behind the last one that turns what is owned, whatever world that began in. -/
def lateE {K : List Nat} (f : World → Value → World → Prop) : SFact K := lateF fun v w => ∃ w0, f w0 v w
/-- The last one that turns what is owned: whatever its contract says. -/
theorem VL.finC {H' : List Chunk} {f : Fact} {d : Nat} {w0 : World} {σ : Sl} {v : Value} {G : World → Prop} (hv : look σ d = some v) (hG : ∀ w, G w → Own (⟨w0, keys H⟩ :: S) H' w) (h : ∀ w, G w → f v w) :
    VL P n ops (Post n Q (Still S H) (Turn (keys H)) f (some d) false true w0) [] σ G := VL.finK hv hG h
end
end Go.Vc
