/- The rules of the walks, continued: a row that the call itself makes, whose elements read as something (slices, structs with slices in them). -/
import Derived.Test.YtcfecmoagfgnaaaVcMore
import Derived.Test.YtcfecmoagfgnaaaVcAny
namespace Go.Vc

/-- Part j of a row of cells. -/
def part (sz : Nat) (xs : List Value) (j : Nat) : List Value := (xs.drop (j * sz)).take sz

def arow {X : Type} (e : TypeId) (sz : Nat) (R : Rel X) (hR : Mono R) (g : Option Nat) (c : Nat) (ys : List X) : Chunk :=
  ⟨g.toList, fun K w => ∃ xs, (row e sz g ys.length c xs).φ K w ∧ ∀ j y, ys[j]? = some y → R K w (part sz xs j) y, fun K K' w w' h hs hK ⟨xs, h1, h2⟩ => ⟨xs, (row e sz g ys.length c xs).loc K K' w w' h hs hK h1, fun j y hj => hR ⟨w, K⟩ K' w' _ y ⟨hs, hK⟩ (h2 j y hj)⟩⟩

/-- A chunk at place i gives way to another one, whatever is owned then. -/
theorem Own.setK {S : List Snap} {H H' : List Chunk} {w w' : World} {i : Nat} {c c' : Chunk} (h : Own S H w) (hi : H[i]? = some c) (hos : w'.os = w.os) (htape : w'.tape = w.tape) (hout : w'.output = w.output)
    (hsz : w.heap.size ≤ w'.heap.size) (hb : ∀ k, k < w.heap.size → k ∉ c.ks → w'.heap[k]? = w.heap[k]?)
    (hn : c'.ks.Nodup) (hA : ∀ k ∈ c'.ks, (k ∈ c.ks ∨ w.heap.size ≤ k) ∧ k < w'.heap.size) (hφ : ∀ K', After ⟨w, keys H⟩ K' w' → c'.φ K' w') (hH : H.set i c' = H') : Own S H' w' := by
  have hlt := (List.getElem?_eq_some_iff.1 hi).1
  have hp := perm_at hi
  have h1 := h.perm hp.symm
  have hk : (keys H).Perm (keys (c :: H.eraseIdx i)) := List.Perm.flatMap_right _ hp
  have := Own.step (A := [c']) (w' := w') h1 hos htape hout hsz hb (by simpa [keys] using hn) (by simpa [keys] using hA) (by
    intro a ha; simp at ha; subst ha
    refine hφ _ ⟨⟨hos, htape, hout, hsz, fun k hk1 hk2 => hb k hk1 (fun hc => hk2 (hk.mem_iff.2 (by rw [keys_cons]; simp [hc])))⟩, fun k hk1 => ?_⟩
    show k ∈ keys H ∨ w.heap.size ≤ k
    rw [List.singleton_append, keys_cons, List.mem_append] at hk1
    rcases hk1 with hk1 | hk1
    · rcases (hA k hk1).1 with h2 | h2
      · exact .inl (hk.mem_iff.2 (by rw [keys_cons]; simp [h2]))
      · exact .inr h2
    · exact .inl (hk.mem_iff.2 (by rw [keys_cons]; simp [hk1])))
  rw [← hH]
  exact Own.perm this (perm_set _ _ _ hlt)

/-- A row of cells that read as something. -/
theorem Own.asArr {S : List Snap} {H : List Chunk} {w : World} {X : Type} {R : Rel X} (hR : Mono R) {e : TypeId} {sz : Nat} {g : Option Nat} {m c : Nat} {xs : List Value} {ys : List X} (h : Own S (row e sz g m c xs :: H) w) (hm : m = ys.length)
    (hx : ∀ j y, ys[j]? = some y → R (keys (row e sz g m c xs :: H)) w (part sz xs j) y) : Own S (arow e sz R hR g c ys :: H) w := by
  subst hm
  have hh := h.holds (row e sz g ys.length c xs) (by simp)
  refine h.setK (i := 0) (c := row e sz g ys.length c xs) (c' := arow e sz R hR g c ys) rfl rfl rfl rfl (Nat.le_refl _) (fun _ _ _ => rfl) (by cases g <;> simp [arow]) (fun k hk => ⟨.inl hk, h.lt k (by rw [keys_cons]; simp [row]; left; simpa [arow] using hk)⟩) (fun K' ha => ?_) rfl
  exact ⟨xs, (row e sz g ys.length c xs).loc _ K' w w (fun _ _ => rfl) ha.1 ha.2 hh, fun j y hj => hR _ K' w _ y ha (hx j y hj)⟩

theorem Own.arow_nil {S : List Snap} {H : List Chunk} {w : World} {X : Type} {R : Rel X} (hR : Mono R) (e : TypeId) (sz : Nat) (h : Own S H w) : Own S (arow e sz R hR none 0 ([] : List X) :: H) w :=
  (h.row_nil e sz).asArr hR rfl (fun j y hj => by simp at hj)

/-- Let go: it is a slice that is only read. -/
theorem Own.letArr {S : List Snap} {H : List Chunk} {w : World} {X : Type} {R : Rel X} {hR : Mono R} {e : TypeId} {sz : Nat} {g : Option Nat} {c : Nat} {ys : List X} (h : Own S (arow e sz R hR g c ys :: H) w) : Arr sz R (keys H) w (g.map fun g => ⟨g, 0, none⟩) ys c := by
  obtain ⟨xs, h1, h2⟩ := h.holds (arow e sz R hR g c ys) (by simp)
  have h3 : Own S (row e sz g ys.length c xs :: H) w := by
    refine h.setK (i := 0) (c := arow e sz R hR g c ys) (c' := row e sz g ys.length c xs) rfl rfl rfl rfl (Nat.le_refl _) (fun _ _ _ => rfl) (by cases g <;> simp [row]) (fun k hk => ⟨.inl hk, h.lt k (by rw [keys_cons]; simp [arow]; left; simpa [row] using hk)⟩) (fun K' ha => (row e sz g ys.length c xs).loc _ K' w w (fun _ _ => rfl) ha.1 ha.2 h1) rfl
  refine h3.letGo rfl (fun j y hj => hR ⟨w, keys (arow e sz R hR g c ys :: H)⟩ (keys H) w _ y ⟨⟨rfl, rfl, rfl, Nat.le_refl _, fun _ _ _ => rfl⟩, fun k hk => .inl (by show k ∈ keys (_ :: _); rw [keys_cons]; simp [hk])⟩ (h2 j y hj))

/-- Two slices in one. -/
theorem Arr.cells {X : Type} {sz : Nat} {R : Rel X} {K : List Nat} {w : World} {p : Option Addr} {xs : List X} {c : Nat} (h : Arr sz R K w p xs c) : ∃ news, CellsAt w p news ∧ news.length = xs.length * sz ∧ (∀ j y, xs[j]? = some y → R K w (part sz news j) y) ∧ ∀ v ∈ news, ∃ y ∈ xs, ∃ vs, v ∈ vs ∧ R K w vs y := by
  cases p with
  | none =>
    have h1 := h.nil rfl
    have h2 := h.le
    have e : xs = [] := List.eq_nil_of_length_eq_zero (by omega)
    subst e
    exact ⟨[], .inl ⟨rfl, rfl⟩, by simp, by simp, by simp⟩
  | some a =>
    rcases Nat.eq_zero_or_pos c with hc0 | hc0
    · have h2 := h.le
      have e : xs = [] := List.eq_nil_of_length_eq_zero (by omega)
      subst e
      exact ⟨[], .inr ⟨a, rfl, by simp⟩, by simp, by simp, by simp⟩
    obtain ⟨h1, h2, h3, cs, el, fr, hg, hx⟩ := h.at_ a rfl hc0
    -- the elements' cells
    have key : ∀ m, m ≤ xs.length → ∃ news : List Value, news.length = m * sz ∧ (∀ i v, news[i]? = some v → cs[a.off + i]? = some v) ∧ (∀ j y, j < m → xs[j]? = some y → R K w (part sz news j) y) ∧ ∀ v ∈ news, ∃ y ∈ xs, ∃ vs, v ∈ vs ∧ R K w vs y := by
      intro m
      induction m with
      | zero => intro _; exact ⟨[], by simp, by simp, by intro j y hj; omega, by simp⟩
      | succ m ih =>
        intro hm
        obtain ⟨news, e1, e2, e3, e4⟩ := ih (by omega)
        have hlt : m < xs.length := by omega
        obtain ⟨vs, f1, f2, f3⟩ := hx m xs[m] (List.getElem?_eq_getElem hlt)
        refine ⟨news ++ vs, by rw [List.length_append, e1, f1, Nat.add_mul, Nat.one_mul], fun i v hv => ?_, fun j y hj hy => ?_, fun v hv => ?_⟩
        · rw [List.getElem?_append] at hv
          split at hv
          · exact e2 i v hv
          · rename_i hi
            have := f3 _ v hv
            rw [← this]
            congr 1
            omega
        · by_cases hjm : j = m
          · subst hjm
            have : y = xs[j] := by
              have := (List.getElem?_eq_some_iff.1 hy).2
              exact this.symm
            subst this
            have : part sz (news ++ vs) j = vs := by
              unfold part
              rw [← e1, List.drop_left]
              rw [← f1, List.take_length]
            rw [this]; exact f2
          · have hj' : j < m := by omega
            have : part sz (news ++ vs) j = part sz news j := by
              unfold part
              have hle : (j + 1) * sz ≤ m * sz := Nat.mul_le_mul_right _ (by omega)
              rw [Nat.add_mul, Nat.one_mul] at hle
              rw [List.drop_append_of_le_length (by omega), List.take_append_of_le_length (by simp; omega)]
            rw [this]; exact e3 j y hj' hy
        · rw [List.mem_append] at hv
          rcases hv with hv | hv
          · exact e4 v hv
          · exact ⟨_, List.getElem_mem hlt, vs, hv, f2⟩
    obtain ⟨news, e1, e2, e3, e4⟩ := key xs.length (Nat.le_refl _)
    refine ⟨news, .inr ⟨a, rfl, fun j u hu => ?_⟩, e1, fun j y hj => e3 j y (List.getElem?_eq_some_iff.1 hj).1 hj, e4⟩
    have ha : a.add j = ⟨a.block, a.off + j, none⟩ := by
      obtain ⟨ab, ao, asp⟩ := a
      simp at h1; subst h1
      exact add_lit _ _ _
    rw [ha]
    simp only [World.cell?, hg]
    simpa using e2 j u hu

theorem ok1_slices {K : List Nat} {w : World} {vs : List Value} {X : Type} {sz : Nat} {R : Rel X} {y : List X} (h : RV sz R K w vs y) : ok1 vs := by
  obtain ⟨p, c, rfl, _⟩ := h
  intro v hv
  simp at hv; subst hv; rfl

theorem Own.letOne {S : List Snap} {H : List Chunk} {w : World} {X : Type} {R : Rel X} {e : TypeId} {g : Option Nat} {c : Nat} {v : Value} {y : X} (h : Own S (row e 1 g 1 c [v] :: H) w) (hv : R (keys H) w [v] y) : Arr 1 R (keys H) w (g.map fun g => ⟨g, 0, none⟩) [y] c :=
  h.letGo rfl (fun j z hj => by
    have hj0 : j = 0 := by have := (List.getElem?_eq_some_iff.1 hj).1; simp at this; exact this
    subst hj0
    simp at hj; subst hj; exact hv)

theorem Arr.none {X : Type} {sz : Nat} {R : Rel X} {K : List Nat} {w : World} : Arr sz R K w none ([] : List X) 0 := ⟨by simp, by simp [maxLen], fun _ => rfl, by simp⟩

section
variable {P : Program} {n : Nat} {Q : Exit → Act → World → Prop} {σ : Sl} {G : World → Prop} {ops : Array Oper} {rest : List Oper}
variable {d : Nat} {ty : TypeId} {pos : String} {aft : Array Edge}
variable {S : List Snap} {H H' : List Chunk}
variable {X : Type} {R : Rel X} {hR : Mono R}

/-- 'out = append(out, x...)' -/
theorem VL.appends {x y : Operand} {t e : TypeId} {sz by_ : Nat} {z : Value} {tys : Array TypeId} {g : Option Nat} {c cap : Nat} {ys zs : List X} {p : Option Addr} (i : Nat) (hE : Elem P t e sz by_ z) (htys : tys = #[t, t])
    (hx : ev σ x = some (rowV g ys.length c)) (hy : ev σ y = some (.slice p zs.length cap)) (hG : ∀ w, G w → Own S H w) (hi : H[i]? = some (arow e sz R hR g c ys)) (hA : ∀ w, G w → Arr sz R (keys H) w p zs cap) (h1 : ∀ K w vs y, R K w vs y → ok1 vs) (hb : (ys.length + zs.length) * by_ ≤ 140737488355328)
    (h : ∀ g' c', VL P n ops Q rest ((d, rowV g' (ys ++ zs).length c') :: σ) (Own S (H.set i (arow e sz R hR g' c' (ys ++ zs))))) (hm : ys.length + zs.length ≤ 9223372036854775807 := by omega) (hdn : Nat.blt d n = true := by rfl) : VL P n ops Q (⟨some d, .call ⟨.builtin .append, #[x, y], tys⟩, ty, pos, aft, none⟩ :: rest) σ G := by
  subst htys
  refine VL.act (K := fun v w' => ∃ g' c', v = rowV g' (ys ++ zs).length c' ∧ Own S (H.set i (arow e sz R hR g' c' (ys ++ zs))) w') rfl rfl hdn (fun a w ha hg0 => ?_) (fun v => VL.ex fun g' => VL.ex fun c' => VL.fact fun e => by subst e; exact h g' c')
  have hw := hG w hg0
  obtain ⟨inf, hi1, hi2, hi3, hi4⟩ := hE.get
  obtain ⟨xs, ⟨hrow, hok⟩, hxs⟩ := hw.holds _ (List.mem_of_getElem? hi)
  obtain ⟨news, hc, hl, hns, hn1⟩ := (hA w hg0).cells
  have hok2 : ok1 news := fun v hv => by
    obtain ⟨y, _, vs, hvs, hr⟩ := hn1 v hv
    exact h1 _ _ _ _ hr v hvs
  have hs := ownsRow_sizes hrow
  obtain ⟨g', c', w', hr, ho, hg, hgg⟩ := run_append_cells (P := P) (ty := ty) hE.under hi1 hi2 hi3 hE.zsize hE.pos hrow hc (k := zs.length) (cap := cap) hl hok2 (by rw [hi4]; exact hb) (by simp only [maxLen]; omega)
  refine ⟨_, w', ?_, g', c', rfl, ?_⟩
  · simp [execOp, resolve, invoke, builtin, ha.ev hx, ha.ev hy, hr]
  · refine hw.setK (c' := arow e sz R hR g' c' (ys ++ zs)) hi hg.os hg.tape hg.output hg.size (fun q hq hqk => hg.block q hq (fun e => hqk ?_)) ?_ ?_ (fun K' haf => ⟨xs ++ news, ⟨by rw [List.length_append]; exact ho, ?_⟩, fun j y hj => ?_⟩) rfl
    · simp [arow, ← e]
    · cases g' <;> simp [arow]
    · intro q hq
      have hs' := ownsRow_sizes ho
      have : g' = some q := by simpa [arow] using hq
      refine ⟨?_, hs'.2.2.2.2 q this⟩
      rcases hgg with h2 | h2
      · left; rw [h2] at this; simp [arow, this]
      · right; rw [h2] at this; simp at this; omega
    · intro v hv
      rw [List.mem_append] at hv
      exact hv.elim (hok v) (hok2 v)
    · refine hR _ K' w' _ y haf ?_
      rw [List.getElem?_append] at hj
      split at hj
      · rename_i hlt
        have hle : (j + 1) * sz ≤ ys.length * sz := Nat.mul_le_mul_right _ (by omega)
        rw [Nat.add_mul, Nat.one_mul] at hle
        have : part sz (xs ++ news) j = part sz xs j := by
          unfold part
          have := hs.1
          rw [List.drop_append_of_le_length (by omega), List.take_append_of_le_length (by simp; omega)]
        rw [this]; exact hxs j y hj
      · rename_i hge
        have : part sz (xs ++ news) j = part sz news (j - ys.length) := by
          unfold part
          have h3 := hs.1
          have hle : ys.length * sz ≤ j * sz := Nat.mul_le_mul_right _ (by omega)
          rw [List.drop_append, List.drop_eq_nil_of_le (by omega), List.nil_append, h3, Nat.sub_mul]
        rw [this]; exact hns _ y hj

/-- Let go in the midst of a walk: what was a row is now a fact of the world as it is there. -/
theorem VC.letBytes {e : TypeId} {g : Option Nat} {m c : Nat} {xs : List Value} {code : Code} (l : List UInt8) (hm : m = l.length) (hx : xs = l.map bv) (h : ∀ w1, Own S H w1 → Bytes (keys H) w1 (g.map fun g => ⟨g, 0, none⟩) l c → VC P n Q code σ (Own (⟨w1, keys H⟩ :: S) H)) : VC P n Q code σ (Own S (row e 1 g m c xs :: H)) :=
  fun a w ha hw => h w hw.drop (hw.letBytes hm hx) a w ha hw.drop.keep
theorem VL.letBytes {e : TypeId} {g : Option Nat} {m c : Nat} {xs : List Value} (l : List UInt8) (hm : m = l.length) (hx : xs = l.map bv) (h : ∀ w1, Own S H w1 → Bytes (keys H) w1 (g.map fun g => ⟨g, 0, none⟩) l c → VL P n ops Q rest σ (Own (⟨w1, keys H⟩ :: S) H)) : VL P n ops Q rest σ (Own S (row e 1 g m c xs :: H)) :=
  fun a w ha hw => h w hw.drop (hw.letBytes hm hx) a w ha hw.drop.keep
theorem VL.letOne {e : TypeId} {g : Option Nat} {c : Nat} (v : Value) {y : X} (hv : ∀ w, Own S H w → R (keys H) w [v] y) (h : ∀ w1, Own S H w1 → Arr 1 R (keys H) w1 (g.map fun g => ⟨g, 0, none⟩) [y] c → VL P n ops Q rest σ (Own (⟨w1, keys H⟩ :: S) H)) : VL P n ops Q rest σ (Own S (row e 1 g 1 c [v] :: H)) :=
  fun a w ha hw => h w hw.drop (hw.letOne (hv w hw.drop)) a w ha hw.drop.keep

theorem VL.letRow {e : TypeId} {sz m : Nat} {g : Option Nat} {c : Nat} {xs : List Value} (R : Rel X) (ys : List X) (hm : m = ys.length) (hx : ∀ w, Own S H w → ∀ j y, ys[j]? = some y → R (keys H) w ((xs.drop (j * sz)).take sz) y) (h : ∀ w1, Own S H w1 → Arr sz R (keys H) w1 (g.map fun g => ⟨g, 0, none⟩) ys c → VL P n ops Q rest σ (Own (⟨w1, keys H⟩ :: S) H)) : VL P n ops Q rest σ (Own S (row e sz g m c xs :: H)) :=
  fun a w ha hw => h w hw.drop (hw.letGo hm (hx w hw.drop)) a w ha hw.drop.keep

theorem VX.backOwn {w0 : World} {e : Exit} (hO : Own S H w0) (h : VX n Q e σ (Own S H)) : VX n Q e σ (fun w => w = w0) := VX.turn (fun w e => by subst e; exact hO) h

/-- A fact of a world as it was: a slice. -/
def arrS {K : List Nat} (s : Snap) {X : Type} (sz : Nat) (R : Rel X) (xs : List X) : SFact K := ⟨fun v _ => ∃ p c, v = .slice p xs.length c ∧ Arr sz R s.K s.w p xs c, false, fun _ _ _ _ _ h => h⟩

/-- 'x[a:]', 'x[:b]' -/
theorem VL.dropS {t e : TypeId} {sz c : Nat} {x o : Operand} {k : IntKind} {xs : List X} {p : Option Addr} {K : List Nat} {w' : World} (a : Nat) (hx : ev σ x = some (.slice p xs.length c)) (ho : ev σ o = some (.int k (a : Int))) (ht : P.underlying t = some (.slice e)) (hsz : (P.info? e).map (·.size) = some sz) (hA : Arr sz R K w' p xs c) (ha : a ≤ xs.length)
    (h : ∀ p', Arr sz R K w' p' (xs.drop a) (c - a) → VL P n ops Q rest ((d, .slice p' (xs.drop a).length (c - a)) :: σ) G) (hdn : Nat.blt d n = true := by rfl) : VL P n ops Q (⟨some d, .slice t x (some o) none none, ty, pos, aft, none⟩ :: rest) σ G :=
  VL.cut a xs.length hx ht hsz hA (vlo := some (.int k (a : Int))) (vhi := none) (by simpa using ho) rfl rfl rfl (.inr ⟨k, rfl⟩) (.inl ⟨rfl, rfl⟩) ha (Nat.le_refl _) (fun p' hA' => by
    have e : (xs.drop a).take (xs.length - a) = xs.drop a := List.take_of_length_le (by simp)
    rw [e] at hA'
    have := h p' hA'
    rwa [List.length_drop] at this) hdn
theorem VL.takeS {t e : TypeId} {sz c : Nat} {x o : Operand} {k : IntKind} {xs : List X} {p : Option Addr} {K : List Nat} {w' : World} (b : Nat) (hx : ev σ x = some (.slice p xs.length c)) (ho : ev σ o = some (.int k (b : Int))) (ht : P.underlying t = some (.slice e)) (hsz : (P.info? e).map (·.size) = some sz) (hA : Arr sz R K w' p xs c) (hb : b ≤ xs.length)
    (h : ∀ p', Arr sz R K w' p' (xs.take b) c → VL P n ops Q rest ((d, .slice p' (xs.take b).length c) :: σ) G) (hdn : Nat.blt d n = true := by rfl) : VL P n ops Q (⟨some d, .slice t x none (some o) none, ty, pos, aft, none⟩ :: rest) σ G :=
  VL.cut 0 b hx ht hsz hA (vlo := none) (vhi := some (.int k (b : Int))) rfl rfl (by simpa using ho) rfl (.inl ⟨rfl, rfl⟩) (.inr ⟨k, rfl⟩) (Nat.zero_le _) hb (fun p' hA' => by
    have := h p' (by simpa using hA')
    rw [List.length_take, Nat.min_eq_left hb] at this
    simpa using this) hdn

/-- '[]byte("text")': the row is let go at once. -/
theorem VL.constBytes {t e : TypeId} {x : Operand} {g m c : Nat} {l : List UInt8} {xs : List Value} (ht : P.underlying t = some (.slice e)) (he : P.underlying e = some (.int .u8)) (hx : ev σ x = some (rowV (some g) m c)) (hm : m = l.length) (hxs : xs = l.map bv)
    (h : ∀ w1, Own S H w1 → Bytes (keys H) w1 (some ⟨g, 0, none⟩) l c → VL P n ops Q rest ((d, .slice (some ⟨g, 0, none⟩) l.length c) :: σ) (Own (⟨w1, keys H⟩ :: S) H)) (hdn : Nat.blt d n = true := by rfl) : VL P n ops Q (⟨some d, .convert t t x, ty, pos, aft, none⟩ :: rest) σ (Own S (row e 1 (some g) m c xs :: H)) := by
  subst hm
  refine VL.act (K := fun v w' => v = .slice (some ⟨g, 0, none⟩) l.length c ∧ Own S H w' ∧ Bytes (keys H) w' (some ⟨g, 0, none⟩) l c) rfl rfl hdn (fun a w ha hw => ?_) (fun v => VL.fact fun e => by
    subst e
    exact VL.at fun w1 h1 => VL.turn (fun w2 (e : w2 = w1) => by subst e; exact h1.1.keep) (h w1 h1.1 h1.2))
  obtain ⟨hrow, _⟩ := hw.holds (row e 1 (some g) l.length c xs) (by simp)
  have hB := hw.letBytes (l := l) rfl hxs
  rcases hrow.2 with ⟨e1, _⟩ | ⟨g1, cap1, cur, e1, _, e3, e4, e5, e6, e7⟩
  · simp [rowV] at e1
  · simp [rowV] at e1
    obtain ⟨rfl, rfl⟩ := e1
    have hlt := (Array.getElem?_eq_some_iff.1 e3).1
    have hheap : ∀ k, (w.freeze ⟨g, cur.size, none⟩ 1).heap[k]? = if k = g then some (.cells cur e (cur.size, cur.size + 1)) else w.heap[k]? := by
      intro k
      unfold World.freeze
      rw [if_neg (by decide)]
      simp only [Array.getElem?_modify]
      by_cases hk : g = k
      · subst hk
        simp [e3]
      · rw [if_neg hk, if_neg (fun e => hk e.symm)]
    have hk1 : ∀ k, k < w.heap.size → k ∉ (row e 1 (some g) l.length c xs).ks → (w.freeze ⟨g, cur.size, none⟩ 1).heap[k]? = w.heap[k]? := fun k _ hk => by
      rw [hheap, if_neg]
      intro e; exact hk (by simp [row, e])
    have hsize : (w.freeze ⟨g, cur.size, none⟩ 1).heap.size = w.heap.size := by
      unfold World.freeze
      rw [if_neg (by decide)]; simp
    refine ⟨.slice (some ⟨g, 0, none⟩) l.length c, w.freeze ⟨g, cur.size, none⟩ 1, ?_, rfl, ?_, ?_⟩
    · have hsh : w.shape? g = some (e, cur.size) := by unfold World.shape?; rw [e3]
      have hx' := ha.ev hx
      simp only [rowV, Option.map_some] at hx'
      simp [execOp, hx', convert, run_underlying ht, run_underlying he, markStringish, hsh]
    · have := Own.step (A := []) (w' := w.freeze ⟨g, cur.size, none⟩ 1) hw (by unfold World.freeze; rw [if_neg (by decide)]) (by unfold World.freeze; rw [if_neg (by decide)]) (by unfold World.freeze; rw [if_neg (by decide)]) (by omega) hk1 (by simp [keys]) (by simp [keys]) (by simp)
      simpa using this
    · exact ⟨hB.le, hB.cap, hB.nil, fun a ea hc0 => by
        simp at ea; subst ea
        obtain ⟨h1, h2, h3, cs, el, fr, hg, hx2⟩ := hB.at_ ⟨g, 0, none⟩ rfl hc0
        rw [e3] at hg
        cases hg
        exact ⟨rfl, h2, by rw [hsize]; exact h3, _, _, _, (by rw [hheap, if_pos rfl]), hx2⟩⟩

/-- Bools, one against the other. -/
theorem VL.eqb {x y : Operand} {t ty' : TypeId} {a b : Bool} (ht : P.underlying t = some .bool) (hx : ev σ x = some (.bool a)) (hy : ev σ y = some (.bool b)) (h : VL P n ops Q rest ((d, .bool (a == b)) :: σ) G) (hdn : Nat.blt d n = true := by rfl) : VL P n ops Q (⟨some d, .binOp .eql t x y ty', ty, pos, aft, none⟩ :: rest) σ G :=
  VL.val rfl rfl hdn (fun c w ha _ => by
    have e : eqGuard .eql t x y (.bool a) (.bool b) = pure () := rfl
    simp [execOp, ha.ev hx, ha.ev hy, e, run_eql_bool w t a b ht]) h
theorem VL.neb {x y : Operand} {t ty' : TypeId} {a b : Bool} (ht : P.underlying t = some .bool) (hx : ev σ x = some (.bool a)) (hy : ev σ y = some (.bool b)) (h : VL P n ops Q rest ((d, .bool (!(a == b))) :: σ) G) (hdn : Nat.blt d n = true := by rfl) : VL P n ops Q (⟨some d, .binOp .neq t x y ty', ty, pos, aft, none⟩ :: rest) σ G :=
  VL.val rfl rfl hdn (fun c w ha _ => by
    have e : eqGuard .neq t x y (.bool a) (.bool b) = pure () := rfl
    have := run_equal_bool (P := P) w t a b ht
    simp [execOp, ha.ev hx, ha.ev hy, e, binOp, this]) h
end
end Go.Vc
