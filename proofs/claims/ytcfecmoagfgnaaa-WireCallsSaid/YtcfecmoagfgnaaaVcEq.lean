/- The rules of the walks, continued: arrays and structs, one against the other; zeros; chunks with a reading inside. -/
import Derived.Test.YtcfecmoagfgnaaaVcBuild
import Derived.Test.YtcfecmoagfgnaaaVcKey
namespace Go.Vc

/-- Two values of a type, one against the other: the answer says p. -/
def EqT (P : Program) (d : Nat) (t : TypeId) (x y : Value) (p : Prop) : Prop := ∃ b : Bool, (∀ w, (Op.equalIn d t x y).run P w = .ok b w) ∧ (b = true ↔ p)

section
variable {P : Program}

theorem EqT.imp {d : Nat} {t : TypeId} {x y : Value} {p q : Prop} (h : EqT P d t x y p) (e : p ↔ q) : EqT P d t x y q := by
  obtain ⟨b, h1, h2⟩ := h
  exact ⟨b, h1, h2.trans e⟩
theorem EqT.int {d : Nat} {t : TypeId} {k k' : IntKind} {a b : Int} (h : P.underlying t = some (.int k')) : EqT P (d + 1) t (.int k a) (.int k b) (a = b) :=
  ⟨a == b, fun w => run_equalIn_int (P := P) w d t k k' a b h, by simp⟩
theorem EqT.bool {d : Nat} {t : TypeId} {a b : Bool} (h : P.underlying t = some .bool) : EqT P (d + 1) t (.bool a) (.bool b) (a = b) :=
  ⟨a == b, fun w => run_equalIn_bool (P := P) w d t a b h, by simp⟩

/-- Arrays of bytes. -/
theorem EqT.arr {t e : TypeId} {m k : Nat} {l r : List UInt8} (ht : P.underlying t = some (.array m e)) (he : P.underlying e = some (.int .u8)) (hs : kindOf P e = some none) (hl : l.length = m) (hr : r.length = m) :
    EqT P (k + 2) t (.agg (l.map bv).toArray) (.agg (r.map bv).toArray) (l = r) := by
  refine ⟨decide (l = r), fun w => ?_, by simp⟩
  have hsz := (kindOf_cell hs w).2
  have hag := (kindOf_cell hs w).1
  rw [show k + 2 = (k + 1) + 1 from rfl, Op.equalIn]
  simp only [Sem.run_bind, run_underlying ht, Result.andThen_ok, hsz]
  rw [Std.Legacy.Range.forIn_eq_forIn_range']
  have hrg : Std.Legacy.Range.size [0:m] = m := by simp [Std.Legacy.Range.size]
  have key : ∀ (c s : Nat), s + c = m → ((forIn (List.range' s c) (none, ()) fun i __s => do
      let __do_lift ← Go.part e (l.map bv).toArray (i * 1)
      let __do_lift_1 ← Go.part e (r.map bv).toArray (i * 1)
      let __do_lift ← Op.equalIn (k + 1) e __do_lift __do_lift_1
      if (!__do_lift) = true then pure (ForInStep.done (some false, ()))
        else pure (ForInStep.yield (none, ())) : Sem (Option Bool × PUnit)).run P w = .ok (if l.drop s = r.drop s then (none, ()) else (some false, ())) w) := by
    intro c
    induction c with
    | zero =>
      intro s hsc
      rw [List.drop_eq_nil_of_le (by omega), List.drop_eq_nil_of_le (by omega)]
      simp
    | succ c ih =>
      intro s hsc
      have hlt : s < l.length := by omega
      have hrt : s < r.length := by omega
      have hp : (Go.part e (l.map bv).toArray (s * 1)).run P w = .ok (bv l[s]) w := by
        simp [Go.part, hag, hlt]
      have hq : (Go.part e (r.map bv).toArray (s * 1)).run P w = .ok (bv r[s]) w := by
        simp [Go.part, hag, hrt]
      have heq : (Op.equalIn (k + 1) e (bv l[s]) (bv r[s])).run P w = .ok (decide (l[s] = r[s])) w := by
        unfold bv
        rw [run_equalIn_int (P := P) w k e .u8 .u8 _ _ he]
        congr 1
        have : ((l[s].toNat : Int) = (r[s].toNat : Int)) ↔ l[s] = r[s] := by
          rw [Int.natCast_inj, UInt8.toNat_inj]
        rw [Bool.eq_iff_iff]
        simp [this]
      rw [List.range'_succ]
      simp only [List.forIn_cons, Sem.run_bind, hp, hq, Result.andThen_ok, heq]
      rw [List.drop_eq_getElem_cons hlt, List.drop_eq_getElem_cons hrt]
      by_cases hb : l[s] = r[s]
      · have e1 : (!decide (l[s] = r[s])) = true ↔ False := by simp [hb]
        simp only [e1, if_false, Sem.run_pure, Result.andThen_ok]
        rw [ih (s + 1) (by omega), hb]
        simp only [List.cons.injEq, true_and]
      · have e1 : (!decide (l[s] = r[s])) = true ↔ True := by simp [hb]
        simp only [e1, if_true, Sem.run_pure, Result.andThen_ok]
        rw [if_neg (fun h => hb (List.cons.inj h).1)]
  have hk := key m 0 (by omega)
  rw [hrg]
  simp only [hk, Result.andThen_ok, List.drop_zero]
  by_cases hb : l = r
  · simp [hb]
  · simp [hb]

/-- The fields of two structs, part by part. -/
def FieldsT (P : Program) (d : Nat) : List (TypeId × Nat) → Nat → List (List Value) → List (List Value) → List Prop → Prop
  | [], _, [], [], [] => True
  | f :: fs, o, p :: ps, q :: qs, b :: bs => (f.2 = o ∧ p.length = q.length ∧ ((kindOf P f.1 = some none ∧ ∃ u v, p = [u] ∧ q = [v] ∧ EqT P d f.1 u v b) ∨ (kindOf P f.1 = some (some p.length) ∧ EqT P d f.1 (.agg p.toArray) (.agg q.toArray) b))) ∧ FieldsT P d fs (o + p.length) ps qs bs
  | _, _, _, _, _ => False

def allP : List Prop → Prop
  | [] => True
  | p :: ps => p ∧ allP ps

theorem part_at {t : TypeId} {w : World} {pre p suf : List Value} : (kindOf P t = some none → ∀ u, p = [u] → (Go.part t (pre ++ (p ++ suf)).toArray pre.length).run P w = .ok u w) ∧ (kindOf P t = some (some p.length) → (Go.part t (pre ++ (p ++ suf)).toArray pre.length).run P w = .ok (.agg p.toArray) w) := by
  constructor
  · intro h u e
    subst e
    have := (kindOf_cell h w).1
    simp [Go.part, this]
  · intro h
    have h1 := (kindOf_agg h w).1
    have h2 := (kindOf_agg h w).2
    have e : (pre ++ (p ++ suf)).toArray.extract pre.length (pre.length + p.length) = p.toArray := by
      apply Array.ext'
      simp
    simp only [Go.part, Sem.run_bind, h1, Result.andThen_ok, Sem.run_ite, if_true, h2, Sem.run_pure, e]

theorem run_fields (d : Nat) : ∀ (fs : List Field) (o : Nat) (ps qs : List (List Value)) (bs : List Prop), (fs.all fun f => f.name != "_") = true → FieldsT P d (fs.map fun f => (f.type, f.offset)) o ps qs bs → ∃ b : Bool, (∀ (pre pre' : List Value) (w : World), pre.length = o → pre'.length = o → (Op.eqFields d (pre ++ ps.flatten).toArray (pre' ++ qs.flatten).toArray fs).run P w = .ok b w) ∧ (b = true ↔ allP bs)
  | [], _, [], [], [], _, _ => ⟨true, fun _ _ _ _ _ => by simp [Op.eqFields], by simp [allP]⟩
  | f :: fs, o, p :: ps, q :: qs, b :: bs, hn, ⟨⟨h2, h3, h4⟩, h5⟩ => by
    rw [List.all_cons, Bool.and_eq_true] at hn
    have h1 : f.name ≠ "_" := by simpa using hn.1
    simp only at h2 h4
    obtain ⟨b2, hb2, hi2⟩ := run_fields d fs (o + p.length) ps qs bs hn.2 h5
    have step : ∃ b1 : Bool, (b1 = true ↔ b) ∧ ∀ (pre pre' : List Value) (w : World), pre.length = o → pre'.length = o → ∃ u v, (Go.part f.type (pre ++ (p ++ ps.flatten)).toArray f.offset).run P w = .ok u w ∧ (Go.part f.type (pre' ++ (q ++ qs.flatten)).toArray f.offset).run P w = .ok v w ∧ (Op.equalIn d f.type u v).run P w = .ok b1 w := by
      rcases h4 with ⟨hk, u, v, rfl, rfl, b1, hr, hi⟩ | ⟨hk, b1, hr, hi⟩
      · refine ⟨b1, hi, fun pre pre' w e1 e2 => ⟨u, v, ?_, ?_, hr w⟩⟩
        · rw [h2, ← e1]; exact part_at.1 hk u rfl
        · rw [h2, ← e2]; exact part_at.1 hk v rfl
      · refine ⟨b1, hi, fun pre pre' w e1 e2 => ⟨_, _, ?_, ?_, hr w⟩⟩
        · rw [h2, ← e1]; exact part_at.2 hk
        · rw [h2, ← e2]; exact part_at.2 (by rw [← h3]; exact hk)
    obtain ⟨b1, hi1, hs⟩ := step
    refine ⟨b1 && b2, fun pre pre' w e1 e2 => ?_, by simp [allP, hi1, hi2]⟩
    obtain ⟨u, v, r1, r2, r3⟩ := hs pre pre' w e1 e2
    simp only [List.flatten_cons, Op.eqFields, h1, ne_eq, not_false_eq_true, if_true, Sem.run_bind, r1, r2, r3, Result.andThen_ok]
    cases b1
    · simp
    · have := hb2 (pre ++ p) (pre' ++ q) w (by simp [e1]) (by simp [e2, h3])
      rw [List.append_assoc, List.append_assoc] at this
      simp [this]

theorem EqT.struct {d : Nat} {t : TypeId} {ps qs : List (List Value)} {bs : List Prop} (ht : P.underlying t = some (.struct (P.fieldsOf t))) (hp : P.stoodInHeld t = false) (hn : ((P.fieldsOf t).toList.all fun f => f.name != "_") = true) (h : FieldsT P d ((P.fieldsOf t).toList.map fun f => (f.type, f.offset)) 0 ps qs bs) : EqT P (d + 1) t (.agg (cat ps).toArray) (.agg (cat qs).toArray) (allP bs) := by
  obtain ⟨b, h1, h2⟩ := run_fields d _ _ _ _ _ hn h
  refine ⟨b, fun w => ?_, h2⟩
  rw [run_equalIn_struct w d t _ _ ht hp, cat_eq, cat_eq]
  exact h1 [] [] w rfl rfl
end

section
variable {P : Program} {n : Nat} {Q : Exit → Act → World → Prop} {σ : Sl} {G : World → Prop} {ops : Array Oper} {rest : List Oper}
variable {d : Nat} {ty : TypeId} {pos : String} {aft : Array Edge}
variable {S : List Snap} {H H' : List Chunk}

theorem VL.eqT {x y : Operand} {t ty' : TypeId} {cs ds : Array Value} {p : Prop} (hg : P.eqGuardType P.depth t = false) (hx : ev σ x = some (.agg cs)) (hy : ev σ y = some (.agg ds)) (he : EqT P 10000 t (.agg cs) (.agg ds) p)
    (h : ∀ b : Bool, (b = true ↔ p) → VL P n ops Q rest ((d, .bool b) :: σ) G) (hdn : Nat.blt d n = true := by rfl) : VL P n ops Q (⟨some d, .binOp .eql t x y ty', ty, pos, aft, none⟩ :: rest) σ G := by
  obtain ⟨b, h1, h2⟩ := he
  exact VL.val rfl rfl hdn (fun a w ha _ => by
    simp [execOp, ha.ev hx, ha.ev hy, run_eqGuard_agg w .eql t x y _ _ hg, run_eql_struct, h1 w]) (h b h2)
theorem VL.neT {x y : Operand} {t ty' : TypeId} {cs ds : Array Value} {p : Prop} (hg : P.eqGuardType P.depth t = false) (hx : ev σ x = some (.agg cs)) (hy : ev σ y = some (.agg ds)) (he : EqT P 10000 t (.agg cs) (.agg ds) p)
    (h : ∀ b : Bool, (b = true ↔ p) → VL P n ops Q rest ((d, .bool (!b)) :: σ) G) (hdn : Nat.blt d n = true := by rfl) : VL P n ops Q (⟨some d, .binOp .neq t x y ty', ty, pos, aft, none⟩ :: rest) σ G := by
  obtain ⟨b, h1, h2⟩ := he
  exact VL.val rfl rfl hdn (fun a w ha _ => by
    simp [execOp, ha.ev hx, ha.ev hy, run_eqGuard_agg w .neq t x y _ _ hg, run_neq_struct, h1 w]) (h b h2)

/-- The one result stands in a variable. -/
theorem VX.ret_cell1 {fn : Func} {S' : Value → World → Prop} {t g : Nat} {ty T : TypeId} {L : List Nat} {ps : List (List Value)} (i : Nat) {cs : List Value} (hr : fn.results = #[.cell t ty]) (ht : look σ t = some (.pointer (some ⟨g, 0, none⟩)))
    (hk : kindOf P ty = some (some cs.length)) (hG : ∀ w, G w → Own S H w) (hi : H[i]? = some (blk g T L ps)) (hc : cat ps = cs) (h : ∀ w, G w → S' (.agg cs.toArray) w) : VX n (bodyPost P fn (Ret S')) .ret σ G :=
  fun a w ha hw => ⟨ha.dfr, .agg cs.toArray, by
    obtain ⟨hg, _⟩ := (hG w hw).holds _ (List.mem_of_getElem? hi)
    have h1 := ha.at_ t _ ht
    simp only [Array.getD_eq_getD_getElem?] at h1
    have hcell : ∀ j v, cs[j]? = some v → w.cell? ((⟨g, 0, none⟩ : Addr).add j) = some v := by
      intro j v hj
      rw [add_lit, cell_of_row w g _ _ T (0, 0) hg, hc, Nat.zero_add]
      simpa using hj
    have hld : (loadVar ty ⟨g, 0, none⟩).run P w = .ok (.agg cs.toArray) w := by
      simp [loadVar, (kindOf_agg hk w).1, (kindOf_agg hk w).2, run_loadCells_list (P := P) w ⟨g, 0, none⟩ cs hcell]
    simp [results, hr, h1, asAddr, hld], h w hw⟩

/-- The newest slot, in other words. -/
theorem VL.newv {l : List Oper} {v v' : Value} (e : v = v') (h : VL P n ops Q l ((d, v') :: σ) G) : VL P n ops Q l ((d, v) :: σ) G := e ▸ h

/-- A zero that is built. -/
theorem VL.build0 {t : TypeId} {cs : List Value} (hb : P.built t [] = some cs.toArray)
    (h : VL P n ops Q rest ((d, .agg cs.toArray) :: σ) G) (hdn : Nat.blt d n = true := by rfl) : VL P n ops Q (⟨some d, .build t #[], ty, pos, aft, none⟩ :: rest) σ G :=
  VL.val rfl rfl hdn (fun a w _ _ => by
    have hr := run_build (P := P) w t #[] _ hb
    simp only [execOp, Sem.run_bind, Array.map_empty, hr, Result.andThen_ok, Sem.run_pure]) h

/-- A variable whose cells read as something. -/
def xblk (g : Nat) (T : TypeId) (L : List Nat) (R : Rel (List (List Value))) (hR : Mono R) : Chunk :=
  ⟨[g], fun K w => ∃ ps, w.heap[g]? = some (.cells (cat ps).toArray T (0, 0)) ∧ ps.map List.length = L ∧ R K w (cat ps) ps, fun K K' w w' h hs hK ⟨ps, h1, h2, h3⟩ => ⟨ps, by rw [h g (by simp)]; exact h1, h2, hR ⟨w, K⟩ K' w' _ _ ⟨hs, hK⟩ h3⟩⟩
theorem Own.openX {w : World} {g : Nat} {T : TypeId} {L : List Nat} {R : Rel (List (List Value))} {hR : Mono R} (h : Own S (xblk g T L R hR :: H) w) : ∃ ps, Own S (blk g T L ps :: H) w ∧ R (keys (blk g T L ps :: H)) w (cat ps) ps := by
  obtain ⟨ps, h1, h2, h3⟩ := h.holds (xblk g T L R hR) (by simp)
  refine ⟨ps, ?_, h3⟩
  exact h.setK (i := 0) (c := xblk g T L R hR) (c' := blk g T L ps) rfl rfl rfl rfl (Nat.le_refl _) (fun _ _ _ => rfl) (by simp [blk]) (fun k hk => ⟨.inl hk, h.lt k (by rw [keys_cons]; simp [xblk]; left; simpa [blk] using hk)⟩) (fun K' ha => ⟨h1, h2⟩) rfl
theorem Own.shutX {w : World} {g : Nat} {T : TypeId} {L : List Nat} {ps : List (List Value)} {R : Rel (List (List Value))} (hR : Mono R) (h : Own S (blk g T L ps :: H) w) (hr : R (keys (blk g T L ps :: H)) w (cat ps) ps) : Own S (xblk g T L R hR :: H) w := by
  obtain ⟨h1, h2⟩ := h.holds (blk g T L ps) (by simp)
  exact h.setK (i := 0) (c := blk g T L ps) (c' := xblk g T L R hR) rfl rfl rfl rfl (Nat.le_refl _) (fun _ _ _ => rfl) (by simp [xblk]) (fun k hk => ⟨.inl hk, h.lt k (by rw [keys_cons]; simp [blk]; left; simpa [xblk] using hk)⟩) (fun K' ha => ⟨ps, h1, h2, hR _ K' w _ _ ha hr⟩) rfl

/-- A chunk at place i, brought to the front; and back. -/
theorem Own.front {w : World} {i : Nat} {c : Chunk} (h : Own S H w) (hi : H[i]? = some c) : Own S (c :: H.eraseIdx i) w := h.perm (perm_at hi).symm
theorem Own.back {w : World} {i : Nat} {c c' : Chunk} (hi : H[i]? = some c) (h : Own S (c' :: H.eraseIdx i) w) : Own S (H.set i c') w := Own.perm h (perm_set _ _ _ (List.getElem?_eq_some_iff.1 hi).1)
/-- Fewer snapshots. -/
theorem Own.sub {S' : List Snap} {w : World} (h : Own S' H w) (hs : ∀ s ∈ S, s ∈ S') : Own S H w := ⟨h.nodup, h.lt, h.holds, fun s hm => h.snap s (hs s hm)⟩
theorem Arr.keysTo {X : Type} {sz : Nat} {R : Rel X} {K K' : List Nat} {w : World} {p : Option Addr} {xs : List X} {c : Nat} (h : Arr sz R K w p xs c) (hR : Mono R) (hk : ∀ k ∈ K', k ∈ K) : Arr sz R K' w p xs c :=
  Arr.after (s := ⟨w, K⟩) h hR ⟨⟨rfl, rfl, rfl, Nat.le_refl _, fun _ _ _ => rfl⟩, fun k hm => .inl (hk k hm)⟩
theorem keys_set {i : Nat} {c c' : Chunk} (hi : H[i]? = some c) : ∀ k, k ∈ keys (H.set i c') ↔ k ∈ keys (c' :: H.eraseIdx i) := fun k =>
  (List.Perm.flatMap_right _ (perm_set H i c' (List.getElem?_eq_some_iff.1 hi).1)).mem_iff
theorem keys_front {i : Nat} {c : Chunk} (hi : H[i]? = some c) : ∀ k, k ∈ keys H ↔ k ∈ keys (c :: H.eraseIdx i) := fun k =>
  (List.Perm.flatMap_right _ (perm_at hi)).mem_iff
end
end Go.Vc
