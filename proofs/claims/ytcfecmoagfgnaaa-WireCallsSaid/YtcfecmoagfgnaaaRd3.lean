/- wire: what takes pieces: its fields; more rules. -/
import Derived.Test.YtcfecmoagfgnaaaPut3
namespace Go.Vc
section
variable {P : Program} {n : Nat} {Q : Exit → Act → World → Prop} {σ : Sl} {G : World → Prop} {ops : Array Oper} {rest : List Oper}
variable {d : Nat} {ty : TypeId} {pos : String} {aft : Array Edge}
variable {S : List Snap} {H H' : List Chunk}

theorem VC.letArr {X : Type} {R : Rel X} {hR : Mono R} {e : TypeId} {sz : Nat} {g : Option Nat} {c : Nat} {ys : List X} {code : Code} (h : ∀ w1, Own S H w1 → Arr sz R (keys H) w1 (g.map fun g => ⟨g, 0, none⟩) ys c → VC P n Q code σ (Own (⟨w1, keys H⟩ :: S) H)) : VC P n Q code σ (Own S (arow e sz R hR g c ys :: H)) := fun a w ha hw =>
  h w hw.drop hw.letArr a w ha hw.drop.keep

/-- 'x[a:]', its value spelled out. -/
theorem VL.dropE {t e : TypeId} {x o : Operand} {k : IntKind} {l : List UInt8} {p : Option Addr} {c : Nat} (a : Nat) (hx : ev σ x = some (.slice p l.length c)) (ho : ev σ o = some (.int k (a : Int))) (ht : P.underlying t = some (.slice e)) (hsz : (P.info? e).map (·.size) = some 1) (ha : a ≤ l.length) (hc : l.length ≤ c)
    (h : VL P n ops Q rest ((d, .slice (if c = a then p else p.map (·.add (a * 1))) (l.drop a).length (c - a)) :: σ) G) (hdn : Nat.blt d n = true := by rfl) : VL P n ops Q (⟨some d, .slice t x (some o) none none, ty, pos, aft, none⟩ :: rest) σ G := by
  refine VL.val rfl rfl hdn (fun b' w hb' _ => ?_) h
  have := run_sliceAt (P := P) (w := w) (p := p) (m := l.length) (c := c) (a := a) (b := l.length) (hi := none) (lo := some (.int k (a : Int))) ht hsz (.inr ⟨k, rfl⟩) (.inl ⟨rfl, rfl⟩) ha hc
  simp [execOp, hb'.ev hx, hb'.ev ho, this]

theorem seg_at {α : Type} {A B : List α} {o m : Nat} (hA : A.length = o) (l cur : List α) (hl : cur.length = l.length) : (A ++ (cur ++ B)).take o ++ l ++ (A ++ (cur ++ B)).drop (o + l.length) = A ++ (l ++ B) := by
  subst hA
  rw [List.take_left, List.append_assoc]
  congr 1
  congr 1
  rw [← hl, ← List.length_append, ← List.append_assoc, List.drop_left]

/-- 'copy(x[:], l)', where l is as long as the array x, which is part j of a variable. -/
theorem VL.copyPart {x y : Operand} {t1 t2 e T : TypeId} {tys : Array TypeId} {g o m c : Nat} {p : Option Addr} {l : List UInt8} {L : List Nat} {ps ps' : List (List Value)} (i j : Nat) (htys : tys = #[t1, t2]) (hu : P.underlying t1 = some (.slice e)) (hs : (P.info? e).map (·.size) = some 1)
    (hx : ev σ x = some (.slice (some ⟨g, o, none⟩) m m)) (hy : ev σ y = some (.slice p l.length c)) (hi : H[i]? = some (blk g T L ps)) (hLj : L[j]? = some m) (ho : (L.take j).sum = o) (hl : l.length = m) (hm : 0 < m) (hA : ∀ w, Own S H w → CellsAt w p (l.map bv))
    (hp : ps.set j (l.map bv) = ps') (hH : H.set i (blk g T L ps') = H') (h : ∀ v, VL P n ops Q rest ((d, v) :: σ) (Own S H')) (hdn : Nat.blt d n = true := by rfl) : VL P n ops Q (⟨some d, .call ⟨.builtin .copy, #[x, y], tys⟩, ty, pos, aft, none⟩ :: rest) σ (Own S H) := by
  subst htys
  refine VL.act (K := fun _ w' => Own S H' w') rfl rfl hdn (fun a w ha hw => ?_) h
  obtain ⟨hg, hL⟩ := hw.holds _ (List.mem_of_getElem? hi)
  have hjl : j < ps.length := by
    have := (List.getElem?_eq_some_iff.1 hLj).1
    rw [← hL] at this; simpa using this
  have hpj : (ps[j]).length = m := by
    have := (List.getElem?_eq_some_iff.1 hLj).2
    subst hL
    simpa using this
  have e0 := flatten_at ps j 1
  have h1 : (ps.drop j).take 1 = [ps[j]] := by
    rw [List.drop_eq_getElem_cons hjl, List.take_succ_cons, List.take_zero]
  rw [h1] at e0
  simp only [List.flatten_cons, List.flatten_nil, List.append_nil] at e0
  have hlen := sum_take_length ps j
  rw [hL, ho] at hlen
  have eset : (ps.set j (l.map bv)).flatten = (ps.take j).flatten ++ (l.map bv ++ (ps.drop (j + 1)).flatten) := by
    rw [List.set_eq_take_append_cons_drop, if_pos hjl]
    simp
  rcases hA w hw with ⟨_, h0⟩ | ⟨a', rfl, hc⟩
  · have : l = [] := by simpa using h0
    subst this
    simp at hl; omega
  · have hr := run_copy_row (P := P) w t1 t2 ty e g o m m a' l.length c (cat ps).toArray T (l.map bv) hu hs hg (by simp [hl]) hc (by
      rw [List.size_toArray, cat_eq, e0, List.length_append, List.length_append, hlen, hpj, List.length_map, hl]
      first | omega | skip) (ok1_bytes l)
    have e1 : (cat ps).toArray.toList.take o ++ l.map bv ++ (cat ps).toArray.toList.drop (o + (l.map bv).length) = cat ps' := by
      rw [← hp, cat_eq, cat_eq, eset, e0]
      exact seg_at (m := m) hlen _ _ (by rw [List.length_map, hl, hpj])
    rw [e1] at hr
    refine ⟨goInt (l.map bv).length, w.setRow g (cat ps').toArray, ?_, blk_set (ps' := ps') hw hi ?_ hH⟩
    · simp [execOp, resolve, invoke, builtin, ha.ev hx, ha.ev hy, hr]
    · rw [← hp, List.map_set, hL, List.length_map, hl, ← (List.getElem?_eq_some_iff.1 hLj).2]
      exact List.set_getElem_self _
end
end Go.Vc
namespace Go.Proofs.Ytcfecmoagfgnaaa
open Go.Vc Go.Pl
section
variable {n : Nat} {Q : Exit → Act → World → Prop} {σ : Sl} {G : World → Prop} {ops : Array Oper} {rest : List Oper}
variable {d : Nat} {ty : TypeId} {pos : String} {aft : Array Edge}
variable {S : List Snap} {H H' : List Chunk}

/-- The pieces that are left, loaded. -/
theorem loadParts {x : Operand} {g : Nat} {parts : List (List UInt8)} {why : Nat} (i : Nat) (hx : ev σ x = some (.pointer (some ⟨g, 0, none⟩))) (hi : H[i]? = some (rch g parts why))
    (h : ∀ p c w1, Own S H w1 → Arr 1 bytesR (keys H) w1 p parts c → VL Try.prog n ops Q rest ((d, .slice p parts.length c) :: σ) (Own (⟨w1, keys H⟩ :: S) H)) (hdn : Nat.blt d n = true := by rfl) : VL Try.prog n ops Q (⟨some d, .load 31 x, ty, pos, aft, none⟩ :: rest) σ (Own S H) := by
  refine VL.at fun w hw => ?_
  obtain ⟨ps, h1, h2, p, c, rfl, hA⟩ := hw.holds _ (List.mem_of_getElem? hi)
  refine VL.val (v := .slice p parts.length c) rfl rfl hdn (fun a w' ha e => ?_) (VL.turn (fun w' e => by subst e; exact hw.keep) (h p c w hw hA))
  subst e
  have hc : w'.cell? ⟨g, 0, none⟩ = some (.slice p parts.length c) := by
    rw [cell_of_row w' g 0 _ 196 (0, 0) h1]; rfl
  simp [execOp, ha.ev hx, run_load_cell kd31 hc]
/-- The error, loaded. -/
theorem loadWhy {x : Operand} {g : Nat} {parts : List (List UInt8)} {why : Nat} (i : Nat) (hx : ev σ x = some (.pointer (some ⟨g, 1, none⟩))) (hG : ∀ w, G w → Own S H w) (hi : H[i]? = some (rch g parts why))
    (h : VL Try.prog n ops Q rest ((d, .int .i64 why) :: σ) G) (hdn : Nat.blt d n = true := by rfl) : VL Try.prog n ops Q (⟨some d, .load 35 x, ty, pos, aft, none⟩ :: rest) σ G :=
  VL.val rfl rfl hdn (fun a w ha hw => by
    obtain ⟨ps, h1, h2, p, c, rfl, hA⟩ := (hG w hw).holds _ (List.mem_of_getElem? hi)
    have hc : w.cell? ⟨g, 1, none⟩ = some (.int .i64 why) := by
      rw [cell_of_row w g 1 _ 196 (0, 0) h1]; rfl
    simp [execOp, ha.ev hx, run_load_cell kd35 hc]) h
end
end Go.Proofs.Ytcfecmoagfgnaaa
