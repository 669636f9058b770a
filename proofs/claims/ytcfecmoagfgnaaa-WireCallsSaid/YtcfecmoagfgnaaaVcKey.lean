/- The rules of the walks, continued: arrays in variables of their own: sliced, copied into, read as a result, compared. -/
import Derived.Test.YtcfecmoagfgnaaaVcSet
import Derived.Laws.CopyRow
import Derived.Laws.StructEq
namespace Go.Vc
section
variable {P : Program} {n : Nat} {Q : Exit → Act → World → Prop} {σ : Sl} {G : World → Prop} {ops : Array Oper} {rest : List Oper}
variable {d : Nat} {ty : TypeId} {pos : String} {aft : Array Edge}
variable {S : List Snap} {H H' : List Chunk}

/-- 'x[:]' of an array. -/
theorem VL.sliceArr {t e : TypeId} {m g : Nat} {x : Operand} (ht : P.underlying t = some (.array m e)) (he : ((P.info? e).map (·.size)).isSome = true) (hx : ev σ x = some (.pointer (some ⟨g, 0, none⟩)))
    (h : VL P n ops Q rest ((d, .slice (some ⟨g, 0, none⟩) m m) :: σ) G) (hdn : Nat.blt d n = true := by rfl) : VL P n ops Q (⟨some d, .slice t x none none none, ty, pos, aft, none⟩ :: rest) σ G :=
  VL.val rfl rfl hdn (fun a w ha _ => by
    cases hi : P.info? e with
    | none => simp [hi] at he
    | some inf => simp [execOp, ha.ev hx, Instr.sliceAt, run_underlying ht, Instr.sureAddr, Instr.sliceBounds, sizeOf, typeInfo, hi, Addr.add]) h

/-- 'copy(x[:], l)', where l is as long as the array x. -/
theorem VL.copyAll {x y : Operand} {t1 t2 e T : TypeId} {tys : Array TypeId} {g m c : Nat} {p : Option Addr} {l : List UInt8} {cur : List Value} (i : Nat) (htys : tys = #[t1, t2]) (hu : P.underlying t1 = some (.slice e)) (hs : (P.info? e).map (·.size) = some 1)
    (hx : ev σ x = some (.slice (some ⟨g, 0, none⟩) m m)) (hy : ev σ y = some (.slice p l.length c)) (hi : H[i]? = some (blk g T [m] [cur])) (hl : l.length = m) (hm : 0 < m) (hA : ∀ w, Own S H w → CellsAt w p (l.map bv))
    (hH : H.set i (blk g T [m] [l.map bv]) = H') (h : ∀ v, VL P n ops Q rest ((d, v) :: σ) (Own S H')) (hdn : Nat.blt d n = true := by rfl) : VL P n ops Q (⟨some d, .call ⟨.builtin .copy, #[x, y], tys⟩, ty, pos, aft, none⟩ :: rest) σ (Own S H) := by
  subst htys
  refine VL.act (K := fun _ w' => Own S H' w') rfl rfl hdn (fun a w ha hw => ?_) h
  obtain ⟨hg, hL⟩ := hw.holds _ (List.mem_of_getElem? hi)
  have hcl : cur.length = m := by simpa using hL
  have hcat : cat [cur] = cur := rfl
  rw [hcat] at hg
  rcases hA w hw with ⟨_, h0⟩ | ⟨a', rfl, hc⟩
  · have : l = [] := by simpa using h0
    subst this
    simp at hl; omega
  · have hr := run_copy_row (P := P) w t1 t2 ty e g 0 m m a' l.length c cur.toArray T (l.map bv) hu hs hg (by simp [hl]) hc (by simp [hl, hcl]) (ok1_bytes l)
    have e1 : cur.toArray.toList.take 0 ++ l.map bv ++ cur.toArray.toList.drop (0 + (l.map bv).length) = l.map bv := by
      simp [List.drop_eq_nil_of_le (show cur.length ≤ l.length by omega)]
    rw [e1] at hr
    refine ⟨goInt (l.map bv).length, w.setRow g (l.map bv).toArray, ?_, blk_set (ps' := [l.map bv]) hw hi (by simp [hl]) hH⟩
    simp [execOp, resolve, invoke, builtin, ha.ev hx, ha.ev hy, hr]

/-- A result that stands in a variable: an array or a struct; the other in a slot. -/
theorem VX.ret_cell {fn : Func} {S' : Value → World → Prop} {t u g : Nat} {ty T : TypeId} {L : List Nat} {ps : List (List Value)} {x : Value} (i : Nat) {cs : List Value} (hr : fn.results = #[.cell t ty, .tmp u]) (ht : look σ t = some (.pointer (some ⟨g, 0, none⟩))) (hu : look σ u = some x)
    (hk : kindOf P ty = some (some cs.length)) (hG : ∀ w, G w → Own S H w) (hi : H[i]? = some (blk g T L ps)) (hc : cat ps = cs) (h : ∀ w, G w → S' (.tuple #[.agg cs.toArray, x]) w) : VX n (bodyPost P fn (Ret S')) .ret σ G :=
  fun a w ha hw => ⟨ha.dfr, .tuple #[.agg cs.toArray, x], by
    obtain ⟨hg, _⟩ := (hG w hw).holds _ (List.mem_of_getElem? hi)
    have h1 := ha.at_ t _ ht
    have h2 := ha.at_ u _ hu
    simp only [Array.getD_eq_getD_getElem?] at h1 h2
    have hcell : ∀ j v, cs[j]? = some v → w.cell? ((⟨g, 0, none⟩ : Addr).add j) = some v := by
      intro j v hj
      rw [add_lit, cell_of_row w g _ _ T (0, 0) hg, hc, Nat.zero_add]
      simpa using hj
    have hld : (loadVar ty ⟨g, 0, none⟩).run P w = .ok (.agg cs.toArray) w := by
      simp [loadVar, (kindOf_agg hk w).1, (kindOf_agg hk w).2, run_loadCells_list (P := P) w ⟨g, 0, none⟩ cs hcell]
    simp [results, hr, h1, h2, asAddr, hld], h w hw⟩

/-- An array against itself. -/
theorem run_eqArr {t e : TypeId} {m k : Nat} {l : List UInt8} {w : World} (ht : P.underlying t = some (.array m e)) (he : P.underlying e = some (.int .u8)) (hs : kindOf P e = some none) (hl : l.length = m) :
    (Op.equalIn (k + 2) t (.agg (l.map bv).toArray) (.agg (l.map bv).toArray)).run P w = .ok true w := by
  have hsz := (kindOf_cell hs w).2
  have hag := (kindOf_cell hs w).1
  rw [show k + 2 = (k + 1) + 1 from rfl, Op.equalIn]
  simp only [Sem.run_bind, run_underlying ht, Result.andThen_ok, hsz]
  rw [Std.Legacy.Range.forIn_eq_forIn_range']
  have hr : Std.Legacy.Range.size [0:m] = m := by simp [Std.Legacy.Range.size]
  have key : ∀ (c s : Nat), s + c ≤ m → ∀ b, ((forIn (List.range' s c) b fun i __s => do
      let __do_lift ← Go.part e (l.map bv).toArray (i * 1)
      let __do_lift_1 ← Go.part e (l.map bv).toArray (i * 1)
      let __do_lift ← Op.equalIn (k + 1) e __do_lift __do_lift_1
      if (!__do_lift) = true then pure (ForInStep.done (some false, ()))
        else pure (ForInStep.yield (none, ())) : Sem (Option Bool × PUnit)).run P w = .ok (if c = 0 then b else (none, ())) w) := by
    intro c
    induction c with
    | zero => intro s _ b; simp
    | succ c ih =>
      intro s hsc b
      have hlt : s < l.length := by omega
      have hp : (Go.part e (l.map bv).toArray (s * 1)).run P w = .ok (bv l[s]) w := by
        simp [Go.part, hag, hlt]
      have heq : (Op.equalIn (k + 1) e (bv l[s]) (bv l[s])).run P w = .ok true w := by
        unfold bv
        rw [run_equalIn_int (P := P) w k e .u8 .u8 _ _ he]; simp
      rw [List.range'_succ]
      simp only [List.forIn_cons, Sem.run_bind, hp, Result.andThen_ok, heq, Bool.not_true, Bool.false_eq_true, if_false, Sem.run_pure]
      rw [ih (s + 1) (by omega)]
      simp
  have hk := key m 0 (by omega) (none, ())
  rw [ite_self] at hk
  rw [hr]
  simp only [hk, Result.andThen_ok, Sem.run_pure]
theorem VL.eqArr {x y : Operand} {t ty' e : TypeId} {m : Nat} {l : List UInt8} {v1 v2 : Value} (ht : P.underlying t = some (.array m e)) (he : P.underlying e = some (.int .u8)) (hs : kindOf P e = some none) (hg : P.eqGuardType P.depth t = false) (hx : ev σ x = some v1) (hy : ev σ y = some v2) (e1 : v1 = .agg (l.map bv).toArray) (e2 : v2 = .agg (l.map bv).toArray) (hl : l.length = m)
    (h : VL P n ops Q rest ((d, .bool true) :: σ) G) (hdn : Nat.blt d n = true := by rfl) : VL P n ops Q (⟨some d, .binOp .eql t x y ty', ty, pos, aft, none⟩ :: rest) σ G := by
  subst e1 e2
  exact VL.val rfl rfl hdn (fun a w ha _ => by
    simp [execOp, ha.ev hx, ha.ev hy, run_eqGuard_agg w .eql t x y _ _ hg, run_eql_struct, run_eqArr (P := P) (k := 9998) (w := w) ht he hs hl]) h
end
end Go.Vc
