/- The statement FedqLoads is proved, for every input: part 19 of 26 of the texts that it needs. -/
import Derived.Test.YtcfecmoagfgnaaaMfloAR
/- The reference: what takes pieces. -/
namespace Go.Proofs.Ytcfecmoagfgnaaa
open Go.Vc Go.Pl

end Go.Proofs.Ytcfecmoagfgnaaa
namespace Go.Vc
open Go.Pl
section
variable {P : Program} {n : Nat} {Q : Exit → Act → World → Prop} {σ : Sl} {ops : Array Oper} {rest : List Oper} {d : Nat} {ty : TypeId} {pos : String} {aft : Array Edge} {S : List Snap} {H H' : List Chunk}
theorem padB_cells (m : Nat) (l : List UInt8) : (padB m l).map bv = (l.take m).map bv ++ ((zeros m).map bv).drop ((l.take m).map bv).length := by
 unfold padB
 rw [List.map_append, List.length_map, List.length_take]
 congr 1
 unfold zeros
 rw [List.map_replicate, List.map_replicate, List.drop_replicate]
 congr 1
 omega
/-- 'copy' to an array of zeros: as much as there is room for. -/
theorem VL.copyZ {x y : Operand} {t1 t2 e T : TypeId} {tys : Array TypeId} {g o m c : Nat} {p : Option Addr} {l : List UInt8} {L : List Nat} {ps ps' : List (List Value)} (i j : Nat) (htys : tys = #[t1, t2]) (hu : P.underlying t1 = some (.slice e)) (hs : (P.info? e).map (·.size) = some 1)
  (hx : ev σ x = some (.slice (some ⟨g, o, none⟩) m m)) (hy : ev σ y = some (.slice p l.length c)) (hi : H[i]? = some (blk g T L ps)) (hLj : L[j]? = some m) (ho : (L.take j).sum = o) (hz : ps[j]? = some ((zeros m).map bv)) (hA : ∀ w, Own S H w → ∃ K, Bytes K w p l c)
  (hp : ps.set j ((padB m l).map bv) = ps') (hH : H.set i (blk g T L ps') = H') (h : ∀ v, VL P n ops Q rest ((d, v) :: σ) (Own S H')) (hdn : Nat.blt d n = true := by rfl) : VL P n ops Q (⟨some d, .call ⟨.builtin .copy, #[x, y], tys⟩, ty, pos, aft, none⟩ :: rest) σ (Own S H) := by
 subst htys
 refine VL.act (K := fun _ w' => Own S H' w') rfl rfl hdn (fun a w ha hw => ?_) h
 obtain ⟨hg, hL⟩ := hw.holds _ (List.mem_of_getElem? hi)
 have hjl : j < ps.length := (List.getElem?_eq_some_iff.1 hz).1
 have hpj : ps[j] = (zeros m).map bv := (List.getElem?_eq_some_iff.1 hz).2
 have hpl : (ps[j]).length = m := by rw [hpj, List.length_map, zeros_length]
 have e0 := flatten_at ps j 1
 have h1 : (ps.drop j).take 1 = [ps[j]] := by
  rw [List.drop_eq_getElem_cons hjl, List.take_succ_cons, List.take_zero]
 rw [h1] at e0
 simp only [List.flatten_cons, List.flatten_nil, List.append_nil] at e0
 have hlen := sum_take_length ps j
 rw [hL, ho] at hlen
 obtain ⟨K, hB⟩ := hA w hw
 have hps' : ps'.map List.length = L := by
  rw [← hp, List.map_set, hL, List.length_map, padB_length, ← (List.getElem?_eq_some_iff.1 hLj).2]
  exact List.set_getElem_self _
 rcases hB.bytes with ⟨rfl, h0⟩ | ⟨a', rfl, hc⟩
 ·have hl0 : l = [] := by simpa using h0
  subst hl0
  have hc0 := hB.nil rfl
  subst hc0
  have hr := run_copy_nil (P := P) w t1 t2 ty e ⟨g, o, none⟩ m m hu (by rw [hs]; rfl)
  have e1 : ps' = ps := by
   rw [← hp, show padB m [] = zeros m by unfold padB; simp, ← hpj]
   exact List.set_getElem_self _
  subst e1
  refine ⟨goInt 0, w, ?_, ?_⟩
  ·have hy' := ha.ev hy
   rw [show (([] : List UInt8).length) = 0 from rfl] at hy'
   simp [execOp, resolve, invoke, builtin, ha.ev hx, hy', hr]
  ·rw [← hH, show H.set i (blk g T L ps') = H from by
    rw [← (List.getElem?_eq_some_iff.1 hi).2]; exact List.set_getElem_self _]
   exact hw
 ·have hcl : ((l.take m).map bv).length = min m l.length := by rw [List.length_map, List.length_take]
  have hr := run_copy_row (P := P) w t1 t2 ty e g o m m a' l.length c (cat ps).toArray T ((l.take m).map bv) hu hs hg (by rw [hcl]; exact Nat.min_comm _ _) (fun k v hk => hc k v (by
   rw [List.getElem?_map] at hk ⊢
   have hkl : k < (l.take m).length := by
    cases e2 : (l.take m)[k]? with
    | none => rw [e2] at hk; cases hk
    | some b => exact (List.getElem?_eq_some_iff.1 e2).1
   rw [List.getElem?_take_of_lt (by rw [List.length_take] at hkl; omega)] at hk
   exact hk)) (by
   rw [List.size_toArray, cat_eq, e0, List.length_append, List.length_append, hlen, hpl, hcl]
   omega) (ok1_bytes _)
  have e1 : (cat ps).toArray.toList.take o ++ (l.take m).map bv ++ (cat ps).toArray.toList.drop (o + ((l.take m).map bv).length) = cat ps' := by
   rw [← hp, cat_eq, cat_eq, List.set_eq_take_append_cons_drop, if_pos hjl, List.flatten_append, List.flatten_cons, padB_cells]
   show ps.flatten.take o ++ _ ++ ps.flatten.drop _ = _
   rw [e0, hpj]
   rw [← hlen, List.take_left, List.drop_append, List.drop_eq_nil_of_le (Nat.le_add_right _ _), List.nil_append, Nat.add_sub_cancel_left, List.drop_append, List.append_assoc, List.append_assoc]
   congr 3
   rw [Nat.sub_eq_zero_of_le (by simp only [List.length_map, zeros_length, List.length_take]; omega), List.drop_zero]
  rw [e1] at hr
  refine ⟨goInt ((l.take m).map bv).length, w.setRow g (cat ps').toArray, ?_, blk_set (ps' := ps') hw hi hps' hH⟩
  simp [execOp, resolve, invoke, builtin, ha.ev hx, ha.ev hy, hr]
end
end Go.Vc
namespace Go.Proofs.Ytcfecmoagfgnaaa
open Go.Vc Go.Pl
/-- The variable of what takes pieces: all of them, and how many are taken. -/
abbrev tblk (g : Nat) (p : Option Addr) (m c n : Nat) : Chunk := blk g 216 [1, 1] [[.slice p m c], [.int .i64 n]]
def tkR (z : Bool) (left : List (List UInt8)) : Rel (List (List Value)) := fun K w _ ps => ∃ ls p c, ∃ n : Nat, ps = [[.slice p ls.length c], [.int .i64 n]] ∧ left = ls.drop n ∧ n ≤ ls.length ∧ (z = true → n = 0) ∧ Arr 1 bytesR K w p ls c
theorem Mono_tk (z : Bool) (left : List (List UInt8)) : Mono (tkR z left) := fun _ _ _ _ _ ha ⟨ls, p, c, n, e, h1, h2, h3, h⟩ => ⟨ls, p, c, n, e, h1, h2, h3, h.after (Mono.slice Mono.byte) ha⟩
/-- What takes pieces: those that are left; is none taken yet? -/
def tch (g : Nat) (z : Bool) (left : List (List UInt8)) : Chunk := xblk g 216 [1, 1] (tkR z left) (Mono_tk z left)
theorem openTk {S : List Snap} {H : List Chunk} {w : World} {g : Nat} {z : Bool} {left : List (List UInt8)} (h : Own S (tch g z left :: H) w) : ∃ ls p c, ∃ n : Nat, left = ls.drop n ∧ n ≤ ls.length ∧ (z = true → n = 0) ∧ Own S (tblk g p ls.length c n :: H) w ∧ Arr 1 bytesR (g :: keys H) w p ls c := by
 obtain ⟨ps, h1, ls, p, c, n, rfl, h2, h3, h4, h5⟩ := h.openX
 exact ⟨ls, p, c, n, h2, h3, h4, h1, h5⟩
theorem shutTk {S : List Snap} {H : List Chunk} {w : World} {g : Nat} {z : Bool} {ls : List (List UInt8)} {p : Option Addr} {c n : Nat} (h : Own S (tblk g p ls.length c n :: H) w) (hn : n ≤ ls.length) (hz : z = true → n = 0) (hA : Arr 1 bytesR (g :: keys H) w p ls c) : Own S (tch g z (ls.drop n) :: H) w :=
 h.shutX (Mono_tk z (ls.drop n)) ⟨ls, p, c, n, rfl, rfl, hn, hz, hA⟩
theorem plan216 : planOf Try.prog 216 = some (placesL 0 [1, 1], (cat [[.slice none 0 0], [.int .i64 0]]).toArray) := by kernel_rfl
theorem next_is {ls : List (List UInt8)} {n : Nat} (h : n < ls.length) : nextP (ls.drop n) = ls[n]'h := by
 rw [List.drop_eq_getElem_cons h]; rfl
theorem next_none {ls : List (List UInt8)} {n : Nat} (h : ¬ n < ls.length) : ls.drop n = [] := List.drop_eq_nil_of_le (by omega)
theorem num_next {p : List UInt8} {i : Nat} (h : i < p.length) : num (p.take i) * 256 + (p[i]'h).toNat = num (p.take (i + 1)) := by
 rw [List.take_succ_eq_append_getElem h, num_snoc]
theorem num_small {p : List UInt8} {i : Nat} (h : i < 4) : num (p.take i) < 16777216 := by
 have h1 := num_lt (p.take i)
 have h2 : (p.take i).length ≤ i := List.length_take_le _ _
 have h3 : 256 ^ (p.take i).length ≤ 256 ^ 3 := Nat.pow_le_pow_right (by decide) (by omega)
 have : (256 : Nat) ^ 3 = 16777216 := by decide
 omega
theorem refN_end {p : List UInt8} {i : Nat} (h : i ≤ p.length) (h4 : i ≤ 4) (he : i = p.length ∨ i = 4) : num (p.take i) = refN p := by
 unfold refN
 rcases he with rfl | rfl
 ·rw [List.take_of_length_le (Nat.le_refl _), List.take_of_length_le h4]
 ·rfl

theorem next_t {S : List Snap} {H : List Chunk} {w : World} {g : Nat} {p : Option Addr} {ls : List (List UInt8)} {c n : Nat} (ho : Own S (tblk g p ls.length c n :: H) w) (hn : n ≤ ls.length) (hA : Arr 1 bytesR (g :: keys H) w p ls c) : Calls Try.prog 142 #[.pointer (some ⟨g, 0, none⟩)] w (Ret fun v w' => ∃ n' pb cb, v = .slice pb (nextP (ls.drop n)).length cb ∧ n' ≤ ls.length ∧ ls.drop n' = (ls.drop n).drop 1 ∧ Own S (tblk g p ls.length c n' :: H) w' ∧ Arr 1 bytesR (g :: keys H) w' p ls c ∧ Bytes (g :: keys H) w' pb (nextP (ls.drop n)) cb) := by
 have hsm := hA.small
 refine enter (G := Own (⟨w, keys (tblk g p ls.length c n :: H)⟩ :: S) (tblk g p ls.length c n :: H)) ho.keep Try.func142 rfl Try.ntmps142 rfl ?_
 refine VC.sr ?_
 refine VL.assign rfl ?_
 refine VL.nn ?_
 refine VC.seq ?_
 refine VC.seq ?_
 by_cases hln : n < ls.length
 ·apply VC.anyTA 9 1010 (F := [eqF _, eqF _, eqF _, eqF _, eqF _, eqF _, eqF _, eqF _, eqF _]) [⟨[], [0]⟩, ⟨[(3, 0)], []⟩, ⟨[(4, 1)], []⟩, ⟨[(5, 2)], []⟩, ⟨[], [0]⟩, ⟨[(7, 4)], []⟩, ⟨[(8, 5)], []⟩, ⟨[(9, 6)], []⟩, ⟨[(10, 7)], []⟩] [(6, 3), (11, 8)] [0, 2, 12, 13, 14, 15, 16, 17, 18, 19, 20, 21, 22, 23, 24, 25, 26, 27, 28, 29, 30, 31] rfl (by kernel_rfl) (by kernel_rfl) rfl rfl (by kernel_rfl) (by kernel_rfl) (by kernel_rfl) rfl ?obs1 ?end1
  case obs1 =>
   refine Obs.cons ?_ ?_
   ·refine obS (by kernel_rfl) rfl rfl (fun ph1 w1 hO1 => ?_)
    refine VL.move rfl ?_
    exact VL.finS hO1 rfl rfl
   refine Obs.cons ?_ ?_
   ·refine obS (by kernel_rfl) rfl rfl (fun ph1 w1 hO1 => ?_)
    rintro _ rfl
    refine VL.nilCheck rfl ?_
    exact VL.finS hO1 rfl rfl
   refine Obs.cons ?_ ?_
   ·refine obS (by kernel_rfl) rfl rfl (fun ph1 w1 hO1 => ?_)
    rintro _ rfl
    refine VL.fieldAddr rfl fo216_1 rfl ?_
    exact VL.finS hO1 rfl rfl
   refine Obs.cons ?_ ?_
   ·refine ob (by kernel_rfl) rfl (by kernel_rfl) rfl (fun w1 hO1 => ?_)
    rintro _ rfl
    refine VL.load (v := .int .i64 (n)) 0 1 rfl kd3 (fun _ e => e ▸ hO1) rfl rfl rfl ?_
    exact VL.finS hO1 rfl rfl
   refine Obs.cons ?_ ?_
   ·refine obS (by kernel_rfl) rfl rfl (fun ph1 w1 hO1 => ?_)
    refine VL.move rfl ?_
    exact VL.finS hO1 rfl rfl
   refine Obs.cons ?_ ?_
   ·refine obS (by kernel_rfl) rfl rfl (fun ph1 w1 hO1 => ?_)
    rintro _ rfl
    refine VL.nilCheck rfl ?_
    exact VL.finS hO1 rfl rfl
   refine Obs.cons ?_ ?_
   ·refine obS (by kernel_rfl) rfl rfl (fun ph1 w1 hO1 => ?_)
    rintro _ rfl
    refine VL.fieldAddr rfl fo216_0 rfl ?_
    exact VL.finS hO1 rfl rfl
   refine Obs.cons ?_ ?_
   ·refine ob (by kernel_rfl) rfl (by kernel_rfl) rfl (fun w1 hO1 => ?_)
    rintro _ rfl
    refine VL.load (v := .slice p (ls).length c) 0 0 rfl kd31 (fun _ e => e ▸ hO1) rfl rfl rfl ?_
    exact VL.finS hO1 rfl rfl
   refine Obs.cons ?_ ?_
   ·refine obS (by kernel_rfl) rfl rfl (fun ph1 w1 hO1 => ?_)
    rintro _ rfl
    refine VL.len Try.underlying31 rfl rfl ?_
    exact VL.finS hO1 rfl rfl
   exact Obs.nil
  case end1 =>
   intro w1 hO1
   rintro _ rfl _ rfl
   refine VL.toOwn hO1 ?_
   refine VL.geq rfl rfl ?_
   refine VL.no (by omega) ?_
   refine VL.nn ?_
   refine VC.no rfl ?_
   refine VC.skip ?_
   refine VX.next ?_
   refine VC.sr ?_
   refine VL.move rfl ?_
   refine VL.move rfl ?_
   refine VL.nilCheck rfl ?_
   refine VL.fieldAddr rfl fo216_1 rfl ?_
   refine VL.load (v := .int .i64 (n)) 0 1 rfl kd3 (fun _ h => h) rfl rfl rfl ?_
   refine VL.add rfl rfl (by simp only [InR]; omega) ?_
   refine VL.nilCheck rfl ?_
   refine VL.fieldAddr rfl fo216_1 rfl ?_
   refine VL.store (L := [1, 1]) (qs := [[.int .i64 (n + 1)]]) (ps' := [[.slice p (ls).length c], [.int .i64 (n + 1)]]) 0 1 1 rfl rfl rfl (.inr ⟨kd3, rfl⟩) rfl rfl rfl (by intro u hu; simp [cat] at hu; subst hu; rfl) rfl rfl ?_
   refine VL.set0 ?_
   refine VL.nn ?_
   refine VC.seq ?_
   apply VC.anyTA 9 1012 (F := [eqF _, eqF _, eqF _, eqF _, eqF _, eqF _, eqF _, eqF _, eqF _]) [⟨[], [0]⟩, ⟨[(21, 0)], []⟩, ⟨[(22, 1)], []⟩, ⟨[(23, 2)], []⟩, ⟨[], [0]⟩, ⟨[(25, 4)], []⟩, ⟨[(26, 5)], []⟩, ⟨[(27, 6)], []⟩, ⟨[(28, 7)], []⟩] [(24, 3), (29, 8)] [0, 2, 3, 4, 5, 6, 7, 8, 9, 10, 11, 12, 13, 14, 15, 16, 17, 18, 19, 20, 30, 31] rfl (by kernel_rfl) (by kernel_rfl) rfl rfl (by kernel_rfl) (by kernel_rfl) (by kernel_rfl) rfl ?obs4 ?end4
   case obs4 =>
    refine Obs.cons ?_ ?_
    ·refine obS (by kernel_rfl) rfl rfl (fun ph4 w4 hO4 => ?_)
     refine VL.move rfl ?_
     exact VL.finS hO4 rfl rfl
    refine Obs.cons ?_ ?_
    ·refine obS (by kernel_rfl) rfl rfl (fun ph4 w4 hO4 => ?_)
     rintro _ rfl
     refine VL.nilCheck rfl ?_
     exact VL.finS hO4 rfl rfl
    refine Obs.cons ?_ ?_
    ·refine obS (by kernel_rfl) rfl rfl (fun ph4 w4 hO4 => ?_)
     rintro _ rfl
     refine VL.fieldAddr rfl fo216_0 rfl ?_
     exact VL.finS hO4 rfl rfl
    refine Obs.cons ?_ ?_
    ·refine ob (by kernel_rfl) rfl (by kernel_rfl) rfl (fun w4 hO4 => ?_)
     rintro _ rfl
     refine VL.load (v := .slice p (ls).length c) 0 0 rfl kd31 (fun _ e => e ▸ hO4) rfl rfl rfl ?_
     exact VL.finS hO4 rfl rfl
    refine Obs.cons ?_ ?_
    ·refine obS (by kernel_rfl) rfl rfl (fun ph4 w4 hO4 => ?_)
     refine VL.move rfl ?_
     exact VL.finS hO4 rfl rfl
    refine Obs.cons ?_ ?_
    ·refine obS (by kernel_rfl) rfl rfl (fun ph4 w4 hO4 => ?_)
     rintro _ rfl
     refine VL.nilCheck rfl ?_
     exact VL.finS hO4 rfl rfl
    refine Obs.cons ?_ ?_
    ·refine obS (by kernel_rfl) rfl rfl (fun ph4 w4 hO4 => ?_)
     rintro _ rfl
     refine VL.fieldAddr rfl fo216_1 rfl ?_
     exact VL.finS hO4 rfl rfl
    refine Obs.cons ?_ ?_
    ·refine ob (by kernel_rfl) rfl (by kernel_rfl) rfl (fun w4 hO4 => ?_)
     rintro _ rfl
     refine VL.load (v := .int .i64 (n + 1)) 0 1 rfl kd3 (fun _ e => e ▸ hO4) rfl rfl rfl ?_
     exact VL.finS hO4 rfl rfl
    refine Obs.cons ?_ ?_
    ·refine obS (by kernel_rfl) rfl rfl (fun ph4 w4 hO4 => ?_)
     rintro _ rfl
     refine VL.sub rfl rfl (by simp only [InR]; omega) ?_
     refine VL.newv (v' := .int .i64 (n : Int)) (by rw [Int.add_sub_cancel]) ?_
     exact VL.finS hO4 rfl rfl
    exact Obs.nil
   case end4 =>
    intro w4 hO4
    rintro _ rfl _ rfl
    refine VL.toOwn hO4 ?_
    refine VL.index (xs := ls) rfl rfl Try.underlying31 sz31 hA (by omega) (by have hi := hln; omega) ?_
    refine VL.elem (s := ⟨w, _⟩) (n) 0 rfl kd24 (fun _ h => h) (by repeat (first | exact List.mem_cons_self .. | apply List.mem_cons_of_mem)) (Mono.slice Mono.byte) hA (List.getElem?_eq_getElem hln) (by simp) (by decide) (fun vs v hl hr hv => ?_)
    obtain ⟨p3, c4, rfl, hA5⟩ := hr
    have ehy2 : v = .slice p3 (ls[n]'hln).length c4 := Option.some.inj (hv.symm.trans rfl)
    subst ehy2
    refine VL.assign rfl ?_
    refine VL.nn ?_
    refine VC.ret ?_
    refine VX.ret1 rfl rfl (fun we hw => ?_)
    rw [next_is hln]
    exact ⟨n + 1, _, _, rfl, by omega, by rw [List.drop_drop], hw.subA, hA.nowA (s := ⟨w, _⟩) (Mono.slice Mono.byte) hw, (hA5.nowA (s := ⟨w, _⟩) Mono.byte hw)⟩
 ·apply VC.anyTA 9 1010 (F := [eqF _, eqF _, eqF _, eqF _, eqF _, eqF _, eqF _, eqF _, eqF _]) [⟨[], [0]⟩, ⟨[(3, 0)], []⟩, ⟨[(4, 1)], []⟩, ⟨[(5, 2)], []⟩, ⟨[], [0]⟩, ⟨[(7, 4)], []⟩, ⟨[(8, 5)], []⟩, ⟨[(9, 6)], []⟩, ⟨[(10, 7)], []⟩] [(6, 3), (11, 8)] [0, 2, 12, 13, 14, 15, 16, 17, 18, 19, 20, 21, 22, 23, 24, 25, 26, 27, 28, 29, 30, 31] rfl (by kernel_rfl) (by kernel_rfl) rfl rfl (by kernel_rfl) (by kernel_rfl) (by kernel_rfl) rfl ?obs1 ?end1
  case obs1 =>
   refine Obs.cons ?_ ?_
   ·refine obS (by kernel_rfl) rfl rfl (fun ph1 w1 hO1 => ?_)
    refine VL.move rfl ?_
    exact VL.finS hO1 rfl rfl
   refine Obs.cons ?_ ?_
   ·refine obS (by kernel_rfl) rfl rfl (fun ph1 w1 hO1 => ?_)
    rintro _ rfl
    refine VL.nilCheck rfl ?_
    exact VL.finS hO1 rfl rfl
   refine Obs.cons ?_ ?_
   ·refine obS (by kernel_rfl) rfl rfl (fun ph1 w1 hO1 => ?_)
    rintro _ rfl
    refine VL.fieldAddr rfl fo216_1 rfl ?_
    exact VL.finS hO1 rfl rfl
   refine Obs.cons ?_ ?_
   ·refine ob (by kernel_rfl) rfl (by kernel_rfl) rfl (fun w1 hO1 => ?_)
    rintro _ rfl
    refine VL.load (v := .int .i64 (n)) 0 1 rfl kd3 (fun _ e => e ▸ hO1) rfl rfl rfl ?_
    exact VL.finS hO1 rfl rfl
   refine Obs.cons ?_ ?_
   ·refine obS (by kernel_rfl) rfl rfl (fun ph1 w1 hO1 => ?_)
    refine VL.move rfl ?_
    exact VL.finS hO1 rfl rfl
   refine Obs.cons ?_ ?_
   ·refine obS (by kernel_rfl) rfl rfl (fun ph1 w1 hO1 => ?_)
    rintro _ rfl
    refine VL.nilCheck rfl ?_
    exact VL.finS hO1 rfl rfl
   refine Obs.cons ?_ ?_
   ·refine obS (by kernel_rfl) rfl rfl (fun ph1 w1 hO1 => ?_)
    rintro _ rfl
    refine VL.fieldAddr rfl fo216_0 rfl ?_
    exact VL.finS hO1 rfl rfl
   refine Obs.cons ?_ ?_
   ·refine ob (by kernel_rfl) rfl (by kernel_rfl) rfl (fun w1 hO1 => ?_)
    rintro _ rfl
    refine VL.load (v := .slice p (ls).length c) 0 0 rfl kd31 (fun _ e => e ▸ hO1) rfl rfl rfl ?_
    exact VL.finS hO1 rfl rfl
   refine Obs.cons ?_ ?_
   ·refine obS (by kernel_rfl) rfl rfl (fun ph1 w1 hO1 => ?_)
    rintro _ rfl
    refine VL.len Try.underlying31 rfl rfl ?_
    exact VL.finS hO1 rfl rfl
   exact Obs.nil
  case end1 =>
   intro w1 hO1
   rintro _ rfl _ rfl
   refine VL.toOwn hO1 ?_
   refine VL.geq rfl rfl ?_
   refine VL.yes (by omega) ?_
   refine VL.nn ?_
   refine VC.yes rfl ?_
   refine VC.sr ?_
   refine VL.assign rfl ?_
   refine VL.nn ?_
   refine VC.ret ?_
   refine VX.then_ret ?_
   refine VX.ret1 rfl rfl (fun we hw => ?_)
   rw [next_none hln]
   exact ⟨n, none, 0, rfl, hn, next_none hln, hw.subA, hA.nowA (s := ⟨w, _⟩) (Mono.slice Mono.byte) hw, Arr.none⟩

theorem left_t {S : List Snap} {H : List Chunk} {w : World} {g : Nat} {p : Option Addr} {ls : List (List UInt8)} {c n : Nat} (ho : Own S (tblk g p ls.length c n :: H) w) (hn : n ≤ ls.length) (hA : Arr 1 bytesR (g :: keys H) w p ls c) : Calls Try.prog 143 #[.pointer (some ⟨g, 0, none⟩)] w (Ret fun v w' => v = .int .i64 ((ls.drop n).length : Nat) ∧ Own S (tblk g p ls.length c n :: H) w' ∧ Arr 1 bytesR (g :: keys H) w' p ls c) := by
 have hsm := hA.small
 refine enter (G := Own (⟨w, keys (tblk g p ls.length c n :: H)⟩ :: S) (tblk g p ls.length c n :: H)) ho.keep Try.func143 rfl Try.ntmps143 rfl ?_
 refine VC.sr ?_
 refine VL.assign rfl ?_
 refine VL.nn ?_
 refine VC.seq ?_
 apply VC.anyTA 9 1011 (F := [eqF _, eqF _, eqF _, eqF _, eqF _, eqF _, eqF _, eqF _, eqF _]) [⟨[], [0]⟩, ⟨[(3, 0)], []⟩, ⟨[(4, 1)], []⟩, ⟨[(5, 2)], []⟩, ⟨[(6, 3)], []⟩, ⟨[], [0]⟩, ⟨[(8, 5)], []⟩, ⟨[(9, 6)], []⟩, ⟨[(10, 7)], []⟩] [(7, 4), (11, 8)] [2, 12] rfl (by kernel_rfl) (by kernel_rfl) rfl rfl (by kernel_rfl) (by kernel_rfl) (by kernel_rfl) rfl ?obs1 ?end1
 case obs1 =>
  refine Obs.cons ?_ ?_
  ·refine obS (by kernel_rfl) rfl rfl (fun ph1 w1 hO1 => ?_)
   refine VL.move rfl ?_
   exact VL.finS hO1 rfl rfl
  refine Obs.cons ?_ ?_
  ·refine obS (by kernel_rfl) rfl rfl (fun ph1 w1 hO1 => ?_)
   rintro _ rfl
   refine VL.nilCheck rfl ?_
   exact VL.finS hO1 rfl rfl
  refine Obs.cons ?_ ?_
  ·refine obS (by kernel_rfl) rfl rfl (fun ph1 w1 hO1 => ?_)
   rintro _ rfl
   refine VL.fieldAddr rfl fo216_0 rfl ?_
   exact VL.finS hO1 rfl rfl
  refine Obs.cons ?_ ?_
  ·refine ob (by kernel_rfl) rfl (by kernel_rfl) rfl (fun w1 hO1 => ?_)
   rintro _ rfl
   refine VL.load (v := .slice p (ls).length c) 0 0 rfl kd31 (fun _ e => e ▸ hO1) rfl rfl rfl ?_
   exact VL.finS hO1 rfl rfl
  refine Obs.cons ?_ ?_
  ·refine obS (by kernel_rfl) rfl rfl (fun ph1 w1 hO1 => ?_)
   rintro _ rfl
   refine VL.len Try.underlying31 rfl rfl ?_
   exact VL.finS hO1 rfl rfl
  refine Obs.cons ?_ ?_
  ·refine obS (by kernel_rfl) rfl rfl (fun ph1 w1 hO1 => ?_)
   refine VL.move rfl ?_
   exact VL.finS hO1 rfl rfl
  refine Obs.cons ?_ ?_
  ·refine obS (by kernel_rfl) rfl rfl (fun ph1 w1 hO1 => ?_)
   rintro _ rfl
   refine VL.nilCheck rfl ?_
   exact VL.finS hO1 rfl rfl
  refine Obs.cons ?_ ?_
  ·refine obS (by kernel_rfl) rfl rfl (fun ph1 w1 hO1 => ?_)
   rintro _ rfl
   refine VL.fieldAddr rfl fo216_1 rfl ?_
   exact VL.finS hO1 rfl rfl
  refine Obs.cons ?_ ?_
  ·refine ob (by kernel_rfl) rfl (by kernel_rfl) rfl (fun w1 hO1 => ?_)
   rintro _ rfl
   refine VL.load (v := .int .i64 (n)) 0 1 rfl kd3 (fun _ e => e ▸ hO1) rfl rfl rfl ?_
   exact VL.finS hO1 rfl rfl
  exact Obs.nil
 case end1 =>
  intro w1 hO1
  rintro _ rfl _ rfl
  refine VL.toOwn hO1 ?_
  refine VL.sub rfl rfl (by simp only [InR]; omega) ?_
  refine VL.assign rfl ?_
  refine VL.nn ?_
  refine VC.ret ?_
  refine VX.ret1 rfl rfl (fun we hw => ?_)
  refine ⟨?_, hw.subA, hA.nowA (s := ⟨w, _⟩) (Mono.slice Mono.byte) hw⟩
  rw [List.length_drop]
  exact congrArg (Value.int .i64) (by omega)

theorem next_T {S : List Snap} {H : List Chunk} {w : World} {g : Nat} {z : Bool} {left : List (List UInt8)} {i : Nat} (hi : H[i]? = some (tch g z left)) (ho : Own S H w) : Calls Try.prog 142 #[.pointer (some ⟨g, 0, none⟩)] w (Ret fun v w' => ∃ pb cb, v = .slice pb (nextP left).length cb ∧ Own S (H.set i (tch g false (left.drop 1))) w' ∧ Bytes (keys (H.set i (tch g false (left.drop 1)))) w' pb (nextP left) cb) := by
 obtain ⟨ls, p, c, n, rfl, h1, _, h2, h3⟩ := openTk (ho.front hi)
 refine calls_mono (next_t h2 h1 h3) fun v w' ⟨n', pb, cb, e1, h4, h5, h6, h7, h8⟩ => ⟨pb, cb, e1, ?_, h8.keysTo Mono.byte fun k hk => ?_⟩
 ·rw [← h5]
  exact (shutTk (z := false) h6 h4 (fun h => by cases h) h7).back hi
 ·exact (keys_set hi k).1 hk
theorem left_T {S : List Snap} {H : List Chunk} {w : World} {g : Nat} {z : Bool} {left : List (List UInt8)} {i : Nat} (hi : H[i]? = some (tch g z left)) (ho : Own S H w) : Calls Try.prog 143 #[.pointer (some ⟨g, 0, none⟩)] w (Ret fun v w' => v = .int .i64 (left.length : Nat) ∧ Own S H w') := by
 obtain ⟨ls, p, c, n, rfl, h1, hz, h2, h3⟩ := openTk (ho.front hi)
 refine calls_mono (left_t h2 h1 h3) fun v w' ⟨e1, h4, h5⟩ => ⟨e1, ?_⟩
 have := (shutTk (z := z) h4 h1 hz h5).back hi
 rwa [show H.set i (tch g z (ls.drop n)) = H from by rw [← (List.getElem?_eq_some_iff.1 hi).2]; exact List.set_getElem_self _] at this

theorem num_t {S : List Snap} {H : List Chunk} {w : World} {g : Nat} {z : Bool} {left : List (List UInt8)} (ho : Own S (tch g z left :: H) w) : Calls Try.prog 141 #[.pointer (some ⟨g, 0, none⟩)] w (Ret fun v w' => v = .int .i64 (refN (nextP left) : Nat) ∧ Own S (tch g false (left.drop 1) :: H) w') := by
 refine enter (G := Own (⟨w, keys (tch g z left :: H)⟩ :: S) (tch g z left :: H)) ho.keep Try.func141 rfl Try.ntmps141 rfl ?_
 refine VC.sr ?_
 refine VL.assign rfl ?_
 refine VL.nn ?_
 refine VC.sr ?_
 refine VL.move rfl ?_
 refine VL.call Try.func142 rfl (by decide) rfl (fun w' hw => next_T (i := 0) rfl hw) (fun v => ?_)
 refine VL.at (fun w1 h1w => ?_)
 obtain ⟨p2, c3, rfl, hO5, hA4⟩ := h1w
 replace hO5 := ownSet0 hO5
 replace hA4 := arrSet0 hA4
 refine VL.toOwn hO5 ?_
 refine VL.assign rfl ?_
 refine VL.nn ?_
 refine VC.sr ?_
 refine VL.assign rfl ?_
 refine VL.nn ?_
 refine VC.seq ?_
 refine VC.sr ?_
 refine VL.assign rfl ?_
 refine VL.nn ?_
 refine VC.block ?_
 refine VC.loop (X := Nat) (fun i => [(3, .slice p2 (nextP left).length c3), (4, .int .i64 (num ((nextP left).take i) : Nat)), (5, .int .i64 (i : Int))]) (fun i w' => (i ≤ (nextP left).length ∧ i ≤ 4) ∧ Own (⟨w1, keys (tch g false (left.drop 1) :: H)⟩ :: ⟨w, keys (tch g z left :: H)⟩ :: S) (tch g false (left.drop 1) :: H) w') (fun i => 4 - i) 0 ⟨rfl, rfl, rfl, trivial⟩ (fun w' h => ⟨⟨Nat.zero_le _, by decide⟩, h⟩) (fun i => VC.fact fun ⟨hi, hi4⟩ => ?_)
 ·skip
  refine VC.seq ?_
  refine VC.sr ?_
  refine VL.move rfl ?_
  refine VL.move rfl ?_
  refine VL.len Try.underlying24 rfl rfl ?_
  refine VL.lss rfl rfl ?_
  refine VL.case (fun h4 => ?_) (fun h4 => ?_)
  ·have hlt : i < (nextP left).length := by omega
   refine VL.move rfl ?_
   refine VL.go rfl rfl rfl ?_
   refine VL.move rfl ?_
   refine VL.go rfl rfl rfl ?_
   refine VL.lss rfl rfl ?_
   refine VL.case (fun h6 => ?_) (fun h6 => ?_)
   ·have hi3 : i < 4 := by omega
    have hnm := num_small (p := (nextP left)) hi3
    refine VL.pick_t rfl rfl ?_
    refine VL.nn ?_
    refine VC.yes rfl ?_
    refine VC.skip ?_
    refine VX.next ?_
    refine VC.seq ?_
    refine VC.block ?_
    refine VC.region ?_
    refine VL.move rfl ?_
    refine VL.mul rfl rfl (by simp only [InR]; omega) ?_
    refine VL.move rfl ?_
    refine VL.move rfl ?_
    refine VL.index (xs := (nextP left)) rfl rfl Try.underlying24 sz24 hA4 (by omega) (by have hi := hlt; omega) ?_
    refine VL.byte (s := ⟨w1, _⟩) (y := (nextP left)[i]'hlt) rfl kd5 (fun _ h => h) (by repeat (first | exact List.mem_cons_self .. | apply List.mem_cons_of_mem)) hA4 ((congrArg (fun k : Nat => (nextP left)[k]?) (show _ = i by simp)).trans (List.getElem?_eq_getElem hlt)) ?_
    refine VL.conv (by rw [Try.underlying5]; rfl) Try.underlying3 rfl (by have := UInt8.toNat_lt ((nextP left)[i]'hlt); simp only [InR]; omega) ?_
    refine VL.add rfl rfl (by have := UInt8.toNat_lt ((nextP left)[i]'hlt); simp only [InR]; omega) ?_
    refine VL.assign rfl ?_
    refine VL.nil ?_
    refine VX.block_normal ?_
    refine VX.next ?_
    refine VC.region ?_
    refine VL.move rfl ?_
    refine VL.add rfl rfl (by simp only [InR]; omega) ?_
    refine VL.assign rfl ?_
    refine VL.nil ?_
    refine VX.round (i + 1) ⟨rfl, by rw [← num_next hlt]; exact congrArg (fun z : Int => some (Value.int .i64 z)) (by omega), rfl, trivial⟩ (fun w' h => ⟨⟨by omega, by omega⟩, h⟩) (by show 4 - (i + 1) < 4 - i; omega)
   ·have hie : i = (nextP left).length ∨ i = 4 := .inr (by omega)
    refine VL.pick_t rfl rfl ?_
    refine VL.nn ?_
    refine VC.no rfl ?_
    refine VC.exit ?_
    refine VX.then_exit ?_
    refine VX.then_exit ?_
    refine VX.block_here ?_
    refine VX.next ?_
    refine VC.sr ?_
    refine VL.move rfl ?_
    refine VL.assign rfl ?_
    refine VL.nn ?_
    refine VC.ret ?_
    refine VX.ret1 rfl rfl (fun we hw => ?_)
    exact ⟨by rw [refN_end hi hi4 hie], hw.subA⟩
  ·have hie : i = (nextP left).length ∨ i = 4 := .inl (by omega)
   refine VL.move rfl ?_
   refine VL.pass rfl rfl rfl rfl rfl ?_
   refine VL.pass rfl rfl rfl rfl rfl ?_
   refine VL.pick_f rfl rfl ?_
   refine VL.nn ?_
   refine VC.no rfl ?_
   refine VC.exit ?_
   refine VX.then_exit ?_
   refine VX.then_exit ?_
   refine VX.block_here ?_
   refine VX.next ?_
   refine VC.sr ?_
   refine VL.move rfl ?_
   refine VL.assign rfl ?_
   refine VL.nn ?_
   refine VC.ret ?_
   refine VX.ret1 rfl rfl (fun we hw => ?_)
   exact ⟨by rw [refN_end hi hi4 hie], hw.subA⟩

theorem key_t {S : List Snap} {H : List Chunk} {w : World} {g : Nat} {z : Bool} {left : List (List UInt8)} (ho : Own S (tch g z left :: H) w) : Calls Try.prog 150 #[.pointer (some ⟨g, 0, none⟩)] w (Ret fun v w' => v = .agg ((tkB 32 left).map bv).toArray ∧ Own S (tch g false (left.drop 1) :: H) w') := by
 refine enter (G := Own (⟨w, keys (tch g z left :: H)⟩ :: S) (tch g z left :: H)) ho.keep Try.func150 rfl Try.ntmps150 rfl ?_
 refine VC.sr ?_
 refine VL.alloc (L := [32]) (ps := [(zeros 32).map bv]) zero43 rfl rfl (fun g1 => ?_)
 refine VL.nn ?_
 refine VC.sr ?_
 refine VL.alloc (L := [32]) (ps := [(zeros 32).map bv]) zero43 rfl rfl (fun g2 => ?_)
 refine VL.nn ?_
 refine VC.seq ?_
 apply VC.anyTA 3 2 (F := [eqF _, eqF _, lateE _]) [⟨[], [3]⟩, ⟨[], [0]⟩, ⟨[(5, 1)], []⟩] [(4, 0), (6, 2)] [2, 3, 8] rfl (by kernel_rfl) (by kernel_rfl) rfl rfl (by kernel_rfl) (by kernel_rfl) (by kernel_rfl) rfl ?obs2 ?end2
 case obs2 =>
  refine Obs.cons ?_ ?_
  ·refine obS (by kernel_rfl) rfl rfl (fun ph2 w2 hO2 => ?_)
   refine VL.sliceArr Try.underlying43 (by kernel_rfl) rfl ?_
   exact VL.finS hO2 rfl rfl
  refine Obs.cons ?_ ?_
  ·refine obS (by kernel_rfl) rfl rfl (fun ph2 w2 hO2 => ?_)
   refine VL.move rfl ?_
   exact VL.finS hO2 rfl rfl
  refine Obs.cons ?_ ?_
  ·refine obK (by kernel_rfl) rfl (fun w2 hO2 => ?_)
   rintro _ rfl
   refine VL.toOwn hO2 ?_
   refine VL.call Try.func142 rfl (by decide) rfl (fun w' hw => next_T (i := 2) rfl hw) (fun v => ?_)
   exact VL.finC rfl (fun _ ⟨_, _, _, h, _⟩ => h) (fun _ h => ⟨w2, h⟩)
  exact Obs.nil
 case end2 =>
  intro w2 hO2
  rintro _ rfl _ ⟨wk2, p4, c5, rfl, hK8, hA6⟩
  replace hK8 : Own _ (blk g2 43 [32] [(zeros 32).map bv] :: blk g1 43 [32] [(zeros 32).map bv] :: tch g false (left.drop 1) :: H) w2 := hK8
  refine VL.toOwn hK8 ?_
  refine VL.copyZ (l := (nextP left)) (ps' := [(tkB 32 left).map bv]) 0 0 rfl Try.underlying24 (by kernel_rfl) rfl rfl rfl rfl rfl rfl (fun _ hw => ⟨_, (hA6.nowA (s := ⟨w2, _⟩) Mono.byte hw)⟩) rfl rfl (fun _ => ?_)
  refine VL.set0 ?_
  refine VL.nn ?_
  refine VC.sr ?_
  refine VL.loads (cs := ((tkB 32 left)).map bv) 0 0 1 rfl kd43 (fun _ h => h) rfl rfl rfl rfl ?_
  refine VL.store (L := [32]) (qs := [((tkB 32 left)).map bv]) (ps' := [((tkB 32 left)).map bv]) 1 0 1 rfl rfl rfl (.inl kd43) rfl rfl (arr_len (tkB_length _ _)) (ok1_bytes _) rfl rfl ?_
  refine VL.set1 ?_
  refine VL.nn ?_
  refine VC.ret ?_
  refine VX.ret_cell1 (cs := (tkB 32 left).map bv) 1 rfl rfl (by rw [List.length_map, tkB_length]; exact kd43) (fun _ h => h) rfl rfl (fun we hw => ?_)
  exact ⟨rfl, hw.drop.drop.subA⟩

theorem sig_t {S : List Snap} {H : List Chunk} {w : World} {g : Nat} {z : Bool} {left : List (List UInt8)} (ho : Own S (tch g z left :: H) w) : Calls Try.prog 144 #[.pointer (some ⟨g, 0, none⟩)] w (Ret fun v w' => v = .agg ((tkB 64 left).map bv).toArray ∧ Own S (tch g false (left.drop 1) :: H) w') := by
 refine enter (G := Own (⟨w, keys (tch g z left :: H)⟩ :: S) (tch g z left :: H)) ho.keep Try.func144 rfl Try.ntmps144 rfl ?_
 refine VC.sr ?_
 refine VL.alloc (L := [64]) (ps := [(zeros 64).map bv]) zero79 rfl rfl (fun g1 => ?_)
 refine VL.nn ?_
 refine VC.sr ?_
 refine VL.alloc (L := [64]) (ps := [(zeros 64).map bv]) zero79 rfl rfl (fun g2 => ?_)
 refine VL.nn ?_
 refine VC.seq ?_
 apply VC.anyTA 3 2 (F := [eqF _, eqF _, lateE _]) [⟨[], [3]⟩, ⟨[], [0]⟩, ⟨[(5, 1)], []⟩] [(4, 0), (6, 2)] [2, 3, 8] rfl (by kernel_rfl) (by kernel_rfl) rfl rfl (by kernel_rfl) (by kernel_rfl) (by kernel_rfl) rfl ?obs2 ?end2
 case obs2 =>
  refine Obs.cons ?_ ?_
  ·refine obS (by kernel_rfl) rfl rfl (fun ph2 w2 hO2 => ?_)
   refine VL.sliceArr Try.underlying79 (by kernel_rfl) rfl ?_
   exact VL.finS hO2 rfl rfl
  refine Obs.cons ?_ ?_
  ·refine obS (by kernel_rfl) rfl rfl (fun ph2 w2 hO2 => ?_)
   refine VL.move rfl ?_
   exact VL.finS hO2 rfl rfl
  refine Obs.cons ?_ ?_
  ·refine obK (by kernel_rfl) rfl (fun w2 hO2 => ?_)
   rintro _ rfl
   refine VL.toOwn hO2 ?_
   refine VL.call Try.func142 rfl (by decide) rfl (fun w' hw => next_T (i := 2) rfl hw) (fun v => ?_)
   exact VL.finC rfl (fun _ ⟨_, _, _, h, _⟩ => h) (fun _ h => ⟨w2, h⟩)
  exact Obs.nil
 case end2 =>
  intro w2 hO2
  rintro _ rfl _ ⟨wk2, p4, c5, rfl, hK8, hA6⟩
  replace hK8 : Own _ (blk g2 79 [64] [(zeros 64).map bv] :: blk g1 79 [64] [(zeros 64).map bv] :: tch g false (left.drop 1) :: H) w2 := hK8
  refine VL.toOwn hK8 ?_
  refine VL.copyZ (l := (nextP left)) (ps' := [(tkB 64 left).map bv]) 0 0 rfl Try.underlying24 (by kernel_rfl) rfl rfl rfl rfl rfl rfl (fun _ hw => ⟨_, (hA6.nowA (s := ⟨w2, _⟩) Mono.byte hw)⟩) rfl rfl (fun _ => ?_)
  refine VL.set0 ?_
  refine VL.nn ?_
  refine VC.sr ?_
  refine VL.loads (cs := ((tkB 64 left)).map bv) 0 0 1 rfl kd79 (fun _ h => h) rfl rfl rfl rfl ?_
  refine VL.store (L := [64]) (qs := [((tkB 64 left)).map bv]) (ps' := [((tkB 64 left)).map bv]) 1 0 1 rfl rfl rfl (.inl kd79) rfl rfl (arr_len (tkB_length _ _)) (ok1_bytes _) rfl rfl ?_
  refine VL.set1 ?_
  refine VL.nn ?_
  refine VC.ret ?_
  refine VX.ret_cell1 (cs := (tkB 64 left).map bv) 1 rfl rfl (by rw [List.length_map, tkB_length]; exact kd79) (fun _ h => h) rfl rfl (fun we hw => ?_)
  exact ⟨rfl, hw.drop.drop.subA⟩

theorem num_T {S : List Snap} {H : List Chunk} {w : World} {g : Nat} {z : Bool} {left : List (List UInt8)} {i : Nat} (hi : H[i]? = some (tch g z left)) (ho : Own S H w) : Calls Try.prog 141 #[.pointer (some ⟨g, 0, none⟩)] w (Ret fun v w' => v = .int .i64 (refN (nextP left) : Nat) ∧ Own S (H.set i (tch g false (left.drop 1))) w') :=
 calls_mono (num_t (ho.front hi)) fun v w' ⟨e, h⟩ => ⟨e, h.back hi⟩
theorem key_T {S : List Snap} {H : List Chunk} {w : World} {g : Nat} {z : Bool} {left : List (List UInt8)} {i : Nat} (hi : H[i]? = some (tch g z left)) (ho : Own S H w) : Calls Try.prog 150 #[.pointer (some ⟨g, 0, none⟩)] w (Ret fun v w' => v = .agg ((tkB 32 left).map bv).toArray ∧ Own S (H.set i (tch g false (left.drop 1))) w') :=
 calls_mono (key_t (ho.front hi)) fun v w' ⟨e, h⟩ => ⟨e, h.back hi⟩
theorem sig_T {S : List Snap} {H : List Chunk} {w : World} {g : Nat} {z : Bool} {left : List (List UInt8)} {i : Nat} (hi : H[i]? = some (tch g z left)) (ho : Own S H w) : Calls Try.prog 144 #[.pointer (some ⟨g, 0, none⟩)] w (Ret fun v w' => v = .agg ((tkB 64 left).map bv).toArray ∧ Own S (H.set i (tch g false (left.drop 1))) w') :=
 calls_mono (sig_t (ho.front hi)) fun v w' ⟨e, h⟩ => ⟨e, h.back hi⟩
theorem open_T {S : List Snap} {H : List Chunk} {w : World} (ho : Own S H w) {p : Option Addr} {l : List UInt8} {c : Nat} (hA : Bytes (keys H) w p l c) : Calls Try.prog 140 #[.slice p l.length c] w (Ret fun v w' => ∃ g, v = .tuple #[.pointer (some ⟨g, 0, none⟩), .bool (decide (openP l ≠ []))] ∧ Own S (tch g true (openP l) :: H) w') := by
 refine enter (G := Own (⟨w, keys H⟩ :: S) H) ho.keep Try.func140 rfl Try.ntmps140 rfl ?_
 refine VC.sr ?_
 refine VL.assign rfl ?_
 refine VL.assign rfl ?_
 refine VL.nn ?_
 refine VC.sr ?_
 refine VL.move rfl ?_
 refine VL.call Try.func34 rfl (by decide) rfl (fun w' hw => refSplit_any hw (hA.nowA (s := ⟨w, _⟩) Mono.byte hw)) (fun v => ?_)
 refine VL.at (fun w1 h1w => ?_)
 obtain ⟨hO5, p2, c3, rfl, hA4⟩ := h1w
 refine VL.toOwn hO5 ?_
 refine VL.move rfl ?_
 refine VL.extract rfl rfl ?_
 refine VL.extract rfl rfl ?_
 refine VL.assign rfl ?_
 refine VL.assign rfl ?_
 refine VL.nn ?_
 refine VC.sr ?_
 refine VL.move rfl ?_
 refine VL.build (zs := [[.slice none 0 0], [.int .i64 0]]) [(0, [.slice p2 (splitB l).2.length c3]), (1, [.int .i64 0])] plan216 rfl ⟨⟨rfl, ⟨_, rfl, rfl⟩, rfl⟩, ⟨rfl, ⟨_, rfl, rfl⟩, rfl⟩, trivial⟩ rfl ?_
 refine VL.box (L := [1, 1]) (ps := [[.slice p2 (splitB l).2.length c3], [.int .i64 0]]) rfl rfl rfl (fun g => ?_)
 refine VL.turn (G' := Own _ (tch g true (openP l) :: H)) (fun w' hw => shutTk (z := true) (n := 0) hw (Nat.zero_le _) (fun _ => rfl) (hA4.nowA (s := ⟨w1, _⟩) (Mono.slice Mono.byte) hw)) ?_
 refine VL.move rfl ?_
 refine VL.eql rfl rfl ?_
 refine VL.case (fun h4 => ?_) (fun h4 => ?_)
 ·refine VL.move rfl ?_
  refine VL.go rfl rfl rfl ?_
  refine VL.move rfl ?_
  refine VL.go rfl rfl rfl ?_
  refine VL.len Try.underlying31 rfl rfl ?_
  refine VL.go rfl rfl rfl ?_
  refine VL.gtr rfl rfl ?_
  refine VL.case (fun h8 => ?_) (fun h8 => ?_)
  ·refine VL.pick_t rfl rfl ?_
   refine VL.assign rfl ?_
   refine VL.assign rfl ?_
   refine VL.nn ?_
   refine VC.ret ?_
   refine VX.ret2 rfl rfl rfl (fun we hw => ?_)
   have he : openP l ≠ [] := List.ne_nil_of_length_pos (show 0 < (splitB l).2.length by omega)
   exact ⟨_, by rw [decide_eq_true he], hw.subA⟩
  ·refine VL.pick_t rfl rfl ?_
   refine VL.assign rfl ?_
   refine VL.assign rfl ?_
   refine VL.nn ?_
   refine VC.ret ?_
   refine VX.ret2 rfl rfl rfl (fun we hw => ?_)
   have he : openP l = [] := List.eq_nil_of_length_eq_zero (show (splitB l).2.length = 0 by omega)
   exact ⟨_, by rw [he]; rfl, hw.subA⟩
 ·refine VL.move rfl ?_
  refine VL.pass rfl rfl rfl rfl rfl ?_
  refine VL.pass rfl rfl rfl rfl rfl ?_
  refine VL.pass rfl rfl rfl rfl rfl ?_
  refine VL.pick_f rfl rfl ?_
  refine VL.assign rfl ?_
  refine VL.assign rfl ?_
  refine VL.nn ?_
  refine VC.ret ?_
  refine VX.ret2 rfl rfl rfl (fun we hw => ?_)
  have he : openP l = [] := split_err l (by omega)
  exact ⟨_, by rw [he]; rfl, hw.subA⟩

end Go.Proofs.Ytcfecmoagfgnaaa

