/- The statement FedqLoads is proved, for every input: part 26 of 26 of the texts that it needs. -/
import Derived.Test.YtcfecmoagfgnaaaMfloAY
import Derived.Test.YtcfecmoagfgnaaaRows
/- Rows, read as a queue: the reference. -/
namespace Go.Proofs.Ytcfecmoagfgnaaa
open Go.Vc Go.Pl

def pcK (nm : ByteArray) (l : List Chg) (i : Nat) : List (List UInt8) := (if 1 < i then pcs (fnd l (nm ++ s0)) else []) ++ (if 2 < i then pcs (fnd l (nm ++ s1)) else [])
def Qh (nm : ByteArray) (l : List Chg) (i : Nat) : Que := ⟨[], if 0 < i then rqS (fnd l (nm ++ sH)) else 0, if 0 < i then rqI (fnd l (nm ++ sH)) else 0, if 0 < i then rqW (fnd l (nm ++ sH)) else 0, if 0 < i then rqB (fnd l (nm ++ sH)) else 0⟩
def Q1 (nm : ByteArray) (l : List Chg) (its : List Itm) : Que := ⟨its, rqS (fnd l (nm ++ sH)), rqI (fnd l (nm ++ sH)), rqW (fnd l (nm ++ sH)), rqB (fnd l (nm ++ sH))⟩
theorem rqI_lt (o : Option Chg) : rqI o < 65536 := by
 cases o with
 | none => decide
 | some c => exact tkN_lt 2 _
theorem rqW_lt (o : Option Chg) : rqW o < 256 := by
 cases o with
 | none => decide
 | some c => exact tkN_lt 1 _
theorem rqB_lt (o : Option Chg) : rqB o < 256 := by
 cases o with
 | none => decide
 | some c => exact tkN_lt 1 _
theorem Q1_ok {nm : ByteArray} {l : List Chg} {its : List Itm} (h : ∀ y ∈ its, y.ok) : (Q1 nm l its).ok := ⟨h, rqI_lt _, rqW_lt _, rqB_lt _⟩
theorem Qh_ge {nm : ByteArray} {l : List Chg} {i : Nat} (h : ¬ i = 0) : Qh nm l i = Qh nm l (i + 1) := by
 unfold Qh
 rw [if_pos (show 0 < i by omega), if_pos (show 0 < i by omega), if_pos (show 0 < i by omega), if_pos (show 0 < i by omega)]
 rw [if_pos (Nat.succ_pos i), if_pos (Nat.succ_pos i), if_pos (Nat.succ_pos i), if_pos (Nat.succ_pos i)]
theorem Qh_no {nm : ByteArray} {l : List Chg} {i : Nat} (hi : i < ends.length) (h : fnd l (nm ++ ends[i]'hi) = none) : Qh nm l i = Qh nm l (i + 1) := by
 by_cases h0 : i = 0
 ·subst h0
  have h : fnd l (nm ++ sH) = none := h
  unfold Qh
  rw [h]; rfl
 ·exact Qh_ge h0
theorem Qh_1 {nm : ByteArray} {l : List Chg} (h : (fnd l (nm ++ sH)).isSome = true) : queV (Qh nm l (0 + 1)) none 0 = [[.slice none 0 0], [.int .i64 ((refN (nextP ((openP ((fnd l (nm ++ sH)).getD chg0).value).drop 1)) : Nat) : Int)], [.int .u16 ((tkN 2 (openP ((fnd l (nm ++ sH)).getD chg0).value) : Nat) : Int)], [.int .u8 ((tkN 1 (((openP ((fnd l (nm ++ sH)).getD chg0).value).drop 1).drop 1) : Nat) : Int)], [.int .u8 ((tkN 1 ((((openP ((fnd l (nm ++ sH)).getD chg0).value).drop 1).drop 1).drop 1) : Nat) : Int)]] := by
 obtain ⟨c, hc⟩ := Option.isSome_iff_exists.1 h
 unfold Qh
 rw [hc]; rfl
theorem pcs_len (o : Option Chg) : (pcs o).length ≤ 64 := by
 cases o with
 | none => exact Nat.zero_le _
 | some c => exact openP_len c.value
theorem pcK_len (nm : ByteArray) (l : List Chg) (i : Nat) : (pcK nm l i).length ≤ 128 := by
 have h1 := pcs_len (fnd l (nm ++ s0)); have h2 := pcs_len (fnd l (nm ++ s1))
 unfold pcK
 rw [List.length_append]
 split <;> split <;> (try simp only [List.length_nil]) <;> omega
theorem pcK_next {nm : ByteArray} {l : List Chg} {i : Nat} (hi : i < ends.length) (h0 : ¬ i = 0) : pcK nm l (i + 1) = pcK nm l i ++ pcs (fnd l (nm ++ ends[i]'hi)) := by
 have h3 : i < 3 := hi
 have : i = 1 ∨ i = 2 := by omega
 rcases this with rfl | rfl
 ·show pcs (fnd l (nm ++ s0)) ++ [] = ([] ++ []) ++ pcs (fnd l (nm ++ s0))
  simp
 ·show pcs (fnd l (nm ++ s0)) ++ pcs (fnd l (nm ++ s1)) = (pcs (fnd l (nm ++ s0)) ++ []) ++ pcs (fnd l (nm ++ s1))
  simp
theorem pcK_no {nm : ByteArray} {l : List Chg} {i : Nat} (hi : i < ends.length) (h : fnd l (nm ++ ends[i]'hi) = none) : pcK nm l i = pcK nm l (i + 1) := by
 by_cases h0 : i = 0
 ·subst h0; rfl
 ·rw [pcK_next hi h0, h]; exact (List.append_nil _).symm
theorem pcs_yes {o : Option Chg} (h : o.isSome = true) : pcs o = (splitB (o.getD chg0).value).2 := by
 obtain ⟨c, rfl⟩ := Option.isSome_iff_exists.1 h; rfl
theorem list_yes {o : Option Chg} (h : o.isSome = true) : o.toList = [o.getD chg0] := by
 obtain ⟨c, rfl⟩ := Option.isSome_iff_exists.1 h; rfl
theorem none_is {X : Type} {o : Option X} (h : o.isSome = false) : o = none := by cases o; rfl; cases h
theorem Q1_rq (nm : ByteArray) (l : List Chg) : Q1 nm l ((pcK nm l 3).map itmOf) = rq nm l := rfl
theorem maps_ok (ps : List (List UInt8)) : ∀ y ∈ ps.map itmOf, y.ok := fun y hy => by
 obtain ⟨b, _, rfl⟩ := List.mem_map.1 hy
 exact itemR_ok b
theorem maps_next {ps : List (List UInt8)} {k : Nat} (h : k < ps.length) : (ps.take (k + 1)).map itmOf = (ps.take k).map itmOf ++ [itmOf (ps[k]'h)] := by rw [List.take_succ_eq_append_getElem h, List.map_append]; rfl
theorem maps_len {ps : List (List UInt8)} {k : Nat} : ((ps.take k).map itmOf).length ≤ k := by rw [List.length_map]; exact List.length_take_le _ _

theorem refLoad_w {S : List Snap} {H : List Chunk} {w : World} (ho : Own S H w) {l : List Chg} {p : Option Addr} {c : Nat} (hX : Arr 3 chgR (keys H) w p l c) {nm : ByteArray} (hsz : nm.size ≤ 100) : Calls Try.prog 107 #[.string nm, .slice p l.length c] w (Ret fun v w' => ∃ q d, v = .tuple #[.agg (cat (queV ((loadO nm l).getD que0) q d)).toArray, .bool (loadO nm l).isSome] ∧ Own S H w' ∧ Arr 433 itemR' (keys H) w' q ((loadO nm l).getD que0).items d) := by
 have hsm := hX.small
 refine enter (G := Own (⟨w, keys H⟩ :: S) H) ho.keep Try.func107 rfl Try.ntmps107 rfl ?_
 refine VC.sr ?_
 refine VL.alloc (L := queL) (ps := (queV (que0) none 0)) zero157 rfl rfl (fun g1 => ?_)
 refine VL.assign rfl ?_
 refine VL.nn ?_
 refine VC.sr ?_
 refine VL.assign rfl ?_
 refine VL.nn ?_
 refine VC.sr ?_
 refine VL.assign rfl ?_
 refine VL.nn ?_
 refine VC.sr ?_
 refine VL.alloc (L := queL) (ps := (queV (que0) none 0)) zero157 rfl rfl (fun g2 => ?_)
 refine VL.nn ?_
 refine VC.sr ?_
 refine VL.lit el225 rfl rfl rfl (by simp [Value.cells]) (by intro v hv; simp [Value.cells] at hv; rcases hv with rfl | rfl | rfl <;> rfl) (fun g9 => ?_)
 refine VL.letRow strR ends rfl (fun w' hw j y hj => by
  have h3 : j < 3 := (List.getElem?_eq_some_iff.1 hj).1
  have : j = 0 ∨ j = 1 ∨ j = 2 := by omega
  rcases this with rfl | rfl | rfl <;> (cases hj; rfl)) (fun w9 hO9 hE => ?_)
 refine VL.assign rfl ?_
 refine VL.nn ?_
 refine VC.seq ?_
 refine VC.sr ?_
 refine VL.assign rfl ?_
 refine VL.nn ?_
 refine VC.block ?_
 refine VC.turn (G' := Own _ (arow 167 3 chgR Mono_chg none 0 ([] : List Chg) :: brow none 0 (([] : List (List UInt8))) :: blk g2 157 queL (queV (que0) none 0) :: blk g1 157 queL (queV (que0) none 0) :: H)) (fun w' h => newRowC (brow0 h)) ?_
 refine VC.loop (X := Nat × Option Nat × Nat × Option Nat × Nat) (fun (i, gv, cv, gq, cq) => [(0, .string nm), (1, .slice p l.length c), (4, .pointer (some ⟨g1, 0, none⟩)), (6, rowV gv (gotK nm l i).length cv), (7, rowV gq (pcK nm l i).length cq), (8, .pointer (some ⟨g2, 0, none⟩)), (9, .slice (some ⟨g9, 0, none⟩) 3 3), (10, .int .i64 (i : Int))]) (fun (i, gv, cv, gq, cq) w' => i ≤ 3 ∧ Own (⟨w9, keys (blk g2 157 queL (queV (que0) none 0) :: blk g1 157 queL (queV (que0) none 0) :: H)⟩ :: ⟨w, keys H⟩ :: S) (arow 167 3 chgR Mono_chg gv cv (gotK nm l i) :: brow gq cq ((pcK nm l i)) :: blk g2 157 queL (queV ((Qh nm l i)) none 0) :: blk g1 157 queL (queV (que0) none 0) :: H) w') (fun (i, _) => 3 - i) (0, none, 0, none, 0) ⟨rfl, rfl, rfl, rfl, rfl, rfl, rfl, rfl, trivial⟩ (fun w' h => ⟨Nat.zero_le _, h.sub (sub_cons (by repeat (first | exact List.mem_cons_self .. | apply List.mem_cons_of_mem)) (sub_cons (by repeat (first | exact List.mem_cons_self .. | apply List.mem_cons_of_mem)) (fun _ hs => by repeat (first | exact hs | apply List.mem_cons_of_mem))))⟩) (fun (i, gv, cv, gq, cq) => VC.fact fun hi => ?_)
 ·have hg3 := gotK_len nm l i
  have hp8 := pcK_len nm l i
  refine VC.seq ?_
  refine VC.sr ?_
  refine VL.move rfl ?_
  refine VL.lss rfl rfl ?_
  refine VL.case (fun h6 => ?_) (fun h6 => ?_)
  ·have hlt : i < ends.length := (show i < 3 by omega)
   refine VL.nn ?_
   refine VC.yes rfl ?_
   refine VC.skip ?_
   refine VX.next ?_
   refine VC.seq ?_
   refine VC.block ?_
   refine VC.sr ?_
   refine VL.move rfl ?_
   refine VL.move rfl ?_
   refine VL.move rfl ?_
   refine VL.move rfl ?_
   refine VL.index (xs := ends) rfl rfl Try.underlying225 sz225 hE (by omega) (by have hi := hlt; omega) ?_
   refine VL.elem (s := ⟨w9, _⟩) (i) 0 rfl kd9 (fun _ h => h) (by repeat (first | exact List.mem_cons_self .. | apply List.mem_cons_of_mem)) Mono_str hE (List.getElem?_eq_getElem hlt) (by simp) (by decide) (fun vs v hl hr hv => ?_)
   subst hr
   have ehy4 : v = .string (ends[i]'hlt) := Option.some.inj (hv.symm.trans rfl)
   subst ehy4
   refine VL.cats rfl rfl (by rw [end_size]; omega) ?_
   refine VL.call Try.func156 rfl (by decide) rfl (fun w' hw => find_w hw (hX.nowA (s := ⟨w, _⟩) Mono_chg hw) (nm ++ (ends[i]'hlt))) (fun v => ?_)
   refine VL.at (fun w5 h1w => ?_)
   obtain ⟨p6, c7, rfl, hO9, hA8⟩ := h1w
   refine VL.toOwn hO9 ?_
   refine VL.move rfl ?_
   refine VL.extract rfl rfl ?_
   refine VL.extract rfl rfl ?_
   refine VL.alloc (L := chgL) (ps := (chgV (chg0) none 0)) zero167 rfl rfl (fun g10 => ?_)
   refine VL.store (L := chgL) (qs := (chgV (((fnd l (nm ++ (ends[i]'hlt))).getD chg0)) p6 c7)) (ps' := (chgV (((fnd l (nm ++ (ends[i]'hlt))).getD chg0)) p6 c7)) 0 0 3 rfl rfl rfl (.inl kd167) rfl rfl (chgV_len (chg_ok ((fnd l (nm ++ (ends[i]'hlt))).getD chg0))) (chgV_ok1 (((fnd l (nm ++ (ends[i]'hlt))).getD chg0)) p6 c7) rfl rfl ?_
   refine VL.set0 ?_
   refine VL.assign rfl ?_
   refine VL.nn ?_
   refine VC.seq ?_
   refine VC.sr ?_
   refine VL.move rfl ?_
   cases hs : (fnd l (nm ++ (ends[i]'hlt))).isSome
   ·refine VL.not rfl ?_
    refine VL.nn ?_
    refine VC.yes rfl ?_
    refine VC.exit ?_
    refine VX.then_exit ?_
    refine VX.block_here ?_
    refine VX.next ?_
    refine VC.region ?_
    refine VL.move rfl ?_
    refine VL.add rfl rfl (by simp only [InR]; omega) ?_
    refine VL.assign rfl ?_
    refine VL.nil ?_
    have hfn := none_is hs
    have elG : gotK nm l i = gotK nm l (i + 1) := by rw [gotK_next hlt, hfn]; exact (List.append_nil _).symm
    have elP := pcK_no hlt hfn
    have elQ := Qh_no hlt hfn
    refine VX.round (i + 1, gv, cv, gq, cq) ⟨rfl, rfl, rfl, congrArg (fun l : List Chg => some (rowV gv l.length cv)) elG, congrArg (fun l : List (List UInt8) => some (rowV gq l.length cq)) elP, rfl, rfl, rfl, trivial⟩ (fun w' h => ⟨by omega, ?_⟩) (by show 3 - (i + 1) < 3 - i; omega)
    rw [← elG, ← elP, ← elQ]
    exact ((ownDropAt 0 h)).sub (sub_cons (by repeat (first | exact List.mem_cons_self .. | apply List.mem_cons_of_mem)) (sub_cons (by repeat (first | exact List.mem_cons_self .. | apply List.mem_cons_of_mem)) (fun _ hs => by repeat (first | exact hs | apply List.mem_cons_of_mem))))
   ·refine VL.not rfl ?_
    refine VL.nn ?_
    refine VC.no rfl ?_
    refine VC.skip ?_
    refine VX.next ?_
    refine VC.sr ?_
    refine VL.move rfl ?_
    refine VL.loads (cs := cat (chgV (((fnd l (nm ++ (ends[i]'hlt))).getD chg0)) p6 c7)) 0 0 3 rfl kd167 (fun _ h => h) rfl rfl rfl rfl ?_
    refine VL.lit el158 rfl rfl rfl (by intro v hv; simp only [List.mem_singleton] at hv; subst hv; rfl) (by rw [show [Value.agg (cat (chgV ((fnd l (nm ++ (ends[i]'hlt))).getD chg0) p6 c7)).toArray].flatMap (·.cells.toList) = (cat (chgV ((fnd l (nm ++ (ends[i]'hlt))).getD chg0) p6 c7)) by simp [Value.cells]]; exact chgV_ok1 _ _ _) (fun gla => ?_)
    refine VL.letRow chgR [((fnd l (nm ++ (ends[i]'hlt))).getD chg0)] rfl (fun w' hw => one_chg (hA8.nowA (s := ⟨w5, _⟩) Mono.byte hw)) (fun wla hOla hAla => ?_)
    refine VL.appends (R := chgR) (hR := Mono_chg) (ys := (gotK nm l i)) (zs := [((fnd l (nm ++ (ends[i]'hlt))).getD chg0)]) 1 el158 rfl rfl rfl (fun _ h => h) rfl (fun _ hw => (hAla.nowA (s := ⟨wla, _⟩) Mono_chg hw)) chgR_ok1 (by simp only [List.length_append, List.length_cons, List.length_nil]; omega) (fun gca cca => ?_) (by simp only [List.length_append, List.length_cons, List.length_nil]; omega)
    refine VL.set1 ?_
    refine VL.assign rfl ?_
    refine VL.nn ?_
    refine VC.sr ?_
    refine VL.move rfl ?_
    refine VL.eql rfl rfl ?_
    refine VL.case (fun h11 => ?_) (fun h11 => ?_)
    ·have h11 : i = 0 := by omega
     refine VL.nn ?_
     refine VC.yes rfl ?_
     refine VC.sr ?_
     refine VL.fieldAddr rfl fo167_1 rfl ?_
     refine VL.load (v := .slice p6 (((fnd l (nm ++ (ends[i]'hlt))).getD chg0).value).length c7) 0 1 rfl kd24 (fun _ h => h) rfl rfl rfl ?_
     refine VL.call Try.func140 rfl (by decide) rfl (fun w' hw => open_T hw (hA8.nowA (s := ⟨w5, _⟩) Mono.byte hw)) (fun v => ?_)
     refine VL.ex fun g11 => VL.fact fun e12 => ?_
     subst e12
     refine VL.move rfl ?_
     refine VL.extract rfl rfl ?_
     refine VL.extract rfl rfl ?_
     refine VL.assign rfl ?_
     refine VL.assign rfl ?_
     refine VL.nn ?_
     refine VC.sr ?_
     refine VL.move rfl ?_
     refine VL.call Try.func141 rfl (by decide) rfl (fun w' hw => num_T (i := 0) rfl hw) (fun v => ?_)
     refine VL.fact fun e13 => ?_
     subst e13
     refine VL.set0 ?_
     refine VL.convw (by rw [Try.underlying3]; rfl) Try.underlying68 rfl ?_
     refine VL.newv (v' := .int .u16 (tkN 2 (openP ((fnd l (nm ++ (ends[i]'hlt))).getD chg0).value) : Nat)) (wrapT_u16 _) ?_
     refine VL.fieldAddr rfl fo157_2 rfl ?_
     refine VL.store (L := queL) (qs := [[.int .u16 (tkN 2 (openP ((fnd l (nm ++ (ends[i]'hlt))).getD chg0).value))]]) 4 2 1 rfl rfl rfl (.inr ⟨kd68, rfl⟩) rfl rfl rfl (by intro u hu; simp [cat] at hu; subst hu; rfl) rfl rfl ?_
     refine VL.set4 ?_
     refine VL.nn ?_
     refine VC.sr ?_
     refine VL.move rfl ?_
     refine VL.call Try.func141 rfl (by decide) rfl (fun w' hw => num_T (i := 0) rfl hw) (fun v => ?_)
     refine VL.fact fun e14 => ?_
     subst e14
     refine VL.set0 ?_
     refine VL.fieldAddr rfl fo157_1 rfl ?_
     refine VL.store (L := queL) (qs := [[.int .i64 ((refN (nextP ((openP ((fnd l (nm ++ (ends[i]'hlt))).getD chg0).value).drop 1)) : Nat))]]) 4 1 1 rfl rfl rfl (.inr ⟨kd3, rfl⟩) rfl rfl rfl (by intro u hu; simp [cat] at hu; subst hu; rfl) rfl rfl ?_
     refine VL.set4 ?_
     refine VL.nn ?_
     refine VC.sr ?_
     refine VL.move rfl ?_
     refine VL.call Try.func141 rfl (by decide) rfl (fun w' hw => num_T (i := 0) rfl hw) (fun v => ?_)
     refine VL.fact fun e15 => ?_
     subst e15
     refine VL.set0 ?_
     refine VL.convw (by rw [Try.underlying3]; rfl) Try.underlying5 rfl ?_
     refine VL.newv (v' := .int .u8 (tkN 1 (((openP ((fnd l (nm ++ (ends[i]'hlt))).getD chg0).value).drop 1).drop 1) : Nat)) (wrapT_u8 _) ?_
     refine VL.fieldAddr rfl fo157_3 rfl ?_
     refine VL.store (L := queL) (qs := [[.int .u8 (tkN 1 (((openP ((fnd l (nm ++ (ends[i]'hlt))).getD chg0).value).drop 1).drop 1))]]) 4 3 1 rfl rfl rfl (.inr ⟨kd5, rfl⟩) rfl rfl rfl (by intro u hu; simp [cat] at hu; subst hu; rfl) rfl rfl ?_
     refine VL.set4 ?_
     refine VL.nn ?_
     refine VC.region ?_
     refine VL.move rfl ?_
     refine VL.call Try.func141 rfl (by decide) rfl (fun w' hw => num_T (i := 0) rfl hw) (fun v => ?_)
     refine VL.fact fun e16 => ?_
     subst e16
     refine VL.set0 ?_
     refine VL.convw (by rw [Try.underlying3]; rfl) Try.underlying5 rfl ?_
     refine VL.newv (v' := .int .u8 (tkN 1 ((((openP ((fnd l (nm ++ (ends[i]'hlt))).getD chg0).value).drop 1).drop 1).drop 1) : Nat)) (wrapT_u8 _) ?_
     refine VL.fieldAddr rfl fo157_4 rfl ?_
     refine VL.store (L := queL) (qs := [[.int .u8 (tkN 1 ((((openP ((fnd l (nm ++ (ends[i]'hlt))).getD chg0).value).drop 1).drop 1).drop 1))]]) 4 4 1 rfl rfl rfl (.inr ⟨kd5, rfl⟩) rfl rfl rfl (by intro u hu; simp [cat] at hu; subst hu; rfl) rfl rfl ?_
     refine VL.set4 ?_
     refine VL.nil ?_
     refine VX.block_normal ?_
     refine VX.next ?_
     refine VC.region ?_
     refine VL.move rfl ?_
     refine VL.add rfl rfl (by simp only [InR]; omega) ?_
     refine VL.assign rfl ?_
     refine VL.nil ?_
     subst h11
     have elG : gotK nm l 0 ++ [((fnd l (nm ++ (ends[0]'hlt))).getD chg0)] = gotK nm l (0 + 1) := by rw [gotK_next hlt, list_yes hs]
     have elP : pcK nm l 0 = pcK nm l (0 + 1) := rfl
     refine VX.round (0 + 1, gca, cca, gq, cq) ⟨rfl, rfl, rfl, congrArg (fun l : List Chg => some (rowV gca l.length cca)) elG, congrArg (fun l : List (List UInt8) => some (rowV gq l.length cq)) elP, rfl, rfl, rfl, trivial⟩ (fun w' h => ⟨by omega, ?_⟩) (by show 3 - (0 + 1) < 3 - 0; omega)
     rw [← elG, ← elP, Qh_1 hs]
     exact ((ownDropAt 0 (ownDropAt 1 h))).sub (sub_cons (by repeat (first | exact List.mem_cons_self .. | apply List.mem_cons_of_mem)) (sub_cons (by repeat (first | exact List.mem_cons_self .. | apply List.mem_cons_of_mem)) (fun _ hs => by repeat (first | exact hs | apply List.mem_cons_of_mem))))
    ·have h11 : ¬ i = 0 := by omega
     refine VL.nn ?_
     refine VC.no rfl ?_
     refine VC.sr ?_
     refine VL.fieldAddr rfl fo167_1 rfl ?_
     refine VL.load (v := .slice p6 (((fnd l (nm ++ (ends[i]'hlt))).getD chg0).value).length c7) 0 1 rfl kd24 (fun _ h => h) rfl rfl rfl ?_
     refine VL.call Try.func34 rfl (by decide) rfl (fun w' hw => refSplit_any hw (hA8.nowA (s := ⟨w5, _⟩) Mono.byte hw)) (fun v => ?_)
     refine VL.at (fun w17 h1w => ?_)
     obtain ⟨hO21, p18, c19, rfl, hA20⟩ := h1w
     refine VL.toOwn hO21 ?_
     refine VL.move rfl ?_
     refine VL.extract rfl rfl ?_
     refine VL.extract rfl rfl ?_
     refine VL.assign rfl ?_
     refine VL.assign rfl ?_
     refine VL.nn ?_
     refine VC.region ?_
     refine VL.move rfl ?_
     refine VL.move rfl ?_
     refine VL.appends (R := bytesR) (hR := Mono.slice Mono.byte) (ys := (pcK nm l i)) (zs := (splitB (((fnd l (nm ++ (ends[i]'hlt))).getD chg0).value)).2) 2 el31 rfl rfl rfl (fun _ h => h) rfl (fun _ hw => (hA20.nowA (s := ⟨w17, _⟩) (Mono.slice Mono.byte) hw)) bytesR_ok1 (by have h8 : (splitB ((fnd l (nm ++ (ends[i]'hlt))).getD chg0).value).2.length ≤ 64 := openP_len _; omega) (fun g22 c23 => ?_) (by have h8 : (splitB ((fnd l (nm ++ (ends[i]'hlt))).getD chg0).value).2.length ≤ 64 := openP_len _; omega)
     refine VL.set2 ?_
     refine VL.assign rfl ?_
     refine VL.nil ?_
     refine VX.block_normal ?_
     refine VX.next ?_
     refine VC.region ?_
     refine VL.move rfl ?_
     refine VL.add rfl rfl (by simp only [InR]; omega) ?_
     refine VL.assign rfl ?_
     refine VL.nil ?_
     have elG : gotK nm l i ++ [((fnd l (nm ++ (ends[i]'hlt))).getD chg0)] = gotK nm l (i + 1) := by rw [gotK_next hlt, list_yes hs]
     have elP : pcK nm l i ++ (splitB ((fnd l (nm ++ (ends[i]'hlt))).getD chg0).value).2 = pcK nm l (i + 1) := by rw [pcK_next hlt h11, pcs_yes hs]
     have elQ := Qh_ge (nm := nm) (l := l) h11
     refine VX.round (i + 1, gca, cca, g22, c23) ⟨rfl, rfl, rfl, congrArg (fun l : List Chg => some (rowV gca l.length cca)) elG, congrArg (fun l : List (List UInt8) => some (rowV g22 l.length c23)) elP, rfl, rfl, rfl, trivial⟩ (fun w' h => ⟨by omega, ?_⟩) (by show 3 - (i + 1) < 3 - i; omega)
     rw [← elG, ← elP, ← elQ]
     exact ((ownDropAt 0 h)).sub (sub_cons (by repeat (first | exact List.mem_cons_self .. | apply List.mem_cons_of_mem)) (sub_cons (by repeat (first | exact List.mem_cons_self .. | apply List.mem_cons_of_mem)) (fun _ hs => by repeat (first | exact hs | apply List.mem_cons_of_mem))))
  ·have hke : i = 3 := by omega
   refine VL.nn ?_
   refine VC.no rfl ?_
   refine VC.exit ?_
   refine VX.then_exit ?_
   refine VX.then_exit ?_
   refine VX.block_here ?_
   refine VX.next ?_
   refine VC.seq ?_
   refine VC.seq ?_
   obtain rfl : i = 3 := by omega
   have hp8 := pcK_len nm l 3
   refine VC.letArr (fun wG hOG hG => ?_)
   refine VC.letArr (fun wP hOP hP => ?_)
   refine VC.region ?_
   refine VL.assign rfl ?_
   refine VL.nn ?_
   refine VC.block ?_
   refine VC.turn (G' := Own _ (arow 87 433 itemR' Mono_item none 0 ([] : List Itm) :: blk g2 157 queL (queV ((Q1 nm l ([] : List Itm))) none 0) :: blk g1 157 queL (queV (que0) none 0) :: H)) (fun w' h => newRowI h) ?_
   refine VC.loop (X := Nat × Option Nat × Nat) (fun (k, gi, ci) => [(0, .string nm), (4, .pointer (some ⟨g1, 0, none⟩)), (6, rowV gv (gotK nm l 3).length cv), (7, rowV gq (pcK nm l 3).length cq), (8, .pointer (some ⟨g2, 0, none⟩)), (17, .int .i64 (k : Int))]) (fun (k, gi, ci) w' => k ≤ (pcK nm l 3).length ∧ Own (⟨wP, keys (blk g2 157 queL (queV ((Qh nm l 3)) none 0) :: blk g1 157 queL (queV (que0) none 0) :: H)⟩ :: ⟨wG, keys (brow gq cq ((pcK nm l 3)) :: blk g2 157 queL (queV ((Qh nm l 3)) none 0) :: blk g1 157 queL (queV (que0) none 0) :: H)⟩ :: ⟨w, keys H⟩ :: S) (arow 87 433 itemR' Mono_item gi ci (((pcK nm l 3).take k).map itmOf) :: blk g2 157 queL (queV ((Q1 nm l (((pcK nm l 3).take k).map itmOf))) (gi.map fun g => (⟨g, 0, none⟩ : Addr)) ci) :: blk g1 157 queL (queV (que0) none 0) :: H) w') (fun (k, _) => (pcK nm l 3).length - k) (0, none, 0) ⟨rfl, rfl, rfl, rfl, rfl, rfl, trivial⟩ (fun w' h => ⟨Nat.zero_le _, h.sub (sub_cons (by repeat (first | exact List.mem_cons_self .. | apply List.mem_cons_of_mem)) (sub_cons (by repeat (first | exact List.mem_cons_self .. | apply List.mem_cons_of_mem)) (sub_cons (by repeat (first | exact List.mem_cons_self .. | apply List.mem_cons_of_mem)) (fun _ hs => by repeat (first | exact hs | apply List.mem_cons_of_mem)))))⟩) (fun (k, gi, ci) => VC.fact fun hk => ?_)
   ·have hml := maps_len (ps := (pcK nm l 3)) (k := k)
    refine VC.seq ?_
    refine VC.sr ?_
    refine VL.move rfl ?_
    refine VL.move rfl ?_
    refine VL.len Try.underlying31 rfl rfl ?_
    refine VL.lss rfl rfl ?_
    refine VL.case (fun h20 => ?_) (fun h20 => ?_)
    ·have hlk : k < (pcK nm l 3).length := by omega
     refine VL.nn ?_
     refine VC.yes rfl ?_
     refine VC.skip ?_
     refine VX.next ?_
     refine VC.seq ?_
     refine VC.block ?_
     refine VC.sr ?_
     refine VL.move rfl ?_
     refine VL.move rfl ?_
     refine VL.index (xs := (pcK nm l 3)) rfl rfl Try.underlying31 sz31 hP (by omega) (by have hi := hlk; omega) ?_
     refine VL.elem (s := ⟨wP, _⟩) (k) 0 rfl kd24 (fun _ h => h) (by repeat (first | exact List.mem_cons_self .. | apply List.mem_cons_of_mem)) (Mono.slice Mono.byte) hP (List.getElem?_eq_getElem hlk) (by simp) (by decide) (fun vs v hl hr hv => ?_)
     obtain ⟨p26, c27, rfl, hA28⟩ := hr
     have ehy25 : v = .slice p26 ((pcK nm l 3)[k]'hlk).length c27 := Option.some.inj (hv.symm.trans rfl)
     subst ehy25
     refine VL.call Try.func97 rfl (by decide) rfl (fun w' hw => readItem_w hw (hA28.nowA (s := ⟨wP, _⟩) Mono.byte hw)) (fun v => ?_)
     refine VL.at (fun w29 h1w => ?_)
     obtain ⟨p31, c32, q34, d35, rfl, hO30, hA33, hB36⟩ := h1w
     refine VL.toOwn hO30 ?_
     refine VL.move rfl ?_
     refine VL.extract rfl rfl ?_
     refine VL.extract rfl rfl ?_
     refine VL.alloc (L := itemL) (ps := (itemV (item0) none 0 none 0)) zero87 rfl rfl (fun g37 => ?_)
     refine VL.store (L := itemL) (qs := (itemV (((itemR ((pcK nm l 3)[k]'hlk)).getD item0)) p31 c32 q34 d35)) (ps' := (itemV (((itemR ((pcK nm l 3)[k]'hlk)).getD item0)) p31 c32 q34 d35)) 0 0 28 rfl rfl rfl (.inl kd87) rfl rfl (itemV_len (itemR_ok ((pcK nm l 3)[k]'hlk))) (itemV_ok1 (((itemR ((pcK nm l 3)[k]'hlk)).getD item0)) p31 c32 q34 d35) rfl rfl ?_
     refine VL.set0 ?_
     refine VL.assign rfl ?_
     refine VL.nn ?_
     refine VC.region ?_
     refine VL.fieldAddr rfl fo157_0 rfl ?_
     refine VL.load (v := .slice (gi.map fun g => (⟨g, 0, none⟩ : Addr)) ((((pcK nm l 3).take k).map itmOf)).length ci) 2 0 rfl kd126 (fun _ h => h) rfl rfl rfl ?_
     refine VL.loads (cs := cat (itemV (((itemR ((pcK nm l 3)[k]'hlk)).getD item0)) p31 c32 q34 d35)) 0 0 28 rfl kd87 (fun _ h => h) rfl rfl rfl rfl ?_
     refine VL.lit el126 rfl rfl rfl (by intro v hv; simp only [List.mem_singleton] at hv; subst hv; show (cat (itemV (itmOf ((pcK nm l 3)[k]'hlk)) p31 c32 q34 d35)).toArray.size = 433; rw [List.size_toArray, cat_size (itemV_len (itemR_ok ((pcK nm l 3)[k]'hlk)))]; rfl) (by rw [show [Value.agg (cat (itemV (itmOf ((pcK nm l 3)[k]'hlk)) p31 c32 q34 d35)).toArray].flatMap (·.cells.toList) = (cat (itemV (itmOf ((pcK nm l 3)[k]'hlk)) p31 c32 q34 d35)) by simp [Value.cells]]; exact itemV_ok1 _ _ _ _ _) (fun gl => ?_)
     refine VL.letRow itemR' [(itmOf ((pcK nm l 3)[k]'hlk))] rfl (fun w' hw => one_item (itemR_ok ((pcK nm l 3)[k]'hlk)) (hA33.nowA (s := ⟨w29, _⟩) Mono.byte hw) (hB36.nowA (s := ⟨w29, _⟩) Mono_vouch hw)) (fun wl hOl hAl => ?_)
     refine VL.appends (R := itemR') (hR := Mono_item) (ys := (((pcK nm l 3).take k).map itmOf)) (zs := [(itmOf ((pcK nm l 3)[k]'hlk))]) 1 el126 rfl rfl rfl (fun _ h => h) rfl (fun _ hw => hAl.nowA (s := ⟨wl, _⟩) Mono_item hw) itemR'_ok1 (by simp only [List.length_cons, List.length_nil]; omega) (fun gv2 cv2 => ?_) (by simp only [List.length_cons, List.length_nil]; omega)
     refine VL.set1 ?_
     refine VL.fieldAddr rfl fo157_0 rfl ?_
     refine VL.store (L := queL) (qs := [[.slice (gv2.map fun g => (⟨g, 0, none⟩ : Addr)) (((((pcK nm l 3).take k).map itmOf) ++ [(itmOf ((pcK nm l 3)[k]'hlk))])).length cv2]]) 2 0 1 rfl rfl rfl (.inr ⟨kd126, rfl⟩) rfl rfl rfl (by intro u hu; simp [cat] at hu; subst hu; rfl) rfl rfl ?_
     refine VL.set2 ?_
     refine VL.nil ?_
     refine VX.block_normal ?_
     refine VX.next ?_
     refine VC.region ?_
     refine VL.move rfl ?_
     refine VL.add rfl rfl (by simp only [InR]; omega) ?_
     refine VL.assign rfl ?_
     refine VL.nil ?_
     refine VX.round (k + 1, gv2, cv2) ⟨rfl, rfl, rfl, rfl, rfl, rfl, trivial⟩ (fun w' h => ⟨by omega, ?_⟩) (by show (pcK nm l 3).length - (k + 1) < (pcK nm l 3).length - k; omega)
     rw [maps_next hlk]
     exact ((ownDropAt 0 h)).sub (sub_cons (by repeat (first | exact List.mem_cons_self .. | apply List.mem_cons_of_mem)) (sub_cons (by repeat (first | exact List.mem_cons_self .. | apply List.mem_cons_of_mem)) (sub_cons (by repeat (first | exact List.mem_cons_self .. | apply List.mem_cons_of_mem)) (fun _ hs => by repeat (first | exact hs | apply List.mem_cons_of_mem)))))
    ·refine VL.nn ?_
     refine VC.no rfl ?_
     refine VC.exit ?_
     refine VX.then_exit ?_
     refine VX.then_exit ?_
     refine VX.block_here ?_
     refine VX.next ?_
     refine VC.seq ?_
     have hke : k = (pcK nm l 3).length := by omega
     refine VC.letArr (fun wI hOI hIt => ?_)
     refine VC.region ?_
     refine VL.move rfl ?_
     refine VL.loads (cs := cat (queV ((Q1 nm l (((pcK nm l 3).take k).map itmOf))) (gi.map fun g => (⟨g, 0, none⟩ : Addr)) ci)) 0 0 5 rfl kd157 (fun _ h => h) rfl rfl rfl rfl ?_
     refine VL.call Try.func103 rfl (by decide) rfl (fun w' hw => refRows_w hw (Q1_ok (maps_ok _)) (hIt.nowA (s := ⟨wI, _⟩) Mono_item hw) nm) (fun v => ?_)
     refine VL.at (fun w38 h1w => ?_)
     obtain ⟨p39, c40, rfl, hO42, hA41⟩ := h1w
     refine VL.toOwn hO42 ?_
     refine VL.move rfl ?_
     refine VL.extract rfl rfl ?_
     refine VL.extract rfl rfl ?_
     refine VL.assign rfl ?_
     refine VL.assign rfl ?_
     refine VL.nn ?_
     refine VC.seq ?_
     refine VC.sr ?_
     refine VL.move rfl ?_
     cases hs : (rowsO nm (Q1 nm l (((pcK nm l 3).take k).map itmOf))).isSome
     ·refine VL.not rfl ?_
      refine VL.move rfl ?_
      refine VL.pass rfl rfl rfl rfl rfl ?_
      refine VL.pass rfl rfl rfl rfl rfl ?_
      refine VL.pass rfl rfl rfl rfl rfl ?_
      refine VL.pass rfl rfl rfl rfl rfl ?_
      refine VL.pick_t rfl rfl ?_
      refine VL.nn ?_
      refine VC.yes rfl ?_
      refine VC.sr ?_
      refine VL.build0 (cs := cat (queV (que0) none 0)) built157 ?_
      refine VL.store (L := queL) (qs := (queV (que0) none 0)) (ps' := (queV (que0) none 0)) 1 0 5 rfl rfl rfl (.inl kd157) rfl rfl rfl (queV_ok1 que0 none 0) rfl rfl ?_
      refine VL.set1 ?_
      refine VL.assign rfl ?_
      refine VL.nn ?_
      refine VC.ret ?_
      refine VX.then_ret ?_
      have eQ : (Q1 nm l (((pcK nm l 3).take k).map itmOf)) = rq nm l := by rw [hke, List.take_length]; exact Q1_rq nm l
      refine VX.ret_cell (cs := cat (queV (que0) none 0)) 1 rfl rfl rfl (by rw [cat_size rfl]; exact kd157) (fun _ h => h) rfl rfl (fun we hw => ?_)
      exact load_res (load_rq (by rw [← eQ]; intro h; rw [h] at hs; cases hs)) (hw.drop.drop.subA)
     ·refine VL.not rfl ?_
      refine VL.move rfl ?_
      refine VL.go rfl rfl rfl ?_
      refine VL.move rfl ?_
      refine VL.go rfl rfl rfl ?_
      refine VL.move rfl ?_
      refine VL.go rfl rfl rfl ?_
      refine VL.call Try.func104 rfl (by decide) rfl (fun w' hw => refSame_w hw (hA41.nowA (s := ⟨w38, _⟩) Mono_chg hw) (hG.nowA (s := ⟨wG, _⟩) Mono_chg hw)) (fun v => ?_)
      refine VL.ex fun b => VL.fact fun e => VL.fact fun h25 => ?_
      subst e
      cases b
      ·have h25 := mt h25.2 (by decide)
       refine VL.go rfl rfl rfl ?_
       refine VL.not rfl ?_
       refine VL.pick_f rfl rfl ?_
       refine VL.nn ?_
       refine VC.yes rfl ?_
       refine VC.sr ?_
       refine VL.build0 (cs := cat (queV (que0) none 0)) built157 ?_
       refine VL.store (L := queL) (qs := (queV (que0) none 0)) (ps' := (queV (que0) none 0)) 1 0 5 rfl rfl rfl (.inl kd157) rfl rfl rfl (queV_ok1 que0 none 0) rfl rfl ?_
       refine VL.set1 ?_
       refine VL.assign rfl ?_
       refine VL.nn ?_
       refine VC.ret ?_
       refine VX.then_ret ?_
       have eQ : (Q1 nm l (((pcK nm l 3).take k).map itmOf)) = rq nm l := by rw [hke, List.take_length]; exact Q1_rq nm l
       refine VX.ret_cell (cs := cat (queV (que0) none 0)) 1 rfl rfl rfl (by rw [cat_size rfl]; exact kd157) (fun _ h => h) rfl rfl (fun we hw => ?_)
       exact load_res (load_rq (by rw [← eQ]; intro h; rw [h] at h25; exact h25 rfl)) (hw.drop.drop.subA)
      ·have h25 := h25.1 rfl
       refine VL.go rfl rfl rfl ?_
       refine VL.not rfl ?_
       refine VL.pick_f rfl rfl ?_
       refine VL.nn ?_
       refine VC.no rfl ?_
       refine VC.skip ?_
       refine VX.next ?_
       refine VC.sr ?_
       refine VL.loads (cs := cat (queV ((Q1 nm l (((pcK nm l 3).take k).map itmOf))) (gi.map fun g => (⟨g, 0, none⟩ : Addr)) ci)) 0 0 5 rfl kd157 (fun _ h => h) rfl rfl rfl rfl ?_
       refine VL.store (L := queL) (qs := (queV ((Q1 nm l (((pcK nm l 3).take k).map itmOf))) (gi.map fun g => (⟨g, 0, none⟩ : Addr)) ci)) (ps' := (queV ((Q1 nm l (((pcK nm l 3).take k).map itmOf))) (gi.map fun g => (⟨g, 0, none⟩ : Addr)) ci)) 1 0 5 rfl rfl rfl (.inl kd157) rfl rfl (queV_len (Q1_ok (maps_ok _))) (queV_ok1 ((Q1 nm l (((pcK nm l 3).take k).map itmOf))) (gi.map fun g => (⟨g, 0, none⟩ : Addr)) ci) rfl rfl ?_
       refine VL.set1 ?_
       refine VL.assign rfl ?_
       refine VL.nn ?_
       refine VC.ret ?_
       refine VX.ret_cell (cs := cat (queV ((Q1 nm l (((pcK nm l 3).take k).map itmOf))) (gi.map fun g => (⟨g, 0, none⟩ : Addr)) ci)) 1 rfl rfl rfl (by rw [cat_size (queV_len (Q1_ok (maps_ok _)))]; exact kd157) (fun _ h => h) rfl rfl (fun we hw => ?_)
       have eQ : (Q1 nm l (((pcK nm l 3).take k).map itmOf)) = rq nm l := by rw [hke, List.take_length]; exact Q1_rq nm l
       obtain ⟨r, hr⟩ := Option.isSome_iff_exists.1 hs
       have hgt : rowsO nm (Q1 nm l (((pcK nm l 3).take k).map itmOf)) = some (gotL nm l) := by rw [hr] at h25; rw [hr]; exact congrArg some h25
       have e1 : loadO nm l = some (Q1 nm l (((pcK nm l 3).take k).map itmOf)) := load_some (Q1_ok (maps_ok _)) hgt
       rw [e1]
       exact ⟨_, _, rfl, hw.drop.drop.subA, (hIt.nowA (s := ⟨wI, _⟩) Mono_item hw.drop.drop)⟩

end Go.Proofs.Ytcfecmoagfgnaaa

/- The law on what rows are read as. -/
namespace Go.Proofs.Ytcfecmoagfgnaaa
open Go.Vc Go.Pl

theorem fedqLoads_w {S : List Snap} {H : List Chunk} {w : World} (ho : Own S H w) {nm : ByteArray} {l : List Chg} {p : Option Addr} {c : Nat} (hX : Arr 3 chgR (keys H) w p l c) : Calls Try.prog 23 #[.string nm, .slice p l.length c] w (Ret fun v w' => v = .bool true ∧ Own S H w') := by
 have hsm := hX.small
 refine enter (G := Own (⟨w, keys H⟩ :: S) H) ho.keep Try.func23 rfl Try.ntmps23 rfl ?_
 refine VC.sr ?_
 refine VL.assign rfl ?_
 refine VL.nn ?_
 refine VC.seq ?_
 refine VC.sr ?_
 refine VL.call Try.func73 rfl (by decide) rfl (fun w' hw => alive21_w hw) (fun v => ?_)
 refine VL.fact fun e1 => ?_
 subst e1
 refine VL.not rfl ?_
 refine VL.nn ?_
 refine VC.no rfl ?_
 refine VC.skip ?_
 refine VX.next ?_
 refine VC.seq ?_
 refine VC.sr ?_
 refine VL.move rfl ?_
 refine VL.len Try.underlying158 rfl rfl ?_
 refine VL.gtr rfl rfl ?_
 refine VL.case (fun h3 => ?_) (fun h3 => ?_)
 ·refine VL.move rfl ?_
  refine VL.pass rfl rfl rfl rfl rfl ?_
  refine VL.pass rfl rfl rfl rfl rfl ?_
  refine VL.pass rfl rfl rfl rfl rfl ?_
  refine VL.pick_t rfl rfl ?_
  refine VL.nn ?_
  refine VC.yes rfl ?_
  refine VC.sr ?_
  refine VL.assign rfl ?_
  refine VL.nn ?_
  refine VC.ret ?_
  refine VX.then_ret ?_
  refine VX.ret1 rfl rfl (fun we hw => ?_)
  exact ⟨rfl, hw.subA⟩
 ·refine VL.move rfl ?_
  refine VL.go rfl rfl rfl ?_
  refine VL.move rfl ?_
  refine VL.go rfl rfl rfl ?_
  refine VL.lens Try.underlying9 rfl rfl ?_
  refine VL.go rfl rfl rfl ?_
  refine VL.gtr rfl rfl ?_
  refine VL.case (fun h3b => ?_) (fun h3b => ?_)
  ·refine VL.pick_f rfl rfl ?_
   refine VL.nn ?_
   refine VC.yes rfl ?_
   refine VC.sr ?_
   refine VL.assign rfl ?_
   refine VL.nn ?_
   refine VC.ret ?_
   refine VX.then_ret ?_
   refine VX.ret1 rfl rfl (fun we hw => ?_)
   exact ⟨rfl, hw.subA⟩
  ·refine VL.pick_f rfl rfl ?_
   refine VL.nn ?_
   refine VC.no rfl ?_
   refine VC.skip ?_
   refine VX.next ?_
   refine VC.seq ?_
   refine VC.sr ?_
   refine VL.assign rfl ?_
   refine VL.nn ?_
   refine VC.block ?_
   refine VC.loop (X := Nat) (fun k => [(0, .string nm), (1, .slice p l.length c), (5, .int .i64 (k : Int))]) (fun k w' => k ≤ l.length ∧ Own (⟨w, keys H⟩ :: S) H w') (fun k => l.length - k) 0 ⟨rfl, rfl, rfl, trivial⟩ (fun w' h => ⟨Nat.zero_le _, h.subA⟩) (fun k => VC.fact fun hk => ?_)
   ·skip
    refine VC.seq ?_
    refine VC.sr ?_
    refine VL.move rfl ?_
    refine VL.move rfl ?_
    refine VL.len Try.underlying158 rfl rfl ?_
    refine VL.lss rfl rfl ?_
    refine VL.case (fun h6 => ?_) (fun h6 => ?_)
    ·have hlt : k < l.length := by omega
     refine VL.nn ?_
     refine VC.yes rfl ?_
     refine VC.skip ?_
     refine VX.next ?_
     refine VC.seq ?_
     refine VC.block ?_
     refine VC.sr ?_
     refine VL.move rfl ?_
     refine VL.move rfl ?_
     refine VL.index (xs := l) rfl rfl Try.underlying158 sz158 hX (by omega) (by have hi := hlt; omega) ?_
     refine VL.fieldAt rfl (by obtain ⟨a, ha⟩ := hX.isAt (by have hi := hlt; omega); rw [ha]; rfl) fo167_1 ?_
     refine VL.elem (s := ⟨w, _⟩) (k) 1 rfl kd24 (fun _ h => h) (by repeat (first | exact List.mem_cons_self .. | apply List.mem_cons_of_mem)) Mono_chg hX (List.getElem?_eq_getElem hlt) (by simp) (by decide) (fun vs v hl hr hv => ?_)
     obtain ⟨p3, c4, rfl, hA5⟩ := hr
     have ehy2 : v = .slice p3 ((l[k]'hlt)).value.length c4 := (Option.some.inj (hv.symm.trans rfl))
     subst ehy2
     refine VL.len Try.underlying24 rfl rfl ?_
     refine VL.gtr rfl rfl ?_
     refine VL.case (fun h8 => ?_) (fun h8 => ?_)
     ·refine VL.nn ?_
      refine VC.yes rfl ?_
      refine VC.sr ?_
      refine VL.assign rfl ?_
      refine VL.nn ?_
      refine VC.ret ?_
      refine VX.block_ret ?_
      refine VX.then_ret ?_
      refine VX.then_ret ?_
      refine VX.block_ret ?_
      refine VX.then_ret ?_
      refine VX.ret1 rfl rfl (fun we hw => ?_)
      exact ⟨rfl, hw.subA⟩
     ·refine VL.nn ?_
      refine VC.no rfl ?_
      refine VC.skip ?_
      refine VX.block_normal ?_
      refine VX.next ?_
      refine VC.region ?_
      refine VL.move rfl ?_
      refine VL.add rfl rfl (by simp only [InR]; omega) ?_
      refine VL.assign rfl ?_
      refine VL.nil ?_
      refine VX.round (k + 1) ⟨rfl, rfl, rfl, trivial⟩ (fun w' h => ⟨by omega, h.subA⟩) (by omega)
    ·refine VL.nn ?_
     refine VC.no rfl ?_
     refine VC.exit ?_
     refine VX.then_exit ?_
     refine VX.then_exit ?_
     refine VX.block_here ?_
     refine VX.next ?_
     refine VC.sr ?_
     refine VL.move rfl ?_
     refine VL.move rfl ?_
     refine VL.call Try.func105 rfl (by decide) rfl (fun w' hw => load_w hw (hX.nowA (s := ⟨w, _⟩) Mono_chg hw) (nm := nm) (.inr (by omega))) (fun v => ?_)
     refine VL.at (fun w6 h1w => ?_)
     obtain ⟨p7, c8, rfl, hO10, hA9⟩ := h1w
     refine VL.toOwn hO10 ?_
     refine VL.move rfl ?_
     refine VL.extract rfl rfl ?_
     refine VL.extract rfl rfl ?_
     refine VL.alloc (L := queL) (ps := (queV (que0) none 0)) zero157 rfl rfl (fun g11 => ?_)
     refine VL.store (L := queL) (qs := (queV (((loadO nm l).getD que0)) p7 c8)) (ps' := (queV (((loadO nm l).getD que0)) p7 c8)) 0 0 5 rfl rfl rfl (.inl kd157) rfl rfl (queV_len (load_ok nm l)) (queV_ok1 (((loadO nm l).getD que0)) p7 c8) rfl rfl ?_
     refine VL.set0 ?_
     refine VL.assign rfl ?_
     refine VL.nn ?_
     refine VC.sr ?_
     refine VL.move rfl ?_
     refine VL.move rfl ?_
     refine VL.call Try.func107 rfl (by decide) rfl (fun w' hw => refLoad_w hw (hX.nowA (s := ⟨w, _⟩) Mono_chg hw) (nm := nm) (by omega)) (fun v => ?_)
     refine VL.at (fun w12 h1w => ?_)
     obtain ⟨p13, c14, rfl, hO16, hA15⟩ := h1w
     refine VL.toOwn hO16 ?_
     refine VL.move rfl ?_
     refine VL.extract rfl rfl ?_
     refine VL.extract rfl rfl ?_
     refine VL.alloc (L := queL) (ps := (queV (que0) none 0)) zero157 rfl rfl (fun g17 => ?_)
     refine VL.store (L := queL) (qs := (queV (((loadO nm l).getD que0)) p13 c14)) (ps' := (queV (((loadO nm l).getD que0)) p13 c14)) 0 0 5 rfl rfl rfl (.inl kd157) rfl rfl (queV_len (load_ok nm l)) (queV_ok1 (((loadO nm l).getD que0)) p13 c14) rfl rfl ?_
     refine VL.set0 ?_
     refine VL.assign rfl ?_
     refine VL.nn ?_
     refine VC.sr ?_
     refine VL.move rfl ?_
     refine VL.move rfl ?_
     refine VL.eqb Try.underlying4 rfl rfl ?_
     refine VL.sets (show _ = true by simp) ?_
     refine VL.move rfl ?_
     refine VL.go rfl rfl rfl ?_
     refine VL.loads (cs := cat (queV (((loadO nm l).getD que0)) p7 c8)) 1 0 5 rfl kd157 (fun _ h => h) rfl rfl rfl rfl ?_
     refine VL.go rfl rfl rfl ?_
     refine VL.loads (cs := cat (queV (((loadO nm l).getD que0)) p13 c14)) 0 0 5 rfl kd157 (fun _ h => h) rfl rfl rfl rfl ?_
     refine VL.go rfl rfl rfl ?_
     refine VL.call Try.func106 rfl (by decide) rfl (fun w' hw => sameQue_w hw (load_ok nm l) (hA9.nowA (s := ⟨w6, _⟩) Mono_item hw) (hA15.nowA (s := ⟨w12, _⟩) Mono_item hw)) (fun v => ?_)
     refine VL.fact fun e18 => ?_
     subst e18
     refine VL.pick_t rfl rfl ?_
     refine VL.assign rfl ?_
     refine VL.nn ?_
     refine VC.ret ?_
     refine VX.ret1 rfl rfl (fun we hw => ?_)
     exact ⟨rfl, hw.drop.drop.subA⟩

end Go.Proofs.Ytcfecmoagfgnaaa

/- Rows and queues as arguments, opened. -/
namespace Go.Proofs.Ytcfecmoagfgnaaa
open Go.Vc Go.Pl

open Go.ChangeShapes Go.WideShapes Go.ChangeAt Go.RowKit
section
variable {Hh : Type} {enc : TypeId × Value → Hh} {W : World}
theorem openStr {P : Program} {t : TypeId} (ht : P.underlying t = some .string) : Opens enc P W t strR := by
 intro fuel cs x h
 obtain ⟨s, hs, _⟩ := DataW.trod_string ht h
 exact ⟨s, hs⟩
theorem strValue {P : Program} {t : TypeId} {r : Reach} {base : Nat} {v : Value} {d : DataW Hh} {ps : List MemPlace} (ht : P.underlying t = some .string) (hval : Value.okWide P W r base t v) (hd : DataW.Trod enc P W 0 (fun _ => true) true t v d ps) : ∃ s : ByteArray, v = .string s := by
 unfold Value.okWide Cell.okWide Cell.ok at hval
 rw [ht] at hval
 cases v <;> simp at hval ⊢
theorem open167 : Opens enc Try.prog W 167 chgR := by
 intro fuel cs x h
 obtain ⟨hl, m, hz0, hz1, hz2, _⟩ := openFields [(9, 0, 1), (24, 1, 1), (4, 2, 1)] Try.underlying167 (by kernel_rfl) h
 rw [show Try.prog.cellsOf 167 = 3 by kernel_rfl] at hl
 obtain ⟨z0, hz0⟩ := hz0
 obtain ⟨y0, hy0⟩ := (openStr Try.underlying9) _ _ _ hz0
 obtain ⟨z1, hz1⟩ := hz1
 obtain ⟨y1, p1, c1, hy1, hA1⟩ := (Opens.slice (sz := 1) Try.underlying24 (by kernel_rfl) (by decide) (Opens.u8 Try.underlying5)) _ _ _ hz1
 obtain ⟨z2, hz2⟩ := hz2
 obtain ⟨y2, hy2⟩ := (openBool Try.underlying4) _ _ _ hz2
 refine ⟨⟨y0, y1, y2⟩, p1, c1, ?_, hA1⟩
 have e0 : cs = cs.drop 0 := rfl
 have f0 := cutCells 0 1 hy0
 have f1 := cutCells 1 1 hy1
 have f2 := cutCells 2 1 hy2
 have fe : cs.drop 3 = [] := List.drop_eq_nil_of_le (by omega)
 rw [e0, f0, f1, f2, fe]
 simp only [cat, List.append_assoc, List.append_nil, List.nil_append]
end
end Go.Proofs.Ytcfecmoagfgnaaa

/- The dump's head, taken apart once: its kernel's run is long. -/
set_option maxRecDepth 100000
namespace Go.Proofs.Ytcfecmoagfgnaaa
open Go

def signs : List Char := [104, 97, 114, 110, 101, 115, 115, 32, 102, 100, 52, 102, 57, 98, 57, 102, 49, 55, 56, 57, 57, 51, 101, 97, 57, 99, 99, 102, 101, 98, 51, 98, 102, 53, 98, 50, 100, 102, 54, 99, 50, 101, 100, 98, 49, 51, 57, 102, 51, 101, 52, 102, 100, 56, 51, 97, 49, 50, 97, 97, 48, 99, 53, 98, 50, 54, 97, 51, 52, 53, 48, 48, 32, 99, 117, 116, 32, 97, 116, 32, 109, 105, 115, 115, 105, 118, 101, 47, 109, 105, 115, 115, 105, 118, 101, 108, 97, 119, 48, 50, 46, 79, 99, 116, 101, 116, 78, 117, 109, 98, 101, 114, 115, 32, 109, 105, 115, 115, 105, 118, 101, 47, 109, 105, 115, 115, 105, 118, 101, 108, 97, 119, 48, 50, 46, 79, 99, 116, 101, 116, 74, 111, 105, 110, 115, 32, 109, 105, 115, 115, 105, 118, 101, 47, 109, 105, 115, 115, 105, 118, 101, 108, 97, 119, 48, 50, 46, 79, 99, 116, 101, 116, 83, 112, 108, 105, 116, 115, 32, 109, 105, 115, 115, 105, 118, 101, 47, 109, 105, 115, 115, 105, 118, 101, 108, 97, 119, 48, 50, 46, 79, 99, 116, 101, 116, 67, 117, 116, 32, 109, 105, 115, 115, 105, 118, 101, 47, 109, 105, 115, 115, 105, 118, 101, 108, 97, 119, 48, 50, 46, 79, 99, 116, 101, 116, 79, 119, 110, 32, 109, 105, 115, 115, 105, 118, 101, 47, 109, 105, 115, 115, 105, 118, 101, 108, 97, 119, 48, 50, 46, 79, 99, 116, 101, 116, 66, 121, 116, 101, 115, 32, 109, 105, 115, 115, 105, 118, 101, 47, 109, 105, 115, 115, 105, 118, 101, 108, 97, 119, 50, 52, 46, 66, 97, 103, 82, 105, 112, 101, 32, 109, 105, 115, 115, 105, 118, 101, 47, 109, 105, 115, 115, 105, 118, 101, 108, 97, 119, 50, 52, 46, 66, 97, 103, 80, 108, 97, 121, 115, 32, 109, 105, 115, 115, 105, 118, 101, 47, 109, 105, 115, 115, 105, 118, 101, 108, 97, 119, 50, 52, 46, 66, 97, 103, 79, 119, 110, 32, 109, 105, 115, 115, 105, 118, 101, 47, 109, 105, 115, 115, 105, 118, 101, 108, 97, 119, 49, 52, 46, 87, 105, 114, 101, 76, 101, 116, 116, 101, 114, 115, 32, 109, 105, 115, 115, 105, 118, 101, 47, 109, 105, 115, 115, 105, 118, 101, 108, 97, 119, 49, 52, 46, 87, 105, 114, 101, 73, 116, 101, 109, 115, 32, 109, 105, 115, 115, 105, 118, 101, 47, 109, 105, 115, 115, 105, 118, 101, 108, 97, 119, 49, 52, 46, 87, 105, 114, 101, 66, 117, 110, 100, 108, 101, 115, 32, 109, 105, 115, 115, 105, 118, 101, 47, 109, 105, 115, 115, 105, 118, 101, 108, 97, 119, 49, 52, 46, 87, 105, 114, 101, 79, 98, 106, 101, 99, 116, 115, 32, 109, 105, 115, 115, 105, 118, 101, 47, 109, 105, 115, 115, 105, 118, 101, 108, 97, 119, 50, 49, 46, 70, 101, 100, 113, 84, 97, 107, 101, 115, 32, 109, 105, 115, 115, 105, 118, 101, 47, 109, 105, 115, 115, 105, 118, 101, 108, 97, 119, 49, 52, 46, 87, 105, 114, 101, 67, 97, 108, 108, 115, 32, 109, 105, 115, 115, 105, 118, 101, 47, 109, 105, 115, 115, 105, 118, 101, 108, 97, 119, 49, 52, 46, 87, 105, 114, 101, 84, 117, 114, 110, 101, 100, 32, 109, 105, 115, 115, 105, 118, 101, 47, 109, 105, 115, 115, 105, 118, 101, 108, 97, 119, 49, 52, 46, 87, 105, 114, 101, 82, 101, 112, 108, 105, 101, 115, 32, 109, 105, 115, 115, 105, 118, 101, 47, 109, 105, 115, 115, 105, 118, 101, 108, 97, 119, 49, 52, 46, 87, 105, 114, 101, 80, 97, 99, 107, 101, 116, 115, 32, 109, 105, 115, 115, 105, 118, 101, 47, 109, 105, 115, 115, 105, 118, 101, 108, 97, 119, 49, 52, 46, 87, 105, 114, 101, 82, 101, 97, 100, 115, 32, 109, 105, 115, 115, 105, 118, 101, 47, 109, 105, 115, 115, 105, 118, 101, 108, 97, 119, 50, 49, 46, 70, 101, 100, 113, 82, 111, 119, 115, 32, 109, 105, 115, 115, 105, 118, 101, 47, 109, 105, 115, 115, 105, 118, 101, 108, 97, 119, 50, 49, 46, 70, 101, 100, 113, 76, 111, 97, 100, 115].map Char.ofNat
def words : List (List Char) := [[104, 97, 114, 110, 101, 115, 115], [102, 100, 52, 102, 57, 98, 57, 102, 49, 55, 56, 57, 57, 51, 101, 97, 57, 99, 99, 102, 101, 98, 51, 98, 102, 53, 98, 50, 100, 102, 54, 99, 50, 101, 100, 98, 49, 51, 57, 102, 51, 101, 52, 102, 100, 56, 51, 97, 49, 50, 97, 97, 48, 99, 53, 98, 50, 54, 97, 51, 52, 53, 48, 48], [99, 117, 116], [97, 116], [109, 105, 115, 115, 105, 118, 101, 47, 109, 105, 115, 115, 105, 118, 101, 108, 97, 119, 48, 50, 46, 79, 99, 116, 101, 116, 78, 117, 109, 98, 101, 114, 115], [109, 105, 115, 115, 105, 118, 101, 47, 109, 105, 115, 115, 105, 118, 101, 108, 97, 119, 48, 50, 46, 79, 99, 116, 101, 116, 74, 111, 105, 110, 115], [109, 105, 115, 115, 105, 118, 101, 47, 109, 105, 115, 115, 105, 118, 101, 108, 97, 119, 48, 50, 46, 79, 99, 116, 101, 116, 83, 112, 108, 105, 116, 115], [109, 105, 115, 115, 105, 118, 101, 47, 109, 105, 115, 115, 105, 118, 101, 108, 97, 119, 48, 50, 46, 79, 99, 116, 101, 116, 67, 117, 116], [109, 105, 115, 115, 105, 118, 101, 47, 109, 105, 115, 115, 105, 118, 101, 108, 97, 119, 48, 50, 46, 79, 99, 116, 101, 116, 79, 119, 110], [109, 105, 115, 115, 105, 118, 101, 47, 109, 105, 115, 115, 105, 118, 101, 108, 97, 119, 48, 50, 46, 79, 99, 116, 101, 116, 66, 121, 116, 101, 115], [109, 105, 115, 115, 105, 118, 101, 47, 109, 105, 115, 115, 105, 118, 101, 108, 97, 119, 50, 52, 46, 66, 97, 103, 82, 105, 112, 101], [109, 105, 115, 115, 105, 118, 101, 47, 109, 105, 115, 115, 105, 118, 101, 108, 97, 119, 50, 52, 46, 66, 97, 103, 80, 108, 97, 121, 115], [109, 105, 115, 115, 105, 118, 101, 47, 109, 105, 115, 115, 105, 118, 101, 108, 97, 119, 50, 52, 46, 66, 97, 103, 79, 119, 110], [109, 105, 115, 115, 105, 118, 101, 47, 109, 105, 115, 115, 105, 118, 101, 108, 97, 119, 49, 52, 46, 87, 105, 114, 101, 76, 101, 116, 116, 101, 114, 115], [109, 105, 115, 115, 105, 118, 101, 47, 109, 105, 115, 115, 105, 118, 101, 108, 97, 119, 49, 52, 46, 87, 105, 114, 101, 73, 116, 101, 109, 115], [109, 105, 115, 115, 105, 118, 101, 47, 109, 105, 115, 115, 105, 118, 101, 108, 97, 119, 49, 52, 46, 87, 105, 114, 101, 66, 117, 110, 100, 108, 101, 115], [109, 105, 115, 115, 105, 118, 101, 47, 109, 105, 115, 115, 105, 118, 101, 108, 97, 119, 49, 52, 46, 87, 105, 114, 101, 79, 98, 106, 101, 99, 116, 115], [109, 105, 115, 115, 105, 118, 101, 47, 109, 105, 115, 115, 105, 118, 101, 108, 97, 119, 50, 49, 46, 70, 101, 100, 113, 84, 97, 107, 101, 115], [109, 105, 115, 115, 105, 118, 101, 47, 109, 105, 115, 115, 105, 118, 101, 108, 97, 119, 49, 52, 46, 87, 105, 114, 101, 67, 97, 108, 108, 115], [109, 105, 115, 115, 105, 118, 101, 47, 109, 105, 115, 115, 105, 118, 101, 108, 97, 119, 49, 52, 46, 87, 105, 114, 101, 84, 117, 114, 110, 101, 100], [109, 105, 115, 115, 105, 118, 101, 47, 109, 105, 115, 115, 105, 118, 101, 108, 97, 119, 49, 52, 46, 87, 105, 114, 101, 82, 101, 112, 108, 105, 101, 115], [109, 105, 115, 115, 105, 118, 101, 47, 109, 105, 115, 115, 105, 118, 101, 108, 97, 119, 49, 52, 46, 87, 105, 114, 101, 80, 97, 99, 107, 101, 116, 115], [109, 105, 115, 115, 105, 118, 101, 47, 109, 105, 115, 115, 105, 118, 101, 108, 97, 119, 49, 52, 46, 87, 105, 114, 101, 82, 101, 97, 100, 115], [109, 105, 115, 115, 105, 118, 101, 47, 109, 105, 115, 115, 105, 118, 101, 108, 97, 119, 50, 49, 46, 70, 101, 100, 113, 82, 111, 119, 115], [109, 105, 115, 115, 105, 118, 101, 47, 109, 105, 115, 115, 105, 118, 101, 108, 97, 119, 50, 49, 46, 70, 101, 100, 113, 76, 111, 97, 100, 115]].map (List.map Char.ofNat)
theorem signs_is : Try.prog.initOrder.toList = signs := String.toList_ofList (l := signs)
theorem words_is : wordsSigns Try.prog.initOrder.toList = words := by rw [signs_is]; kernel_rfl
theorem mayEnter_is : Try.prog.mayEnter = true := by unfold Program.mayEnter; rw [words_is]; kernel_rfl
theorem headLifts_is : Try.prog.headLifts = [] := by unfold Program.headLifts; rw [words_is]; kernel_rfl
theorem liftsFinal_is : Try.prog.liftsFinal = Rows.octetJoinsRow.lifted := by unfold Program.liftsFinal; rw [words_is, headLifts_is]; kernel_rfl
theorem make_is : Try.prog.make = some Rows.octetJoinsRow.make := by unfold Program.make; rw [words_is, headLifts_is]; kernel_rfl
end Go.Proofs.Ytcfecmoagfgnaaa

/- The statement FedqLoads. -/
set_option maxRecDepth 100000
namespace Go.Proofs.Ytcfecmoagfgnaaa.fedqLoads
open Go.ChangeShapes Go.WideShapes Go.ChangeAt Go.RowKit Go.Vc Go.Pl

theorem own : ownKnob Try.prog.godebug = none := by kernel_rfl

theorem lifted (os : Os) (started : os.Started) (H : Type) (enc : TypeId × Value → H) :
  ReturnsInHanded {} Try.checked os 23 .any (Rows.fedqLoadsSpec.pre6 enc Try.prog Try.f23 Rows.fedqLoadsRow.domain false) (Rows.fedqLoadsSpec.post enc Try.prog Try.f23 false true false false) := by
 refine law_of (C := Try.checked) (tb := 4) started own (by kernel_rfl) Try.func23
  (ChangeSpec.witness6 (enc := enc) (C := Try.checked) false ⟨#[], #[.string ByteArray.empty, .slice none 0 0], []⟩ 8 (by kernel_rfl) (by kernel_rfl) (by kernel_rfl) (by kernel_rfl)) rfl (by kernel_rfl) Try.underlying4 (by kernel_rfl) (by kernel_rfl) ?_
 intro W base args ds ps hval0 hAA hsz
 have hval : ∀ (j : Nat) t v, Try.f23.params[j]? = some t → args[j]? = some v → Value.okWide Try.prog W .any base t v := hval0
 have hA : DataW.TrodAll enc Try.prog W 0 (fun _ => true) true Try.f23.params.toList args.toList ds ps := hAA
 rw [Try.params23] at hA hval
 obtain ⟨v0, vs0, d0, ds0, p0, q0, hargs, rfl, rfl, h0, r0⟩ := trodAll_cons hA
 obtain ⟨v1, vs1, d1, ds1, p1, q1, rfl, rfl, rfl, h1, r1⟩ := trodAll_cons r0
 obtain ⟨rfl, rfl, rfl⟩ := trodAll_nil r1
 obtain rfl : args = #[v0, v1] := by cases args; simp_all
 obtain ⟨s0, rfl⟩ := strValue Try.underlying9 (hval 0 9 v0 rfl rfl) h0
 obtain ⟨p1, l1, c1, rfl, hA1⟩ := Opens.value Try.underlying158 (Opens.slice (sz := 3) Try.underlying158 (by kernel_rfl) (by decide) open167) (hval 1 158 v1 rfl rfl) h1
 exact ⟨rfl, fedqLoads_w (Own.start W) hA1⟩

theorem closed : joinedFacts Try.prog 23 Try.f23 Rows.fedqLoadsSpec Rows.fedqLoadsRow = true := by
 unfold joinedFacts
 rw [mayEnter_is, liftsFinal_is, make_is]
 kernel_rfl

theorem over : Rows.fedqLoadsRow.holds Try.pinned (OpenSpec.ofChange Rows.fedqLoadsSpec) :=
 OpenClaim.holds_of_wide 23 Try.f23 rfl rfl rfl rfl rfl rfl rfl ⟨rfl, rfl, rfl, rfl, rfl⟩ rfl rfl rfl rfl rfl (by kernel_rfl) Try.func23 closed
  (of_decide_eq_true (by kernel_rfl)) (by unfold Func.isWrapper; first | (rw [if_pos (by decide +kernel)]; kernel_rfl) | (rw [if_neg (by decide +kernel)]; exact ⟨rfl, rfl⟩))
  (fun os started H enc _ => lifted os started H enc)

/-- The statement. -/
theorem proved : Rows.FedqLoadsSaid :=
 over
end Go.Proofs.Ytcfecmoagfgnaaa.fedqLoads

