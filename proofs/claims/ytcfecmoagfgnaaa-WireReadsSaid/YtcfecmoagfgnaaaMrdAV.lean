/- The statement WireReads is proved, for every input: part 22 of 27 of the texts that it needs. -/
import Derived.Test.YtcfecmoagfgnaaaMrdAU
/- The reference: lists of items behind a full row. -/
namespace Go.Proofs.Ytcfecmoagfgnaaa
open Go.Vc Go.Pl

theorem refItems_f {S : List Snap} {H : List Chunk} {w : World} (ho : Own S H w) {p0 : Option Addr} {ls : List (List UInt8)} (hL : Arr 1 bytesR (keys H) w p0 ls ls.length) (h1 : 0 < ls.length) (hp : ls.length ≤ 90000) {xs : List Itm} (hxs : ∀ x ∈ xs, x.ok) {p : Option Addr} {c : Nat} (hX : Arr 433 itemR' (keys H) w p xs c) : Calls Try.prog 147 #[.slice p0 ls.length ls.length, .slice p xs.length c] w (RetO S H (joinO (ls ++ itemsP xs) (itemsGood xs))) := by
 have hsm := hX.small
 refine enter (G := Own (⟨w, keys H⟩ :: S) H) ho.keep Try.func147 rfl Try.ntmps147 rfl ?_
 refine VC.sr ?_
 refine VL.assign rfl ?_
 refine VL.assign rfl ?_
 refine VL.nn ?_
 refine VC.seq ?_
 refine VC.sr ?_
 refine VL.move rfl ?_
 refine VL.len Try.underlying126 rfl rfl ?_
 refine VL.gtr rfl rfl ?_
 refine VL.case (fun h0 => ?_) (fun h0 => ?_)
 ·have h0 : ¬ xs.length ≤ 4 := by omega
  refine VL.nn ?_
  refine VC.yes rfl ?_
  refine VC.sr ?_
  refine VL.assign rfl ?_
  refine VL.assign rfl ?_
  refine VL.nn ?_
  refine VC.ret ?_
  refine VX.then_ret ?_
  refine VX.ret2 rfl rfl rfl (fun we hw => ?_)
  exact postO ((list_none (by unfold itemsGood; rw [decide_eq_false h0, Bool.false_and]))) ⟨none, 0, rfl, hw.subA, Arr.none⟩
 ·have h0 : xs.length ≤ 4 := by omega
  refine VL.nn ?_
  refine VC.no rfl ?_
  refine VC.skip ?_
  refine VX.next ?_
  refine VC.seq ?_
  refine VC.sr ?_
  refine VL.assign rfl ?_
  refine VL.nn ?_
  refine VC.block ?_
  refine VC.loop (X := Nat × Option (Option Nat × Nat)) (fun (i, st) => [(0, match st with | none => .slice p0 ls.length ls.length | some (gq, cq) => rowV gq (ls ++ itemsP (xs.take i)).length cq), (1, .slice p xs.length c), (6, .int .i64 (i : Int))]) (fun (i, st) w' => (i ≤ xs.length ∧ ((xs.take i).all fun x => (itemO x).isSome) = true ∧ (st = none → i = 0)) ∧ (match st with | none => Own (⟨w, keys H⟩ :: S) H w' | some (gq, cq) => Own (⟨w, keys H⟩ :: S) (brow gq cq (ls ++ itemsP (xs.take i)) :: H) w')) (fun (i, _) => xs.length - i) (0, none) ⟨rfl, rfl, rfl, trivial⟩ (fun w' h => ⟨⟨Nat.zero_le _, rfl, fun _ => rfl⟩, h.subA⟩) (fun (i, st) => VC.fact fun ⟨hi, hall, hst⟩ => ?_)
  ·have htk : (itemsP (List.take i xs)).length ≤ i := by rw [itemsP_length]; exact List.length_take_le _ _
   refine VC.seq ?_
   refine VC.seq ?_
   rcases st with _ | ⟨gq, cq⟩
   ·have hi0 : i = 0 := hst rfl
    have e0 : itemsP (xs.take i) = [] := by rw [hi0]; rfl
    refine VC.turn (G' := Own (⟨w, keys H⟩ :: S) H) (fun _ h => h) ?_
    refine VC.region ?_
    refine VL.move rfl ?_
    refine VL.move rfl ?_
    refine VL.len Try.underlying126 rfl rfl ?_
    refine VL.lss rfl rfl ?_
    refine VL.case (fun h4 => ?_) (fun h4 => ?_)
    ·have hlt : i < xs.length := by omega
     refine VL.nn ?_
     refine VC.yes rfl ?_
     refine VC.skip ?_
     refine VX.next ?_
     refine VC.seq ?_
     refine VC.block ?_
     refine VC.sr ?_
     refine VL.move rfl ?_
     refine VL.move rfl ?_
     refine VL.index (xs := xs) rfl rfl Try.underlying126 sz126 hX (by omega) (by have hi := hlt; omega) ?_
     refine VL.elems (s := ⟨w, _⟩) (m := 433) (i) 0 rfl kd87 (fun _ h => h) (by repeat (first | exact List.mem_cons_self .. | apply List.mem_cons_of_mem)) hX (List.getElem?_eq_getElem hlt) (by simp) (by decide) (fun vs hl hr => ?_)
     obtain ⟨p3, c4, q5, d6, hy2, rfl, hA7, hV8⟩ := hr
     refine VL.newv (v' := .agg (cat (itemV (xs[i]'hlt) p3 c4 q5 d6)).toArray) (by rw [List.drop_zero, List.take_of_length_le (by rw [hl]; decide)]) ?_
     refine VL.call Try.func57 rfl (by decide) rfl (fun w' hw => refItem_w hw (x := (xs[i]'hlt)) (hxs _ (List.getElem_mem hlt)) (hA7.nowA (s := ⟨w, _⟩) Mono.byte hw) (hV8.nowA (s := ⟨w, _⟩) Mono_vouch hw)) (fun v => ?_)
     refine VL.at (fun w9 h1w => ?_)
     obtain ⟨p10, c11, rfl, hO13, hA12⟩ := h1w
     refine VL.toOwn hO13 ?_
     refine VL.move rfl ?_
     refine VL.extract rfl rfl ?_
     refine VL.extract rfl rfl ?_
     refine VL.assign rfl ?_
     refine VL.assign rfl ?_
     refine VL.nn ?_
     refine VC.seq ?_
     refine VC.sr ?_
     refine VL.move rfl ?_
     cases hs : (itemO (xs[i]'hlt)).isSome
     ·refine VL.not rfl ?_
      refine VL.nn ?_
      refine VC.yes rfl ?_
      refine VC.sr ?_
      refine VL.assign rfl ?_
      refine VL.assign rfl ?_
      refine VL.nn ?_
      refine VC.ret ?_
      refine VX.then_ret ?_
      refine VX.block_ret ?_
      refine VX.then_ret ?_
      refine VX.then_ret ?_
      refine VX.block_ret ?_
      refine VX.then_ret ?_
      refine VX.ret2 rfl rfl rfl (fun we hw => ?_)
      exact postO ((list_none (not_all hlt hs))) ⟨none, 0, rfl, hw.subA, Arr.none⟩
     ·refine VL.not rfl ?_
      refine VL.nn ?_
      refine VC.no rfl ?_
      refine VC.skip ?_
      refine VX.next ?_
      refine VC.region ?_
      refine VL.move rfl ?_
      refine VL.move rfl ?_
      refine VL.lit el31 rfl rfl rfl (by simp [Value.cells]) (by intro u hu; simp [Value.cells] at hu; rcases hu with rfl <;> rfl) (fun g14 => ?_)
      refine VL.letRowS [((itemO ((xs[i]'hlt))).getD [])] rfl (fun w' hw => ⟨⟨_, _, rfl, (hA12.nowA (s := ⟨w9, _⟩) Mono.byte hw)⟩, trivial⟩) (fun w15 hO16 hA17 => ?_)
      refine VL.appendL (hR := Mono.slice Mono.byte) (l := ls) (r := [((itemO ((xs[i]'hlt))).getD [])]) el31 rfl rfl rfl h1 (by simp) (by simp only [List.length_cons, List.length_nil]; omega) (by simp only [List.length_cons, List.length_nil]; omega) (by simp only [List.length_cons, List.length_nil]; omega) (fun _ hw => (hL.nowA (s := ⟨w, _⟩) (Mono.slice Mono.byte) hw)) (fun _ hw => (hA17.nowA (s := ⟨w15, _⟩) (Mono.slice Mono.byte) hw)) bytesR_ok1 (fun gA cA => ?_)
      refine VL.turn (G' := Own _ (brow (some gA) cA ((ls ++ [((itemO ((xs[i]'hlt))).getD [])])) :: H)) (fun _ h => h) ?_
      refine VL.assign rfl ?_
      refine VL.nil ?_
      refine VX.block_normal ?_
      refine VX.next ?_
      refine VC.region ?_
      refine VL.move rfl ?_
      refine VL.add rfl rfl (by simp only [InR]; omega) ?_
      refine VL.assign rfl ?_
      refine VL.nil ?_
      have el : ls ++ [(itemO (xs[i]'hlt)).getD []] = ls ++ itemsP (xs.take (i + 1)) := by rw [← items_next hlt, e0]; rfl
      refine VX.round (i + 1, some ((some gA), cA)) ⟨congrArg (fun l : List (List UInt8) => some (rowV (some gA) l.length cA)) el, rfl, rfl, trivial⟩ (fun w' h => ⟨⟨by omega, all_some hlt hall hs, fun h => by cases h⟩, ?_⟩) (by show xs.length - (i + 1) < xs.length - i; omega)
      show Own (⟨w, keys H⟩ :: S) (brow (some gA) cA (ls ++ itemsP (xs.take (i + 1))) :: H) w'
      rw [← el]
      exact h.subA
    ·have hie : i = xs.length := by omega
     refine VL.nn ?_
     refine VC.no rfl ?_
     refine VC.exit ?_
     refine VX.then_exit ?_
     refine VX.then_exit ?_
     refine VX.block_here ?_
     refine VX.next ?_
     refine VC.sr ?_
     refine VL.move rfl ?_
     refine VL.call Try.func31 rfl (by decide) rfl (fun w' hw => join_O (ls := ls) hw (hL.nowA (s := ⟨w, _⟩) (Mono.slice Mono.byte) hw)) (fun v => ?_)
     refine VL.at (fun w18 h1w => ?_)
     obtain ⟨p19, c20, rfl, hO22, hA21⟩ := h1w
     refine VL.toOwn hO22 ?_
     refine VL.extract rfl rfl ?_
     refine VL.extract rfl rfl ?_
     refine VL.assign rfl ?_
     refine VL.assign rfl ?_
     refine VL.nn ?_
     refine VC.ret ?_
     refine VX.ret2 rfl rfl rfl (fun we hw => ?_)
     exact postO ((show joinO ls true = _ from by have e := list_good (ls := ls) h0 hie hall; rw [e0, List.append_nil] at e; exact e)) ⟨p19, c20, rfl, hw.subA, (hA21.nowA (s := ⟨w18, _⟩) Mono.byte hw)⟩
   ·refine VC.turn (G' := Own (⟨w, keys H⟩ :: S) (brow gq cq (ls ++ itemsP (xs.take i)) :: H)) (fun _ h => h) ?_
    refine VC.region ?_
    refine VL.move rfl ?_
    refine VL.move rfl ?_
    refine VL.len Try.underlying126 rfl rfl ?_
    refine VL.lss rfl rfl ?_
    refine VL.case (fun h4 => ?_) (fun h4 => ?_)
    ·have hlt : i < xs.length := by omega
     refine VL.nn ?_
     refine VC.yes rfl ?_
     refine VC.skip ?_
     refine VX.next ?_
     refine VC.seq ?_
     refine VC.block ?_
     refine VC.sr ?_
     refine VL.move rfl ?_
     refine VL.move rfl ?_
     refine VL.index (xs := xs) rfl rfl Try.underlying126 sz126 hX (by omega) (by have hi := hlt; omega) ?_
     refine VL.elems (s := ⟨w, _⟩) (m := 433) (i) 0 rfl kd87 (fun _ h => h) (by repeat (first | exact List.mem_cons_self .. | apply List.mem_cons_of_mem)) hX (List.getElem?_eq_getElem hlt) (by simp) (by decide) (fun vs hl hr => ?_)
     obtain ⟨p25, c26, q27, d28, hy24, rfl, hA29, hV30⟩ := hr
     refine VL.newv (v' := .agg (cat (itemV (xs[i]'hlt) p25 c26 q27 d28)).toArray) (by rw [List.drop_zero, List.take_of_length_le (by rw [hl]; decide)]) ?_
     refine VL.call Try.func57 rfl (by decide) rfl (fun w' hw => refItem_w hw (x := (xs[i]'hlt)) (hxs _ (List.getElem_mem hlt)) (hA29.nowA (s := ⟨w, _⟩) Mono.byte hw) (hV30.nowA (s := ⟨w, _⟩) Mono_vouch hw)) (fun v => ?_)
     refine VL.at (fun w31 h1w => ?_)
     obtain ⟨p32, c33, rfl, hO35, hA34⟩ := h1w
     refine VL.toOwn hO35 ?_
     refine VL.move rfl ?_
     refine VL.extract rfl rfl ?_
     refine VL.extract rfl rfl ?_
     refine VL.assign rfl ?_
     refine VL.assign rfl ?_
     refine VL.nn ?_
     refine VC.seq ?_
     refine VC.sr ?_
     refine VL.move rfl ?_
     cases hs : (itemO (xs[i]'hlt)).isSome
     ·refine VL.not rfl ?_
      refine VL.nn ?_
      refine VC.yes rfl ?_
      refine VC.sr ?_
      refine VL.assign rfl ?_
      refine VL.assign rfl ?_
      refine VL.nn ?_
      refine VC.ret ?_
      refine VX.then_ret ?_
      refine VX.block_ret ?_
      refine VX.then_ret ?_
      refine VX.then_ret ?_
      refine VX.block_ret ?_
      refine VX.then_ret ?_
      refine VX.ret2 rfl rfl rfl (fun we hw => ?_)
      exact postO ((list_none (not_all hlt hs))) ⟨none, 0, rfl, hw.drop.subA, Arr.none⟩
     ·refine VL.not rfl ?_
      refine VL.nn ?_
      refine VC.no rfl ?_
      refine VC.skip ?_
      refine VX.next ?_
      refine VC.region ?_
      refine VL.move rfl ?_
      refine VL.move rfl ?_
      refine VL.lit el31 rfl rfl rfl (by simp [Value.cells]) (by intro u hu; simp [Value.cells] at hu; rcases hu with rfl <;> rfl) (fun g36 => ?_)
      refine VL.letRowS [((itemO ((xs[i]'hlt))).getD [])] rfl (fun w' hw => ⟨⟨_, _, rfl, (hA34.nowA (s := ⟨w31, _⟩) Mono.byte hw)⟩, trivial⟩) (fun w37 hO38 hA39 => ?_)
      refine VL.appends (R := bytesR) (hR := Mono.slice Mono.byte) (ys := (ls ++ itemsP (xs.take i))) (zs := [((itemO ((xs[i]'hlt))).getD [])]) 0 el31 rfl rfl rfl (fun _ h => h) rfl (fun _ hw => (hA39.nowA (s := ⟨w37, _⟩) (Mono.slice Mono.byte) hw)) bytesR_ok1 (by simp only [List.length_append, List.length_cons, List.length_nil, List.length_map]; omega) (fun g40 c41 => ?_) (by simp only [List.length_append, List.length_cons, List.length_nil, List.length_map]; omega)
      refine VL.set0 ?_
      refine VL.assign rfl ?_
      refine VL.nil ?_
      refine VX.block_normal ?_
      refine VX.next ?_
      refine VC.region ?_
      refine VL.move rfl ?_
      refine VL.add rfl rfl (by simp only [InR]; omega) ?_
      refine VL.assign rfl ?_
      refine VL.nil ?_
      have el : ls ++ itemsP (xs.take i) ++ [(itemO (xs[i]'hlt)).getD []] = ls ++ itemsP (xs.take (i + 1)) := by rw [← items_next hlt, List.append_assoc]
      refine VX.round (i + 1, some (g40, c41)) ⟨congrArg (fun l : List (List UInt8) => some (rowV g40 l.length c41)) el, rfl, rfl, trivial⟩ (fun w' h => ⟨⟨by omega, all_some hlt hall hs, fun h => by cases h⟩, ?_⟩) (by show xs.length - (i + 1) < xs.length - i; omega)
      show Own (⟨w, keys H⟩ :: S) (brow g40 c41 (ls ++ itemsP (xs.take (i + 1))) :: H) w'
      rw [← el]
      exact h.subA
    ·have hie : i = xs.length := by omega
     refine VL.nn ?_
     refine VC.no rfl ?_
     refine VC.exit ?_
     refine VX.then_exit ?_
     refine VX.then_exit ?_
     refine VX.block_here ?_
     refine VX.next ?_
     refine VC.seq ?_
     refine VC.letArr (fun wr hOr hAr => ?_)
     refine VC.region ?_
     refine VL.move rfl ?_
     refine VL.call Try.func31 rfl (by decide) rfl (fun w' hw => join_O (ls := (ls ++ itemsP (xs.take i))) hw (hAr.nowA (s := ⟨wr, _⟩) (Mono.slice Mono.byte) hw)) (fun v => ?_)
     refine VL.at (fun w42 h1w => ?_)
     obtain ⟨p43, c44, rfl, hO46, hA45⟩ := h1w
     refine VL.toOwn hO46 ?_
     refine VL.extract rfl rfl ?_
     refine VL.extract rfl rfl ?_
     refine VL.assign rfl ?_
     refine VL.assign rfl ?_
     refine VL.nn ?_
     refine VC.ret ?_
     refine VX.ret2 rfl rfl rfl (fun we hw => ?_)
     exact postO ((list_good h0 hie hall)) ⟨p43, c44, rfl, hw.subA, (hA45.nowA (s := ⟨w42, _⟩) Mono.byte hw)⟩

end Go.Proofs.Ytcfecmoagfgnaaa

/- The reference: bytes of replies. -/
namespace Go.Proofs.Ytcfecmoagfgnaaa
open Go.Vc Go.Pl

/-- Slices in a row, and how much room it has. -/
def capLF {K : List Nat} (ls : List (List UInt8)) (c : Nat) : SFact K := ⟨fun v w => ∃ p, v = .slice p ls.length c ∧ Arr 1 bytesR K w p ls c, false, fun _ _ w _ hs ⟨p, e, h⟩ => ⟨p, e, Arr.after (s := ⟨w, K⟩) h (Mono.slice Mono.byte) ⟨hs, fun _ hk => .inl hk⟩⟩⟩

theorem refRep_w {S : List Snap} {H : List Chunk} {w : World} (ho : Own S H w) {x : Rep} (hx : x.ok) {q : Option Addr} {d : Nat} (hV : Arr 433 itemR' (keys H) w q x.items d) : Calls Try.prog 85 #[.agg (cat (repV x q d)).toArray] w (RetO S H (repO x)) := by
 have hx1 := hx.seq
 have hx2 := hx.tag
 have hx3 := hx.mark
 refine enter (G := Own (⟨w, keys H⟩ :: S) H) ho.keep Try.func85 rfl Try.ntmps85 rfl ?_
 refine VC.sr ?_
 refine VL.box (L := repL) (ps := (repV (x) q d)) rfl rfl (repV_len hx) (fun g1 => ?_)
 refine VL.assign rfl ?_
 refine VL.assign rfl ?_
 refine VL.nn ?_
 refine VC.seq ?_
 refine VC.letCells 0 rfl (fun w2 hO4 hF3 => ?_)
 apply VC.anyTA 17 1019 (F := [eqF _, eqF _, eqF _, bytesF (be 2 (x.seq)), eqF _, eqF _, capF (be 1 (x.tag)) 1, eqF _, eqF _, eqF _, bytesF (be 2 (x.mark)), capLF [be 2 (x.seq), be 1 (x.tag), be 2 (x.mark)] 3, eqF _, eqF _, outF (joinO ([be 2 (x.seq), be 1 (x.tag), be 2 (x.mark)] ++ itemsP x.items) (itemsGood x.items)), bytesF ((joinO ([be 2 (x.seq), be 1 (x.tag), be 2 (x.mark)] ++ itemsP x.items) (itemsGood x.items)).getD []), eqF _]) [⟨[], [1]⟩, ⟨[(4, 0)], []⟩, ⟨[(5, 1)], []⟩, ⟨[(6, 2)], []⟩, ⟨[], [1]⟩, ⟨[(8, 4)], []⟩, ⟨[(9, 5)], []⟩, ⟨[], [1]⟩, ⟨[(11, 7)], []⟩, ⟨[(12, 8)], []⟩, ⟨[(13, 9)], []⟩, ⟨[(7, 3), (10, 6), (14, 10)], []⟩, ⟨[], [1]⟩, ⟨[(16, 12)], []⟩, ⟨[(15, 11), (17, 13)], []⟩, ⟨[(18, 14)], []⟩, ⟨[(18, 14)], []⟩] [(19, 15), (20, 16)] [0, 2, 3] rfl (by kernel_rfl) (by kernel_rfl) rfl rfl (by kernel_rfl) (by kernel_rfl) (by kernel_rfl) rfl ?obs1 ?end1
 case obs1 =>
  refine Obs.cons ?_ ?_
  ·refine obS (by kernel_rfl) rfl rfl (fun ph1 w1 hO1 => ?_)
   refine VL.fieldAddr rfl fo128_0 rfl ?_
   exact VL.finS hO1 rfl rfl
  refine Obs.cons ?_ ?_
  ·refine obS (by kernel_rfl) rfl rfl (fun ph1 w1 hO1 => ?_)
   rintro _ rfl
   refine VL.loadF (s := ⟨w2, _⟩) (v := .int .u16 (x.seq)) 0 rfl kd68 hF3 (fun _ e => e ▸ Still.ok hO1 (by repeat (first | exact List.mem_cons_self .. | apply List.mem_cons_of_mem))) rfl rfl ?_
   exact VL.finS hO1 rfl rfl
  refine Obs.cons ?_ ?_
  ·refine obS (by kernel_rfl) rfl rfl (fun ph1 w1 hO1 => ?_)
   rintro _ rfl
   refine VL.conv (by rw [Try.underlying68]; rfl) Try.underlying3 rfl (by simp only [InR]; omega) ?_
   exact VL.finS hO1 rfl rfl
  refine Obs.cons ?_ ?_
  ·refine ob (by kernel_rfl) rfl (by kernel_rfl) rfl (fun w1 hO1 => ?_)
   rintro _ rfl
   refine VL.toOwn hO1 ?_
   refine VL.call Try.func108 rfl (by decide) rfl (fun w' hw => num_S hw (x.seq) 2 (by omega) (by decide) (by decide) (fits2 (by omega))) (fun v => ?_)
   refine VL.at (fun w5 h1w => ?_)
   obtain ⟨p6, c7, rfl, hO9, hA8⟩ := h1w
   refine VL.toOwn hO9 ?_
   exact VL.finO rfl (fun _ h => h.subA) (fun _ h => ⟨_, _, rfl, (hA8.nowA (s := ⟨w5, _⟩) Mono.byte h)⟩)
  refine Obs.cons ?_ ?_
  ·refine obS (by kernel_rfl) rfl rfl (fun ph1 w1 hO1 => ?_)
   refine VL.fieldAddr rfl fo128_1 rfl ?_
   exact VL.finS hO1 rfl rfl
  refine Obs.cons ?_ ?_
  ·refine obS (by kernel_rfl) rfl rfl (fun ph1 w1 hO1 => ?_)
   rintro _ rfl
   refine VL.loadF (s := ⟨w2, _⟩) (v := .int .u8 (x.tag)) 1 rfl kd5 hF3 (fun _ e => e ▸ Still.ok hO1 (by repeat (first | exact List.mem_cons_self .. | apply List.mem_cons_of_mem))) rfl rfl ?_
   exact VL.finS hO1 rfl rfl
  refine Obs.cons ?_ ?_
  ·refine ob (by kernel_rfl) rfl (by kernel_rfl) rfl (fun w1 hO1 => ?_)
   rintro _ rfl
   refine VL.toOwn hO1 ?_
   refine VL.litByte (m := x.tag) el24 rfl (by have hm := hx.tag; omega) (fun g10 w11 hO12 hA13 => ?_)
   exact VL.finO rfl (fun _ h => h.subA) (fun _ h => ⟨_, rfl, (hA13.nowA (s := ⟨w11, _⟩) Mono.byte h)⟩)
  refine Obs.cons ?_ ?_
  ·refine obS (by kernel_rfl) rfl rfl (fun ph1 w1 hO1 => ?_)
   refine VL.fieldAddr rfl fo128_2 rfl ?_
   exact VL.finS hO1 rfl rfl
  refine Obs.cons ?_ ?_
  ·refine obS (by kernel_rfl) rfl rfl (fun ph1 w1 hO1 => ?_)
   rintro _ rfl
   refine VL.loadF (s := ⟨w2, _⟩) (v := .int .u16 (x.mark)) 2 rfl kd68 hF3 (fun _ e => e ▸ Still.ok hO1 (by repeat (first | exact List.mem_cons_self .. | apply List.mem_cons_of_mem))) rfl rfl ?_
   exact VL.finS hO1 rfl rfl
  refine Obs.cons ?_ ?_
  ·refine obS (by kernel_rfl) rfl rfl (fun ph1 w1 hO1 => ?_)
   rintro _ rfl
   refine VL.conv (by rw [Try.underlying68]; rfl) Try.underlying3 rfl (by simp only [InR]; omega) ?_
   exact VL.finS hO1 rfl rfl
  refine Obs.cons ?_ ?_
  ·refine ob (by kernel_rfl) rfl (by kernel_rfl) rfl (fun w1 hO1 => ?_)
   rintro _ rfl
   refine VL.toOwn hO1 ?_
   refine VL.call Try.func108 rfl (by decide) rfl (fun w' hw => num_S hw (x.mark) 2 (by omega) (by decide) (by decide) (fits2 (by omega))) (fun v => ?_)
   refine VL.at (fun w14 h1w => ?_)
   obtain ⟨p15, c16, rfl, hO18, hA17⟩ := h1w
   refine VL.toOwn hO18 ?_
   exact VL.finO rfl (fun _ h => h.subA) (fun _ h => ⟨_, _, rfl, (hA17.nowA (s := ⟨w14, _⟩) Mono.byte h)⟩)
  refine Obs.cons ?_ ?_
  ·refine ob (by kernel_rfl) rfl (by kernel_rfl) rfl (fun w1 hO1 => ?_)
   rintro _ ⟨p1_3, c1_3, rfl, hA1_3⟩ _ ⟨p1_6, rfl, hA1_6⟩ _ ⟨p1_10, c1_10, rfl, hA1_10⟩
   refine VL.toOwn hO1 ?_
   refine VL.lit el31 rfl rfl rfl (by simp [Value.cells]) (by intro u hu; simp [Value.cells] at hu; rcases hu with rfl | rfl | rfl <;> rfl) (fun g19 => ?_)
   refine VL.letRowS [be 2 (x.seq), be 1 (x.tag), be 2 (x.mark)] rfl (fun w' hw => ⟨⟨_, _, rfl, (hA1_3.nowA (s := ⟨w1, _⟩) Mono.byte hw)⟩, ⟨⟨_, _, rfl, (hA1_6.nowA (s := ⟨w1, _⟩) Mono.byte hw)⟩, ⟨⟨_, _, rfl, (hA1_10.nowA (s := ⟨w1, _⟩) Mono.byte hw)⟩, trivial⟩⟩⟩) (fun w20 hO21 hA22 => ?_)
   exact VL.finO rfl (fun _ h => h.subA) (fun _ h => ⟨_, rfl, (hA22.nowA (s := ⟨w20, _⟩) (Mono.slice Mono.byte) h)⟩)
  refine Obs.cons ?_ ?_
  ·refine obS (by kernel_rfl) rfl rfl (fun ph1 w1 hO1 => ?_)
   refine VL.fieldAddr rfl fo128_3 rfl ?_
   exact VL.finS hO1 rfl rfl
  refine Obs.cons ?_ ?_
  ·refine obS (by kernel_rfl) rfl rfl (fun ph1 w1 hO1 => ?_)
   rintro _ rfl
   refine VL.loadF (s := ⟨w2, _⟩) (v := .slice q (x.items).length d) 3 rfl kd126 hF3 (fun _ e => e ▸ Still.ok hO1 (by repeat (first | exact List.mem_cons_self .. | apply List.mem_cons_of_mem))) rfl rfl ?_
   exact VL.finS hO1 rfl rfl
  refine Obs.cons ?_ ?_
  ·refine ob (by kernel_rfl) rfl (by kernel_rfl) rfl (fun w1 hO1 => ?_)
   rintro _ ⟨p1_11, rfl, hA1_11⟩ _ rfl
   refine VL.toOwn hO1 ?_
   refine VL.call Try.func147 rfl (by decide) rfl (fun w' hw => refItems_f (ls := [be 2 (x.seq), be 1 (x.tag), be 2 (x.mark)]) hw (hA1_11.nowA (s := ⟨w1, _⟩) (Mono.slice Mono.byte) hw) (by simp) (by simp only [List.length_append, List.length_cons, List.length_nil, List.length_map]; omega) hx.items (hV.nowA (s := ⟨w, _⟩) Mono_item hw)) (fun v => ?_)
   refine VL.at (fun w23 h1w => ?_)
   obtain ⟨p24, c25, rfl, hO27, hA26⟩ := h1w
   refine VL.toOwn hO27 ?_
   exact VL.finO rfl (fun _ h => h.subA) (fun _ h => ⟨_, _, rfl, (hA26.nowA (s := ⟨w23, _⟩) Mono.byte h)⟩)
  refine Obs.cons ?_ ?_
  ·refine obS (by kernel_rfl) rfl rfl (fun ph1 w1 hO1 => ?_)
   rintro _ ⟨p1_14, c1_14, rfl, hA1_14⟩
   refine VL.extract rfl rfl ?_
   exact VL.finS hO1 rfl ⟨_, _, rfl, hA1_14⟩
  refine Obs.cons ?_ ?_
  ·refine obS (by kernel_rfl) rfl rfl (fun ph1 w1 hO1 => ?_)
   rintro _ ⟨p1_14, c1_14, rfl, hA1_14⟩
   refine VL.extract rfl rfl ?_
   exact VL.finS hO1 rfl rfl
  exact Obs.nil
 case end1 =>
  intro w1 hO1
  rintro _ ⟨pz, cz, rfl, hz⟩ _ rfl
  refine VL.toOwn hO1 ?_
  refine VL.assign rfl ?_
  refine VL.assign rfl ?_
  refine VL.nn ?_
  refine VC.ret ?_
  refine VX.ret2 rfl rfl rfl (fun we hw => ?_)
  exact postO ((show joinO (repP x ++ itemsP x.items) (itemsGood x.items) = repO x from rfl)) ⟨pz, cz, rfl, hw.subA, (hz.nowA (s := ⟨w1, _⟩) Mono.byte hw)⟩

theorem refTrn_w {S : List Snap} {H : List Chunk} {w : World} (ho : Own S H w) {x : Trn} (hx : x.ok) {q : Option Addr} {d : Nat} (hV : Arr 433 itemR' (keys H) w q x.items d) : Calls Try.prog 87 #[.agg (cat (trnV x q d)).toArray] w (RetO S H (trnO x)) := by
 have hx1 := hx.seq
 refine enter (G := Own (⟨w, keys H⟩ :: S) H) ho.keep Try.func87 rfl Try.ntmps87 rfl ?_
 refine VC.sr ?_
 refine VL.box (L := trnL) (ps := (trnV (x) q d)) rfl rfl (trnV_len hx) (fun g1 => ?_)
 refine VL.assign rfl ?_
 refine VL.assign rfl ?_
 refine VL.nn ?_
 refine VC.seq ?_
 refine VC.letCells 0 rfl (fun w2 hO4 hF3 => ?_)
 apply VC.anyTA 10 1012 (F := [eqF _, eqF _, eqF _, bytesF (be 2 (x.seq)), capLF [be 2 (x.seq)] 1, eqF _, eqF _, outF (joinO ([be 2 (x.seq)] ++ itemsP x.items) (itemsGood x.items)), bytesF ((joinO ([be 2 (x.seq)] ++ itemsP x.items) (itemsGood x.items)).getD []), eqF _]) [⟨[], [1]⟩, ⟨[(4, 0)], []⟩, ⟨[(5, 1)], []⟩, ⟨[(6, 2)], []⟩, ⟨[(7, 3)], []⟩, ⟨[], [1]⟩, ⟨[(9, 5)], []⟩, ⟨[(8, 4), (10, 6)], []⟩, ⟨[(11, 7)], []⟩, ⟨[(11, 7)], []⟩] [(12, 8), (13, 9)] [0, 2, 3] rfl (by kernel_rfl) (by kernel_rfl) rfl rfl (by kernel_rfl) (by kernel_rfl) (by kernel_rfl) rfl ?obs1 ?end1
 case obs1 =>
  refine Obs.cons ?_ ?_
  ·refine obS (by kernel_rfl) rfl rfl (fun ph1 w1 hO1 => ?_)
   refine VL.fieldAddr rfl fo132_0 rfl ?_
   exact VL.finS hO1 rfl rfl
  refine Obs.cons ?_ ?_
  ·refine obS (by kernel_rfl) rfl rfl (fun ph1 w1 hO1 => ?_)
   rintro _ rfl
   refine VL.loadF (s := ⟨w2, _⟩) (v := .int .u16 (x.seq)) 0 rfl kd68 hF3 (fun _ e => e ▸ Still.ok hO1 (by repeat (first | exact List.mem_cons_self .. | apply List.mem_cons_of_mem))) rfl rfl ?_
   exact VL.finS hO1 rfl rfl
  refine Obs.cons ?_ ?_
  ·refine obS (by kernel_rfl) rfl rfl (fun ph1 w1 hO1 => ?_)
   rintro _ rfl
   refine VL.conv (by rw [Try.underlying68]; rfl) Try.underlying3 rfl (by simp only [InR]; omega) ?_
   exact VL.finS hO1 rfl rfl
  refine Obs.cons ?_ ?_
  ·refine ob (by kernel_rfl) rfl (by kernel_rfl) rfl (fun w1 hO1 => ?_)
   rintro _ rfl
   refine VL.toOwn hO1 ?_
   refine VL.call Try.func108 rfl (by decide) rfl (fun w' hw => num_S hw (x.seq) 2 (by omega) (by decide) (by decide) (fits2 (by omega))) (fun v => ?_)
   refine VL.at (fun w5 h1w => ?_)
   obtain ⟨p6, c7, rfl, hO9, hA8⟩ := h1w
   refine VL.toOwn hO9 ?_
   exact VL.finO rfl (fun _ h => h.subA) (fun _ h => ⟨_, _, rfl, (hA8.nowA (s := ⟨w5, _⟩) Mono.byte h)⟩)
  refine Obs.cons ?_ ?_
  ·refine ob (by kernel_rfl) rfl (by kernel_rfl) rfl (fun w1 hO1 => ?_)
   rintro _ ⟨p1_3, c1_3, rfl, hA1_3⟩
   refine VL.toOwn hO1 ?_
   refine VL.lit el31 rfl rfl rfl (by simp [Value.cells]) (by intro u hu; simp [Value.cells] at hu; rcases hu with rfl <;> rfl) (fun g10 => ?_)
   refine VL.letRowS [be 2 (x.seq)] rfl (fun w' hw => ⟨⟨_, _, rfl, (hA1_3.nowA (s := ⟨w1, _⟩) Mono.byte hw)⟩, trivial⟩) (fun w11 hO12 hA13 => ?_)
   exact VL.finO rfl (fun _ h => h.subA) (fun _ h => ⟨_, rfl, (hA13.nowA (s := ⟨w11, _⟩) (Mono.slice Mono.byte) h)⟩)
  refine Obs.cons ?_ ?_
  ·refine obS (by kernel_rfl) rfl rfl (fun ph1 w1 hO1 => ?_)
   refine VL.fieldAddr rfl fo132_1 rfl ?_
   exact VL.finS hO1 rfl rfl
  refine Obs.cons ?_ ?_
  ·refine obS (by kernel_rfl) rfl rfl (fun ph1 w1 hO1 => ?_)
   rintro _ rfl
   refine VL.loadF (s := ⟨w2, _⟩) (v := .slice q (x.items).length d) 1 rfl kd126 hF3 (fun _ e => e ▸ Still.ok hO1 (by repeat (first | exact List.mem_cons_self .. | apply List.mem_cons_of_mem))) rfl rfl ?_
   exact VL.finS hO1 rfl rfl
  refine Obs.cons ?_ ?_
  ·refine ob (by kernel_rfl) rfl (by kernel_rfl) rfl (fun w1 hO1 => ?_)
   rintro _ ⟨p1_4, rfl, hA1_4⟩ _ rfl
   refine VL.toOwn hO1 ?_
   refine VL.call Try.func147 rfl (by decide) rfl (fun w' hw => refItems_f (ls := [be 2 (x.seq)]) hw (hA1_4.nowA (s := ⟨w1, _⟩) (Mono.slice Mono.byte) hw) (by simp) (by simp only [List.length_append, List.length_cons, List.length_nil, List.length_map]; omega) hx.items (hV.nowA (s := ⟨w, _⟩) Mono_item hw)) (fun v => ?_)
   refine VL.at (fun w14 h1w => ?_)
   obtain ⟨p15, c16, rfl, hO18, hA17⟩ := h1w
   refine VL.toOwn hO18 ?_
   exact VL.finO rfl (fun _ h => h.subA) (fun _ h => ⟨_, _, rfl, (hA17.nowA (s := ⟨w14, _⟩) Mono.byte h)⟩)
  refine Obs.cons ?_ ?_
  ·refine obS (by kernel_rfl) rfl rfl (fun ph1 w1 hO1 => ?_)
   rintro _ ⟨p1_7, c1_7, rfl, hA1_7⟩
   refine VL.extract rfl rfl ?_
   exact VL.finS hO1 rfl ⟨_, _, rfl, hA1_7⟩
  refine Obs.cons ?_ ?_
  ·refine obS (by kernel_rfl) rfl rfl (fun ph1 w1 hO1 => ?_)
   rintro _ ⟨p1_7, c1_7, rfl, hA1_7⟩
   refine VL.extract rfl rfl ?_
   exact VL.finS hO1 rfl rfl
  exact Obs.nil
 case end1 =>
  intro w1 hO1
  rintro _ ⟨pz, cz, rfl, hz⟩ _ rfl
  refine VL.toOwn hO1 ?_
  refine VL.assign rfl ?_
  refine VL.assign rfl ?_
  refine VL.nn ?_
  refine VC.ret ?_
  refine VX.ret2 rfl rfl rfl (fun we hw => ?_)
  exact postO ((show joinO ([be 2 x.seq] ++ itemsP x.items) (itemsGood x.items) = trnO x from rfl)) ⟨pz, cz, rfl, hw.subA, (hz.nowA (s := ⟨w1, _⟩) Mono.byte hw)⟩

end Go.Proofs.Ytcfecmoagfgnaaa

