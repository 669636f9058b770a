/- The statement BagPlays is proved, for every input: part 14 of 19 of the texts that it needs. -/
import Derived.Test.YtcfecmoagfgnaaaMbplAM
/- The reference: bytes of packets; one against the other. -/
namespace Go.Proofs.Ytcfecmoagfgnaaa
open Go.Vc Go.Pl

theorem brow0 {S : List Snap} {H : List Chunk} {w : World} (h : Own S H w) : Own S (brow none 0 ([] : List (List UInt8)) :: H) w := Own.arow_nil (Mono.slice Mono.byte) 24 1 h
theorem oall_some {xs : List Object} {i : Nat} (h : i < xs.length) (h1 : ((xs.take i).all fun x => (objectO x).isSome) = true) (h2 : (objectO (xs[i]'h)).isSome = true) : ((xs.take (i + 1)).all fun x => (objectO x).isSome) = true := by
 rw [List.take_succ_eq_append_getElem h, List.all_append, h1]
 simp [h2]
theorem ochain_good {xs : List Object} {i : Nat} (h0 : xs.length ≤ 4) (hie : i = xs.length) (hall : ((xs.take i).all fun x => (objectO x).isSome) = true) : joinO (chainP (xs.take i)) true = chainO xs := by
 rw [hie, List.take_length] at hall ⊢
 have hg : chainGood xs = true := by unfold chainGood; rw [decide_eq_true h0, Bool.true_and]; exact hall
 unfold chainO; rw [hg]
theorem ochain_bad {xs : List Object} {i : Nat} (h : i < xs.length) (h2 : (objectO (xs[i]'h)).isSome = false) : none = chainO xs := by
 have hg : chainGood xs = false := by
  unfold chainGood
  rw [Bool.and_eq_false_iff]
  right
  rw [List.all_eq_false]
  exact ⟨xs[i]'h, List.getElem_mem h, by rw [h2]; decide⟩
 unfold chainO; rw [hg]; exact none_joinO _
theorem pktO_bad {x : Pkt} (h : (chainO x.chain).isSome = false) : none = pktO x := by unfold pktO; rw [h]; exact none_joinO _
theorem pktO_good {x : Pkt} (h : (chainO x.chain).isSome = true) (hk : kindIn x.kind = true) : joinO (pktP x) true = pktO x := by unfold pktO; rw [h, hk]; rfl
theorem refChain_w {S : List Snap} {H : List Chunk} {w : World} (ho : Own S H w) {xs : List Object} (hxs : ∀ x ∈ xs, x.ok) {p : Option Addr} {c : Nat} (hX : Arr 101 objectR' (keys H) w p xs c) : Calls Try.prog 149 #[.slice p xs.length c] w (RetO S H (chainO xs)) := by
 have hsm := hX.small
 refine enter (G := Own (⟨w, keys H⟩ :: S) H) ho.keep Try.func149 rfl Try.ntmps149 rfl ?_
 refine VC.sr ?_
 refine VL.assign rfl ?_
 refine VL.assign rfl ?_
 refine VL.nn ?_
 refine VC.seq ?_
 refine VC.sr ?_
 refine VL.move rfl ?_
 refine VL.len Try.underlying116 rfl rfl ?_
 refine VL.gtr rfl rfl ?_
 refine VL.case (fun h0 => ?_) (fun h0 => ?_)
 ·have h0 : ¬ xs.length ≤ 4 := by omega
  refine VL.nn ?_
  refine VC.yes rfl ?_
  refine VC.sr ?_
  refine VL.assign rfl ?_
  refine VL.assign rfl ?_
  refine VL.nn ?_
  refine VC.ret ?_
  refine VX.then_ret ?_
  refine VX.ret2 rfl rfl rfl (fun we hw => ?_)
  exact postO ((chainO_none h0)) ⟨none, 0, rfl, hw.subA, Arr.none⟩
 ·have h0 : xs.length ≤ 4 := by omega
  refine VL.nn ?_
  refine VC.no rfl ?_
  refine VC.skip ?_
  refine VX.next ?_
  refine VC.sr ?_
  refine VL.assign rfl ?_
  refine VL.nn ?_
  refine VC.seq ?_
  refine VC.sr ?_
  refine VL.assign rfl ?_
  refine VL.nn ?_
  refine VC.block ?_
  refine VC.turn (G' := Own _ (brow none 0 (([] : List (List UInt8))) :: H)) (fun w' h => brow0 h) ?_
  refine VC.loop (X := Nat × Option Nat × Nat) (fun (i, gq, cq) => [(0, .slice p xs.length c), (4, rowV gq (chainP (xs.take i)).length cq), (5, .int .i64 (i : Int))]) (fun (i, gq, cq) w' => (i ≤ xs.length ∧ ((xs.take i).all fun x => (objectO x).isSome) = true) ∧ Own (⟨w, keys H⟩ :: S) (brow gq cq ((chainP (xs.take i))) :: H) w') (fun (i, _) => xs.length - i) (0, none, 0) ⟨rfl, rfl, rfl, trivial⟩ (fun w' h => ⟨⟨Nat.zero_le _, rfl⟩, by have e1 : chainP (xs.take 0) = [] := rfl; rw [e1]; exact h.subA⟩) (fun (i, gq, cq) => VC.fact fun ⟨hi, hall⟩ => ?_)
  ·have htk : (chainP (List.take i xs)).length ≤ i := by rw [chainP_length]; exact List.length_take_le _ _
   refine VC.seq ?_
   refine VC.sr ?_
   refine VL.move rfl ?_
   refine VL.move rfl ?_
   refine VL.len Try.underlying116 rfl rfl ?_
   refine VL.lss rfl rfl ?_
   refine VL.case (fun h5 => ?_) (fun h5 => ?_)
   ·have hlt : i < xs.length := by omega
    refine VL.nn ?_
    refine VC.yes rfl ?_
    refine VC.skip ?_
    refine VX.next ?_
    refine VC.seq ?_
    refine VC.block ?_
    refine VC.sr ?_
    refine VL.move rfl ?_
    refine VL.move rfl ?_
    refine VL.index (xs := xs) rfl rfl Try.underlying116 sz116 hX (by omega) (by have hi := hlt; omega) ?_
    refine VL.elems (s := ⟨w, _⟩) (m := 101) (i) 0 rfl kd85 (fun _ h => h) (by repeat (first | exact List.mem_cons_self .. | apply List.mem_cons_of_mem)) hX (List.getElem?_eq_getElem hlt) (by simp) (by decide) (fun vs hl hr => ?_)
    obtain ⟨q3, d4, hy2, rfl, hV5⟩ := hr
    refine VL.newv (v' := .agg (cat (objectV (xs[i]'hlt) q3 d4)).toArray) (by rw [List.drop_zero, List.take_of_length_le (by rw [hl]; decide)]) ?_
    refine VL.call Try.func66 rfl (by decide) rfl (fun w' hw => refObject_w hw (x := (xs[i]'hlt)) (hxs _ (List.getElem_mem hlt)) (hV5.nowA (s := ⟨w, _⟩) Mono_vouch hw)) (fun v => ?_)
    refine VL.at (fun w6 h1w => ?_)
    obtain ⟨p7, c8, rfl, hO10, hA9⟩ := h1w
    refine VL.toOwn hO10 ?_
    refine VL.move rfl ?_
    refine VL.extract rfl rfl ?_
    refine VL.extract rfl rfl ?_
    refine VL.assign rfl ?_
    refine VL.assign rfl ?_
    refine VL.nn ?_
    refine VC.seq ?_
    refine VC.sr ?_
    refine VL.move rfl ?_
    cases hs : (objectO (xs[i]'hlt)).isSome
    ·refine VL.not rfl ?_
     refine VL.nn ?_
     refine VC.yes rfl ?_
     refine VC.sr ?_
     refine VL.assign rfl ?_
     refine VL.assign rfl ?_
     refine VL.nn ?_
     refine VC.ret ?_
     refine VX.then_ret ?_
     refine VX.block_ret ?_
     refine VX.then_ret ?_
     refine VX.then_ret ?_
     refine VX.block_ret ?_
     refine VX.then_ret ?_
     refine VX.ret2 rfl rfl rfl (fun we hw => ?_)
     exact postO ((ochain_bad hlt hs)) ⟨none, 0, rfl, hw.drop.subA, Arr.none⟩
    ·refine VL.not rfl ?_
     refine VL.nn ?_
     refine VC.no rfl ?_
     refine VC.skip ?_
     refine VX.next ?_
     refine VC.region ?_
     refine VL.move rfl ?_
     refine VL.move rfl ?_
     refine VL.lit el31 rfl rfl rfl (by simp [Value.cells]) (by intro u hu; simp [Value.cells] at hu; rcases hu with rfl <;> rfl) (fun g11 => ?_)
     refine VL.letRowS [((objectO ((xs[i]'hlt))).getD [])] rfl (fun w' hw => ⟨⟨_, _, rfl, (hA9.nowA (s := ⟨w6, _⟩) Mono.byte hw)⟩, trivial⟩) (fun w12 hO13 hA14 => ?_)
     refine VL.appends (R := bytesR) (hR := Mono.slice Mono.byte) (ys := (chainP (xs.take i))) (zs := [((objectO ((xs[i]'hlt))).getD [])]) 0 el31 rfl rfl rfl (fun _ h => h) rfl (fun _ hw => (hA14.nowA (s := ⟨w12, _⟩) (Mono.slice Mono.byte) hw)) bytesR_ok1 (by simp only [List.length_append, List.length_cons, List.length_nil, List.length_map]; omega) (fun g15 c16 => ?_) (by simp only [List.length_append, List.length_cons, List.length_nil, List.length_map]; omega)
     refine VL.set0 ?_
     refine VL.assign rfl ?_
     refine VL.nil ?_
     refine VX.block_normal ?_
     refine VX.next ?_
     refine VC.region ?_
     refine VL.move rfl ?_
     refine VL.add rfl rfl (by simp only [InR]; omega) ?_
     refine VL.assign rfl ?_
     refine VL.nil ?_
     have el : chainP (xs.take i) ++ [(objectO (xs[i]'hlt)).getD []] = chainP (xs.take (i + 1)) := chain_next hlt
     refine VX.round (i + 1, g15, c16) ⟨rfl, congrArg (fun l : List (List UInt8) => some (rowV g15 l.length c16)) el, rfl, trivial⟩ (fun w' h => ⟨⟨by omega, oall_some hlt hall hs⟩, ?_⟩) (by show xs.length - (i + 1) < xs.length - i; omega)
     rw [← el]
     exact h.subA
   ·have hie : i = xs.length := by omega
    refine VL.nn ?_
    refine VC.no rfl ?_
    refine VC.exit ?_
    refine VX.then_exit ?_
    refine VX.then_exit ?_
    refine VX.block_here ?_
    refine VX.next ?_
    refine VC.seq ?_
    refine VC.letArr (fun wr hOr hAr => ?_)
    refine VC.region ?_
    refine VL.move rfl ?_
    refine VL.call Try.func31 rfl (by decide) rfl (fun w' hw => join_O (ls := (chainP (xs.take i))) hw (hAr.nowA (s := ⟨wr, _⟩) (Mono.slice Mono.byte) hw)) (fun v => ?_)
    refine VL.at (fun w17 h1w => ?_)
    obtain ⟨p18, c19, rfl, hO21, hA20⟩ := h1w
    refine VL.toOwn hO21 ?_
    refine VL.extract rfl rfl ?_
    refine VL.extract rfl rfl ?_
    refine VL.assign rfl ?_
    refine VL.assign rfl ?_
    refine VL.nn ?_
    refine VC.ret ?_
    refine VX.ret2 rfl rfl rfl (fun we hw => ?_)
    exact postO ((ochain_good h0 hie hall)) ⟨p18, c19, rfl, hw.subA, (hA20.nowA (s := ⟨w17, _⟩) Mono.byte hw)⟩

theorem refPkt_w {S : List Snap} {H : List Chunk} {w : World} (ho : Own S H w) {x : Pkt} (hx : x.ok) {q : Option Addr} {d : Nat} (hV : Arr 101 objectR' (keys H) w q x.chain d) {p : Option Addr} {c : Nat} (hA : Bytes (keys H) w p x.body c) : Calls Try.prog 91 #[.agg (cat (pktV x q d p c)).toArray] w (RetO S H (pktO x)) := by
 have hx1 := hx.src
 have hx2 := hx.dst
 have hx3 := hx.kind
 refine enter (G := Own (⟨w, keys H⟩ :: S) H) ho.keep Try.func91 rfl Try.ntmps91 rfl ?_
 refine VC.sr ?_
 refine VL.box (L := pktL) (ps := (pktV (x) q d p c)) rfl rfl (pktV_len hx) (fun g1 => ?_)
 refine VL.assign rfl ?_
 refine VL.assign rfl ?_
 refine VL.nn ?_
 refine VC.sr ?_
 refine VL.fieldAddr rfl fo118_3 rfl ?_
 refine VL.load (v := .slice q (x.chain).length d) 0 3 rfl kd116 (fun _ h => h) rfl rfl rfl ?_
 refine VL.call Try.func149 rfl (by decide) rfl (fun w' hw => refChain_w hw hx.chain (hV.nowA (s := ⟨w, _⟩) Mono_object hw)) (fun v => ?_)
 refine VL.at (fun w2 h1w => ?_)
 obtain ⟨p3, c4, rfl, hO6, hA5⟩ := h1w
 refine VL.toOwn hO6 ?_
 refine VL.move rfl ?_
 refine VL.extract rfl rfl ?_
 refine VL.extract rfl rfl ?_
 refine VL.assign rfl ?_
 refine VL.assign rfl ?_
 refine VL.nn ?_
 refine VC.seq ?_
 refine VC.sr ?_
 refine VL.move rfl ?_
 cases hs : (chainO x.chain).isSome
 ·refine VL.not rfl ?_
  refine VL.move rfl ?_
  refine VL.pass rfl rfl rfl rfl rfl ?_
  refine VL.pass rfl rfl rfl rfl rfl ?_
  refine VL.pass rfl rfl rfl rfl rfl ?_
  refine VL.pick_t rfl rfl ?_
  refine VL.move rfl ?_
  refine VL.pass rfl rfl rfl rfl rfl ?_
  refine VL.pass rfl rfl rfl rfl rfl ?_
  refine VL.pass rfl rfl rfl rfl rfl ?_
  refine VL.pick_t rfl rfl ?_
  refine VL.nn ?_
  refine VC.yes rfl ?_
  refine VC.sr ?_
  refine VL.assign rfl ?_
  refine VL.assign rfl ?_
  refine VL.nn ?_
  refine VC.ret ?_
  refine VX.then_ret ?_
  refine VX.ret2 rfl rfl rfl (fun we hw => ?_)
  exact postO ((pktO_bad hs)) ⟨none, 0, rfl, hw.drop.subA, Arr.none⟩
 ·refine VL.not rfl ?_
  refine VL.move rfl ?_
  refine VL.go rfl rfl rfl ?_
  refine VL.fieldAddr rfl fo118_2 rfl ?_
  refine VL.go rfl rfl rfl ?_
  refine VL.load (v := .int .u8 (x.kind)) 0 2 rfl kd5 (fun _ h => h) rfl rfl rfl ?_
  refine VL.go rfl rfl rfl ?_
  refine VL.lss rfl rfl ?_
  refine VL.case (fun h2_5 => ?_) (fun h2_5 => ?_)
  ·have h2_5 : x.kind < 1 := by have h : ((x.kind : Nat) : Int) < 1 := h2_5; omega
   have hkin : kindIn x.kind = false := by unfold kindIn; simp; omega
   refine VL.pick_f rfl rfl ?_
   refine VL.move rfl ?_
   refine VL.pass rfl rfl rfl rfl rfl ?_
   refine VL.pass rfl rfl rfl rfl rfl ?_
   refine VL.pass rfl rfl rfl rfl rfl ?_
   refine VL.pick_t rfl rfl ?_
   refine VL.nn ?_
   refine VC.yes rfl ?_
   refine VC.sr ?_
   refine VL.assign rfl ?_
   refine VL.assign rfl ?_
   refine VL.nn ?_
   refine VC.ret ?_
   refine VX.then_ret ?_
   refine VX.ret2 rfl rfl rfl (fun we hw => ?_)
   exact postO ((pktO_none hkin)) ⟨none, 0, rfl, hw.drop.subA, Arr.none⟩
  ·have h2_5 : 1 ≤ x.kind := by have h : ¬ ((x.kind : Nat) : Int) < 1 := h2_5; omega
   refine VL.pick_f rfl rfl ?_
   refine VL.move rfl ?_
   refine VL.go rfl rfl rfl ?_
   refine VL.fieldAddr rfl fo118_2 rfl ?_
   refine VL.go rfl rfl rfl ?_
   refine VL.load (v := .int .u8 (x.kind)) 0 2 rfl kd5 (fun _ h => h) rfl rfl rfl ?_
   refine VL.go rfl rfl rfl ?_
   refine VL.gtr rfl rfl ?_
   refine VL.case (fun h2_10 => ?_) (fun h2_10 => ?_)
   ·have h2_10 : 4 < x.kind := by have h : (4 : Int) < ((x.kind : Nat) : Int) := h2_10; omega
    have hkin : kindIn x.kind = false := by unfold kindIn; simp; omega
    refine VL.pick_f rfl rfl ?_
    refine VL.nn ?_
    refine VC.yes rfl ?_
    refine VC.sr ?_
    refine VL.assign rfl ?_
    refine VL.assign rfl ?_
    refine VL.nn ?_
    refine VC.ret ?_
    refine VX.then_ret ?_
    refine VX.ret2 rfl rfl rfl (fun we hw => ?_)
    exact postO ((pktO_none hkin)) ⟨none, 0, rfl, hw.drop.subA, Arr.none⟩
   ·have h2_10 : x.kind ≤ 4 := by have h : ¬ (4 : Int) < ((x.kind : Nat) : Int) := h2_10; omega
    refine VL.pick_f rfl rfl ?_
    refine VL.nn ?_
    refine VC.no rfl ?_
    refine VC.skip ?_
    refine VX.next ?_
    refine VC.seq ?_
    refine VC.letCells 0 rfl (fun w7 hO9 hF8 => ?_)
    apply VC.anyTA 18 1020 (F := [eqF _, eqF _, capF (be 1 (x.src)) 1, eqF _, eqF _, capF (be 1 (x.dst)) 1, eqF _, eqF _, capF (be 1 (x.kind)) 1, eqF _, eqF _, eqF _, eqF _, eqF _, arrF 1 bytesR (Mono.slice Mono.byte) ([be 1 (x.src), be 1 (x.dst), be 1 (x.kind), ((chainO x.chain).getD []), x.body, x.sig]), outF (joinO [be 1 (x.src), be 1 (x.dst), be 1 (x.kind), ((chainO x.chain).getD []), x.body, x.sig] true), bytesF ((joinO [be 1 (x.src), be 1 (x.dst), be 1 (x.kind), ((chainO x.chain).getD []), x.body, x.sig] true).getD []), eqF _]) [⟨[], [1]⟩, ⟨[(24, 0)], []⟩, ⟨[(25, 1)], []⟩, ⟨[], [1]⟩, ⟨[(27, 3)], []⟩, ⟨[(28, 4)], []⟩, ⟨[], [1]⟩, ⟨[(30, 6)], []⟩, ⟨[(31, 7)], []⟩, ⟨[], [4]⟩, ⟨[], [1]⟩, ⟨[(34, 10)], []⟩, ⟨[], [1]⟩, ⟨[(36, 12)], []⟩, ⟨[(26, 2), (29, 5), (32, 8), (33, 9), (35, 11), (37, 13)], []⟩, ⟨[(38, 14)], []⟩, ⟨[(39, 15)], []⟩, ⟨[(39, 15)], []⟩] [(40, 16), (41, 17)] [0, 1, 2, 3, 5, 6, 7, 8, 9, 10, 11, 12, 13, 14, 15, 16, 17, 18, 19, 20, 21, 22, 23] rfl (by kernel_rfl) (by kernel_rfl) rfl rfl (by kernel_rfl) (by kernel_rfl) (by kernel_rfl) rfl ?obs4 ?end4
    case obs4 =>
     refine Obs.cons ?_ ?_
     ·refine obS (by kernel_rfl) rfl rfl (fun ph4 w4 hO4 => ?_)
      refine VL.fieldAddr rfl fo118_0 rfl ?_
      exact VL.finS hO4 rfl rfl
     refine Obs.cons ?_ ?_
     ·refine obS (by kernel_rfl) rfl rfl (fun ph4 w4 hO4 => ?_)
      rintro _ rfl
      refine VL.loadF (s := ⟨w7, _⟩) (v := .int .u8 (x.src)) 0 rfl kd5 hF8 (fun _ e => e ▸ Still.ok hO4 (by repeat (first | exact List.mem_cons_self .. | apply List.mem_cons_of_mem))) rfl rfl ?_
      exact VL.finS hO4 rfl rfl
     refine Obs.cons ?_ ?_
     ·refine ob (by kernel_rfl) rfl (by kernel_rfl) rfl (fun w4 hO4 => ?_)
      rintro _ rfl
      refine VL.toOwn hO4 ?_
      refine VL.litByte (m := x.src) el24 rfl (by have hm := hx.src; omega) (fun g10 w11 hO12 hA13 => ?_)
      exact VL.finO rfl (fun _ h => h.subA) (fun _ h => ⟨_, rfl, (hA13.nowA (s := ⟨w11, _⟩) Mono.byte h)⟩)
     refine Obs.cons ?_ ?_
     ·refine obS (by kernel_rfl) rfl rfl (fun ph4 w4 hO4 => ?_)
      refine VL.fieldAddr rfl fo118_1 rfl ?_
      exact VL.finS hO4 rfl rfl
     refine Obs.cons ?_ ?_
     ·refine obS (by kernel_rfl) rfl rfl (fun ph4 w4 hO4 => ?_)
      rintro _ rfl
      refine VL.loadF (s := ⟨w7, _⟩) (v := .int .u8 (x.dst)) 1 rfl kd5 hF8 (fun _ e => e ▸ Still.ok hO4 (by repeat (first | exact List.mem_cons_self .. | apply List.mem_cons_of_mem))) rfl rfl ?_
      exact VL.finS hO4 rfl rfl
     refine Obs.cons ?_ ?_
     ·refine ob (by kernel_rfl) rfl (by kernel_rfl) rfl (fun w4 hO4 => ?_)
      rintro _ rfl
      refine VL.toOwn hO4 ?_
      refine VL.litByte (m := x.dst) el24 rfl (by have hm := hx.dst; omega) (fun g14 w15 hO16 hA17 => ?_)
      exact VL.finO rfl (fun _ h => h.subA) (fun _ h => ⟨_, rfl, (hA17.nowA (s := ⟨w15, _⟩) Mono.byte h)⟩)
     refine Obs.cons ?_ ?_
     ·refine obS (by kernel_rfl) rfl rfl (fun ph4 w4 hO4 => ?_)
      refine VL.fieldAddr rfl fo118_2 rfl ?_
      exact VL.finS hO4 rfl rfl
     refine Obs.cons ?_ ?_
     ·refine obS (by kernel_rfl) rfl rfl (fun ph4 w4 hO4 => ?_)
      rintro _ rfl
      refine VL.loadF (s := ⟨w7, _⟩) (v := .int .u8 (x.kind)) 2 rfl kd5 hF8 (fun _ e => e ▸ Still.ok hO4 (by repeat (first | exact List.mem_cons_self .. | apply List.mem_cons_of_mem))) rfl rfl ?_
      exact VL.finS hO4 rfl rfl
     refine Obs.cons ?_ ?_
     ·refine ob (by kernel_rfl) rfl (by kernel_rfl) rfl (fun w4 hO4 => ?_)
      rintro _ rfl
      refine VL.toOwn hO4 ?_
      refine VL.litByte (m := x.kind) el24 rfl (by have hm := hx.kind; omega) (fun g18 w19 hO20 hA21 => ?_)
      exact VL.finO rfl (fun _ h => h.subA) (fun _ h => ⟨_, rfl, (hA21.nowA (s := ⟨w19, _⟩) Mono.byte h)⟩)
     refine Obs.cons ?_ ?_
     ·refine obS (by kernel_rfl) rfl rfl (fun ph4 w4 hO4 => ?_)
      refine VL.move rfl ?_
      exact VL.finS hO4 rfl rfl
     refine Obs.cons ?_ ?_
     ·refine obS (by kernel_rfl) rfl rfl (fun ph4 w4 hO4 => ?_)
      refine VL.fieldAddr rfl fo118_4 rfl ?_
      exact VL.finS hO4 rfl rfl
     refine Obs.cons ?_ ?_
     ·refine obS (by kernel_rfl) rfl rfl (fun ph4 w4 hO4 => ?_)
      rintro _ rfl
      refine VL.loadF (s := ⟨w7, _⟩) (v := .slice p (x.body).length c) 4 rfl kd24 hF8 (fun _ e => e ▸ Still.ok hO4 (by repeat (first | exact List.mem_cons_self .. | apply List.mem_cons_of_mem))) rfl rfl ?_
      exact VL.finS hO4 rfl rfl
     refine Obs.cons ?_ ?_
     ·refine obS (by kernel_rfl) rfl rfl (fun ph4 w4 hO4 => ?_)
      refine VL.fieldAddr rfl fo118_5 rfl ?_
      exact VL.finS hO4 rfl rfl
     refine Obs.cons ?_ ?_
     ·refine obS (by kernel_rfl) rfl rfl (fun ph4 w4 hO4 => ?_)
      rintro _ rfl
      refine VL.sliceArrAt Try.underlying80 (by kernel_rfl) rfl ?_
      refine VL.newv (v' := .slice (some ⟨g1, 5, none⟩) (x.sig).length 64) (by rw [hx.sig]) ?_
      exact VL.finS hO4 rfl rfl
     refine Obs.cons ?_ ?_
     ·refine ob (by kernel_rfl) rfl (by kernel_rfl) rfl (fun w4 hO4 => ?_)
      rintro _ ⟨p4_2, rfl, hA4_2⟩ _ ⟨p4_5, rfl, hA4_5⟩ _ ⟨p4_8, rfl, hA4_8⟩ _ rfl _ rfl _ rfl
      refine VL.toOwn hO4 ?_
      refine VL.lit el31 rfl rfl rfl (by simp [Value.cells]) (by intro u hu; simp [Value.cells] at hu; rcases hu with rfl | rfl | rfl | rfl | rfl | rfl <;> rfl) (fun g22 => ?_)
      refine VL.letRowS [be 1 (x.src), be 1 (x.dst), be 1 (x.kind), ((chainO x.chain).getD []), x.body, x.sig] rfl (fun w' hw => ⟨⟨_, _, rfl, (hA4_2.nowA (s := ⟨w4, _⟩) Mono.byte hw)⟩, ⟨⟨_, _, rfl, (hA4_5.nowA (s := ⟨w4, _⟩) Mono.byte hw)⟩, ⟨⟨_, _, rfl, (hA4_8.nowA (s := ⟨w4, _⟩) Mono.byte hw)⟩, ⟨⟨_, _, rfl, (hA5.nowA (s := ⟨w2, _⟩) Mono.byte hw)⟩, ⟨⟨_, _, rfl, (hA.nowA (s := ⟨w, _⟩) Mono.byte hw)⟩, ⟨⟨_, _, rfl, ((hF8.bytes 5 5 rfl rfl hx.sig rfl).nowA (s := ⟨w7, _⟩) Mono.byte hw)⟩, trivial⟩⟩⟩⟩⟩⟩) (fun w23 hO24 hA25 => ?_)
      exact VL.finO rfl (fun _ h => h.subA) (fun _ h => ⟨_, _, rfl, (hA25.nowA (s := ⟨w23, _⟩) (Mono.slice Mono.byte) h)⟩)
     refine Obs.cons ?_ ?_
     ·refine ob (by kernel_rfl) rfl (by kernel_rfl) rfl (fun w4 hO4 => ?_)
      rintro _ ⟨p4_14, c4_14, rfl, hA4_14⟩
      refine VL.toOwn hO4 ?_
      refine VL.call Try.func31 rfl (by decide) rfl (fun w' hw => join_O (ls := [be 1 (x.src), be 1 (x.dst), be 1 (x.kind), ((chainO x.chain).getD []), x.body, x.sig]) hw (hA4_14.nowA (s := ⟨w4, _⟩) (Mono.slice Mono.byte) hw)) (fun v => ?_)
      refine VL.at (fun w26 h1w => ?_)
      obtain ⟨p27, c28, rfl, hO30, hA29⟩ := h1w
      refine VL.toOwn hO30 ?_
      exact VL.finO rfl (fun _ h => h.subA) (fun _ h => ⟨_, _, rfl, (hA29.nowA (s := ⟨w26, _⟩) Mono.byte h)⟩)
     refine Obs.cons ?_ ?_
     ·refine obS (by kernel_rfl) rfl rfl (fun ph4 w4 hO4 => ?_)
      rintro _ ⟨p4_15, c4_15, rfl, hA4_15⟩
      refine VL.extract rfl rfl ?_
      exact VL.finS hO4 rfl ⟨_, _, rfl, hA4_15⟩
     refine Obs.cons ?_ ?_
     ·refine obS (by kernel_rfl) rfl rfl (fun ph4 w4 hO4 => ?_)
      rintro _ ⟨p4_15, c4_15, rfl, hA4_15⟩
      refine VL.extract rfl rfl ?_
      exact VL.finS hO4 rfl rfl
     exact Obs.nil
    case end4 =>
     intro w4 hO4
     rintro _ ⟨pz, cz, rfl, hz⟩ _ rfl
     refine VL.toOwn hO4 ?_
     refine VL.assign rfl ?_
     refine VL.assign rfl ?_
     refine VL.nn ?_
     refine VC.ret ?_
     refine VX.ret2 rfl rfl rfl (fun we hw => ?_)
     exact postO ((pktO_good hs (kindIn_of.2 ⟨h2_5, h2_10⟩))) ⟨pz, cz, rfl, hw.subA, (hz.nowA (s := ⟨w4, _⟩) Mono.byte hw)⟩

end Go.Proofs.Ytcfecmoagfgnaaa

/- The reference: what bytes are read as: packets. -/
namespace Go.Proofs.Ytcfecmoagfgnaaa
open Go.Vc Go.Pl

section
variable {n : Nat} {Q : Exit → Act → World → Prop} {σ : Sl} {G : World → Prop} {ops : Array Oper} {rest : List Oper}
variable {d : Nat} {ty : TypeId} {pos : String} {aft : Array Edge} {S : List Snap} {H : List Chunk}
theorem loadL {x : Operand} {g : Nat} {left : List (List UInt8)} (i : Nat) (hx : ev σ x = some (.pointer (some ⟨g, 0, none⟩))) (hi : H[i]? = some (tch g true left))
  (h : ∀ p c w1, Own S H w1 → Arr 1 bytesR (keys H) w1 p left c → VL Try.prog n ops Q rest ((d, .slice p left.length c) :: σ) (Own (⟨w1, keys H⟩ :: S) H)) (hdn : Nat.blt d n = true := by rfl) : VL Try.prog n ops Q (⟨some d, .load 31 x, ty, pos, aft, none⟩ :: rest) σ (Own S H) := by
 refine VL.at fun w hw => ?_
 obtain ⟨ps, h1, h2, ls, p, c, m, rfl, h3, _, h4, hA⟩ := hw.holds _ (List.mem_of_getElem? hi)
 obtain rfl : m = 0 := h4 rfl
 obtain rfl : left = ls := h3
 refine VL.val (v := .slice p left.length c) rfl rfl hdn (fun a w' ha e => ?_) (VL.turn (fun w' e => by subst e; exact hw.keep) (h p c w hw hA))
 subst e
 have hc : w'.cell? ⟨g, 0, none⟩ = some (.slice p left.length c) := by
  rw [cell_of_row w' g 0 _ 216 (0, 0) h1]
  rfl
 simp [execOp, ha.ev hx, run_load_cell kd31 hc]
end
theorem pkt_empty {l : List UInt8} (h : ¬ openP l ≠ []) : pktR l = none ∧ pktW l = 141 := by
 have h1 : pktR l = none := by
  cases e : pktR l with
  | none => rfl
  | some y => exact absurd (pkt_open e) h
 refine ⟨h1, ?_⟩
 rw [pktW_good (fun hb => by
  have h2 := hb.1
  rw [Classical.not_not.1 h] at h2
  exact absurd h2 (by decide)), h1]
 rfl
abbrev objsOf (ps : List (List UInt8)) : List Object := ps.map fun q => (objectR q).getD object0
theorem pkt_no {l : List UInt8} {xs : List Object} (hv : chainT' (nextP (at3 (openP l))) = xs ++ objsOf []) (h : ¬ pktO (pktT' (openP l) xs) = some l) : pktR l = none := by
 rw [show objsOf [] = [] from rfl, List.append_nil] at hv
 rw [pkt_rd, hv, if_neg h]
theorem pkt_yes {l : List UInt8} {xs : List Object} (hv : chainT' (nextP (at3 (openP l))) = xs ++ objsOf []) (h : pktO (pktT' (openP l) xs) = some l) : pktR l = some (pktT' (openP l) xs) := by
 rw [show objsOf [] = [] from rfl, List.append_nil] at hv
 rw [pkt_rd, hv, if_pos h]
theorem objs_step {A xs : List Object} {p : List UInt8} {r : List (List UInt8)} (h : A = xs ++ objsOf (p :: r)) : A = (xs ++ [(objectR p).getD object0]) ++ objsOf r := by
 rw [h, show objsOf (p :: r) = (objectR p).getD object0 :: objsOf r from rfl, List.append_assoc]; rfl

/-- It may have been taken from. -/
theorem tkFree {S : List Snap} {H : List Chunk} {w : World} {g : Nat} {z : Bool} {left : List (List UInt8)} (h : Own S (tch g z left :: H) w) : Own S (tch g false left :: H) w := by
 obtain ⟨ls, p, c, n, rfl, h1, _, h2, h3⟩ := openTk h
 exact shutTk h2 h1 (fun h => by cases h) h3
theorem tkFree1 {S : List Snap} {H : List Chunk} {a : Chunk} {w : World} {g : Nat} {z : Bool} {left : List (List UInt8)} (h : Own S (a :: tch g z left :: H) w) : Own S (a :: tch g false left :: H) w :=
 (tkFree (h.perm (List.Perm.swap _ _ _))).perm (List.Perm.swap _ _ _)

theorem readPkt_w {S : List Snap} {H : List Chunk} {w : World} (ho : Own S H w) {p : Option Addr} {l : List UInt8} {c : Nat} (hA : Bytes (keys H) w p l c) : Calls Try.prog 82 #[.slice p l.length c] w (Ret fun v w' => ∃ q d p c, v = .tuple #[.agg (cat (pktV ((pktR l).getD pkt0) q d p c)).toArray, .int .i64 ((pktW l : Nat) : Int)] ∧ Own S H w' ∧ Arr 101 objectR' (keys H) w' q ((pktR l).getD pkt0).chain d ∧ Bytes (keys H) w' p ((pktR l).getD pkt0).body c) := by
 refine enter (G := Own (⟨w, keys H⟩ :: S) H) ho.keep Try.func82 rfl Try.ntmps82 rfl ?_
 refine VC.sr ?_
 refine VL.alloc (L := pktL) (ps := (pktV (pkt0) none 0 none 0)) zero118 rfl rfl (fun g1 => ?_)
 refine VL.assign rfl ?_
 refine VL.nn ?_
 refine VC.sr ?_
 refine VL.move rfl ?_
 refine VL.call Try.func140 rfl (by decide) rfl (fun w' hw => open_T hw (hA.nowA (s := ⟨w, _⟩) Mono.byte hw)) (fun v => ?_)
 refine VL.ex fun g2 => VL.fact fun e3 => ?_
 subst e3
 refine VL.move rfl ?_
 refine VL.extract rfl rfl ?_
 refine VL.extract rfl rfl ?_
 refine VL.assign rfl ?_
 refine VL.assign rfl ?_
 refine VL.nn ?_
 refine VC.seq ?_
 refine VC.sr ?_
 refine VL.move rfl ?_
 refine VL.case (fun ho => ?_) (fun ho => ?_)
 ·refine VL.not rfl ?_
  refine VL.nn ?_
  refine VC.no rfl ?_
  refine VC.skip ?_
  refine VX.next ?_
  refine VC.seq ?_
  refine VC.join (X := Bool) (fun b => [(2, .pointer (some ⟨g1, 0, none⟩)), (4, .pointer (some ⟨g2, 0, none⟩)), (0, .slice p l.length c), (58, .bool b)]) (fun _ => Own (⟨w, keys H⟩ :: S) (tch g2 true (openP l) :: blk g1 118 pktL (pktV (pkt0) none 0 none 0) :: H)) (fun b => (b = true ↔ kindBad (openP l))) (fun hrest => ?_) (fun b hbk => ?_)
  ·skip
   refine VC.region ?_
   refine VL.move rfl ?_
   refine VL.nilCheck rfl ?_
   refine VL.fieldAddr rfl fo216_0 rfl ?_
   refine loadL 0 rfl rfl (fun p4 c5 w6 hO7 hA8 => ?_)
   refine VL.len Try.underlying31 rfl rfl ?_
   refine VL.gtr rfl rfl ?_
   refine VL.case (fun h4_5 => ?_) (fun h4_5 => ?_)
   ·have hlen : 2 < (openP l).length := by omega
    refine VL.move rfl ?_
    refine VL.go rfl rfl rfl ?_
    refine VL.move rfl ?_
    refine VL.go rfl rfl rfl ?_
    refine VL.nilCheck rfl ?_
    refine VL.go rfl rfl rfl ?_
    refine VL.fieldAddr rfl fo216_0 rfl ?_
    refine VL.go rfl rfl rfl ?_
    refine loadL 0 rfl rfl (fun p9 c10 w11 hO12 hA13 => ?_)
    refine VL.go rfl rfl rfl ?_
    refine VL.index (xs := (openP l)) rfl rfl Try.underlying31 sz31 hA13 (by omega) (by have hi := hlen; omega) ?_
    refine VL.go rfl rfl rfl ?_
    refine VL.elem (s := ⟨w11, _⟩) (2) 0 rfl kd24 (fun _ h => h) (by repeat (first | exact List.mem_cons_self .. | apply List.mem_cons_of_mem)) (Mono.slice Mono.byte) hA13 (List.getElem?_eq_getElem hlen) (by simp) (by decide) (fun vs v hl hr hv => ?_)
    obtain ⟨p16, c17, rfl, hA18⟩ := hr
    have ehy15 : v = .slice p16 ((openP l)[2]'hlen).length c17 := Option.some.inj (hv.symm.trans rfl)
    subst ehy15
    refine VL.go rfl rfl rfl ?_
    refine VL.len Try.underlying24 rfl rfl ?_
    refine VL.go rfl rfl rfl ?_
    refine VL.eql rfl rfl ?_
    refine VL.case (fun h4_14 => ?_) (fun h4_14 => ?_)
    ·have h1l : ((openP (l))[2]'hlen).length = 1 := by omega
     have h1p : 0 < ((openP (l))[2]'hlen).length := by omega
     refine VL.pick_t rfl rfl ?_
     refine VL.move rfl ?_
     refine VL.go rfl rfl rfl ?_
     refine VL.move rfl ?_
     refine VL.go rfl rfl rfl ?_
     refine VL.nilCheck rfl ?_
     refine VL.go rfl rfl rfl ?_
     refine VL.fieldAddr rfl fo216_0 rfl ?_
     refine VL.go rfl rfl rfl ?_
     refine loadL 0 rfl rfl (fun p19 c20 w21 hO22 hA23 => ?_)
     refine VL.go rfl rfl rfl ?_
     refine VL.index (xs := (openP l)) rfl rfl Try.underlying31 sz31 hA23 (by omega) (by have hi := hlen; omega) ?_
     refine VL.go rfl rfl rfl ?_
     refine VL.elem (s := ⟨w21, _⟩) (2) 0 rfl kd24 (fun _ h => h) (by repeat (first | exact List.mem_cons_self .. | apply List.mem_cons_of_mem)) (Mono.slice Mono.byte) hA23 (List.getElem?_eq_getElem hlen) (by simp) (by decide) (fun vs v hl hr hv => ?_)
     obtain ⟨p26, c27, rfl, hA28⟩ := hr
     have ehy25 : v = .slice p26 ((openP l)[2]'hlen).length c27 := Option.some.inj (hv.symm.trans rfl)
     subst ehy25
     refine VL.go rfl rfl rfl ?_
     refine VL.index (xs := ((openP l)[2]'hlen)) rfl rfl Try.underlying24 sz24 hA28 (by omega) (by have hi := h1p; omega) ?_
     refine VL.go rfl rfl rfl ?_
     refine VL.byte (s := ⟨w21, _⟩) (y := ((openP l)[2]'hlen)[0]'h1p) rfl kd5 (fun _ h => h) (by repeat (first | exact List.mem_cons_self .. | apply List.mem_cons_of_mem)) hA28 ((congrArg (fun k : Nat => ((openP l)[2]'hlen)[k]?) (show _ = 0 by simp)).trans (List.getElem?_eq_getElem h1p)) ?_
     refine VL.go rfl rfl rfl ?_
     refine VL.lss rfl rfl ?_
     refine VL.case (fun h4_25 => ?_) (fun h4_25 => ?_)
     ·have hb : kindBad (openP l) := (kb_iff hlen h1l h1p).2 (kindIn_no (.inl (by have h : ((((((openP (l))[2]'hlen)[0]'h1p).toNat : Nat)) : Int) < 1 := h4_25; omega)))
      refine VL.go rfl rfl rfl ?_
      refine VL.move rfl ?_
      refine VL.pass rfl rfl rfl rfl rfl ?_
      refine VL.pass rfl rfl rfl rfl rfl ?_
      refine VL.pass rfl rfl rfl rfl rfl ?_
      refine VL.pass rfl rfl rfl rfl rfl ?_
      refine VL.pass rfl rfl rfl rfl rfl ?_
      refine VL.pass rfl rfl rfl rfl rfl ?_
      refine VL.pass rfl rfl rfl rfl rfl ?_
      refine VL.pass rfl rfl rfl rfl rfl ?_
      refine VL.pass rfl rfl rfl rfl rfl ?_
      refine VL.go rfl rfl rfl ?_
      refine VL.pick_t rfl rfl ?_
      refine VL.pick_t rfl rfl ?_
      refine VL.nil ?_
      exact VX.join hrest true ⟨fun _ => hb, fun _ => rfl⟩ ⟨rfl, rfl, rfl, rfl, trivial⟩ (fun _ h => h.subA)
     ·skip
      refine VL.go rfl rfl rfl ?_
      refine VL.move rfl ?_
      refine VL.go rfl rfl rfl ?_
      refine VL.move rfl ?_
      refine VL.go rfl rfl rfl ?_
      refine VL.nilCheck rfl ?_
      refine VL.go rfl rfl rfl ?_
      refine VL.fieldAddr rfl fo216_0 rfl ?_
      refine VL.go rfl rfl rfl ?_
      refine loadL 0 rfl rfl (fun p31 c32 w33 hO34 hA35 => ?_)
      refine VL.go rfl rfl rfl ?_
      refine VL.index (xs := (openP l)) rfl rfl Try.underlying31 sz31 hA35 (by omega) (by have hi := hlen; omega) ?_
      refine VL.go rfl rfl rfl ?_
      refine VL.elem (s := ⟨w33, _⟩) (2) 0 rfl kd24 (fun _ h => h) (by repeat (first | exact List.mem_cons_self .. | apply List.mem_cons_of_mem)) (Mono.slice Mono.byte) hA35 (List.getElem?_eq_getElem hlen) (by simp) (by decide) (fun vs v hl hr hv => ?_)
      obtain ⟨p38, c39, rfl, hA40⟩ := hr
      have ehy37 : v = .slice p38 ((openP l)[2]'hlen).length c39 := Option.some.inj (hv.symm.trans rfl)
      subst ehy37
      refine VL.go rfl rfl rfl ?_
      refine VL.index (xs := ((openP l)[2]'hlen)) rfl rfl Try.underlying24 sz24 hA40 (by omega) (by have hi := h1p; omega) ?_
      refine VL.go rfl rfl rfl ?_
      refine VL.byte (s := ⟨w33, _⟩) (y := ((openP l)[2]'hlen)[0]'h1p) rfl kd5 (fun _ h => h) (by repeat (first | exact List.mem_cons_self .. | apply List.mem_cons_of_mem)) hA40 ((congrArg (fun k : Nat => ((openP l)[2]'hlen)[k]?) (show _ = 0 by simp)).trans (List.getElem?_eq_getElem h1p)) ?_
      refine VL.go rfl rfl rfl ?_
      refine VL.gtr rfl rfl ?_
      refine VL.case (fun h4_35 => ?_) (fun h4_35 => ?_)
      ·have hb : kindBad (openP l) := (kb_iff hlen h1l h1p).2 (kindIn_no (.inr (by have h : (4 : Int) < ((((((openP (l))[2]'hlen)[0]'h1p).toNat : Nat)) : Int) := h4_35; omega)))
       refine VL.go rfl rfl rfl ?_
       refine VL.pick_f rfl rfl ?_
       refine VL.pick_t rfl rfl ?_
       refine VL.nil ?_
       exact VX.join hrest true ⟨fun _ => hb, fun _ => rfl⟩ ⟨rfl, rfl, rfl, rfl, trivial⟩ (fun _ h => h.subA)
      ·have hnb : ¬ kindBad (openP l) := fun hb => by
        have h1 := (kb_iff hlen h1l h1p).1 hb
        rw [kindIn_of.2 ⟨by have h : ¬ ((((((openP (l))[2]'hlen)[0]'h1p).toNat : Nat)) : Int) < 1 := h4_25; omega, by have h : ¬ (4 : Int) < ((((((openP (l))[2]'hlen)[0]'h1p).toNat : Nat)) : Int) := h4_35; omega⟩] at h1
        cases h1
       refine VL.go rfl rfl rfl ?_
       refine VL.pick_f rfl rfl ?_
       refine VL.pick_t rfl rfl ?_
       refine VL.nil ?_
       exact VX.join hrest false ⟨fun h => absurd h (by decide), fun h => absurd h hnb⟩ ⟨rfl, rfl, rfl, rfl, trivial⟩ (fun _ h => h.subA)
    ·have hnb : ¬ kindBad (openP l) := kb_len hlen (by omega)
     refine VL.pick_t rfl rfl ?_
     refine VL.move rfl ?_
     refine VL.pass rfl rfl rfl rfl rfl ?_
     refine VL.pass rfl rfl rfl rfl rfl ?_
     refine VL.pass rfl rfl rfl rfl rfl ?_
     refine VL.pass rfl rfl rfl rfl rfl ?_
     refine VL.pass rfl rfl rfl rfl rfl ?_
     refine VL.pass rfl rfl rfl rfl rfl ?_
     refine VL.pass rfl rfl rfl rfl rfl ?_
     refine VL.pass rfl rfl rfl rfl rfl ?_
     refine VL.pass rfl rfl rfl rfl rfl ?_
     refine VL.pass rfl rfl rfl rfl rfl ?_
     refine VL.passu rfl rfl rfl rfl ?_
     refine VL.passu rfl rfl rfl rfl ?_
     refine VL.passu rfl rfl rfl rfl ?_
     refine VL.passu rfl rfl rfl rfl ?_
     refine VL.passu rfl rfl rfl rfl ?_
     refine VL.passu rfl rfl rfl rfl ?_
     refine VL.passu rfl rfl rfl rfl ?_
     refine VL.passu rfl rfl rfl rfl ?_
     refine VL.passu rfl rfl rfl rfl ?_
     refine VL.pass rfl rfl rfl rfl rfl ?_
     refine VL.pick_f rfl rfl ?_
     refine VL.nil ?_
     exact VX.join hrest false ⟨fun h => absurd h (by decide), fun h => absurd h hnb⟩ ⟨rfl, rfl, rfl, rfl, trivial⟩ (fun _ h => h.subA)
   ·have hnb : ¬ kindBad (openP l) := kb_short (by omega)
    refine VL.move rfl ?_
    refine VL.pass rfl rfl rfl rfl rfl ?_
    refine VL.pass rfl rfl rfl rfl rfl ?_
    refine VL.pass rfl rfl rfl rfl rfl ?_
    refine VL.pass rfl rfl rfl rfl rfl ?_
    refine VL.pass rfl rfl rfl rfl rfl ?_
    refine VL.pass rfl rfl rfl rfl rfl ?_
    refine VL.pass rfl rfl rfl rfl rfl ?_
    refine VL.pass rfl rfl rfl rfl rfl ?_
    refine VL.pick_f rfl rfl ?_
    refine VL.move rfl ?_
    refine VL.pass rfl rfl rfl rfl rfl ?_
    refine VL.pass rfl rfl rfl rfl rfl ?_
    refine VL.pass rfl rfl rfl rfl rfl ?_
    refine VL.pass rfl rfl rfl rfl rfl ?_
    refine VL.pass rfl rfl rfl rfl rfl ?_
    refine VL.pass rfl rfl rfl rfl rfl ?_
    refine VL.pass rfl rfl rfl rfl rfl ?_
    refine VL.pass rfl rfl rfl rfl rfl ?_
    refine VL.pass rfl rfl rfl rfl rfl ?_
    refine VL.pass rfl rfl rfl rfl rfl ?_
    refine VL.passu rfl rfl rfl rfl ?_
    refine VL.passu rfl rfl rfl rfl ?_
    refine VL.passu rfl rfl rfl rfl ?_
    refine VL.passu rfl rfl rfl rfl ?_
    refine VL.passu rfl rfl rfl rfl ?_
    refine VL.passu rfl rfl rfl rfl ?_
    refine VL.passu rfl rfl rfl rfl ?_
    refine VL.passu rfl rfl rfl rfl ?_
    refine VL.passu rfl rfl rfl rfl ?_
    refine VL.pass rfl rfl rfl rfl rfl ?_
    refine VL.pick_f rfl rfl ?_
    refine VL.nil ?_
    exact VX.join hrest false ⟨fun h => absurd h (by decide), fun h => absurd h hnb⟩ ⟨rfl, rfl, rfl, rfl, trivial⟩ (fun _ h => h.subA)
  skip
  refine VC.split rfl (fun hc58 => ?_) (fun hc58 => ?_)
  ·refine VC.seq ?_
   refine VC.region ?_
   refine VL.build0 (cs := cat (pktV (pkt0) none 0 none 0)) built118 ?_
   refine VL.store (L := pktL) (qs := (pktV (pkt0) none 0 none 0)) (ps' := (pktV (pkt0) none 0 none 0)) 1 0 6 rfl rfl rfl (.inl kd118) rfl rfl rfl (pktV_ok1 pkt0 none 0 none 0) rfl rfl ?_
   refine VL.set1 ?_
   refine VL.assign rfl ?_
   refine VL.nn ?_
   refine VC.ret ?_
   refine VX.then_ret ?_
   refine VX.ret_cell (cs := cat (pktV (pkt0) none 0 none 0)) 1 rfl rfl rfl kd118 (fun _ h => h) rfl rfl (fun we hw => ?_)
   obtain ⟨e1, e2⟩ := pktW_bad (hbk.1 hc58)
   exact ⟨none, 0, none, 0, by rw [e1]; exact congrArg (fun n : Nat => Value.tuple #[_, .int .i64 (n : Int)]) (e2).symm, hw.drop.drop.subA, by rw [e1]; exact Arr.none, by rw [e1]; exact Arr.none⟩
  ·refine VC.skip ?_
   refine VX.next ?_
   refine VC.seq ?_
   have hnb : ¬ kindBad (openP l) := mt hbk.2 (by rw [hc58]; decide)
   refine VC.region ?_
   refine VL.move rfl ?_
   refine VL.call Try.func141 rfl (by decide) rfl (fun w' hw => num_T (i := 0) rfl hw) (fun v => ?_)
   refine VL.fact fun e43 => ?_
   subst e43
   refine VL.set0 ?_
   refine VL.convw (by rw [Try.underlying3]; rfl) Try.underlying5 rfl ?_
   refine VL.newv (v' := .int .u8 (tkN 1 (openP l) : Nat)) (wrapT_u8 _) ?_
   refine VL.move rfl ?_
   refine VL.call Try.func141 rfl (by decide) rfl (fun w' hw => num_T (i := 0) rfl hw) (fun v => ?_)
   refine VL.fact fun e44 => ?_
   subst e44
   refine VL.set0 ?_
   refine VL.convw (by rw [Try.underlying3]; rfl) Try.underlying5 rfl ?_
   refine VL.newv (v' := .int .u8 (tkN 1 ((openP l).drop 1) : Nat)) (wrapT_u8 _) ?_
   refine VL.move rfl ?_
   refine VL.call Try.func141 rfl (by decide) rfl (fun w' hw => num_T (i := 0) rfl hw) (fun v => ?_)
   refine VL.fact fun e45 => ?_
   subst e45
   refine VL.set0 ?_
   refine VL.convw (by rw [Try.underlying3]; rfl) Try.underlying5 rfl ?_
   refine VL.newv (v' := .int .u8 (tkN 1 (((openP l).drop 1).drop 1) : Nat)) (wrapT_u8 _) ?_
   refine VL.build (zs := pktZ) (L := pktFL) [(0, [.int .u8 (tkN 1 (openP l))]), (1, [.int .u8 (tkN 1 ((openP l).drop 1))]), (2, [.int .u8 (tkN 1 (((openP l).drop 1).drop 1))])] plan118 rfl ⟨⟨rfl, ⟨_, rfl, rfl⟩, rfl⟩, ⟨⟨rfl, ⟨_, rfl, rfl⟩, rfl⟩, ⟨⟨rfl, ⟨_, rfl, rfl⟩, rfl⟩, trivial⟩⟩⟩ rfl ?_
   refine VL.newv (v' := .agg (cat (pktV ((Pkt.mk (tkN 1 (openP l)) (tkN 1 ((openP l).drop 1)) (tkN 1 (((openP l).drop 1).drop 1)) [] [] (zeros 64))) none 0 none 0)).toArray) rfl ?_
   refine VL.alloc (L := pktL) (ps := (pktV (pkt0) none 0 none 0)) zero118 rfl rfl (fun g46 => ?_)
   refine VL.store (L := pktL) (qs := (pktV ((Pkt.mk (tkN 1 (openP l)) (tkN 1 ((openP l).drop 1)) (tkN 1 (((openP l).drop 1).drop 1)) [] [] (zeros 64))) none 0 none 0)) (ps' := (pktV ((Pkt.mk (tkN 1 (openP l)) (tkN 1 ((openP l).drop 1)) (tkN 1 (((openP l).drop 1).drop 1)) [] [] (zeros 64))) none 0 none 0)) 0 0 6 rfl rfl rfl (.inl kd118) rfl rfl (pktV_len ((⟨tkN_lt 1 _, tkN_lt 1 _, tkN_lt 1 _, (by simp), rfl⟩ : Pkt.ok (Pkt.mk (tkN 1 (openP l)) (tkN 1 ((openP l).drop 1)) (tkN 1 (((openP l).drop 1).drop 1)) [] [] (zeros 64))))) (pktV_ok1 ((Pkt.mk (tkN 1 (openP l)) (tkN 1 ((openP l).drop 1)) (tkN 1 (((openP l).drop 1).drop 1)) [] [] (zeros 64))) none 0 none 0) rfl rfl ?_
   refine VL.set0 ?_
   refine VL.nn ?_
   refine VC.sr ?_
   refine VL.move rfl ?_
   refine VL.call Try.func142 rfl (by decide) rfl (fun w' hw => next_T (i := 1) rfl hw) (fun v => ?_)
   refine VL.at (fun w47 h1w => ?_)
   obtain ⟨p48, c49, rfl, hO51, hA50⟩ := h1w
   replace hO51 := ownSet1 hO51
   replace hA50 := arrSet1 hA50
   refine VL.toOwn hO51 ?_
   refine VL.call Try.func140 rfl (by decide) rfl (fun w' hw => open_T hw (hA50.nowA (s := ⟨w47, _⟩) Mono.byte hw)) (fun v => ?_)
   refine VL.ex fun g52 => VL.fact fun e53 => ?_
   subst e53
   refine VL.move rfl ?_
   refine VL.extract rfl rfl ?_
   refine VL.extract rfl rfl ?_
   refine VL.assign rfl ?_
   refine VL.assign rfl ?_
   refine VL.nn ?_
   refine VC.seq ?_
   refine VC.block ?_
   refine VC.turn (G' := Own _ (arow 85 101 objectR' Mono_object none 0 ([] : List Object) :: tch g52 true (openP (nextP ((((openP l).drop 1).drop 1).drop 1))) :: blk g46 118 pktL (pktV ((Pkt.mk (tkN 1 (openP l)) (tkN 1 ((openP l).drop 1)) (tkN 1 (((openP l).drop 1).drop 1)) [] [] (zeros 64))) none 0 none 0) :: tch g2 false (((((openP l).drop 1).drop 1).drop 1).drop 1) :: blk g1 118 pktL (pktV (pkt0) none 0 none 0) :: H)) (fun w' h => newRowO h) ?_
   have hpl := openP_len (nextP ((((openP l).drop 1).drop 1).drop 1))
   refine VC.loop (X := List Object × List (List UInt8) × Option Nat × Nat) (fun _ => [(2, .pointer (some ⟨g1, 0, none⟩)), (4, .pointer (some ⟨g2, 0, none⟩)), (6, .pointer (some ⟨g46, 0, none⟩)), (7, .pointer (some ⟨g52, 0, none⟩)), (0, .slice p l.length c)]) (fun (xs, ps, gv, cv) w' => ((∀ x ∈ xs, x.ok) ∧ chainT' (nextP ((((openP l).drop 1).drop 1).drop 1)) = xs ++ objsOf ps ∧ xs.length + ps.length ≤ 64) ∧ Own (⟨w, keys H⟩ :: S) (arow 85 101 objectR' Mono_object gv cv xs :: tch g52 false ps :: blk g46 118 pktL (pktV ((Pkt.mk (tkN 1 (openP l)) (tkN 1 ((openP l).drop 1)) (tkN 1 (((openP l).drop 1).drop 1)) xs [] (zeros 64))) (gv.map fun g => (⟨g, 0, none⟩ : Addr)) cv none 0) :: tch g2 false (((((openP l).drop 1).drop 1).drop 1).drop 1) :: blk g1 118 pktL (pktV (pkt0) none 0 none 0) :: H) w') (fun (_, ps, _) => ps.length) ([], (openP (nextP ((((openP l).drop 1).drop 1).drop 1))), none, 0) ⟨rfl, rfl, rfl, rfl, rfl, trivial⟩ (fun w' h => ⟨⟨by simp, rfl, by simp only [List.length_nil]; omega⟩, (tkFree1 h).subA⟩) (fun (xs, ps, gv, cv) => VC.fact fun ⟨hxs, hveq, hvl⟩ => ?_)
   ·skip
    refine VC.seq ?_
    refine VC.sr ?_
    refine VL.move rfl ?_
    refine VL.call Try.func143 rfl (by decide) rfl (fun w' hw => left_T (i := 1) rfl hw) (fun v => ?_)
    refine VL.fact fun e54 => ?_
    subst e54
    refine VL.gtr rfl rfl ?_
    refine VL.case (fun h8 => ?_) (fun h8 => ?_)
    ·obtain ⟨pc, rest, rfl⟩ : ∃ pc rest, ps = pc :: rest := by
      cases ps with
      | nil => exact absurd h8 (by simp)
      | cons a b => exact ⟨a, b, rfl⟩
     refine VL.nn ?_
     refine VC.yes rfl ?_
     refine VC.skip ?_
     refine VX.next ?_
     refine VC.block ?_
     refine VC.sr ?_
     refine VL.move rfl ?_
     refine VL.call Try.func142 rfl (by decide) rfl (fun w' hw => next_T (i := 1) rfl hw) (fun v => ?_)
     refine VL.at (fun w55 h1w => ?_)
     obtain ⟨p56, c57, rfl, hO59, hA58⟩ := h1w
     replace hO59 := ownSet1 hO59
     replace hA58 := arrSet1 hA58
     refine VL.toOwn hO59 ?_
     refine VL.call Try.func96 rfl (by decide) rfl (fun w' hw => readObject_w hw (hA58.nowA (s := ⟨w55, _⟩) Mono.byte hw)) (fun v => ?_)
     refine VL.at (fun w60 h1w => ?_)
     obtain ⟨p62, c63, rfl, hO61, hA64⟩ := h1w
     refine VL.toOwn hO61 ?_
     refine VL.move rfl ?_
     refine VL.extract rfl rfl ?_
     refine VL.extract rfl rfl ?_
     refine VL.alloc (L := objectL) (ps := (objectV (object0) none 0)) zero85 rfl rfl (fun g65 => ?_)
     refine VL.store (L := objectL) (qs := (objectV (((objectR pc).getD object0)) p62 c63)) (ps' := (objectV (((objectR pc).getD object0)) p62 c63)) 0 0 7 rfl rfl rfl (.inl kd85) rfl rfl (objectV_len (objectR_ok pc)) (objectV_ok1 (((objectR pc).getD object0)) p62 c63) rfl rfl ?_
     refine VL.set0 ?_
     refine VL.assign rfl ?_
     refine VL.nn ?_
     have hxs2 : ∀ x ∈ xs ++ [((objectR pc).getD object0)], x.ok := fun x hx => (List.mem_append.1 hx).elim (hxs x) (fun h => by rw [List.mem_singleton] at h; subst h; exact objectR_ok pc)
     refine VC.region ?_
     refine VL.fieldAddr rfl fo118_3 rfl ?_
     refine VL.load (v := .slice (gv.map fun g => (⟨g, 0, none⟩ : Addr)) (xs).length cv) 3 3 rfl kd116 (fun _ h => h) rfl rfl rfl ?_
     refine VL.loads (cs := cat (objectV (((objectR pc).getD object0)) p62 c63)) 0 0 7 rfl kd85 (fun _ h => h) rfl rfl rfl rfl ?_
     refine VL.lit el116 rfl rfl rfl (by intro v hv; simp only [List.mem_singleton] at hv; subst hv; show (cat (objectV ((objectR pc).getD object0) p62 c63)).toArray.size = 101; rw [List.size_toArray, cat_size (objectV_len (objectR_ok pc))]; rfl) (by rw [show [Value.agg (cat (objectV ((objectR pc).getD object0) p62 c63)).toArray].flatMap (·.cells.toList) = (cat (objectV ((objectR pc).getD object0) p62 c63)) by simp [Value.cells]]; exact objectV_ok1 _ _ _) (fun gz => ?_)
     refine VL.letRow objectR' [((objectR pc).getD object0)] rfl (fun w' hw => one_object (objectR_ok pc) (hA64.nowA (s := ⟨w60, _⟩) Mono_vouch hw)) (fun wl hOl hAl => ?_)
     refine VL.appends (R := objectR') (hR := Mono_object) (ys := xs) (zs := [((objectR pc).getD object0)]) 1 el116 rfl rfl rfl (fun _ h => h) rfl (fun _ hw => (hAl.nowA (s := ⟨wl, _⟩) Mono_object hw)) objectR'_ok1 (by simp only [List.length_cons, List.length_nil] at hvl ⊢; omega) (fun gv2 cv2 => ?_) (by simp only [List.length_cons, List.length_nil] at hvl ⊢; omega)
     refine VL.set1 ?_
     refine VL.fieldAddr rfl fo118_3 rfl ?_
     refine VL.store (L := pktL) (qs := [[rowV gv2 (xs ++ [((objectR pc).getD object0)]).length cv2]]) (ps' := (pktV ((Pkt.mk (tkN 1 (openP l)) (tkN 1 ((openP l).drop 1)) (tkN 1 (((openP l).drop 1).drop 1)) (xs ++ [((objectR pc).getD object0)]) [] (zeros 64))) (gv2.map fun g => (⟨g, 0, none⟩ : Addr)) cv2 none 0)) 3 3 1 rfl rfl rfl (.inr ⟨kd116, rfl⟩) rfl rfl rfl (by intro u hu; simp [cat] at hu; subst hu; rfl) rfl rfl ?_
     refine VL.set3 ?_
     refine VL.nil ?_
     refine VX.block_normal ?_
     refine VX.round (xs ++ [((objectR pc).getD object0)], rest, gv2, cv2) ⟨rfl, rfl, rfl, rfl, rfl, trivial⟩ (fun w' h => ⟨⟨hxs2, objs_step hveq, by simp only [List.length_append, List.length_cons, List.length_nil] at hvl ⊢; omega⟩, (h.drop).subA⟩) (by show rest.length < (pc :: rest).length; simp)
    ·obtain rfl : ps = [] := List.eq_nil_of_length_eq_zero (by omega)
     refine VL.nn ?_
     refine VC.no rfl ?_
     refine VC.exit ?_
     refine VX.then_exit ?_
     refine VX.then_exit ?_
     refine VX.block_here ?_
     refine VX.next ?_
     refine VC.seq ?_
     refine VC.letArr (fun wr hOr hAr => ?_)
     refine VC.region ?_
     refine VL.move rfl ?_
     refine VL.call Try.func142 rfl (by decide) rfl (fun w' hw => next_T (i := 2) rfl hw) (fun v => ?_)
     refine VL.at (fun w66 h1w => ?_)
     obtain ⟨p67, c68, rfl, hO70, hA69⟩ := h1w
     replace hO70 := ownSet2 hO70
     replace hA69 := arrSet2 hA69
     refine VL.toOwn hO70 ?_
     refine VL.fieldAddr rfl fo118_4 rfl ?_
     refine VL.store (L := pktL) (qs := [[.slice p67 ((nextP (((((openP l).drop 1).drop 1).drop 1).drop 1))).length c68]]) 1 4 1 rfl rfl rfl (.inr ⟨kd24, rfl⟩) rfl rfl rfl (by intro u hu; simp [cat] at hu; subst hu; rfl) rfl rfl ?_
     refine VL.set1 ?_
     refine VL.nn ?_
     refine VC.sr ?_
     refine VL.move rfl ?_
     refine VL.call Try.func144 rfl (by decide) rfl (fun w' hw => sig_T (i := 2) rfl hw) (fun v => ?_)
     refine VL.fact fun e71 => ?_
     subst e71
     refine VL.set2 ?_
     refine VL.fieldAddr rfl fo118_5 rfl ?_
     refine VL.store (L := pktL) (qs := [(tkB 64 ((((((openP l).drop 1).drop 1).drop 1).drop 1).drop 1)).map bv]) 1 5 1 rfl rfl rfl (.inl kd80) rfl rfl (arr_len (tkB_length _ _)) (ok1_bytes _) rfl rfl ?_
     refine VL.set1 ?_
     refine VL.nn ?_
     refine VC.sr ?_
     refine VL.loads (cs := cat (pktV ((pktT' (openP l) xs)) (gv.map fun g => (⟨g, 0, none⟩ : Addr)) cv p67 c68)) 1 0 6 rfl kd118 (fun _ h => h) rfl rfl rfl rfl ?_
     refine VL.call Try.func91 rfl (by decide) rfl (fun w' hw => refPkt_w hw (x := (pktT' (openP l) xs)) (pktT'_ok (openP l) hxs) (hAr.nowA (s := ⟨wr, _⟩) Mono_object hw) (hA69.nowA (s := ⟨w66, _⟩) Mono.byte hw)) (fun v => ?_)
     refine VL.at (fun w72 h1w => ?_)
     obtain ⟨p73, c74, rfl, hO76, hA75⟩ := h1w
     refine VL.toOwn hO76 ?_
     refine VL.move rfl ?_
     refine VL.extract rfl rfl ?_
     refine VL.extract rfl rfl ?_
     refine VL.assign rfl ?_
     refine VL.assign rfl ?_
     refine VL.nn ?_
     refine VC.seq ?_
     refine VC.sr ?_
     refine VL.move rfl ?_
     cases hs : (pktO (pktT' (openP l) xs)).isSome
     ·refine VL.not rfl ?_
      refine VL.move rfl ?_
      refine VL.pass rfl rfl rfl rfl rfl ?_
      refine VL.pass rfl rfl rfl rfl rfl ?_
      refine VL.pass rfl rfl rfl rfl rfl ?_
      refine VL.pass rfl rfl rfl rfl rfl ?_
      refine VL.pick_t rfl rfl ?_
      refine VL.nn ?_
      refine VC.yes rfl ?_
      refine VC.sr ?_
      refine VL.build0 (cs := cat (pktV (pkt0) none 0 none 0)) built118 ?_
      refine VL.store (L := pktL) (qs := (pktV (pkt0) none 0 none 0)) (ps' := (pktV (pkt0) none 0 none 0)) 3 0 6 rfl rfl rfl (.inl kd118) rfl rfl rfl (pktV_ok1 pkt0 none 0 none 0) rfl rfl ?_
      refine VL.set3 ?_
      refine VL.assign rfl ?_
      refine VL.nn ?_
      refine VC.ret ?_
      refine VX.then_ret ?_
      refine VX.ret_cell (cs := cat (pktV (pkt0) none 0 none 0)) 3 rfl rfl rfl kd118 (fun _ h => h) rfl rfl (fun we hw => ?_)
      have e1 := pkt_no hveq (not_some hs)
      have e2 : pktW l = 141 := by rw [pktW_good hnb, e1]; rfl
      exact ⟨none, 0, none, 0, by rw [e1]; exact congrArg (fun n : Nat => Value.tuple #[_, .int .i64 (n : Int)]) (e2).symm, hw.drop.drop.drop.drop.subA, by rw [e1]; exact Arr.none, by rw [e1]; exact Arr.none⟩
     ·refine VL.not rfl ?_
      refine VL.move rfl ?_
      refine VL.go rfl rfl rfl ?_
      refine VL.move rfl ?_
      refine VL.go rfl rfl rfl ?_
      refine VL.move rfl ?_
      refine VL.go rfl rfl rfl ?_
      refine VL.call Try.func27 rfl (by decide) rfl (fun w' hw => bytes_B hw (hA75.nowA (s := ⟨w72, _⟩) Mono.byte hw) (hA.nowA (s := ⟨w, _⟩) Mono.byte hw)) (fun v => ?_)
      refine VL.ex fun b => VL.fact fun e => VL.fact fun h14_5 => ?_
      subst e
      cases b
      ·have h14_5 := mt h14_5.2 (by decide)
       refine VL.go rfl rfl rfl ?_
       refine VL.not rfl ?_
       refine VL.pick_f rfl rfl ?_
       refine VL.nn ?_
       refine VC.yes rfl ?_
       refine VC.sr ?_
       refine VL.build0 (cs := cat (pktV (pkt0) none 0 none 0)) built118 ?_
       refine VL.store (L := pktL) (qs := (pktV (pkt0) none 0 none 0)) (ps' := (pktV (pkt0) none 0 none 0)) 3 0 6 rfl rfl rfl (.inl kd118) rfl rfl rfl (pktV_ok1 pkt0 none 0 none 0) rfl rfl ?_
       refine VL.set3 ?_
       refine VL.assign rfl ?_
       refine VL.nn ?_
       refine VC.ret ?_
       refine VX.then_ret ?_
       refine VX.ret_cell (cs := cat (pktV (pkt0) none 0 none 0)) 3 rfl rfl rfl kd118 (fun _ h => h) rfl rfl (fun we hw => ?_)
       have e1 := pkt_no hveq (not_getD h14_5)
       have e2 : pktW l = 141 := by rw [pktW_good hnb, e1]; rfl
       exact ⟨none, 0, none, 0, by rw [e1]; exact congrArg (fun n : Nat => Value.tuple #[_, .int .i64 (n : Int)]) (e2).symm, hw.drop.drop.drop.drop.subA, by rw [e1]; exact Arr.none, by rw [e1]; exact Arr.none⟩
      ·have h14_5 := h14_5.1 rfl
       refine VL.go rfl rfl rfl ?_
       refine VL.not rfl ?_
       refine VL.pick_f rfl rfl ?_
       refine VL.nn ?_
       refine VC.no rfl ?_
       refine VC.skip ?_
       refine VX.next ?_
       refine VC.sr ?_
       refine VL.loads (cs := cat (pktV ((pktT' (openP l) xs)) (gv.map fun g => (⟨g, 0, none⟩ : Addr)) cv p67 c68)) 1 0 6 rfl kd118 (fun _ h => h) rfl rfl rfl rfl ?_
       refine VL.store (L := pktL) (qs := (pktV ((pktT' (openP l) xs)) (gv.map fun g => (⟨g, 0, none⟩ : Addr)) cv p67 c68)) (ps' := (pktV ((pktT' (openP l) xs)) (gv.map fun g => (⟨g, 0, none⟩ : Addr)) cv p67 c68)) 3 0 6 rfl rfl rfl (.inl kd118) rfl rfl (pktV_len (pktT'_ok (openP l) hxs)) (pktV_ok1 ((pktT' (openP l) xs)) (gv.map fun g => (⟨g, 0, none⟩ : Addr)) cv p67 c68) rfl rfl ?_
       refine VL.set3 ?_
       refine VL.assign rfl ?_
       refine VL.nn ?_
       refine VC.ret ?_
       refine VX.ret_cell (cs := cat (pktV ((pktT' (openP l) xs)) (gv.map fun g => (⟨g, 0, none⟩ : Addr)) cv p67 c68)) 3 rfl rfl rfl (by rw [cat_size (pktV_len (pktT'_ok (openP l) hxs))]; exact kd118) (fun _ h => h) rfl rfl (fun we hw => ?_)
       have e1 := pkt_yes hveq (some_of hs h14_5)
       have e2 : pktW l = 0 := by rw [pktW_good hnb, e1]; rfl
       rw [e1, e2]
       exact ⟨_, _, _, _, rfl, hw.drop.drop.drop.drop.subA, (hAr.nowA (s := ⟨wr, _⟩) Mono_object hw.drop.drop.drop.drop), (hA69.nowA (s := ⟨w66, _⟩) Mono.byte hw.drop.drop.drop.drop)⟩
 ·refine VL.not rfl ?_
  refine VL.nn ?_
  refine VC.yes rfl ?_
  refine VC.sr ?_
  refine VL.build0 (cs := cat (pktV (pkt0) none 0 none 0)) built118 ?_
  refine VL.store (L := pktL) (qs := (pktV (pkt0) none 0 none 0)) (ps' := (pktV (pkt0) none 0 none 0)) 1 0 6 rfl rfl rfl (.inl kd118) rfl rfl rfl (pktV_ok1 pkt0 none 0 none 0) rfl rfl ?_
  refine VL.set1 ?_
  refine VL.assign rfl ?_
  refine VL.nn ?_
  refine VC.ret ?_
  refine VX.then_ret ?_
  refine VX.ret_cell (cs := cat (pktV (pkt0) none 0 none 0)) 1 rfl rfl rfl kd118 (fun _ h => h) rfl rfl (fun we hw => ?_)
  obtain ⟨e1, e2⟩ := pkt_empty ho
  exact ⟨none, 0, none, 0, by rw [e1]; exact congrArg (fun n : Nat => Value.tuple #[_, .int .i64 (n : Int)]) (e2).symm, hw.drop.drop.subA, by rw [e1]; exact Arr.none, by rw [e1]; exact Arr.none⟩

end Go.Proofs.Ytcfecmoagfgnaaa

