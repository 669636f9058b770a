/- The statement BagOwn is proved, for every input: part 12 of 14 of the texts that it needs. -/
import Derived.Test.YtcfecmoagfgnaaaMbowAK
/- wire: bytes of packets. -/
namespace Go.Proofs.Ytcfecmoagfgnaaa
open Go.Vc Go.Pl

theorem chain_next {xs : List Object} {i : Nat} (h : i < xs.length) : chainP (xs.take i) ++ [(objectO (xs[i]'h)).getD []] = chainP (xs.take (i + 1)) := by
 unfold chainP; rw [List.take_succ_eq_append_getElem h, List.map_append]; rfl
theorem chainP_length (xs : List Object) : (chainP xs).length = xs.length := by unfold chainP; rw [List.length_map]
theorem chainO_none {xs : List Object} (h : ¬ xs.length ≤ 4) : none = chainO xs := by
 unfold chainO chainGood; rw [decide_eq_false h, Bool.false_and]; exact none_joinO _
theorem pktO_none {x : Pkt} (h : kindIn x.kind = false) : none = pktO x := by
 unfold pktO; rw [h, Bool.and_false]; exact none_joinO _
end Go.Proofs.Ytcfecmoagfgnaaa

/- The reference: bytes of packets; one against the other. -/
namespace Go.Proofs.Ytcfecmoagfgnaaa
open Go.Vc Go.Pl

theorem brow0 {S : List Snap} {H : List Chunk} {w : World} (h : Own S H w) : Own S (brow none 0 ([] : List (List UInt8)) :: H) w := Own.arow_nil (Mono.slice Mono.byte) 24 1 h
theorem oall_some {xs : List Object} {i : Nat} (h : i < xs.length) (h1 : ((xs.take i).all fun x => (objectO x).isSome) = true) (h2 : (objectO (xs[i]'h)).isSome = true) : ((xs.take (i + 1)).all fun x => (objectO x).isSome) = true := by
 rw [List.take_succ_eq_append_getElem h, List.all_append, h1]
 simp [h2]
theorem ochain_good {xs : List Object} {i : Nat} (h0 : xs.length ≤ 4) (hie : i = xs.length) (hall : ((xs.take i).all fun x => (objectO x).isSome) = true) : joinO (chainP (xs.take i)) true = chainO xs := by
 rw [hie, List.take_length] at hall ⊢
 have hg : chainGood xs = true := by unfold chainGood; rw [decide_eq_true h0, Bool.true_and]; exact hall
 unfold chainO; rw [hg]
theorem ochain_bad {xs : List Object} {i : Nat} (h : i < xs.length) (h2 : (objectO (xs[i]'h)).isSome = false) : none = chainO xs := by
 have hg : chainGood xs = false := by
  unfold chainGood
  rw [Bool.and_eq_false_iff]
  right
  rw [List.all_eq_false]
  exact ⟨xs[i]'h, List.getElem_mem h, by rw [h2]; decide⟩
 unfold chainO; rw [hg]; exact none_joinO _
theorem pktO_bad {x : Pkt} (h : (chainO x.chain).isSome = false) : none = pktO x := by unfold pktO; rw [h]; exact none_joinO _
theorem pktO_good {x : Pkt} (h : (chainO x.chain).isSome = true) (hk : kindIn x.kind = true) : joinO (pktP x) true = pktO x := by unfold pktO; rw [h, hk]; rfl
theorem refChain_w {S : List Snap} {H : List Chunk} {w : World} (ho : Own S H w) {xs : List Object} (hxs : ∀ x ∈ xs, x.ok) {p : Option Addr} {c : Nat} (hX : Arr 101 objectR' (keys H) w p xs c) : Calls Try.prog 149 #[.slice p xs.length c] w (RetO S H (chainO xs)) := by
 have hsm := hX.small
 refine enter (G := Own (⟨w, keys H⟩ :: S) H) ho.keep Try.func149 rfl Try.ntmps149 rfl ?_
 refine VC.sr ?_
 refine VL.assign rfl ?_
 refine VL.assign rfl ?_
 refine VL.nn ?_
 refine VC.seq ?_
 refine VC.sr ?_
 refine VL.move rfl ?_
 refine VL.len Try.underlying116 rfl rfl ?_
 refine VL.gtr rfl rfl ?_
 refine VL.case (fun h0 => ?_) (fun h0 => ?_)
 ·have h0 : ¬ xs.length ≤ 4 := by omega
  refine VL.nn ?_
  refine VC.yes rfl ?_
  refine VC.sr ?_
  refine VL.assign rfl ?_
  refine VL.assign rfl ?_
  refine VL.nn ?_
  refine VC.ret ?_
  refine VX.then_ret ?_
  refine VX.ret2 rfl rfl rfl (fun we hw => ?_)
  exact postO ((chainO_none h0)) ⟨none, 0, rfl, hw.subA, Arr.none⟩
 ·have h0 : xs.length ≤ 4 := by omega
  refine VL.nn ?_
  refine VC.no rfl ?_
  refine VC.skip ?_
  refine VX.next ?_
  refine VC.sr ?_
  refine VL.assign rfl ?_
  refine VL.nn ?_
  refine VC.seq ?_
  refine VC.sr ?_
  refine VL.assign rfl ?_
  refine VL.nn ?_
  refine VC.block ?_
  refine VC.turn (G' := Own _ (brow none 0 (([] : List (List UInt8))) :: H)) (fun w' h => brow0 h) ?_
  refine VC.loop (X := Nat × Option Nat × Nat) (fun (i, gq, cq) => [(0, .slice p xs.length c), (4, rowV gq (chainP (xs.take i)).length cq), (5, .int .i64 (i : Int))]) (fun (i, gq, cq) w' => (i ≤ xs.length ∧ ((xs.take i).all fun x => (objectO x).isSome) = true) ∧ Own (⟨w, keys H⟩ :: S) (brow gq cq ((chainP (xs.take i))) :: H) w') (fun (i, _) => xs.length - i) (0, none, 0) ⟨rfl, rfl, rfl, trivial⟩ (fun w' h => ⟨⟨Nat.zero_le _, rfl⟩, by have e1 : chainP (xs.take 0) = [] := rfl; rw [e1]; exact h.subA⟩) (fun (i, gq, cq) => VC.fact fun ⟨hi, hall⟩ => ?_)
  ·have htk : (chainP (List.take i xs)).length ≤ i := by rw [chainP_length]; exact List.length_take_le _ _
   refine VC.seq ?_
   refine VC.sr ?_
   refine VL.move rfl ?_
   refine VL.move rfl ?_
   refine VL.len Try.underlying116 rfl rfl ?_
   refine VL.lss rfl rfl ?_
   refine VL.case (fun h5 => ?_) (fun h5 => ?_)
   ·have hlt : i < xs.length := by omega
    refine VL.nn ?_
    refine VC.yes rfl ?_
    refine VC.skip ?_
    refine VX.next ?_
    refine VC.seq ?_
    refine VC.block ?_
    refine VC.sr ?_
    refine VL.move rfl ?_
    refine VL.move rfl ?_
    refine VL.index (xs := xs) rfl rfl Try.underlying116 sz116 hX (by omega) (by have hi := hlt; omega) ?_
    refine VL.elems (s := ⟨w, _⟩) (m := 101) (i) 0 rfl kd85 (fun _ h => h) (by repeat (first | exact List.mem_cons_self .. | apply List.mem_cons_of_mem)) hX (List.getElem?_eq_getElem hlt) (by simp) (by decide) (fun vs hl hr => ?_)
    obtain ⟨q3, d4, hy2, rfl, hV5⟩ := hr
    refine VL.newv (v' := .agg (cat (objectV (xs[i]'hlt) q3 d4)).toArray) (by rw [List.drop_zero, List.take_of_length_le (by rw [hl]; decide)]) ?_
    refine VL.call Try.func66 rfl (by decide) rfl (fun w' hw => refObject_w hw (x := (xs[i]'hlt)) (hxs _ (List.getElem_mem hlt)) (hV5.nowA (s := ⟨w, _⟩) Mono_vouch hw)) (fun v => ?_)
    refine VL.at (fun w6 h1w => ?_)
    obtain ⟨p7, c8, rfl, hO10, hA9⟩ := h1w
    refine VL.toOwn hO10 ?_
    refine VL.move rfl ?_
    refine VL.extract rfl rfl ?_
    refine VL.extract rfl rfl ?_
    refine VL.assign rfl ?_
    refine VL.assign rfl ?_
    refine VL.nn ?_
    refine VC.seq ?_
    refine VC.sr ?_
    refine VL.move rfl ?_
    cases hs : (objectO (xs[i]'hlt)).isSome
    ·refine VL.not rfl ?_
     refine VL.nn ?_
     refine VC.yes rfl ?_
     refine VC.sr ?_
     refine VL.assign rfl ?_
     refine VL.assign rfl ?_
     refine VL.nn ?_
     refine VC.ret ?_
     refine VX.then_ret ?_
     refine VX.block_ret ?_
     refine VX.then_ret ?_
     refine VX.then_ret ?_
     refine VX.block_ret ?_
     refine VX.then_ret ?_
     refine VX.ret2 rfl rfl rfl (fun we hw => ?_)
     exact postO ((ochain_bad hlt hs)) ⟨none, 0, rfl, hw.drop.subA, Arr.none⟩
    ·refine VL.not rfl ?_
     refine VL.nn ?_
     refine VC.no rfl ?_
     refine VC.skip ?_
     refine VX.next ?_
     refine VC.region ?_
     refine VL.move rfl ?_
     refine VL.move rfl ?_
     refine VL.lit el31 rfl rfl rfl (by simp [Value.cells]) (by intro u hu; simp [Value.cells] at hu; rcases hu with rfl <;> rfl) (fun g11 => ?_)
     refine VL.letRowS [((objectO ((xs[i]'hlt))).getD [])] rfl (fun w' hw => ⟨⟨_, _, rfl, (hA9.nowA (s := ⟨w6, _⟩) Mono.byte hw)⟩, trivial⟩) (fun w12 hO13 hA14 => ?_)
     refine VL.appends (R := bytesR) (hR := Mono.slice Mono.byte) (ys := (chainP (xs.take i))) (zs := [((objectO ((xs[i]'hlt))).getD [])]) 0 el31 rfl rfl rfl (fun _ h => h) rfl (fun _ hw => (hA14.nowA (s := ⟨w12, _⟩) (Mono.slice Mono.byte) hw)) bytesR_ok1 (by simp only [List.length_append, List.length_cons, List.length_nil, List.length_map]; omega) (fun g15 c16 => ?_) (by simp only [List.length_append, List.length_cons, List.length_nil, List.length_map]; omega)
     refine VL.set0 ?_
     refine VL.assign rfl ?_
     refine VL.nil ?_
     refine VX.block_normal ?_
     refine VX.next ?_
     refine VC.region ?_
     refine VL.move rfl ?_
     refine VL.add rfl rfl (by simp only [InR]; omega) ?_
     refine VL.assign rfl ?_
     refine VL.nil ?_
     have el : chainP (xs.take i) ++ [(objectO (xs[i]'hlt)).getD []] = chainP (xs.take (i + 1)) := chain_next hlt
     refine VX.round (i + 1, g15, c16) ⟨rfl, congrArg (fun l : List (List UInt8) => some (rowV g15 l.length c16)) el, rfl, trivial⟩ (fun w' h => ⟨⟨by omega, oall_some hlt hall hs⟩, ?_⟩) (by show xs.length - (i + 1) < xs.length - i; omega)
     rw [← el]
     exact h.subA
   ·have hie : i = xs.length := by omega
    refine VL.nn ?_
    refine VC.no rfl ?_
    refine VC.exit ?_
    refine VX.then_exit ?_
    refine VX.then_exit ?_
    refine VX.block_here ?_
    refine VX.next ?_
    refine VC.seq ?_
    refine VC.letArr (fun wr hOr hAr => ?_)
    refine VC.region ?_
    refine VL.move rfl ?_
    refine VL.call Try.func31 rfl (by decide) rfl (fun w' hw => join_O (ls := (chainP (xs.take i))) hw (hAr.nowA (s := ⟨wr, _⟩) (Mono.slice Mono.byte) hw)) (fun v => ?_)
    refine VL.at (fun w17 h1w => ?_)
    obtain ⟨p18, c19, rfl, hO21, hA20⟩ := h1w
    refine VL.toOwn hO21 ?_
    refine VL.extract rfl rfl ?_
    refine VL.extract rfl rfl ?_
    refine VL.assign rfl ?_
    refine VL.assign rfl ?_
    refine VL.nn ?_
    refine VC.ret ?_
    refine VX.ret2 rfl rfl rfl (fun we hw => ?_)
    exact postO ((ochain_good h0 hie hall)) ⟨p18, c19, rfl, hw.subA, (hA20.nowA (s := ⟨w17, _⟩) Mono.byte hw)⟩

theorem refPkt_w {S : List Snap} {H : List Chunk} {w : World} (ho : Own S H w) {x : Pkt} (hx : x.ok) {q : Option Addr} {d : Nat} (hV : Arr 101 objectR' (keys H) w q x.chain d) {p : Option Addr} {c : Nat} (hA : Bytes (keys H) w p x.body c) : Calls Try.prog 91 #[.agg (cat (pktV x q d p c)).toArray] w (RetO S H (pktO x)) := by
 have hx1 := hx.src
 have hx2 := hx.dst
 have hx3 := hx.kind
 refine enter (G := Own (⟨w, keys H⟩ :: S) H) ho.keep Try.func91 rfl Try.ntmps91 rfl ?_
 refine VC.sr ?_
 refine VL.box (L := pktL) (ps := (pktV (x) q d p c)) rfl rfl (pktV_len hx) (fun g1 => ?_)
 refine VL.assign rfl ?_
 refine VL.assign rfl ?_
 refine VL.nn ?_
 refine VC.sr ?_
 refine VL.fieldAddr rfl fo118_3 rfl ?_
 refine VL.load (v := .slice q (x.chain).length d) 0 3 rfl kd116 (fun _ h => h) rfl rfl rfl ?_
 refine VL.call Try.func149 rfl (by decide) rfl (fun w' hw => refChain_w hw hx.chain (hV.nowA (s := ⟨w, _⟩) Mono_object hw)) (fun v => ?_)
 refine VL.at (fun w2 h1w => ?_)
 obtain ⟨p3, c4, rfl, hO6, hA5⟩ := h1w
 refine VL.toOwn hO6 ?_
 refine VL.move rfl ?_
 refine VL.extract rfl rfl ?_
 refine VL.extract rfl rfl ?_
 refine VL.assign rfl ?_
 refine VL.assign rfl ?_
 refine VL.nn ?_
 refine VC.seq ?_
 refine VC.sr ?_
 refine VL.move rfl ?_
 cases hs : (chainO x.chain).isSome
 ·refine VL.not rfl ?_
  refine VL.move rfl ?_
  refine VL.pass rfl rfl rfl rfl rfl ?_
  refine VL.pass rfl rfl rfl rfl rfl ?_
  refine VL.pass rfl rfl rfl rfl rfl ?_
  refine VL.pick_t rfl rfl ?_
  refine VL.move rfl ?_
  refine VL.pass rfl rfl rfl rfl rfl ?_
  refine VL.pass rfl rfl rfl rfl rfl ?_
  refine VL.pass rfl rfl rfl rfl rfl ?_
  refine VL.pick_t rfl rfl ?_
  refine VL.nn ?_
  refine VC.yes rfl ?_
  refine VC.sr ?_
  refine VL.assign rfl ?_
  refine VL.assign rfl ?_
  refine VL.nn ?_
  refine VC.ret ?_
  refine VX.then_ret ?_
  refine VX.ret2 rfl rfl rfl (fun we hw => ?_)
  exact postO ((pktO_bad hs)) ⟨none, 0, rfl, hw.drop.subA, Arr.none⟩
 ·refine VL.not rfl ?_
  refine VL.move rfl ?_
  refine VL.go rfl rfl rfl ?_
  refine VL.fieldAddr rfl fo118_2 rfl ?_
  refine VL.go rfl rfl rfl ?_
  refine VL.load (v := .int .u8 (x.kind)) 0 2 rfl kd5 (fun _ h => h) rfl rfl rfl ?_
  refine VL.go rfl rfl rfl ?_
  refine VL.lss rfl rfl ?_
  refine VL.case (fun h2_5 => ?_) (fun h2_5 => ?_)
  ·have h2_5 : x.kind < 1 := by have h : ((x.kind : Nat) : Int) < 1 := h2_5; omega
   have hkin : kindIn x.kind = false := by unfold kindIn; simp; omega
   refine VL.pick_f rfl rfl ?_
   refine VL.move rfl ?_
   refine VL.pass rfl rfl rfl rfl rfl ?_
   refine VL.pass rfl rfl rfl rfl rfl ?_
   refine VL.pass rfl rfl rfl rfl rfl ?_
   refine VL.pick_t rfl rfl ?_
   refine VL.nn ?_
   refine VC.yes rfl ?_
   refine VC.sr ?_
   refine VL.assign rfl ?_
   refine VL.assign rfl ?_
   refine VL.nn ?_
   refine VC.ret ?_
   refine VX.then_ret ?_
   refine VX.ret2 rfl rfl rfl (fun we hw => ?_)
   exact postO ((pktO_none hkin)) ⟨none, 0, rfl, hw.drop.subA, Arr.none⟩
  ·have h2_5 : 1 ≤ x.kind := by have h : ¬ ((x.kind : Nat) : Int) < 1 := h2_5; omega
   refine VL.pick_f rfl rfl ?_
   refine VL.move rfl ?_
   refine VL.go rfl rfl rfl ?_
   refine VL.fieldAddr rfl fo118_2 rfl ?_
   refine VL.go rfl rfl rfl ?_
   refine VL.load (v := .int .u8 (x.kind)) 0 2 rfl kd5 (fun _ h => h) rfl rfl rfl ?_
   refine VL.go rfl rfl rfl ?_
   refine VL.gtr rfl rfl ?_
   refine VL.case (fun h2_10 => ?_) (fun h2_10 => ?_)
   ·have h2_10 : 4 < x.kind := by have h : (4 : Int) < ((x.kind : Nat) : Int) := h2_10; omega
    have hkin : kindIn x.kind = false := by unfold kindIn; simp; omega
    refine VL.pick_f rfl rfl ?_
    refine VL.nn ?_
    refine VC.yes rfl ?_
    refine VC.sr ?_
    refine VL.assign rfl ?_
    refine VL.assign rfl ?_
    refine VL.nn ?_
    refine VC.ret ?_
    refine VX.then_ret ?_
    refine VX.ret2 rfl rfl rfl (fun we hw => ?_)
    exact postO ((pktO_none hkin)) ⟨none, 0, rfl, hw.drop.subA, Arr.none⟩
   ·have h2_10 : x.kind ≤ 4 := by have h : ¬ (4 : Int) < ((x.kind : Nat) : Int) := h2_10; omega
    refine VL.pick_f rfl rfl ?_
    refine VL.nn ?_
    refine VC.no rfl ?_
    refine VC.skip ?_
    refine VX.next ?_
    refine VC.seq ?_
    refine VC.letCells 0 rfl (fun w7 hO9 hF8 => ?_)
    apply VC.anyTA 18 1020 (F := [eqF _, eqF _, capF (be 1 (x.src)) 1, eqF _, eqF _, capF (be 1 (x.dst)) 1, eqF _, eqF _, capF (be 1 (x.kind)) 1, eqF _, eqF _, eqF _, eqF _, eqF _, arrF 1 bytesR (Mono.slice Mono.byte) ([be 1 (x.src), be 1 (x.dst), be 1 (x.kind), ((chainO x.chain).getD []), x.body, x.sig]), outF (joinO [be 1 (x.src), be 1 (x.dst), be 1 (x.kind), ((chainO x.chain).getD []), x.body, x.sig] true), bytesF ((joinO [be 1 (x.src), be 1 (x.dst), be 1 (x.kind), ((chainO x.chain).getD []), x.body, x.sig] true).getD []), eqF _]) [⟨[], [1]⟩, ⟨[(24, 0)], []⟩, ⟨[(25, 1)], []⟩, ⟨[], [1]⟩, ⟨[(27, 3)], []⟩, ⟨[(28, 4)], []⟩, ⟨[], [1]⟩, ⟨[(30, 6)], []⟩, ⟨[(31, 7)], []⟩, ⟨[], [4]⟩, ⟨[], [1]⟩, ⟨[(34, 10)], []⟩, ⟨[], [1]⟩, ⟨[(36, 12)], []⟩, ⟨[(26, 2), (29, 5), (32, 8), (33, 9), (35, 11), (37, 13)], []⟩, ⟨[(38, 14)], []⟩, ⟨[(39, 15)], []⟩, ⟨[(39, 15)], []⟩] [(40, 16), (41, 17)] [0, 1, 2, 3, 5, 6, 7, 8, 9, 10, 11, 12, 13, 14, 15, 16, 17, 18, 19, 20, 21, 22, 23] rfl (by kernel_rfl) (by kernel_rfl) rfl rfl (by kernel_rfl) (by kernel_rfl) (by kernel_rfl) rfl ?obs4 ?end4
    case obs4 =>
     refine Obs.cons ?_ ?_
     ·refine obS (by kernel_rfl) rfl rfl (fun ph4 w4 hO4 => ?_)
      refine VL.fieldAddr rfl fo118_0 rfl ?_
      exact VL.finS hO4 rfl rfl
     refine Obs.cons ?_ ?_
     ·refine obS (by kernel_rfl) rfl rfl (fun ph4 w4 hO4 => ?_)
      rintro _ rfl
      refine VL.loadF (s := ⟨w7, _⟩) (v := .int .u8 (x.src)) 0 rfl kd5 hF8 (fun _ e => e ▸ Still.ok hO4 (by repeat (first | exact List.mem_cons_self .. | apply List.mem_cons_of_mem))) rfl rfl ?_
      exact VL.finS hO4 rfl rfl
     refine Obs.cons ?_ ?_
     ·refine ob (by kernel_rfl) rfl (by kernel_rfl) rfl (fun w4 hO4 => ?_)
      rintro _ rfl
      refine VL.toOwn hO4 ?_
      refine VL.litByte (m := x.src) el24 rfl (by have hm := hx.src; omega) (fun g10 w11 hO12 hA13 => ?_)
      exact VL.finO rfl (fun _ h => h.subA) (fun _ h => ⟨_, rfl, (hA13.nowA (s := ⟨w11, _⟩) Mono.byte h)⟩)
     refine Obs.cons ?_ ?_
     ·refine obS (by kernel_rfl) rfl rfl (fun ph4 w4 hO4 => ?_)
      refine VL.fieldAddr rfl fo118_1 rfl ?_
      exact VL.finS hO4 rfl rfl
     refine Obs.cons ?_ ?_
     ·refine obS (by kernel_rfl) rfl rfl (fun ph4 w4 hO4 => ?_)
      rintro _ rfl
      refine VL.loadF (s := ⟨w7, _⟩) (v := .int .u8 (x.dst)) 1 rfl kd5 hF8 (fun _ e => e ▸ Still.ok hO4 (by repeat (first | exact List.mem_cons_self .. | apply List.mem_cons_of_mem))) rfl rfl ?_
      exact VL.finS hO4 rfl rfl
     refine Obs.cons ?_ ?_
     ·refine ob (by kernel_rfl) rfl (by kernel_rfl) rfl (fun w4 hO4 => ?_)
      rintro _ rfl
      refine VL.toOwn hO4 ?_
      refine VL.litByte (m := x.dst) el24 rfl (by have hm := hx.dst; omega) (fun g14 w15 hO16 hA17 => ?_)
      exact VL.finO rfl (fun _ h => h.subA) (fun _ h => ⟨_, rfl, (hA17.nowA (s := ⟨w15, _⟩) Mono.byte h)⟩)
     refine Obs.cons ?_ ?_
     ·refine obS (by kernel_rfl) rfl rfl (fun ph4 w4 hO4 => ?_)
      refine VL.fieldAddr rfl fo118_2 rfl ?_
      exact VL.finS hO4 rfl rfl
     refine Obs.cons ?_ ?_
     ·refine obS (by kernel_rfl) rfl rfl (fun ph4 w4 hO4 => ?_)
      rintro _ rfl
      refine VL.loadF (s := ⟨w7, _⟩) (v := .int .u8 (x.kind)) 2 rfl kd5 hF8 (fun _ e => e ▸ Still.ok hO4 (by repeat (first | exact List.mem_cons_self .. | apply List.mem_cons_of_mem))) rfl rfl ?_
      exact VL.finS hO4 rfl rfl
     refine Obs.cons ?_ ?_
     ·refine ob (by kernel_rfl) rfl (by kernel_rfl) rfl (fun w4 hO4 => ?_)
      rintro _ rfl
      refine VL.toOwn hO4 ?_
      refine VL.litByte (m := x.kind) el24 rfl (by have hm := hx.kind; omega) (fun g18 w19 hO20 hA21 => ?_)
      exact VL.finO rfl (fun _ h => h.subA) (fun _ h => ⟨_, rfl, (hA21.nowA (s := ⟨w19, _⟩) Mono.byte h)⟩)
     refine Obs.cons ?_ ?_
     ·refine obS (by kernel_rfl) rfl rfl (fun ph4 w4 hO4 => ?_)
      refine VL.move rfl ?_
      exact VL.finS hO4 rfl rfl
     refine Obs.cons ?_ ?_
     ·refine obS (by kernel_rfl) rfl rfl (fun ph4 w4 hO4 => ?_)
      refine VL.fieldAddr rfl fo118_4 rfl ?_
      exact VL.finS hO4 rfl rfl
     refine Obs.cons ?_ ?_
     ·refine obS (by kernel_rfl) rfl rfl (fun ph4 w4 hO4 => ?_)
      rintro _ rfl
      refine VL.loadF (s := ⟨w7, _⟩) (v := .slice p (x.body).length c) 4 rfl kd24 hF8 (fun _ e => e ▸ Still.ok hO4 (by repeat (first | exact List.mem_cons_self .. | apply List.mem_cons_of_mem))) rfl rfl ?_
      exact VL.finS hO4 rfl rfl
     refine Obs.cons ?_ ?_
     ·refine obS (by kernel_rfl) rfl rfl (fun ph4 w4 hO4 => ?_)
      refine VL.fieldAddr rfl fo118_5 rfl ?_
      exact VL.finS hO4 rfl rfl
     refine Obs.cons ?_ ?_
     ·refine obS (by kernel_rfl) rfl rfl (fun ph4 w4 hO4 => ?_)
      rintro _ rfl
      refine VL.sliceArrAt Try.underlying80 (by kernel_rfl) rfl ?_
      refine VL.newv (v' := .slice (some ⟨g1, 5, none⟩) (x.sig).length 64) (by rw [hx.sig]) ?_
      exact VL.finS hO4 rfl rfl
     refine Obs.cons ?_ ?_
     ·refine ob (by kernel_rfl) rfl (by kernel_rfl) rfl (fun w4 hO4 => ?_)
      rintro _ ⟨p4_2, rfl, hA4_2⟩ _ ⟨p4_5, rfl, hA4_5⟩ _ ⟨p4_8, rfl, hA4_8⟩ _ rfl _ rfl _ rfl
      refine VL.toOwn hO4 ?_
      refine VL.lit el31 rfl rfl rfl (by simp [Value.cells]) (by intro u hu; simp [Value.cells] at hu; rcases hu with rfl | rfl | rfl | rfl | rfl | rfl <;> rfl) (fun g22 => ?_)
      refine VL.letRowS [be 1 (x.src), be 1 (x.dst), be 1 (x.kind), ((chainO x.chain).getD []), x.body, x.sig] rfl (fun w' hw => ⟨⟨_, _, rfl, (hA4_2.nowA (s := ⟨w4, _⟩) Mono.byte hw)⟩, ⟨⟨_, _, rfl, (hA4_5.nowA (s := ⟨w4, _⟩) Mono.byte hw)⟩, ⟨⟨_, _, rfl, (hA4_8.nowA (s := ⟨w4, _⟩) Mono.byte hw)⟩, ⟨⟨_, _, rfl, (hA5.nowA (s := ⟨w2, _⟩) Mono.byte hw)⟩, ⟨⟨_, _, rfl, (hA.nowA (s := ⟨w, _⟩) Mono.byte hw)⟩, ⟨⟨_, _, rfl, ((hF8.bytes 5 5 rfl rfl hx.sig rfl).nowA (s := ⟨w7, _⟩) Mono.byte hw)⟩, trivial⟩⟩⟩⟩⟩⟩) (fun w23 hO24 hA25 => ?_)
      exact VL.finO rfl (fun _ h => h.subA) (fun _ h => ⟨_, _, rfl, (hA25.nowA (s := ⟨w23, _⟩) (Mono.slice Mono.byte) h)⟩)
     refine Obs.cons ?_ ?_
     ·refine ob (by kernel_rfl) rfl (by kernel_rfl) rfl (fun w4 hO4 => ?_)
      rintro _ ⟨p4_14, c4_14, rfl, hA4_14⟩
      refine VL.toOwn hO4 ?_
      refine VL.call Try.func31 rfl (by decide) rfl (fun w' hw => join_O (ls := [be 1 (x.src), be 1 (x.dst), be 1 (x.kind), ((chainO x.chain).getD []), x.body, x.sig]) hw (hA4_14.nowA (s := ⟨w4, _⟩) (Mono.slice Mono.byte) hw)) (fun v => ?_)
      refine VL.at (fun w26 h1w => ?_)
      obtain ⟨p27, c28, rfl, hO30, hA29⟩ := h1w
      refine VL.toOwn hO30 ?_
      exact VL.finO rfl (fun _ h => h.subA) (fun _ h => ⟨_, _, rfl, (hA29.nowA (s := ⟨w26, _⟩) Mono.byte h)⟩)
     refine Obs.cons ?_ ?_
     ·refine obS (by kernel_rfl) rfl rfl (fun ph4 w4 hO4 => ?_)
      rintro _ ⟨p4_15, c4_15, rfl, hA4_15⟩
      refine VL.extract rfl rfl ?_
      exact VL.finS hO4 rfl ⟨_, _, rfl, hA4_15⟩
     refine Obs.cons ?_ ?_
     ·refine obS (by kernel_rfl) rfl rfl (fun ph4 w4 hO4 => ?_)
      rintro _ ⟨p4_15, c4_15, rfl, hA4_15⟩
      refine VL.extract rfl rfl ?_
      exact VL.finS hO4 rfl rfl
     exact Obs.nil
    case end4 =>
     intro w4 hO4
     rintro _ ⟨pz, cz, rfl, hz⟩ _ rfl
     refine VL.toOwn hO4 ?_
     refine VL.assign rfl ?_
     refine VL.assign rfl ?_
     refine VL.nn ?_
     refine VC.ret ?_
     refine VX.ret2 rfl rfl rfl (fun we hw => ?_)
     exact postO ((pktO_good hs (kindIn_of.2 ⟨h2_5, h2_10⟩))) ⟨pz, cz, rfl, hw.subA, (hz.nowA (s := ⟨w4, _⟩) Mono.byte hw)⟩

end Go.Proofs.Ytcfecmoagfgnaaa

/- bag: the packets of the laws; a bag that lives. -/
namespace Go.Proofs.Ytcfecmoagfgnaaa
open Go.Vc Go.Pl

/-- The packet that the laws lay. -/
def lawPkt (a b : Nat) (l : List UInt8) : Pkt := ⟨a, b, 1, [], l, zeros 64⟩
theorem lawPkt_ok {a b : Nat} (l : List UInt8) (ha : a < 256) (hb : b < 256) : (lawPkt a b l).ok := ⟨ha, hb, (show (1 : Nat) < 256 by decide), (fun i hi => by cases hi), rfl⟩
def lawB (a b : Nat) (l : List UInt8) : List UInt8 := (pktO (lawPkt a b l)).getD []
theorem law_O {a b : Nat} {l : List UInt8} (hl : l.length ≤ 1000) : pktO (lawPkt a b l) = some (joinB [be 1 a, be 1 b, be 1 1, joinB [], l, zeros 64]) := by
 have e1 : chainO (lawPkt a b l).chain = some (joinB []) := joinO_some ⟨(show ([] : List (List UInt8)).length ≤ 64 by decide), fun p hp => by cases hp⟩ rfl
 unfold pktO pktP
 rw [e1]
 refine joinO_some ⟨by simp, fun p hp => ?_⟩ rfl
 simp only [List.mem_cons, List.not_mem_nil, or_false] at hp
 rcases hp with rfl | rfl | rfl | rfl | h | h
 ·rw [be_length]; decide
 ·rw [be_length]; decide
 ·show (be 1 1).length ≤ _; rw [be_length]; decide
 ·decide
 ·rw [h]; show l.length ≤ 4096; omega
 ·rw [h]; show (zeros 64).length ≤ 4096; decide
theorem law_back {a b : Nat} {l : List UInt8} (ha : a < 256) (hb : b < 256) (hl : l.length ≤ 1000) : pktR (lawB a b l) = some (lawPkt a b l) := by
 unfold lawB
 rw [law_O hl]
 exact pktR_iff.2 ⟨lawPkt_ok l ha hb, law_O hl⟩
theorem law_len {a b : Nat} {l : List UInt8} (hl : l.length ≤ 1000) : (lawB a b l).length ≤ 2000 := by
 unfold lawB
 rw [law_O hl]
 have e : (joinB []).length ≤ 10 := by decide
 show (joinB [be 1 a, be 1 b, be 1 1, joinB [], l, zeros 64]).length ≤ 2000
 generalize joinB [] = z at *
 simp [joinB, body, be_length, zeros]
 omega
theorem law_zero {a b : Nat} {l : List UInt8} (ha : a < 256) (hb : b < 256) (hl : l.length ≤ 1000) : pktW (lawB a b l) = 0 := pktW_zero.2 (by rw [law_back ha hb hl]; rfl)
theorem law_src {a b : Nat} {l : List UInt8} (ha : a < 256) (hb : b < 256) (hl : l.length ≤ 1000) : ((pktR (lawB a b l)).getD pkt0).src = a := by rw [law_back ha hb hl]; rfl
theorem law_dst {a b : Nat} {l : List UInt8} (ha : a < 256) (hb : b < 256) (hl : l.length ≤ 1000) : ((pktR (lawB a b l)).getD pkt0).dst = b := by rw [law_back ha hb hl]; rfl
theorem law_lay {a b : Nat} {l : List UInt8} (ha : a < 256) (hb : b < 256) (hl : l.length ≤ 1000) (now : Nat) : layP (lawB a b l) now = ⟨a, b, min (now + 1 + farN (servN a) (servN b)) 4294967295, lawB a b l⟩ := by
 unfold layP
 rw [law_back ha hb hl]
 rfl

theorem lawBytes_w {S : List Snap} {H : List Chunk} {w : World} (ho : Own S H w) {a b : Nat} (ha : a < 256) (hb : b < 256) {p : Option Addr} {l : List UInt8} {c : Nat} (hA : Bytes (keys H) w p l c) : Calls Try.prog 41 #[.int .u8 (a : Int), .int .u8 (b : Int), .slice p l.length c] w (Ret fun v w' => ∃ p' c', v = .slice p' (lawB a b l).length c' ∧ Own S H w' ∧ Bytes (keys H) w' p' (lawB a b l) c') := by
 refine enter (G := Own (⟨w, keys H⟩ :: S) H) ho.keep Try.func41 rfl Try.ntmps41 rfl ?_
 refine VC.sr ?_
 refine VL.assign rfl ?_
 refine VL.nn ?_
 refine VC.sr ?_
 refine VL.move rfl ?_
 refine VL.move rfl ?_
 refine VL.move rfl ?_
 refine VL.build (zs := pktZ) (L := pktFL) [(0, [.int .u8 (a)]), (1, [.int .u8 (b)]), (2, [.int .u8 (1)]), (4, [.slice p (l).length c])] plan118 rfl ⟨⟨rfl, ⟨_, rfl, rfl⟩, rfl⟩, ⟨⟨rfl, ⟨_, rfl, rfl⟩, rfl⟩, ⟨⟨rfl, ⟨_, rfl, rfl⟩, rfl⟩, ⟨⟨rfl, ⟨_, rfl, rfl⟩, rfl⟩, trivial⟩⟩⟩⟩ rfl ?_
 refine VL.newv (v' := .agg (cat (pktV ((lawPkt a b l)) none 0 p c)).toArray) rfl ?_
 refine VL.call Try.func91 rfl (by decide) rfl (fun w' hw => refPkt_w hw (x := (lawPkt a b l)) (lawPkt_ok l ha hb) Arr.none (hA.nowA (s := ⟨w, _⟩) Mono.byte hw)) (fun v => ?_)
 refine VL.at (fun w1 h1w => ?_)
 obtain ⟨p2, c3, rfl, hO5, hA4⟩ := h1w
 refine VL.toOwn hO5 ?_
 refine VL.move rfl ?_
 refine VL.extract rfl rfl ?_
 refine VL.extract rfl rfl ?_
 refine VL.assign rfl ?_
 refine VL.assign rfl ?_
 refine VL.nn ?_
 refine VC.sr ?_
 refine VL.move rfl ?_
 refine VL.assign rfl ?_
 refine VL.nn ?_
 refine VC.ret ?_
 refine VX.ret1 rfl rfl (fun we hw => ?_)
 exact ⟨_, _, rfl, hw.subA, (hA4.nowA (s := ⟨w1, _⟩) Mono.byte hw)⟩

def P1 : List Par := [layP (lawB 0 2 []) 5]
def P2 : List Par := [layP (lawB 0 2 []) 5, layP (lawB 16 0 []) 5]
theorem due_0 : dueAt P2 0 = 7 := by
 show (layP (lawB 0 2 []) 5).due = 7
 rw [law_lay (by decide) (by decide) (by decide)]; decide
theorem due_1 : dueAt P2 1 = 6 := by
 show (layP (lawB 16 0 []) 5).due = 6
 rw [law_lay (by decide) (by decide) (by decide)]; decide
theorem best_2 : bestZ P2 7 2 = 1 := by
 have h1 : bestI P2 7 1 = some 0 := best_first (i := 0) (by rw [due_0]; decide) rfl
 exact bestZ_some (best_less (i := 1) (by rw [due_1]; decide) h1 (by rw [due_0, due_1]; decide))
theorem lay_1 {S : List Snap} {H : List Chunk} {w : World} (ho : Own S H w) {p1 : Option Addr} {c1 : Nat} (hA : Bytes (keys H) w p1 (lawB 0 2 []) c1) : Calls Try.prog 42 #[.slice none 0 0, .slice p1 (lawB 0 2 []).length c1, .int .u32 5] w (Ret fun v w' => ∃ q d, v = .tuple #[.slice q P1.length d, .bool true] ∧ Own S H w' ∧ Arr 4 parR (keys H) w' q P1 d) :=
 lay_yes ho (xs := []) Arr.none (by decide) hA (now := 5) (by decide) (law_zero (by decide) (by decide) (by decide)) (by rw [law_src (by decide) (by decide) (by decide)]; decide) (by rw [law_dst (by decide) (by decide) (by decide)]; decide) (by decide) (by have := law_len (a := 0) (b := 2) (l := []) (by decide); omega)
theorem lay_2 {S : List Snap} {H : List Chunk} {w : World} (ho : Own S H w) {p : Option Addr} {c : Nat} (hX : Arr 4 parR (keys H) w p P1 c) {p1 : Option Addr} {c1 : Nat} (hA : Bytes (keys H) w p1 (lawB 16 0 []) c1) : Calls Try.prog 42 #[.slice p P1.length c, .slice p1 (lawB 16 0 []).length c1, .int .u32 5] w (Ret fun v w' => ∃ q d, v = .tuple #[.slice q P2.length d, .bool true] ∧ Own S H w' ∧ Arr 4 parR (keys H) w' q P2 d) :=
 lay_yes ho (xs := P1) hX (by decide) hA (now := 5) (by decide) (law_zero (by decide) (by decide) (by decide)) (by rw [law_src (by decide) (by decide) (by decide)]; decide) (by rw [law_dst (by decide) (by decide) (by decide)]; decide) (by decide) (by have := law_len (a := 16) (b := 0) (l := []) (by decide); omega)

theorem alive24_w {S : List Snap} {H : List Chunk} {w : World} (ho : Own S H w) : Calls Try.prog 37 #[] w (Ret fun v w' => v = .bool true ∧ Own S H w') := by
 refine enter (G := Own (⟨w, keys H⟩ :: S) H) ho.keep Try.func37 rfl Try.ntmps37 rfl ?_
 refine VC.sr ?_
 refine VL.assign rfl ?_
 refine VL.nn ?_
 refine VC.sr ?_
 refine VL.call Try.func41 rfl (by decide) rfl (fun w' hw => lawBytes_w hw (a := 0) (b := 2) (by decide) (by decide) (l := []) Arr.none) (fun v => ?_)
 refine VL.at (fun w1 h1w => ?_)
 obtain ⟨p2, c3, rfl, hO5, hA4⟩ := h1w
 refine VL.toOwn hO5 ?_
 refine VL.call Try.func42 rfl (by decide) rfl (fun w' hw => lay_1 hw (hA4.nowA (s := ⟨w1, _⟩) Mono.byte hw)) (fun v => ?_)
 refine VL.at (fun w6 h1w => ?_)
 obtain ⟨p7, c8, rfl, hO10, hA9⟩ := h1w
 refine VL.toOwn hO10 ?_
 refine VL.move rfl ?_
 refine VL.extract rfl rfl ?_
 refine VL.extract rfl rfl ?_
 refine VL.assign rfl ?_
 refine VL.assign rfl ?_
 refine VL.nn ?_
 refine VC.sr ?_
 refine VL.move rfl ?_
 refine VL.call Try.func41 rfl (by decide) rfl (fun w' hw => lawBytes_w hw (a := 16) (b := 0) (by decide) (by decide) (l := []) Arr.none) (fun v => ?_)
 refine VL.at (fun w11 h1w => ?_)
 obtain ⟨p12, c13, rfl, hO15, hA14⟩ := h1w
 refine VL.toOwn hO15 ?_
 refine VL.call Try.func42 rfl (by decide) rfl (fun w' hw => lay_2 hw (hA9.nowA (s := ⟨w6, _⟩) Mono_par hw) (hA14.nowA (s := ⟨w11, _⟩) Mono.byte hw)) (fun v => ?_)
 refine VL.at (fun w16 h1w => ?_)
 obtain ⟨p17, c18, rfl, hO20, hA19⟩ := h1w
 refine VL.toOwn hO20 ?_
 refine VL.move rfl ?_
 refine VL.extract rfl rfl ?_
 refine VL.extract rfl rfl ?_
 refine VL.assign rfl ?_
 refine VL.assign rfl ?_
 refine VL.nn ?_
 refine VC.sr ?_
 refine VL.move rfl ?_
 refine VL.move rfl ?_
 refine VL.go rfl rfl rfl ?_
 refine VL.move rfl ?_
 refine VL.pick_t rfl rfl ?_
 refine VL.move rfl ?_
 refine VL.go rfl rfl rfl ?_
 refine VL.move rfl ?_
 refine VL.go rfl rfl rfl ?_
 refine VL.len Try.underlying47 rfl rfl ?_
 refine VL.go rfl rfl rfl ?_
 refine VL.eql rfl rfl ?_
 refine VL.yes (rfl) ?_
 refine VL.pick_t rfl rfl ?_
 refine VL.move rfl ?_
 refine VL.go rfl rfl rfl ?_
 refine VL.move rfl ?_
 refine VL.go rfl rfl rfl ?_
 refine VL.index (xs := P2) rfl rfl Try.underlying47 sz47 hA19 (by omega) (by have hi := (show 0 < P2.length by decide); omega) ?_
 refine VL.go rfl rfl rfl ?_
 refine VL.fieldAt rfl (by obtain ⟨a, ha⟩ := hA19.isAt (by have hi := (show 0 < P2.length by decide); omega); rw [ha]; rfl) fo50_2 ?_
 refine VL.go rfl rfl rfl ?_
 refine VL.elem (s := ⟨w16, _⟩) (0) 2 rfl kd48 (fun _ h => h) (by repeat (first | exact List.mem_cons_self .. | apply List.mem_cons_of_mem)) Mono_par hA19 (List.getElem?_eq_getElem (show 0 < P2.length by decide)) (by simp) (by decide) (fun vs v hl hr hv => ?_)
 obtain ⟨p22, c23, hy21, rfl, hA24⟩ := hr
 have ehy21 : v = .int .u32 ((P2[0]'(show 0 < P2.length by decide)).due : Nat) := (Option.some.inj (hv.symm.trans rfl))
 subst ehy21
 refine VL.go rfl rfl rfl ?_
 refine VL.eql rfl rfl ?_
 refine VL.yes (by have := due_0; have e := dueAt_eq (xs := P2) (j := 0) (by decide); omega) ?_
 refine VL.pick_t rfl rfl ?_
 refine VL.move rfl ?_
 refine VL.go rfl rfl rfl ?_
 refine VL.move rfl ?_
 refine VL.go rfl rfl rfl ?_
 refine VL.index (xs := P2) rfl rfl Try.underlying47 sz47 hA19 (by omega) (by have hi := (show 1 < P2.length by decide); omega) ?_
 refine VL.go rfl rfl rfl ?_
 refine VL.fieldAt rfl (by obtain ⟨a, ha⟩ := hA19.isAt (by have hi := (show 1 < P2.length by decide); omega); rw [ha]; rfl) fo50_2 ?_
 refine VL.go rfl rfl rfl ?_
 refine VL.elem (s := ⟨w16, _⟩) (1) 2 rfl kd48 (fun _ h => h) (by repeat (first | exact List.mem_cons_self .. | apply List.mem_cons_of_mem)) Mono_par hA19 (List.getElem?_eq_getElem (show 1 < P2.length by decide)) (by simp) (by decide) (fun vs v hl hr hv => ?_)
 obtain ⟨p26, c27, hy25, rfl, hA28⟩ := hr
 have ehy25 : v = .int .u32 ((P2[1]'(show 1 < P2.length by decide)).due : Nat) := (Option.some.inj (hv.symm.trans rfl))
 subst ehy25
 refine VL.go rfl rfl rfl ?_
 refine VL.eql rfl rfl ?_
 refine VL.yes (by have := due_1; have e := dueAt_eq (xs := P2) (j := 1) (by decide); omega) ?_
 refine VL.pick_t rfl rfl ?_
 refine VL.move rfl ?_
 refine VL.go rfl rfl rfl ?_
 refine VL.move rfl ?_
 refine VL.go rfl rfl rfl ?_
 refine VL.call Try.func38 rfl (by decide) rfl (fun w' hw => ripe_w hw (hA19.nowA (s := ⟨w16, _⟩) Mono_par hw) (by decide) (now := 7) (by decide)) (fun v => ?_)
 refine VL.fact fun e29 => ?_
 subst e29
 refine VL.go rfl rfl rfl ?_
 refine VL.eql rfl rfl ?_
 refine VL.yes (best_2) ?_
 refine VL.pick_t rfl rfl ?_
 refine VL.assign rfl ?_
 refine VL.nn ?_
 refine VC.ret ?_
 refine VX.ret1 rfl rfl (fun we hw => ?_)
 exact ⟨rfl, hw.subA⟩

end Go.Proofs.Ytcfecmoagfgnaaa

/- Joined texts that the call owns. -/
namespace Go.Proofs.Ytcfecmoagfgnaaa
open Go.Vc Go.Pl

theorem refJoin_own {S : List Snap} {H : List Chunk} {w : World} (ho : Own S H w) {p : Option Addr} {ls : List (List UInt8)} {c : Nat} (hA : Arr 1 bytesR (keys H) w p ls c) : Calls Try.prog 31 #[.slice p ls.length c] w (Ret fun v w' => (joinOk ls ∧ ∃ g c, v = .tuple #[rowV g (joinB ls).length c, .bool true] ∧ Own S (row 5 1 g (joinB ls).length c ((joinB ls).map bv) :: H) w') ∨ (¬ joinOk ls ∧ v = .tuple #[.slice none 0 0, .bool false] ∧ Own S H w')) := by
 refine enter (G := Own (⟨w, keys H⟩ :: S) H) ho.keep Try.func31 rfl Try.ntmps31 rfl ?_
 refine VC.sr ?_
 refine VL.assign rfl ?_
 refine VL.assign rfl ?_
 refine VL.nn ?_
 refine VC.seq ?_
 refine VC.sr ?_
 refine VL.move rfl ?_
 refine VL.len Try.underlying31 rfl rfl ?_
 refine VL.gtr rfl rfl ?_
 refine VL.case (fun h1_2 => ?_) (fun h1_2 => ?_)
 ·refine VL.nn ?_
  refine VC.yes rfl ?_
  refine VC.sr ?_
  refine VL.assign rfl ?_
  refine VL.assign rfl ?_
  refine VL.nn ?_
  refine VC.ret ?_
  refine VX.then_ret ?_
  refine VX.ret2 rfl rfl rfl (fun we hw => ?_)
  refine .inr ⟨fun h => absurd h.1 (by omega), rfl, hw.lose⟩
 ·refine VL.nn ?_
  refine VC.no rfl ?_
  refine VC.skip ?_
  refine VX.next ?_
  refine VC.sr ?_
  refine VL.move rfl ?_
  refine VL.len Try.underlying31 rfl rfl ?_
  refine VL.conv (by rw [Try.underlying3]; rfl) Try.underlying5 rfl (by simp only [InR]; omega) ?_
  refine VL.lit el24 rfl rfl rfl (by simp [Value.cells]) (by intro u hu; simp [Value.cells] at hu; subst hu; rfl) (fun g => ?_)
  refine VL.assign rfl ?_
  refine VL.nn ?_
  refine VC.seq ?_
  refine VC.sr ?_
  refine VL.assign rfl ?_
  refine VL.nn ?_
  refine VC.block ?_
  refine VC.loop (X := Nat × Option Nat × Nat) (fun (i, g, c') => [(0, .slice p ls.length c), (5, .int .i64 i), (4, rowV g (acc ls i).length c')]) (fun (i, g, c') w' => (i ≤ ls.length ∧ ∀ j (hj : j < ls.length), j < i → ls[j].length ≤ 4096) ∧ Own (⟨w, keys H⟩ :: S) (row 5 1 g (acc ls i).length c' ((acc ls i).map bv) :: H) w') (fun (i, _, _) => ls.length - i) (0, some g, 1) ⟨rfl, rfl, rfl, trivial⟩ (fun w' h => ⟨⟨Nat.zero_le _, fun j _ hj => absurd hj (Nat.not_lt_zero _)⟩, ?_⟩) (fun (i, g, c') => VC.fact fun hi => ?_)
  ·have e : acc ls 0 = [UInt8.ofNat ls.length] := by simp [acc, body]
   rw [e]
   simpa [← byte_val (show ls.length < 256 by omega), Value.cells] using h
  ·obtain ⟨hi, hsz⟩ := hi
   have hle := acc_le ls i hsz
   refine VC.seq ?_
   refine VC.sr ?_
   refine VL.move rfl ?_
   refine VL.move rfl ?_
   refine VL.len Try.underlying31 rfl rfl ?_
   refine VL.lss rfl rfl ?_
   refine VL.case (fun h5_3 => ?_) (fun h5_3 => ?_)
   ·refine VL.nn ?_
    refine VC.yes rfl ?_
    refine VC.skip ?_
    refine VX.next ?_
    refine VC.seq ?_
    refine VC.block ?_
    refine VC.seq ?_
    refine VC.sr ?_
    refine VL.move rfl ?_
    refine VL.move rfl ?_
    have hlt : i < ls.length := by omega
    refine VL.index rfl rfl Try.underlying31 sz31 hA (by omega) (by omega) ?_
    refine VL.elem (s := ⟨w, keys H⟩) i 0 rfl kd24 (fun _ h => h) (List.mem_cons_self ..) (Mono.slice Mono.byte) hA (y := ls[i]) (by simp [hlt]) (by omega) (by omega) (fun vs v hl hr hv => ?_)
    obtain ⟨p3, c3, rfl, hA3⟩ := hr
    simp at hv
    subst hv
    refine VL.len Try.underlying24 rfl rfl ?_
    refine VL.gtr rfl rfl ?_
    refine VL.case (fun h7_5 => ?_) (fun h7_5 => ?_)
    ·refine VL.nn ?_
     refine VC.yes rfl ?_
     refine VC.sr ?_
     refine VL.assign rfl ?_
     refine VL.assign rfl ?_
     refine VL.nn ?_
     refine VC.ret ?_
     refine VX.then_ret ?_
     refine VX.block_ret ?_
     refine VX.then_ret ?_
     refine VX.then_ret ?_
     refine VX.block_ret ?_
     refine VX.then_ret ?_
     refine VX.ret2 rfl rfl rfl (fun we hw => ?_)
     refine .inr ⟨fun h => absurd (h.2 ls[i] (List.getElem_mem hlt)) (by omega), rfl, hw.drop.lose⟩
    ·refine VL.nn ?_
     refine VC.no rfl ?_
     refine VC.skip ?_
     refine VX.next ?_
     refine VC.sr ?_
     refine VL.move rfl ?_
     refine VL.move rfl ?_
     refine VL.move rfl ?_
     refine VL.index rfl rfl Try.underlying31 sz31 hA (by omega) (by omega) ?_
     refine VL.elem (s := ⟨w, keys H⟩) i 0 rfl kd24 (fun _ h => h) (List.mem_cons_self ..) (Mono.slice Mono.byte) hA (y := ls[i]) (by simp [hlt]) (by omega) (by omega) (fun vs v hl hr hv => ?_)
     obtain ⟨p4, c4, rfl, hA4⟩ := hr
     simp at hv
     subst hv
     refine VL.len Try.underlying24 rfl rfl ?_
     refine VL.call Try.func108 rfl (by decide) rfl (fun w' hw => num_any hw ls[i].length 2 (by omega) (by omega) (by omega) (fits_two (by omega))) (fun v => ?_)
     refine VL.at (fun w1 h1w => ?_)
     obtain ⟨hO, pn, cn, rfl, hN⟩ := h1w
     refine VL.toOwn hO ?_
     refine VL.append 0 el24 rfl rfl rfl rfl (fun _ h => (hN.now (s := ⟨w1, _⟩) Mono.byte h (List.mem_cons_self ..)).bytes) (by simp [be_length]) (ok1_bytes _) (by omega) (by omega) (fun g1 c1 => ?_)
     refine VL.assign rfl ?_
     refine VL.nn ?_
     refine VC.region ?_
     refine VL.move rfl ?_
     refine VL.move rfl ?_
     refine VL.move rfl ?_
     refine VL.index rfl rfl Try.underlying31 sz31 hA (by omega) (by omega) ?_
     refine VL.elem (s := ⟨w, keys H⟩) i 0 rfl kd24 (fun _ h => h) (List.mem_cons_of_mem _ (List.mem_cons_self ..)) (Mono.slice Mono.byte) hA (y := ls[i]) (by simp [hlt]) (by omega) (by omega) (fun vs v hl hr hv => ?_)
     obtain ⟨p5, c5, rfl, hA5⟩ := hr
     simp at hv
     subst hv
     refine VL.append 0 el24 rfl rfl rfl rfl (fun _ h => (hA5.now (s := ⟨w, keys H⟩) Mono.byte h.drop (List.mem_cons_of_mem _ (List.mem_cons_self ..))).bytes) (by simp) (ok1_bytes _) (by omega) (by omega) (fun g2 c2 => ?_)
     refine VL.assign rfl ?_
     refine VL.nil ?_
     refine VX.block_normal ?_
     refine VX.next ?_
     refine VC.region ?_
     refine VL.move rfl ?_
     refine VL.add rfl rfl (by simp only [InR]; omega) ?_
     refine VL.assign rfl ?_
     refine VL.nil ?_
     refine VX.round (i + 1, g2, c2) ⟨rfl, rfl, ?_, trivial⟩ (fun w' h => ⟨⟨by omega, ?_⟩, ?_⟩) (by show ls.length - (i + 1) < ls.length - i; omega)
     ·show some _ = some _
      rw [acc_succ ls i hlt]
      simp only [List.length_append, be_length]
      rw [Nat.add_assoc]
     ·intro j hj hji
      by_cases e : j = i
      ·subst e; omega
      ·exact hsz j hj (by omega)
     ·have e : (acc ls (i + 1)).map bv = (acc ls i).map bv ++ (be 2 ls[i].length).map bv ++ ls[i].map bv := by
       rw [acc_succ ls i hlt, List.map_append, List.map_append, List.append_assoc]
      have e2 : (acc ls (i + 1)).length = (acc ls i).length + 2 + ls[i].length := by
       rw [acc_succ ls i hlt]
       simp only [List.length_append, be_length]
       omega
      rw [e, e2]
      exact h.lose
   ·refine VL.nn ?_
    refine VC.no rfl ?_
    refine VC.exit ?_
    refine VX.then_exit ?_
    refine VX.then_exit ?_
    refine VX.block_here ?_
    refine VX.next ?_
    refine VC.sr ?_
    refine VL.move rfl ?_
    refine VL.assign rfl ?_
    refine VL.assign rfl ?_
    refine VL.nn ?_
    refine VC.ret ?_
    refine VX.ret2 rfl rfl rfl (fun we hw => ?_)
    have hil : i = ls.length := by omega
    have hok : joinOk ls := ⟨by omega, fun q hq => by
     obtain ⟨j, hj, rfl⟩ := List.getElem_of_mem hq
     exact hsz j hj (by omega)⟩
    rw [hil, acc_done] at hw
    refine .inl ⟨hok, _, _, ?_, hw.lose⟩
    rw [hil, acc_done]

/-- A row of bytes that is owned, or none. -/
def RowO (S : List Snap) (H : List Chunk) (o : Option (List UInt8)) : Ending → World → Prop :=
  Ret fun v w' => ∃ g c, v = .tuple #[rowV g (o.getD []).length c, .bool o.isSome] ∧ Own S (row 5 1 g (o.getD []).length c ((o.getD []).map bv) :: H) w'
theorem rowO_none {S : List Snap} {H : List Chunk} {w : World} (h : Own S H w) {o : Option (List UInt8)} (e : none = o) : ∃ g c, (.tuple #[.slice none 0 0, .bool false] : Value) = .tuple #[rowV g (o.getD []).length c, .bool o.isSome] ∧ Own S (row 5 1 g (o.getD []).length c ((o.getD []).map bv) :: H) w := by
 subst e; exact ⟨none, 0, rfl, Own.row_nil 5 1 h⟩
theorem rowO_some {S : List Snap} {H : List Chunk} {w : World} {g : Option Nat} {c : Nat} {l : List UInt8} (h : Own S (row 5 1 g l.length c (l.map bv) :: H) w) {o : Option (List UInt8)} (e : some l = o) : ∃ g' c', (.tuple #[rowV g l.length c, .bool true] : Value) = .tuple #[rowV g' (o.getD []).length c', .bool o.isSome] ∧ Own S (row 5 1 g' (o.getD []).length c' ((o.getD []).map bv) :: H) w := by
 subst e; exact ⟨g, c, rfl, h⟩
theorem refJoin_O {S : List Snap} {H : List Chunk} {w : World} (ho : Own S H w) {p : Option Addr} {ls : List (List UInt8)} {c : Nat} (hA : Arr 1 bytesR (keys H) w p ls c) : Calls Try.prog 31 #[.slice p ls.length c] w (RowO S H (joinO ls true)) :=
 calls_mono (refJoin_own ho hA) fun v w' h => by
  rcases h with ⟨h1, g, c, rfl, h2⟩ | ⟨h1, rfl, h2⟩
  ·exact rowO_some h2 (joinO_some h1 rfl).symm
  ·exact rowO_none h2 (joinO_none fun h => h1 h.1).symm

theorem postRow {S : List Snap} {H : List Chunk} {o o' : Option (List UInt8)} (e : o' = o) {v : Value} {w' : World} (h : ∃ g c, v = .tuple #[rowV g (o'.getD []).length c, .bool o'.isSome] ∧ Own S (row 5 1 g (o'.getD []).length c ((o'.getD []).map bv) :: H) w') : ∃ g c, v = .tuple #[rowV g (o.getD []).length c, .bool o.isSome] ∧ Own S (row 5 1 g (o.getD []).length c ((o.getD []).map bv) :: H) w' := by subst e; exact h

end Go.Proofs.Ytcfecmoagfgnaaa

/- The rules of the walks, continued: regions whose order is open, where 'ahead of' and 'behind' are asked by way of other operations too. -/
namespace Go.Vc
section
variable {P : Program} {n : Nat} {Q : Exit → Act → World → Prop} {ops : Array Oper}

def Ob3 (P : Program) (n : Nat) (ops : Array Oper) (Q : Exit → Act → World → Prop) (J : Bool → World → Prop) (Stp : Bool → World → World → Prop) (kk : Nat) (F : List Fact) (σ : Sl) (i : Nat) (I : Ins) (o : Oper) : Prop :=
  insOk ops i I = true ∧ ∀ (ph : Bool) (w0 : World) (vals : Nat → Value), J ph w0 → (i = kk → ph = false) → (below ops ops.size kk i = true → ph = false) → (ops[kk]? = none → ph = false) → (below ops ops.size i kk = true → ph = true) → (∀ p ∈ I.pre, factOf F p.2 (vals p.2) w0) →
    VL P n ops (Post n Q J Stp (factOf F i) o.dst ph (ph || Nat.beq i kk) w0) [o] (preSlots I.pre vals ++ only σ I.bas) (fun w => w = w0)


theorem step_inv3 {J : Bool → World → Prop} {Stp : Bool → World → World → Prop} {kk : Nat} {F : List Fact} {σ : Sl} (hp : plainRegion ops = true) {late : Nat → Bool} (hlate : ∀ i o, ops[i]? = some o → late i = true → i = kk ∨ below ops ops.size i kk = true) (hst : ∀ ph i v w w', Stp ph w w' → (late i = true → ph = true) → factOf F i v w → factOf F i v w')
  {i : Nat} {I : Ins} {o : Oper} (hi : ops[i]? = some o) (hob : Ob3 P n ops Q J Stp kk F σ i I o) {listed : Array Bool} {a : Act} {w : World} (hI : Inv n ops F J kk σ listed a w) (hr : i ∈ Region.ready .any ops listed) :
  wpOp P ops Q i (fun a' w' => Inv n ops F J kk σ (listed.setIfInBounds i true) a' w') a w := by
 obtain ⟨hun, o', ho', hall⟩ := mem_ready.1 hr
 obtain rfl : o' = o := Option.some.inj (ho'.symm.trans hi)
 obtain ⟨hok, hvl⟩ := hob
 unfold insOk at hok
 rw [hi] at hok
 simp only [Bool.and_eq_true] at hok
 have hilt : i < ops.size := (Array.getElem?_eq_some_iff.1 hi).1
 have hunf : listed.getD i false = false := by
  have : i < listed.size := by rw [hI.size]; exact hilt
  simp [this] at hun ⊢
  exact hun
 -- the operands
 let vals : Nat → Value := fun j => match ops[j]? with
  | some p => match p.dst with
   | some d => a.tmps.getD d undef
   | none => undef
  | none => undef
 have hpre : ∀ d j, (d, j) ∈ I.pre → listed.getD j false = true ∧ ∃ p, ops[j]? = some p ∧ p.dst = some d := by
  intro d j hm
  have h1 := List.all_eq_true.1 hok.1 (d, j) hm
  simp only [Bool.and_eq_true] at h1
  obtain ⟨e, he, hb, hon⟩ := waits_spec h1.1
  have h2 := h1.2
  cases hpj : ops[j]? with
  | none => simp [hpj] at h2
  | some p =>
   cases hpd : p.dst with
   | none => simp [hpj, hpd] at h2
   | some d' =>
    simp [hpj, hpd] at h2
    subst h2
    exact ⟨hon ▸ hall e he hb, p, rfl, hpd⟩
 have hval : ∀ d j, (d, j) ∈ I.pre → vals j = a.tmps.getD d undef := by
  intro d j hm
  obtain ⟨_, p, h1, h2⟩ := hpre d j hm
  simp only [vals, h1, h2]
 have hfacts : ∀ p ∈ I.pre, factOf F p.2 (vals p.2) w := by
  rintro ⟨d, j⟩ hm
  obtain ⟨h0, p, h1, h2⟩ := hpre d j hm
  show factOf F j (vals j) w
  rw [hval d j hm]
  exact hI.fact j p d h1 h0 h2
 have hagr : Agr n (preSlots I.pre vals ++ only σ I.bas) a := by
  refine ⟨hI.dfr, hI.tsz, fun t v ht => ?_⟩
  rw [look_append] at ht
  cases hl : look (preSlots I.pre vals) t with
  | some u =>
   simp [hl] at ht
   subst ht
   obtain ⟨j, hm, rfl⟩ := look_pre hl
   rw [hval t j hm]
  | none =>
   simp [hl] at ht
   obtain ⟨hts, hlσ⟩ := look_only ht
   refine hI.base t v hlσ fun j p hj hlj hd => ?_
   have h1 := List.all_eq_true.1 hok.2 t hts
   have h2 := List.all_eq_true.1 h1 (p, j) (by rw [List.mem_zipIdx_iff_getElem?]; simpa using hj)
   simp [hd] at h2
   rcases h2 with h2 | h2
   ·subst h2; rw [hunf] at hlj; cases hlj
   ·obtain ⟨e, he, hb, hon⟩ := waits_spec h2
    have := hI.closed j p hj hlj e he hb
    rw [hon, hunf] at this
    cases this
 have hph1 : i = kk → listed.getD kk false = false := fun e => e ▸ hunf
 have hph2 : below ops ops.size kk i = true → listed.getD kk false = false := by
  intro hb
  cases hl : listed.getD kk false with
  | false => rfl
  | true =>
   have := below_listed hI.closed _ kk i hb (fun p hpk e he hbd => hI.closed kk p hpk hl e he hbd)
   rw [hunf] at this
   cases this
 have hph3 : below ops ops.size i kk = true → listed.getD kk false = true := fun hb =>
  below_listed hI.closed _ i kk hb (fun p hpk e he hbd => by
   obtain rfl : o' = p := Option.some.inj (hi.symm.trans hpk)
   exact hall e he hbd)
 have hph4 : ops[kk]? = none → listed.getD kk false = false := by
  intro hn
  have h1 : listed.size ≤ kk := by rw [hI.size]; exact Array.getElem?_eq_none_iff.1 hn
  simp [Array.getElem?_eq_none h1]
 have hw := hvl _ w vals hI.inv hph1 hph2 hph4 hph3 hfacts a w hagr rfl
 -- what the operation leaves
 have keep : ∀ a' w', (∃ v, a' = a.put o'.dst v) → Post n Q J Stp (factOf F i) o'.dst (listed.getD kk false) (listed.getD kk false || Nat.beq i kk) w .normal a' w' → Inv n ops F J kk σ (listed.setIfInBounds i true) a' w' := by
  rintro a' w' ⟨u, rfl⟩ ⟨hd, ⟨v, hv1, hv2⟩, hs, hJ⟩
  have hset : ∀ j, (listed.setIfInBounds i true).getD j false = true → j = i ∨ listed.getD j false = true := by
   intro j hj
   by_cases e : i = j
   ·exact .inl e.symm
   ·right; rw [getD_set_ne false e] at hj; exact hj
  refine ⟨by simp [hI.size], fun j p hj hlj e he hb => ?_, fun j p d hj hlj hdd => ?_, fun t x ht hno => ?_, hd, (by cases o'.dst <;> simp [Act.put, hI.tsz]), ?_⟩
  ·rcases hset j hlj with rfl | hlj
   ·obtain rfl : o' = p := Option.some.inj (hi.symm.trans hj)
    exact getD_set_true (hall e he hb)
   ·exact getD_set_true (hI.closed j p hj hlj e he hb)
  ·by_cases e : j = i
   ·subst e
    obtain rfl : o' = p := Option.some.inj (hi.symm.trans hj)
    rw [hv1 d hdd]; exact hv2
   ·have hlj' := (hset j hlj).resolve_left e
    have hne : o'.dst ≠ some d := fun h => e (plain_dst hp hj hi hdd h)
    have : (a.put o'.dst u).tmps.getD d undef = a.tmps.getD d undef := by
     cases h : o'.dst with
     | none => rfl
     | some d' =>
      have hdn : d' ≠ d := fun hh => hne (by rw [h, hh])
      simp [Act.put, Array.getElem?_setIfInBounds_ne hdn]
    rw [this]
    refine hst _ j _ w w' hs (fun hlt => ?_) (hI.fact j p d hj hlj' hdd)
    rcases hlate j p hj hlt with h1 | h1
    ·exact h1 ▸ hlj'
    ·exact below_listed hI.closed _ j kk h1 (fun q hq e he hbd => by
      obtain rfl : p = q := Option.some.inj (hj.symm.trans hq)
      exact hI.closed j p hj hlj' e he hbd)
  ·have h1 := hI.base t x ht (fun j p hj hlj => hno j p hj (getD_set_true hlj))
   have hne : o'.dst ≠ some t := by
    refine hno i o' hi ?_
    have : i < listed.size := by rw [hI.size]; exact hilt
    simp [this]
   rw [← h1]
   cases h : o'.dst with
   | none => rfl
   | some d' =>
    have hdn : d' ≠ t := fun hh => hne (by rw [h, hh])
    simp [Act.put, Array.getElem?_setIfInBounds_ne hdn]
  ·have : (listed.setIfInBounds i true).getD kk false = (listed.getD kk false || Nat.beq i kk) := by
    by_cases e : i = kk
    ·subst e
     have : i < listed.size := by rw [hI.size]; exact hilt
     simp [this]
    ·rw [getD_set_ne false e]
     have : Nat.beq i kk = false := by
      cases hb : Nat.beq i kk
      ·rfl
      ·exact absurd (Nat.eq_of_beq_eq_true hb) e
     simp [this]
   rw [this]; exact hJ
 have hQ : ∀ e a1 w1, e ≠ .normal → Post n Q J Stp (factOf F i) o'.dst (listed.getD kk false) (listed.getD kk false || Nat.beq i kk) w e a1 w1 → Q e a1 w1 := by
  intro e a1 w1 hne h
  cases e <;> first | exact absurd rfl hne | exact h
 unfold wpList at hw
 unfold wpOp
 rw [hi]
 simp only
 split
 ·rename_i hwt
  rw [if_pos hwt] at hw
  rcases hw with hw | ⟨h1, a1, w1, h2⟩
  ·left
   refine Oper.wp_mono (fun a' w' h => keep a' w' h.1 h.2) (wp_shape (fun a' w' h => ?_) hQ hw)
   exact h.1
  ·exact .inr ⟨h1, a1, w1, hQ _ _ _ (by simp) h2⟩
 ·rename_i hwt
  rw [if_neg hwt] at hw
  exact keep _ _ ⟨undef, rfl⟩ hw

def Obs3 (P : Program) (n : Nat) (ops : Array Oper) (Q : Exit → Act → World → Prop) (J : Bool → World → Prop) (Stp : Bool → World → World → Prop) (kk : Nat) (F : List Fact) (σ : Sl) : Nat → List Ins → List Oper → Prop
  | i, I :: Is, o :: os => Ob3 P n ops Q J Stp kk F σ i I o ∧ Obs3 P n ops Q J Stp kk F σ (i + 1) Is os
  | _, [], [] => True
  | _, _, _ => False

theorem Obs3.cons {J : Bool → World → Prop} {Stp : Bool → World → World → Prop} {kk : Nat} {F : List Fact} {σ : Sl} {i : Nat} {I : Ins} {Is : List Ins} {o : Oper} {os : List Oper} (h : Ob3 P n ops Q J Stp kk F σ i I o) (k : Obs3 P n ops Q J Stp kk F σ (i + 1) Is os) : Obs3 P n ops Q J Stp kk F σ i (I :: Is) (o :: os) := ⟨h, k⟩
theorem Obs3.nil {J : Bool → World → Prop} {Stp : Bool → World → World → Prop} {kk : Nat} {F : List Fact} {σ : Sl} {i : Nat} : Obs3 P n ops Q J Stp kk F σ i [] [] := trivial


theorem Obs3.get {J : Bool → World → Prop} {Stp : Bool → World → World → Prop} {kk : Nat} {F : List Fact} {σ : Sl} : ∀ (Is : List Ins) (os : List Oper) (k : Nat), Obs3 P n ops Q J Stp kk F σ k Is os → ∀ i o, os[i]? = some o → ∃ I, Ob3 P n ops Q J Stp kk F σ (k + i) I o
 | [], [], _, _, i, o, h => by simp at h
 | [], _ :: _, _, h, _, _, _ => h.elim
 | _ :: _, [], _, h, _, _, _ => h.elim
 | I :: Is, o :: os, k, h, i, p, hi => by
  cases i with
  | zero => simp at hi; subst hi; exact ⟨I, h.1⟩
  | succ i =>
   obtain ⟨I', h'⟩ := Obs3.get Is os (k + 1) h.2 i p (by simpa using hi)
   exact ⟨I', by rw [show k + (i + 1) = k + 1 + i by omega]; exact h'⟩

/-- The region: open up to operation m, in order behind. -/
theorem VC.anyTD {id : Nat} {l : List Oper} {σ : Sl} {G : World → Prop} (J : Bool → World → Prop) (Stp : Bool → World → World → Prop) (m kk : Nat) (F : List Fact) (Is : List Ins) (outs : List (Nat × Nat)) (bas : List Nat)
  (hmix : P.follows .mixedOrders = true) (hp : plainRegion l.toArray = true) (htl : tailed l.toArray m = true) (hkm : kk < m ∨ l.length ≤ kk) (hml : m ≤ l.length) (hG : ∀ w, G w → J false w.drew) (late : Nat → Bool) (hlate : ∀ i o, l[i]? = some o → late i = true → i = kk ∨ below l.toArray l.toArray.size i kk = true) (hst : ∀ ph i v w w', Stp ph w w' → (late i = true → ph = true) → factOf F i v w → factOf F i v w')
  (houts : outs.all (fun (d, j) => Nat.blt j m && match l[j]? with | some p => (match p.dst with | some d' => Nat.beq d d' | none => false) | none => false) = true)
  (hbas : bas.all (fun t => (l.take m).all fun p => match p.dst with | some d => !Nat.beq d t | none => true) = true)
  (hobs : Obs3 P n l.toArray Q J Stp kk F σ 0 Is (l.take m))
  (hend : ∀ vals : Nat → Value, VL P n l.toArray Q (l.drop m) (preSlots outs vals ++ only σ bas) (fun w => (∀ p ∈ outs, factOf F p.2 (vals p.2) w) ∧ J (Nat.blt kk m) w)) :
  VC P n Q (.region id l.toArray true) σ G := by
 intro a w ha hw
 refine wp_region_any hmix ?_
 have h0 : ∀ j, (Array.replicate l.toArray.size false).getD j false = false := by
  intro j
  rcases Nat.lt_or_ge j l.length with h | h
  ·simp [h]
  ·simp [h]
 -- all ahead of the tail are done: the tail
 have start : ∀ (listed : Array Bool) (a : Act) (w : World), Inv n l.toArray F J kk σ listed a w → (∀ i, listed.getD i false = true ↔ i < m) → wpList P l.toArray Q (l.drop m) a w := by
  intro listed a w hI hall
  let vals : Nat → Value := fun j => match l[j]? with
   | some p => match p.dst with
    | some d => a.tmps.getD d undef
    | none => undef
   | none => undef
  have hout : ∀ d j, (d, j) ∈ outs → j < m ∧ ∃ p, l[j]? = some p ∧ p.dst = some d := by
   intro d j hm
   have h1 := List.all_eq_true.1 houts (d, j) hm
   simp only [Bool.and_eq_true] at h1
   refine ⟨by have := h1.1; simp [Nat.blt, Nat.ble_eq] at this; omega, ?_⟩
   have h1 := h1.2
   cases hpj : l[j]? with
   | none => simp [hpj] at h1
   | some p =>
    cases hpd : p.dst with
    | none => simp [hpj, hpd] at h1
    | some d' => simp [hpj, hpd] at h1; subst h1; exact ⟨p, rfl, hpd⟩
  have hval : ∀ d j, (d, j) ∈ outs → vals j = a.tmps.getD d undef := by
   intro d j hm
   obtain ⟨_, p, h1, h2⟩ := hout d j hm
   simp only [vals, h1, h2]
  refine hend vals a w ⟨hI.dfr, hI.tsz, fun t v ht => ?_⟩ ⟨?_, ?_⟩
  ·rw [look_append] at ht
   cases hl : look (preSlots outs vals) t with
   | some u =>
    simp [hl] at ht
    subst ht
    obtain ⟨j, hm, rfl⟩ := look_pre hl
    rw [hval t j hm]
   | none =>
    simp [hl] at ht
    obtain ⟨hts, hlσ⟩ := look_only ht
    refine hI.base t v hlσ fun j p hj hlj hd => ?_
    have h1 := List.all_eq_true.1 hbas t hts
    have hjm := (hall j).1 hlj
    have hjt : (l.take m)[j]? = some p := by rw [List.getElem?_take, if_pos hjm]; simpa using hj
    have h2 := List.all_eq_true.1 h1 p (List.mem_of_getElem? hjt)
    simp [hd] at h2
  ·rintro ⟨d, j⟩ hm
   obtain ⟨h0, p, h1, h2⟩ := hout d j hm
   show factOf F j (vals j) w
   rw [hval d j hm]
   exact hI.fact j p d (by simpa using h1) ((hall j).2 h0) h2
  ·have := hI.inv
   have e : listed.getD kk false = Nat.blt kk m := by
    by_cases hk : kk < m
    ·rw [(hall kk).2 hk]; symm; simp [Nat.blt, Nat.ble_eq]; omega
    ·have h1 : listed.getD kk false = false := by
      cases hb : listed.getD kk false
      ·rfl
      ·exact absurd ((hall kk).1 hb) hk
     rw [h1]; symm
     cases hb : Nat.blt kk m
     ·rfl
     ·simp [Nat.blt, Nat.ble_eq] at hb; omega
   rw [← e]; exact this
 let K : Array Bool → Act → World → Prop := fun listed a w =>
  (Inv n l.toArray F J kk σ listed a w ∧ ∀ i, m ≤ i → listed.getD i false = false) ∨
  (∃ k, m < k ∧ listed.size = l.toArray.size ∧ (∀ i, listed.getD i false = true ↔ i < k ∧ i < l.length) ∧ wpList P l.toArray Q (l.drop k) a w)
 have tstep : ∀ (k : Nat) (listed : Array Bool) (a : Act) (w : World), k < l.length → m ≤ k → listed.size = l.toArray.size → (∀ i, listed.getD i false = true ↔ i < k ∧ i < l.length) → wpList P l.toArray Q (l.drop k) a w →
   wpOp P l.toArray Q k (fun a' w' => K (listed.setIfInBounds k true) a' w') a w := by
  intro k listed a w hk hmk hsz hl hwp
  have hd : l.drop k = l[k] :: l.drop (k + 1) := List.drop_eq_getElem_cons hk
  have hnext : ∀ a' w', wpList P l.toArray Q (l.drop (k + 1)) a' w' → K (listed.setIfInBounds k true) a' w' := by
   intro a' w' h
   refine .inr ⟨k + 1, by omega, by simp [hsz], fun i => ?_, h⟩
   rw [listed_set (by rw [hsz]; simpa using hk), Bool.or_eq_true, hl i]
   constructor
   ·rintro (h | h)
    ·have := Nat.eq_of_beq_eq_true h; omega
    ·omega
   ·intro h
    by_cases e : i = k
    ·left; subst e; simp
    ·right; omega
  rw [hd] at hwp
  unfold wpList at hwp
  unfold wpOp
  have hk' : l.toArray[k]? = some l[k] := by simp [hk]
  rw [hk']
  simp only
  split
  ·rename_i hwt
   rw [if_pos hwt] at hwp
   rcases hwp with hwp | hwp
   ·exact .inl (Oper.wp_mono (fun a' w' h => hnext a' w' h) hwp)
   ·exact .inr hwp
  ·rename_i hwt
   rw [if_neg hwt] at hwp
   exact hnext _ _ hwp
 refine any_gen (K := K) (fun i listed a w hI hr => ?_) (fun listed a w hI hr => ?_) _ _ a _ ?_ ?_
 ·obtain ⟨hun, o, ho, hall⟩ := mem_ready.1 hr
  have hil : i < l.length := by simpa using (Array.getElem?_eq_some_iff.1 ho).1
  rcases hI with ⟨hI, hnt⟩ | ⟨k, hmk, hsz, hl, hwp⟩
  ·by_cases him : i < m
   ·have hot : (l.take m)[i]? = some o := by rw [List.getElem?_take, if_pos him]; simpa using ho
    obtain ⟨I, hob⟩ := Obs3.get Is (l.take m) 0 hobs i o hot
    rw [Nat.zero_add] at hob
    refine wpOp_mono (fun a' w' h => .inl ⟨h, fun j hj => ?_⟩) (step_inv3 hp (fun i o hi => hlate i o (by simpa using hi)) hst ho hob hI hr)
    rw [getD_set_ne false (by omega)]; exact hnt j hj
   · -- the tail's first
    have hb : ∀ j, j < i → listed.getD j false = true := fun j hj =>
     below_listed hI.closed _ i j (tailed_spec htl (by simpa using hil) (by omega) hj) (fun o' ho' e he hbd => by
      obtain rfl : o' = o := Option.some.inj (ho'.symm.trans ho)
      exact hall e he hbd)
    have hie : i = m := by
     rcases Nat.lt_or_ge m i with h | h
     ·have h1 := hb m h
      rw [hnt m (Nat.le_refl _)] at h1; cases h1
     ·omega
    subst hie
    have hiff : ∀ j, listed.getD j false = true ↔ j < i := fun j => ⟨fun h => by
     rcases Nat.lt_or_ge j i with h' | h'
     ·exact h'
     ·rw [hnt j h'] at h; exact absurd h (by simp), hb j⟩
    exact tstep i listed a w hil (Nat.le_refl _) hI.size (fun j => by rw [hiff]; constructor <;> intro h <;> omega) (start listed a w hI hiff)
  ·have hki : i = k := by
    have h1 : listed.getD i false = false := by
     have : i < listed.size := by rw [hsz]; simpa using hil
     simp [this] at hun ⊢
     exact hun
    have hge : k ≤ i := by
     rcases Nat.lt_or_ge i k with h | h
     ·have := (hl i).2 ⟨h, hil⟩
      rw [h1] at this; cases this
     ·exact h
    rcases Nat.lt_or_ge k i with h | h
    · -- k must be done ahead of i
     have hcl : ∀ j o', l.toArray[j]? = some o' → listed.getD j false = true → ∀ e ∈ o'.after, Region.binds .any e = true → listed.getD e.on false = true := by
      intro j o' hj hlj e he hbd
      have hb := plain_back hp hj he hbd
      have := (hl j).1 hlj
      exact (hl e.on).2 ⟨by omega, by omega⟩
     have := below_listed hcl _ i k (tailed_spec htl (by simpa using hil) (by omega) h) (fun o' ho' e he hbd => by
      obtain rfl : o' = o := Option.some.inj (ho'.symm.trans ho)
      exact hall e he hbd)
     have := (hl k).1 this
     omega
    ·omega
   subst hki
   exact tstep i listed a w hil (by omega) hsz hl hwp
 ·rcases hI with ⟨hI, hnt⟩ | ⟨k, hmk, hsz, hl, hwp⟩
  ·have hall := all_listed hp hI.size hr
   have hme : m = l.length := by
    rcases Nat.lt_or_ge m l.length with h | h
    ·have := hall m (by simpa using h)
     rw [hnt m (Nat.le_refl _)] at this; cases this
    ·omega
   have := start listed a w hI (fun j => ⟨fun h => by
    rcases Nat.lt_or_ge j m with h' | h'
    ·exact h'
    ·rw [hnt j h'] at h; exact absurd h (by simp), fun h => hall j (by simp; omega)⟩)
   rw [hme, List.drop_length] at this
   exact this
  ·have hall := all_listed hp hsz hr
   have hk : l.length ≤ k := by
    rcases Nat.lt_or_ge k l.length with h | h
    ·have := (hl k).1 (hall k (by simpa using h)); omega
    ·exact h
   rw [List.drop_eq_nil_of_le hk] at hwp
   exact hwp
 ·simp
 ·exact .inl ⟨⟨by simp, fun j o _ hl => (by rw [h0 j] at hl; cases hl), fun j o d _ hl => (by rw [h0 j] at hl; cases hl), fun t v ht _ => ha.at_ t v ht, ha.dfr, ha.size, (by rw [h0]; exact hG w hw)⟩, fun i _ => h0 i⟩


variable {S : List Snap} {H H' : List Chunk}
theorem obS3 {kk : Nat} {F : List (SFact (keys H))} {σ : Sl} {i : Nat} {I : Ins} {o : Oper} (hok : insOk ops i I = true) (hn : decide ((I.pre.map (·.1)).Nodup) = true) (hk : Nat.beq i kk = false)
  (h : ∀ ph w0, Still S H ph w0 → EachV F w0 I.pre [] (fun τ => VL P n ops (Post n Q (Still S H) (Turn2 (keys H)) (factOf (F.map (·.f)) i) o.dst ph ph w0) [o] (τ ++ only σ I.bas) (fun w => w = w0))) :
  Ob3 P n ops Q (Still S H) (Turn2 (keys H)) kk (F.map (·.f)) σ i I o :=
 ⟨hok, fun ph w0 vals hJ _ _ _ _ hF => by
  have h1 := EachV.spec I.pre [] _ (h ph w0 hJ) hF
  intro a w ha hw
  have h2 := h1 a w (ha.back (of_decide_eq_true hn)) hw
  have e : (ph || Nat.beq i kk) = ph := by rw [hk, Bool.or_false]
  rw [e]
  exact h2⟩
theorem ob3 {kk : Nat} {F : List (SFact (keys H))} {σ : Sl} {i : Nat} {I : Ins} {o : Oper} (hok : insOk ops i I = true) (hn : decide ((I.pre.map (·.1)).Nodup) = true)
  (hk : below ops ops.size kk i = true) (hki : Nat.beq i kk = false)
  (h : ∀ w0, Own S H w0 → EachV F w0 I.pre [] (fun τ => VL P n ops (Post n Q (Still S H) (Turn2 (keys H)) (factOf (F.map (·.f)) i) o.dst false false w0) [o] (τ ++ only σ I.bas) (fun w => w = w0))) :
  Ob3 P n ops Q (Still S H) (Turn2 (keys H)) kk (F.map (·.f)) σ i I o :=
 ⟨hok, fun ph w0 vals hJ _ h2 _ _ hF => by
  have hp : ph = false := h2 hk
  subst hp
  have h1 := EachV.spec I.pre [] _ (h w0 hJ) hF
  intro a w ha hw
  have h2 := h1 a w (ha.back (of_decide_eq_true hn)) hw
  rw [hki]
  exact h2⟩
theorem obK3 {kk : Nat} {F : List (SFact (keys H))} {σ : Sl} {I : Ins} {o : Oper} (hok : insOk ops kk I = true) (hn : decide ((I.pre.map (·.1)).Nodup) = true)
  (h : ∀ w0, Own S H w0 → EachV F w0 I.pre [] (fun τ => VL P n ops (Post n Q (Still S H) (Turn2 (keys H)) (factOf (F.map (·.f)) kk) o.dst false true w0) [o] (τ ++ only σ I.bas) (fun w => w = w0))) :
  Ob3 P n ops Q (Still S H) (Turn2 (keys H)) kk (F.map (·.f)) σ kk I o :=
 ⟨hok, fun ph w0 vals hJ h1 _ _ _ hF => by
  have hp : ph = false := h1 rfl
  subst hp
  have h1 := EachV.spec I.pre [] _ (h w0 hJ) hF
  intro a w ha hw
  have h2 := h1 a w (ha.back (of_decide_eq_true hn)) hw
  rw [Nat.beq_refl]
  exact h2⟩
/-- It waits for that operation. -/
theorem obA3 {kk : Nat} {F : List (SFact (keys H))} {σ : Sl} {i : Nat} {I : Ins} {o : Oper} (hok : insOk ops i I = true) (hn : decide ((I.pre.map (·.1)).Nodup) = true) (hk : below ops ops.size i kk = true)
  (h : ∀ w0, Still S H true w0 → EachV F w0 I.pre [] (fun τ => VL P n ops (Post n Q (Still S H) (Turn2 (keys H)) (factOf (F.map (·.f)) i) o.dst true true w0) [o] (τ ++ only σ I.bas) (fun w => w = w0))) :
  Ob3 P n ops Q (Still S H) (Turn2 (keys H)) kk (F.map (·.f)) σ i I o :=
 ⟨hok, fun ph w0 vals hJ _ _ _ h4 hF => by
  have hp : ph = true := h4 hk
  subst hp
  have h1 := EachV.spec I.pre [] _ (h w0 hJ) hF
  intro a w ha hw
  exact h1 a w (ha.back (of_decide_eq_true hn)) hw⟩

theorem VC.anyT3 {id : Nat} {l : List Oper} {σ : Sl} (m kk : Nat) (F : List (SFact (keys H))) (hgr : ∀ f ∈ F, f.late = true → ∀ v w w', Snap.ok ⟨w, []⟩ w' → f.f v w → f.f v w') (Is : List Ins) (outs : List (Nat × Nat)) (bas : List Nat)
  (hmix : P.follows .mixedOrders = true) (hp : plainRegion l.toArray = true) (htl : tailed l.toArray m = true) (hkm : Nat.blt kk m = true) (hml : Nat.ble m l.length = true)
  (hlate : (F.zipIdx.all fun (f, i) => !f.late || Nat.beq i kk || below l.toArray l.toArray.size i kk) = true)
  (houts : outs.all (fun (d, j) => Nat.blt j m && match l[j]? with | some p => (match p.dst with | some d' => Nat.beq d d' | none => false) | none => false) = true)
  (hbas : bas.all (fun t => (l.take m).all fun p => match p.dst with | some d => !Nat.beq d t | none => true) = true) (hn : decide ((outs.map (·.1)).Nodup) = true)
  (hobs : Obs3 P n l.toArray Q (Still S H) (Turn2 (keys H)) kk (F.map (·.f)) σ 0 Is (l.take m))
  (hend : ∀ w0, Still S H true w0 → EachV F w0 outs [] (fun τ => VL P n l.toArray Q (l.drop m) (τ ++ only σ bas) (fun w => w = w0))) :
  VC P n Q (.region id l.toArray true) σ (Own S H) :=
 VC.anyTD (Still S H) (Turn2 (keys H)) m kk (F.map (·.f)) Is outs bas hmix hp htl (by left; simp [Nat.blt, Nat.ble_eq] at hkm; omega) (by simpa [Nat.ble_eq] using hml) (fun _ h => h.drew) (lateOf F) (fun i o hi hl => by
  unfold lateOf at hl
  cases hf : F[i]? with
  | none => simp [hf] at hl
  | some f =>
   simp only [hf] at hl
   have h1 := List.all_eq_true.1 hlate (f, i) (by rw [List.mem_zipIdx_iff_getElem?]; simpa using hf)
   simp only [hl, Bool.not_true, Bool.false_or, Bool.or_eq_true] at h1
   rcases h1 with h1 | h1
   ·exact .inl (Nat.eq_of_beq_eq_true h1)
   ·exact .inr h1) (fact_stays2 F hgr) houts hbas hobs (fun vals a w ha ⟨h1, h2⟩ => (hend w (by rw [hkm] at h2; exact h2)).spec outs [] _ h1 a w (ha.back (of_decide_eq_true hn)) rfl)


end
end Go.Vc

