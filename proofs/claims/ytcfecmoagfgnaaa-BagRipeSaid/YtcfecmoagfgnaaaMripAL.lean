/- The statement Ripe is proved, for every input: part 12 of 12 of the texts that it needs. -/
import Derived.Test.YtcfecmoagfgnaaaMripAK
import Derived.Test.YtcfecmoagfgnaaaRows
/- wire: bytes of packets. -/
namespace Go.Proofs.Ytcfecmoagfgnaaa
open Go.Vc Go.Pl

theorem chain_next {xs : List Object} {i : Nat} (h : i < xs.length) : chainP (xs.take i) ++ [(objectO (xs[i]'h)).getD []] = chainP (xs.take (i + 1)) := by
 unfold chainP; rw [List.take_succ_eq_append_getElem h, List.map_append]; rfl
theorem chainP_length (xs : List Object) : (chainP xs).length = xs.length := by unfold chainP; rw [List.length_map]
theorem chainO_none {xs : List Object} (h : ¬ xs.length ≤ 4) : none = chainO xs := by
 unfold chainO chainGood; rw [decide_eq_false h, Bool.false_and]; exact none_joinO _
theorem pktO_none {x : Pkt} (h : kindIn x.kind = false) : none = pktO x := by
 unfold pktO; rw [h, Bool.and_false]; exact none_joinO _
end Go.Proofs.Ytcfecmoagfgnaaa

/- The reference: bytes of packets; one against the other. -/
namespace Go.Proofs.Ytcfecmoagfgnaaa
open Go.Vc Go.Pl

theorem brow0 {S : List Snap} {H : List Chunk} {w : World} (h : Own S H w) : Own S (brow none 0 ([] : List (List UInt8)) :: H) w := Own.arow_nil (Mono.slice Mono.byte) 24 1 h
theorem oall_some {xs : List Object} {i : Nat} (h : i < xs.length) (h1 : ((xs.take i).all fun x => (objectO x).isSome) = true) (h2 : (objectO (xs[i]'h)).isSome = true) : ((xs.take (i + 1)).all fun x => (objectO x).isSome) = true := by
 rw [List.take_succ_eq_append_getElem h, List.all_append, h1]
 simp [h2]
theorem ochain_good {xs : List Object} {i : Nat} (h0 : xs.length ≤ 4) (hie : i = xs.length) (hall : ((xs.take i).all fun x => (objectO x).isSome) = true) : joinO (chainP (xs.take i)) true = chainO xs := by
 rw [hie, List.take_length] at hall ⊢
 have hg : chainGood xs = true := by unfold chainGood; rw [decide_eq_true h0, Bool.true_and]; exact hall
 unfold chainO; rw [hg]
theorem ochain_bad {xs : List Object} {i : Nat} (h : i < xs.length) (h2 : (objectO (xs[i]'h)).isSome = false) : none = chainO xs := by
 have hg : chainGood xs = false := by
  unfold chainGood
  rw [Bool.and_eq_false_iff]
  right
  rw [List.all_eq_false]
  exact ⟨xs[i]'h, List.getElem_mem h, by rw [h2]; decide⟩
 unfold chainO; rw [hg]; exact none_joinO _
theorem pktO_bad {x : Pkt} (h : (chainO x.chain).isSome = false) : none = pktO x := by unfold pktO; rw [h]; exact none_joinO _
theorem pktO_good {x : Pkt} (h : (chainO x.chain).isSome = true) (hk : kindIn x.kind = true) : joinO (pktP x) true = pktO x := by unfold pktO; rw [h, hk]; rfl
theorem refChain_w {S : List Snap} {H : List Chunk} {w : World} (ho : Own S H w) {xs : List Object} (hxs : ∀ x ∈ xs, x.ok) {p : Option Addr} {c : Nat} (hX : Arr 101 objectR' (keys H) w p xs c) : Calls Try.prog 149 #[.slice p xs.length c] w (RetO S H (chainO xs)) := by
 have hsm := hX.small
 refine enter (G := Own (⟨w, keys H⟩ :: S) H) ho.keep Try.func149 rfl Try.ntmps149 rfl ?_
 refine VC.sr ?_
 refine VL.assign rfl ?_
 refine VL.assign rfl ?_
 refine VL.nn ?_
 refine VC.seq ?_
 refine VC.sr ?_
 refine VL.move rfl ?_
 refine VL.len Try.underlying116 rfl rfl ?_
 refine VL.gtr rfl rfl ?_
 refine VL.case (fun h0 => ?_) (fun h0 => ?_)
 ·have h0 : ¬ xs.length ≤ 4 := by omega
  refine VL.nn ?_
  refine VC.yes rfl ?_
  refine VC.sr ?_
  refine VL.assign rfl ?_
  refine VL.assign rfl ?_
  refine VL.nn ?_
  refine VC.ret ?_
  refine VX.then_ret ?_
  refine VX.ret2 rfl rfl rfl (fun we hw => ?_)
  exact postO ((chainO_none h0)) ⟨none, 0, rfl, hw.subA, Arr.none⟩
 ·have h0 : xs.length ≤ 4 := by omega
  refine VL.nn ?_
  refine VC.no rfl ?_
  refine VC.skip ?_
  refine VX.next ?_
  refine VC.sr ?_
  refine VL.assign rfl ?_
  refine VL.nn ?_
  refine VC.seq ?_
  refine VC.sr ?_
  refine VL.assign rfl ?_
  refine VL.nn ?_
  refine VC.block ?_
  refine VC.turn (G' := Own _ (brow none 0 (([] : List (List UInt8))) :: H)) (fun w' h => brow0 h) ?_
  refine VC.loop (X := Nat × Option Nat × Nat) (fun (i, gq, cq) => [(0, .slice p xs.length c), (4, rowV gq (chainP (xs.take i)).length cq), (5, .int .i64 (i : Int))]) (fun (i, gq, cq) w' => (i ≤ xs.length ∧ ((xs.take i).all fun x => (objectO x).isSome) = true) ∧ Own (⟨w, keys H⟩ :: S) (brow gq cq ((chainP (xs.take i))) :: H) w') (fun (i, _) => xs.length - i) (0, none, 0) ⟨rfl, rfl, rfl, trivial⟩ (fun w' h => ⟨⟨Nat.zero_le _, rfl⟩, by have e1 : chainP (xs.take 0) = [] := rfl; rw [e1]; exact h.subA⟩) (fun (i, gq, cq) => VC.fact fun ⟨hi, hall⟩ => ?_)
  ·have htk : (chainP (List.take i xs)).length ≤ i := by rw [chainP_length]; exact List.length_take_le _ _
   refine VC.seq ?_
   refine VC.sr ?_
   refine VL.move rfl ?_
   refine VL.move rfl ?_
   refine VL.len Try.underlying116 rfl rfl ?_
   refine VL.lss rfl rfl ?_
   refine VL.case (fun h5 => ?_) (fun h5 => ?_)
   ·have hlt : i < xs.length := by omega
    refine VL.nn ?_
    refine VC.yes rfl ?_
    refine VC.skip ?_
    refine VX.next ?_
    refine VC.seq ?_
    refine VC.block ?_
    refine VC.sr ?_
    refine VL.move rfl ?_
    refine VL.move rfl ?_
    refine VL.index (xs := xs) rfl rfl Try.underlying116 sz116 hX (by omega) (by have hi := hlt; omega) ?_
    refine VL.elems (s := ⟨w, _⟩) (m := 101) (i) 0 rfl kd85 (fun _ h => h) (by repeat (first | exact List.mem_cons_self .. | apply List.mem_cons_of_mem)) hX (List.getElem?_eq_getElem hlt) (by simp) (by decide) (fun vs hl hr => ?_)
    obtain ⟨q3, d4, hy2, rfl, hV5⟩ := hr
    refine VL.newv (v' := .agg (cat (objectV (xs[i]'hlt) q3 d4)).toArray) (by rw [List.drop_zero, List.take_of_length_le (by rw [hl]; decide)]) ?_
    refine VL.call Try.func66 rfl (by decide) rfl (fun w' hw => refObject_w hw (x := (xs[i]'hlt)) (hxs _ (List.getElem_mem hlt)) (hV5.nowA (s := ⟨w, _⟩) Mono_vouch hw)) (fun v => ?_)
    refine VL.at (fun w6 h1w => ?_)
    obtain ⟨p7, c8, rfl, hO10, hA9⟩ := h1w
    refine VL.toOwn hO10 ?_
    refine VL.move rfl ?_
    refine VL.extract rfl rfl ?_
    refine VL.extract rfl rfl ?_
    refine VL.assign rfl ?_
    refine VL.assign rfl ?_
    refine VL.nn ?_
    refine VC.seq ?_
    refine VC.sr ?_
    refine VL.move rfl ?_
    cases hs : (objectO (xs[i]'hlt)).isSome
    ·refine VL.not rfl ?_
     refine VL.nn ?_
     refine VC.yes rfl ?_
     refine VC.sr ?_
     refine VL.assign rfl ?_
     refine VL.assign rfl ?_
     refine VL.nn ?_
     refine VC.ret ?_
     refine VX.then_ret ?_
     refine VX.block_ret ?_
     refine VX.then_ret ?_
     refine VX.then_ret ?_
     refine VX.block_ret ?_
     refine VX.then_ret ?_
     refine VX.ret2 rfl rfl rfl (fun we hw => ?_)
     exact postO ((ochain_bad hlt hs)) ⟨none, 0, rfl, hw.drop.subA, Arr.none⟩
    ·refine VL.not rfl ?_
     refine VL.nn ?_
     refine VC.no rfl ?_
     refine VC.skip ?_
     refine VX.next ?_
     refine VC.region ?_
     refine VL.move rfl ?_
     refine VL.move rfl ?_
     refine VL.lit el31 rfl rfl rfl (by simp [Value.cells]) (by intro u hu; simp [Value.cells] at hu; rcases hu with rfl <;> rfl) (fun g11 => ?_)
     refine VL.letRowS [((objectO ((xs[i]'hlt))).getD [])] rfl (fun w' hw => ⟨⟨_, _, rfl, (hA9.nowA (s := ⟨w6, _⟩) Mono.byte hw)⟩, trivial⟩) (fun w12 hO13 hA14 => ?_)
     refine VL.appends (R := bytesR) (hR := Mono.slice Mono.byte) (ys := (chainP (xs.take i))) (zs := [((objectO ((xs[i]'hlt))).getD [])]) 0 el31 rfl rfl rfl (fun _ h => h) rfl (fun _ hw => (hA14.nowA (s := ⟨w12, _⟩) (Mono.slice Mono.byte) hw)) bytesR_ok1 (by simp only [List.length_append, List.length_cons, List.length_nil, List.length_map]; omega) (fun g15 c16 => ?_) (by simp only [List.length_append, List.length_cons, List.length_nil, List.length_map]; omega)
     refine VL.set0 ?_
     refine VL.assign rfl ?_
     refine VL.nil ?_
     refine VX.block_normal ?_
     refine VX.next ?_
     refine VC.region ?_
     refine VL.move rfl ?_
     refine VL.add rfl rfl (by simp only [InR]; omega) ?_
     refine VL.assign rfl ?_
     refine VL.nil ?_
     have el : chainP (xs.take i) ++ [(objectO (xs[i]'hlt)).getD []] = chainP (xs.take (i + 1)) := chain_next hlt
     refine VX.round (i + 1, g15, c16) ⟨rfl, congrArg (fun l : List (List UInt8) => some (rowV g15 l.length c16)) el, rfl, trivial⟩ (fun w' h => ⟨⟨by omega, oall_some hlt hall hs⟩, ?_⟩) (by show xs.length - (i + 1) < xs.length - i; omega)
     rw [← el]
     exact h.subA
   ·have hie : i = xs.length := by omega
    refine VL.nn ?_
    refine VC.no rfl ?_
    refine VC.exit ?_
    refine VX.then_exit ?_
    refine VX.then_exit ?_
    refine VX.block_here ?_
    refine VX.next ?_
    refine VC.seq ?_
    refine VC.letArr (fun wr hOr hAr => ?_)
    refine VC.region ?_
    refine VL.move rfl ?_
    refine VL.call Try.func31 rfl (by decide) rfl (fun w' hw => join_O (ls := (chainP (xs.take i))) hw (hAr.nowA (s := ⟨wr, _⟩) (Mono.slice Mono.byte) hw)) (fun v => ?_)
    refine VL.at (fun w17 h1w => ?_)
    obtain ⟨p18, c19, rfl, hO21, hA20⟩ := h1w
    refine VL.toOwn hO21 ?_
    refine VL.extract rfl rfl ?_
    refine VL.extract rfl rfl ?_
    refine VL.assign rfl ?_
    refine VL.assign rfl ?_
    refine VL.nn ?_
    refine VC.ret ?_
    refine VX.ret2 rfl rfl rfl (fun we hw => ?_)
    exact postO ((ochain_good h0 hie hall)) ⟨p18, c19, rfl, hw.subA, (hA20.nowA (s := ⟨w17, _⟩) Mono.byte hw)⟩

theorem refPkt_w {S : List Snap} {H : List Chunk} {w : World} (ho : Own S H w) {x : Pkt} (hx : x.ok) {q : Option Addr} {d : Nat} (hV : Arr 101 objectR' (keys H) w q x.chain d) {p : Option Addr} {c : Nat} (hA : Bytes (keys H) w p x.body c) : Calls Try.prog 91 #[.agg (cat (pktV x q d p c)).toArray] w (RetO S H (pktO x)) := by
 have hx1 := hx.src
 have hx2 := hx.dst
 have hx3 := hx.kind
 refine enter (G := Own (⟨w, keys H⟩ :: S) H) ho.keep Try.func91 rfl Try.ntmps91 rfl ?_
 refine VC.sr ?_
 refine VL.box (L := pktL) (ps := (pktV (x) q d p c)) rfl rfl (pktV_len hx) (fun g1 => ?_)
 refine VL.assign rfl ?_
 refine VL.assign rfl ?_
 refine VL.nn ?_
 refine VC.sr ?_
 refine VL.fieldAddr rfl fo118_3 rfl ?_
 refine VL.load (v := .slice q (x.chain).length d) 0 3 rfl kd116 (fun _ h => h) rfl rfl rfl ?_
 refine VL.call Try.func149 rfl (by decide) rfl (fun w' hw => refChain_w hw hx.chain (hV.nowA (s := ⟨w, _⟩) Mono_object hw)) (fun v => ?_)
 refine VL.at (fun w2 h1w => ?_)
 obtain ⟨p3, c4, rfl, hO6, hA5⟩ := h1w
 refine VL.toOwn hO6 ?_
 refine VL.move rfl ?_
 refine VL.extract rfl rfl ?_
 refine VL.extract rfl rfl ?_
 refine VL.assign rfl ?_
 refine VL.assign rfl ?_
 refine VL.nn ?_
 refine VC.seq ?_
 refine VC.sr ?_
 refine VL.move rfl ?_
 cases hs : (chainO x.chain).isSome
 ·refine VL.not rfl ?_
  refine VL.move rfl ?_
  refine VL.pass rfl rfl rfl rfl rfl ?_
  refine VL.pass rfl rfl rfl rfl rfl ?_
  refine VL.pass rfl rfl rfl rfl rfl ?_
  refine VL.pick_t rfl rfl ?_
  refine VL.move rfl ?_
  refine VL.pass rfl rfl rfl rfl rfl ?_
  refine VL.pass rfl rfl rfl rfl rfl ?_
  refine VL.pass rfl rfl rfl rfl rfl ?_
  refine VL.pick_t rfl rfl ?_
  refine VL.nn ?_
  refine VC.yes rfl ?_
  refine VC.sr ?_
  refine VL.assign rfl ?_
  refine VL.assign rfl ?_
  refine VL.nn ?_
  refine VC.ret ?_
  refine VX.then_ret ?_
  refine VX.ret2 rfl rfl rfl (fun we hw => ?_)
  exact postO ((pktO_bad hs)) ⟨none, 0, rfl, hw.drop.subA, Arr.none⟩
 ·refine VL.not rfl ?_
  refine VL.move rfl ?_
  refine VL.go rfl rfl rfl ?_
  refine VL.fieldAddr rfl fo118_2 rfl ?_
  refine VL.go rfl rfl rfl ?_
  refine VL.load (v := .int .u8 (x.kind)) 0 2 rfl kd5 (fun _ h => h) rfl rfl rfl ?_
  refine VL.go rfl rfl rfl ?_
  refine VL.lss rfl rfl ?_
  refine VL.case (fun h2_5 => ?_) (fun h2_5 => ?_)
  ·have h2_5 : x.kind < 1 := by have h : ((x.kind : Nat) : Int) < 1 := h2_5; omega
   have hkin : kindIn x.kind = false := by unfold kindIn; simp; omega
   refine VL.pick_f rfl rfl ?_
   refine VL.move rfl ?_
   refine VL.pass rfl rfl rfl rfl rfl ?_
   refine VL.pass rfl rfl rfl rfl rfl ?_
   refine VL.pass rfl rfl rfl rfl rfl ?_
   refine VL.pick_t rfl rfl ?_
   refine VL.nn ?_
   refine VC.yes rfl ?_
   refine VC.sr ?_
   refine VL.assign rfl ?_
   refine VL.assign rfl ?_
   refine VL.nn ?_
   refine VC.ret ?_
   refine VX.then_ret ?_
   refine VX.ret2 rfl rfl rfl (fun we hw => ?_)
   exact postO ((pktO_none hkin)) ⟨none, 0, rfl, hw.drop.subA, Arr.none⟩
  ·have h2_5 : 1 ≤ x.kind := by have h : ¬ ((x.kind : Nat) : Int) < 1 := h2_5; omega
   refine VL.pick_f rfl rfl ?_
   refine VL.move rfl ?_
   refine VL.go rfl rfl rfl ?_
   refine VL.fieldAddr rfl fo118_2 rfl ?_
   refine VL.go rfl rfl rfl ?_
   refine VL.load (v := .int .u8 (x.kind)) 0 2 rfl kd5 (fun _ h => h) rfl rfl rfl ?_
   refine VL.go rfl rfl rfl ?_
   refine VL.gtr rfl rfl ?_
   refine VL.case (fun h2_10 => ?_) (fun h2_10 => ?_)
   ·have h2_10 : 4 < x.kind := by have h : (4 : Int) < ((x.kind : Nat) : Int) := h2_10; omega
    have hkin : kindIn x.kind = false := by unfold kindIn; simp; omega
    refine VL.pick_f rfl rfl ?_
    refine VL.nn ?_
    refine VC.yes rfl ?_
    refine VC.sr ?_
    refine VL.assign rfl ?_
    refine VL.assign rfl ?_
    refine VL.nn ?_
    refine VC.ret ?_
    refine VX.then_ret ?_
    refine VX.ret2 rfl rfl rfl (fun we hw => ?_)
    exact postO ((pktO_none hkin)) ⟨none, 0, rfl, hw.drop.subA, Arr.none⟩
   ·have h2_10 : x.kind ≤ 4 := by have h : ¬ (4 : Int) < ((x.kind : Nat) : Int) := h2_10; omega
    refine VL.pick_f rfl rfl ?_
    refine VL.nn ?_
    refine VC.no rfl ?_
    refine VC.skip ?_
    refine VX.next ?_
    refine VC.seq ?_
    refine VC.letCells 0 rfl (fun w7 hO9 hF8 => ?_)
    apply VC.anyTA 18 1020 (F := [eqF _, eqF _, capF (be 1 (x.src)) 1, eqF _, eqF _, capF (be 1 (x.dst)) 1, eqF _, eqF _, capF (be 1 (x.kind)) 1, eqF _, eqF _, eqF _, eqF _, eqF _, arrF 1 bytesR (Mono.slice Mono.byte) ([be 1 (x.src), be 1 (x.dst), be 1 (x.kind), ((chainO x.chain).getD []), x.body, x.sig]), outF (joinO [be 1 (x.src), be 1 (x.dst), be 1 (x.kind), ((chainO x.chain).getD []), x.body, x.sig] true), bytesF ((joinO [be 1 (x.src), be 1 (x.dst), be 1 (x.kind), ((chainO x.chain).getD []), x.body, x.sig] true).getD []), eqF _]) [⟨[], [1]⟩, ⟨[(24, 0)], []⟩, ⟨[(25, 1)], []⟩, ⟨[], [1]⟩, ⟨[(27, 3)], []⟩, ⟨[(28, 4)], []⟩, ⟨[], [1]⟩, ⟨[(30, 6)], []⟩, ⟨[(31, 7)], []⟩, ⟨[], [4]⟩, ⟨[], [1]⟩, ⟨[(34, 10)], []⟩, ⟨[], [1]⟩, ⟨[(36, 12)], []⟩, ⟨[(26, 2), (29, 5), (32, 8), (33, 9), (35, 11), (37, 13)], []⟩, ⟨[(38, 14)], []⟩, ⟨[(39, 15)], []⟩, ⟨[(39, 15)], []⟩] [(40, 16), (41, 17)] [0, 1, 2, 3, 5, 6, 7, 8, 9, 10, 11, 12, 13, 14, 15, 16, 17, 18, 19, 20, 21, 22, 23] rfl (by kernel_rfl) (by kernel_rfl) rfl rfl (by kernel_rfl) (by kernel_rfl) (by kernel_rfl) rfl ?obs4 ?end4
    case obs4 =>
     refine Obs.cons ?_ ?_
     ·refine obS (by kernel_rfl) rfl rfl (fun ph4 w4 hO4 => ?_)
      refine VL.fieldAddr rfl fo118_0 rfl ?_
      exact VL.finS hO4 rfl rfl
     refine Obs.cons ?_ ?_
     ·refine obS (by kernel_rfl) rfl rfl (fun ph4 w4 hO4 => ?_)
      rintro _ rfl
      refine VL.loadF (s := ⟨w7, _⟩) (v := .int .u8 (x.src)) 0 rfl kd5 hF8 (fun _ e => e ▸ Still.ok hO4 (by repeat (first | exact List.mem_cons_self .. | apply List.mem_cons_of_mem))) rfl rfl ?_
      exact VL.finS hO4 rfl rfl
     refine Obs.cons ?_ ?_
     ·refine ob (by kernel_rfl) rfl (by kernel_rfl) rfl (fun w4 hO4 => ?_)
      rintro _ rfl
      refine VL.toOwn hO4 ?_
      refine VL.litByte (m := x.src) el24 rfl (by have hm := hx.src; omega) (fun g10 w11 hO12 hA13 => ?_)
      exact VL.finO rfl (fun _ h => h.subA) (fun _ h => ⟨_, rfl, (hA13.nowA (s := ⟨w11, _⟩) Mono.byte h)⟩)
     refine Obs.cons ?_ ?_
     ·refine obS (by kernel_rfl) rfl rfl (fun ph4 w4 hO4 => ?_)
      refine VL.fieldAddr rfl fo118_1 rfl ?_
      exact VL.finS hO4 rfl rfl
     refine Obs.cons ?_ ?_
     ·refine obS (by kernel_rfl) rfl rfl (fun ph4 w4 hO4 => ?_)
      rintro _ rfl
      refine VL.loadF (s := ⟨w7, _⟩) (v := .int .u8 (x.dst)) 1 rfl kd5 hF8 (fun _ e => e ▸ Still.ok hO4 (by repeat (first | exact List.mem_cons_self .. | apply List.mem_cons_of_mem))) rfl rfl ?_
      exact VL.finS hO4 rfl rfl
     refine Obs.cons ?_ ?_
     ·refine ob (by kernel_rfl) rfl (by kernel_rfl) rfl (fun w4 hO4 => ?_)
      rintro _ rfl
      refine VL.toOwn hO4 ?_
      refine VL.litByte (m := x.dst) el24 rfl (by have hm := hx.dst; omega) (fun g14 w15 hO16 hA17 => ?_)
      exact VL.finO rfl (fun _ h => h.subA) (fun _ h => ⟨_, rfl, (hA17.nowA (s := ⟨w15, _⟩) Mono.byte h)⟩)
     refine Obs.cons ?_ ?_
     ·refine obS (by kernel_rfl) rfl rfl (fun ph4 w4 hO4 => ?_)
      refine VL.fieldAddr rfl fo118_2 rfl ?_
      exact VL.finS hO4 rfl rfl
     refine Obs.cons ?_ ?_
     ·refine obS (by kernel_rfl) rfl rfl (fun ph4 w4 hO4 => ?_)
      rintro _ rfl
      refine VL.loadF (s := ⟨w7, _⟩) (v := .int .u8 (x.kind)) 2 rfl kd5 hF8 (fun _ e => e ▸ Still.ok hO4 (by repeat (first | exact List.mem_cons_self .. | apply List.mem_cons_of_mem))) rfl rfl ?_
      exact VL.finS hO4 rfl rfl
     refine Obs.cons ?_ ?_
     ·refine ob (by kernel_rfl) rfl (by kernel_rfl) rfl (fun w4 hO4 => ?_)
      rintro _ rfl
      refine VL.toOwn hO4 ?_
      refine VL.litByte (m := x.kind) el24 rfl (by have hm := hx.kind; omega) (fun g18 w19 hO20 hA21 => ?_)
      exact VL.finO rfl (fun _ h => h.subA) (fun _ h => ⟨_, rfl, (hA21.nowA (s := ⟨w19, _⟩) Mono.byte h)⟩)
     refine Obs.cons ?_ ?_
     ·refine obS (by kernel_rfl) rfl rfl (fun ph4 w4 hO4 => ?_)
      refine VL.move rfl ?_
      exact VL.finS hO4 rfl rfl
     refine Obs.cons ?_ ?_
     ·refine obS (by kernel_rfl) rfl rfl (fun ph4 w4 hO4 => ?_)
      refine VL.fieldAddr rfl fo118_4 rfl ?_
      exact VL.finS hO4 rfl rfl
     refine Obs.cons ?_ ?_
     ·refine obS (by kernel_rfl) rfl rfl (fun ph4 w4 hO4 => ?_)
      rintro _ rfl
      refine VL.loadF (s := ⟨w7, _⟩) (v := .slice p (x.body).length c) 4 rfl kd24 hF8 (fun _ e => e ▸ Still.ok hO4 (by repeat (first | exact List.mem_cons_self .. | apply List.mem_cons_of_mem))) rfl rfl ?_
      exact VL.finS hO4 rfl rfl
     refine Obs.cons ?_ ?_
     ·refine obS (by kernel_rfl) rfl rfl (fun ph4 w4 hO4 => ?_)
      refine VL.fieldAddr rfl fo118_5 rfl ?_
      exact VL.finS hO4 rfl rfl
     refine Obs.cons ?_ ?_
     ·refine obS (by kernel_rfl) rfl rfl (fun ph4 w4 hO4 => ?_)
      rintro _ rfl
      refine VL.sliceArrAt Try.underlying80 (by kernel_rfl) rfl ?_
      refine VL.newv (v' := .slice (some ⟨g1, 5, none⟩) (x.sig).length 64) (by rw [hx.sig]) ?_
      exact VL.finS hO4 rfl rfl
     refine Obs.cons ?_ ?_
     ·refine ob (by kernel_rfl) rfl (by kernel_rfl) rfl (fun w4 hO4 => ?_)
      rintro _ ⟨p4_2, rfl, hA4_2⟩ _ ⟨p4_5, rfl, hA4_5⟩ _ ⟨p4_8, rfl, hA4_8⟩ _ rfl _ rfl _ rfl
      refine VL.toOwn hO4 ?_
      refine VL.lit el31 rfl rfl rfl (by simp [Value.cells]) (by intro u hu; simp [Value.cells] at hu; rcases hu with rfl | rfl | rfl | rfl | rfl | rfl <;> rfl) (fun g22 => ?_)
      refine VL.letRowS [be 1 (x.src), be 1 (x.dst), be 1 (x.kind), ((chainO x.chain).getD []), x.body, x.sig] rfl (fun w' hw => ⟨⟨_, _, rfl, (hA4_2.nowA (s := ⟨w4, _⟩) Mono.byte hw)⟩, ⟨⟨_, _, rfl, (hA4_5.nowA (s := ⟨w4, _⟩) Mono.byte hw)⟩, ⟨⟨_, _, rfl, (hA4_8.nowA (s := ⟨w4, _⟩) Mono.byte hw)⟩, ⟨⟨_, _, rfl, (hA5.nowA (s := ⟨w2, _⟩) Mono.byte hw)⟩, ⟨⟨_, _, rfl, (hA.nowA (s := ⟨w, _⟩) Mono.byte hw)⟩, ⟨⟨_, _, rfl, ((hF8.bytes 5 5 rfl rfl hx.sig rfl).nowA (s := ⟨w7, _⟩) Mono.byte hw)⟩, trivial⟩⟩⟩⟩⟩⟩) (fun w23 hO24 hA25 => ?_)
      exact VL.finO rfl (fun _ h => h.subA) (fun _ h => ⟨_, _, rfl, (hA25.nowA (s := ⟨w23, _⟩) (Mono.slice Mono.byte) h)⟩)
     refine Obs.cons ?_ ?_
     ·refine ob (by kernel_rfl) rfl (by kernel_rfl) rfl (fun w4 hO4 => ?_)
      rintro _ ⟨p4_14, c4_14, rfl, hA4_14⟩
      refine VL.toOwn hO4 ?_
      refine VL.call Try.func31 rfl (by decide) rfl (fun w' hw => join_O (ls := [be 1 (x.src), be 1 (x.dst), be 1 (x.kind), ((chainO x.chain).getD []), x.body, x.sig]) hw (hA4_14.nowA (s := ⟨w4, _⟩) (Mono.slice Mono.byte) hw)) (fun v => ?_)
      refine VL.at (fun w26 h1w => ?_)
      obtain ⟨p27, c28, rfl, hO30, hA29⟩ := h1w
      refine VL.toOwn hO30 ?_
      exact VL.finO rfl (fun _ h => h.subA) (fun _ h => ⟨_, _, rfl, (hA29.nowA (s := ⟨w26, _⟩) Mono.byte h)⟩)
     refine Obs.cons ?_ ?_
     ·refine obS (by kernel_rfl) rfl rfl (fun ph4 w4 hO4 => ?_)
      rintro _ ⟨p4_15, c4_15, rfl, hA4_15⟩
      refine VL.extract rfl rfl ?_
      exact VL.finS hO4 rfl ⟨_, _, rfl, hA4_15⟩
     refine Obs.cons ?_ ?_
     ·refine obS (by kernel_rfl) rfl rfl (fun ph4 w4 hO4 => ?_)
      rintro _ ⟨p4_15, c4_15, rfl, hA4_15⟩
      refine VL.extract rfl rfl ?_
      exact VL.finS hO4 rfl rfl
     exact Obs.nil
    case end4 =>
     intro w4 hO4
     rintro _ ⟨pz, cz, rfl, hz⟩ _ rfl
     refine VL.toOwn hO4 ?_
     refine VL.assign rfl ?_
     refine VL.assign rfl ?_
     refine VL.nn ?_
     refine VC.ret ?_
     refine VX.ret2 rfl rfl rfl (fun we hw => ?_)
     exact postO ((pktO_good hs (kindIn_of.2 ⟨h2_5, h2_10⟩))) ⟨pz, cz, rfl, hw.subA, (hz.nowA (s := ⟨w4, _⟩) Mono.byte hw)⟩

end Go.Proofs.Ytcfecmoagfgnaaa

/- bag: the packets of the laws; a bag that lives. -/
namespace Go.Proofs.Ytcfecmoagfgnaaa
open Go.Vc Go.Pl

/-- The packet that the laws lay. -/
def lawPkt (a b : Nat) (l : List UInt8) : Pkt := ⟨a, b, 1, [], l, zeros 64⟩
theorem lawPkt_ok {a b : Nat} (l : List UInt8) (ha : a < 256) (hb : b < 256) : (lawPkt a b l).ok := ⟨ha, hb, (show (1 : Nat) < 256 by decide), (fun i hi => by cases hi), rfl⟩
def lawB (a b : Nat) (l : List UInt8) : List UInt8 := (pktO (lawPkt a b l)).getD []
theorem law_O {a b : Nat} {l : List UInt8} (hl : l.length ≤ 1000) : pktO (lawPkt a b l) = some (joinB [be 1 a, be 1 b, be 1 1, joinB [], l, zeros 64]) := by
 have e1 : chainO (lawPkt a b l).chain = some (joinB []) := joinO_some ⟨(show ([] : List (List UInt8)).length ≤ 64 by decide), fun p hp => by cases hp⟩ rfl
 unfold pktO pktP
 rw [e1]
 refine joinO_some ⟨by simp, fun p hp => ?_⟩ rfl
 simp only [List.mem_cons, List.not_mem_nil, or_false] at hp
 rcases hp with rfl | rfl | rfl | rfl | h | h
 ·rw [be_length]; decide
 ·rw [be_length]; decide
 ·show (be 1 1).length ≤ _; rw [be_length]; decide
 ·decide
 ·rw [h]; show l.length ≤ 4096; omega
 ·rw [h]; show (zeros 64).length ≤ 4096; decide
theorem law_back {a b : Nat} {l : List UInt8} (ha : a < 256) (hb : b < 256) (hl : l.length ≤ 1000) : pktR (lawB a b l) = some (lawPkt a b l) := by
 unfold lawB
 rw [law_O hl]
 exact pktR_iff.2 ⟨lawPkt_ok l ha hb, law_O hl⟩
theorem law_len {a b : Nat} {l : List UInt8} (hl : l.length ≤ 1000) : (lawB a b l).length ≤ 2000 := by
 unfold lawB
 rw [law_O hl]
 have e : (joinB []).length ≤ 10 := by decide
 show (joinB [be 1 a, be 1 b, be 1 1, joinB [], l, zeros 64]).length ≤ 2000
 generalize joinB [] = z at *
 simp [joinB, body, be_length, zeros]
 omega
theorem law_zero {a b : Nat} {l : List UInt8} (ha : a < 256) (hb : b < 256) (hl : l.length ≤ 1000) : pktW (lawB a b l) = 0 := pktW_zero.2 (by rw [law_back ha hb hl]; rfl)
theorem law_src {a b : Nat} {l : List UInt8} (ha : a < 256) (hb : b < 256) (hl : l.length ≤ 1000) : ((pktR (lawB a b l)).getD pkt0).src = a := by rw [law_back ha hb hl]; rfl
theorem law_dst {a b : Nat} {l : List UInt8} (ha : a < 256) (hb : b < 256) (hl : l.length ≤ 1000) : ((pktR (lawB a b l)).getD pkt0).dst = b := by rw [law_back ha hb hl]; rfl
theorem law_lay {a b : Nat} {l : List UInt8} (ha : a < 256) (hb : b < 256) (hl : l.length ≤ 1000) (now : Nat) : layP (lawB a b l) now = ⟨a, b, min (now + 1 + farN (servN a) (servN b)) 4294967295, lawB a b l⟩ := by
 unfold layP
 rw [law_back ha hb hl]
 rfl

theorem lawBytes_w {S : List Snap} {H : List Chunk} {w : World} (ho : Own S H w) {a b : Nat} (ha : a < 256) (hb : b < 256) {p : Option Addr} {l : List UInt8} {c : Nat} (hA : Bytes (keys H) w p l c) : Calls Try.prog 41 #[.int .u8 (a : Int), .int .u8 (b : Int), .slice p l.length c] w (Ret fun v w' => ∃ p' c', v = .slice p' (lawB a b l).length c' ∧ Own S H w' ∧ Bytes (keys H) w' p' (lawB a b l) c') := by
 refine enter (G := Own (⟨w, keys H⟩ :: S) H) ho.keep Try.func41 rfl Try.ntmps41 rfl ?_
 refine VC.sr ?_
 refine VL.assign rfl ?_
 refine VL.nn ?_
 refine VC.sr ?_
 refine VL.move rfl ?_
 refine VL.move rfl ?_
 refine VL.move rfl ?_
 refine VL.build (zs := pktZ) (L := pktFL) [(0, [.int .u8 (a)]), (1, [.int .u8 (b)]), (2, [.int .u8 (1)]), (4, [.slice p (l).length c])] plan118 rfl ⟨⟨rfl, ⟨_, rfl, rfl⟩, rfl⟩, ⟨⟨rfl, ⟨_, rfl, rfl⟩, rfl⟩, ⟨⟨rfl, ⟨_, rfl, rfl⟩, rfl⟩, ⟨⟨rfl, ⟨_, rfl, rfl⟩, rfl⟩, trivial⟩⟩⟩⟩ rfl ?_
 refine VL.newv (v' := .agg (cat (pktV ((lawPkt a b l)) none 0 p c)).toArray) rfl ?_
 refine VL.call Try.func91 rfl (by decide) rfl (fun w' hw => refPkt_w hw (x := (lawPkt a b l)) (lawPkt_ok l ha hb) Arr.none (hA.nowA (s := ⟨w, _⟩) Mono.byte hw)) (fun v => ?_)
 refine VL.at (fun w1 h1w => ?_)
 obtain ⟨p2, c3, rfl, hO5, hA4⟩ := h1w
 refine VL.toOwn hO5 ?_
 refine VL.move rfl ?_
 refine VL.extract rfl rfl ?_
 refine VL.extract rfl rfl ?_
 refine VL.assign rfl ?_
 refine VL.assign rfl ?_
 refine VL.nn ?_
 refine VC.sr ?_
 refine VL.move rfl ?_
 refine VL.assign rfl ?_
 refine VL.nn ?_
 refine VC.ret ?_
 refine VX.ret1 rfl rfl (fun we hw => ?_)
 exact ⟨_, _, rfl, hw.subA, (hA4.nowA (s := ⟨w1, _⟩) Mono.byte hw)⟩

def P1 : List Par := [layP (lawB 0 2 []) 5]
def P2 : List Par := [layP (lawB 0 2 []) 5, layP (lawB 16 0 []) 5]
theorem due_0 : dueAt P2 0 = 7 := by
 show (layP (lawB 0 2 []) 5).due = 7
 rw [law_lay (by decide) (by decide) (by decide)]; decide
theorem due_1 : dueAt P2 1 = 6 := by
 show (layP (lawB 16 0 []) 5).due = 6
 rw [law_lay (by decide) (by decide) (by decide)]; decide
theorem best_2 : bestZ P2 7 2 = 1 := by
 have h1 : bestI P2 7 1 = some 0 := best_first (i := 0) (by rw [due_0]; decide) rfl
 exact bestZ_some (best_less (i := 1) (by rw [due_1]; decide) h1 (by rw [due_0, due_1]; decide))
theorem lay_1 {S : List Snap} {H : List Chunk} {w : World} (ho : Own S H w) {p1 : Option Addr} {c1 : Nat} (hA : Bytes (keys H) w p1 (lawB 0 2 []) c1) : Calls Try.prog 42 #[.slice none 0 0, .slice p1 (lawB 0 2 []).length c1, .int .u32 5] w (Ret fun v w' => ∃ q d, v = .tuple #[.slice q P1.length d, .bool true] ∧ Own S H w' ∧ Arr 4 parR (keys H) w' q P1 d) :=
 lay_yes ho (xs := []) Arr.none (by decide) hA (now := 5) (by decide) (law_zero (by decide) (by decide) (by decide)) (by rw [law_src (by decide) (by decide) (by decide)]; decide) (by rw [law_dst (by decide) (by decide) (by decide)]; decide) (by decide) (by have := law_len (a := 0) (b := 2) (l := []) (by decide); omega)
theorem lay_2 {S : List Snap} {H : List Chunk} {w : World} (ho : Own S H w) {p : Option Addr} {c : Nat} (hX : Arr 4 parR (keys H) w p P1 c) {p1 : Option Addr} {c1 : Nat} (hA : Bytes (keys H) w p1 (lawB 16 0 []) c1) : Calls Try.prog 42 #[.slice p P1.length c, .slice p1 (lawB 16 0 []).length c1, .int .u32 5] w (Ret fun v w' => ∃ q d, v = .tuple #[.slice q P2.length d, .bool true] ∧ Own S H w' ∧ Arr 4 parR (keys H) w' q P2 d) :=
 lay_yes ho (xs := P1) hX (by decide) hA (now := 5) (by decide) (law_zero (by decide) (by decide) (by decide)) (by rw [law_src (by decide) (by decide) (by decide)]; decide) (by rw [law_dst (by decide) (by decide) (by decide)]; decide) (by decide) (by have := law_len (a := 16) (b := 0) (l := []) (by decide); omega)

theorem alive24_w {S : List Snap} {H : List Chunk} {w : World} (ho : Own S H w) : Calls Try.prog 37 #[] w (Ret fun v w' => v = .bool true ∧ Own S H w') := by
 refine enter (G := Own (⟨w, keys H⟩ :: S) H) ho.keep Try.func37 rfl Try.ntmps37 rfl ?_
 refine VC.sr ?_
 refine VL.assign rfl ?_
 refine VL.nn ?_
 refine VC.sr ?_
 refine VL.call Try.func41 rfl (by decide) rfl (fun w' hw => lawBytes_w hw (a := 0) (b := 2) (by decide) (by decide) (l := []) Arr.none) (fun v => ?_)
 refine VL.at (fun w1 h1w => ?_)
 obtain ⟨p2, c3, rfl, hO5, hA4⟩ := h1w
 refine VL.toOwn hO5 ?_
 refine VL.call Try.func42 rfl (by decide) rfl (fun w' hw => lay_1 hw (hA4.nowA (s := ⟨w1, _⟩) Mono.byte hw)) (fun v => ?_)
 refine VL.at (fun w6 h1w => ?_)
 obtain ⟨p7, c8, rfl, hO10, hA9⟩ := h1w
 refine VL.toOwn hO10 ?_
 refine VL.move rfl ?_
 refine VL.extract rfl rfl ?_
 refine VL.extract rfl rfl ?_
 refine VL.assign rfl ?_
 refine VL.assign rfl ?_
 refine VL.nn ?_
 refine VC.sr ?_
 refine VL.move rfl ?_
 refine VL.call Try.func41 rfl (by decide) rfl (fun w' hw => lawBytes_w hw (a := 16) (b := 0) (by decide) (by decide) (l := []) Arr.none) (fun v => ?_)
 refine VL.at (fun w11 h1w => ?_)
 obtain ⟨p12, c13, rfl, hO15, hA14⟩ := h1w
 refine VL.toOwn hO15 ?_
 refine VL.call Try.func42 rfl (by decide) rfl (fun w' hw => lay_2 hw (hA9.nowA (s := ⟨w6, _⟩) Mono_par hw) (hA14.nowA (s := ⟨w11, _⟩) Mono.byte hw)) (fun v => ?_)
 refine VL.at (fun w16 h1w => ?_)
 obtain ⟨p17, c18, rfl, hO20, hA19⟩ := h1w
 refine VL.toOwn hO20 ?_
 refine VL.move rfl ?_
 refine VL.extract rfl rfl ?_
 refine VL.extract rfl rfl ?_
 refine VL.assign rfl ?_
 refine VL.assign rfl ?_
 refine VL.nn ?_
 refine VC.sr ?_
 refine VL.move rfl ?_
 refine VL.move rfl ?_
 refine VL.go rfl rfl rfl ?_
 refine VL.move rfl ?_
 refine VL.pick_t rfl rfl ?_
 refine VL.move rfl ?_
 refine VL.go rfl rfl rfl ?_
 refine VL.move rfl ?_
 refine VL.go rfl rfl rfl ?_
 refine VL.len Try.underlying47 rfl rfl ?_
 refine VL.go rfl rfl rfl ?_
 refine VL.eql rfl rfl ?_
 refine VL.yes (rfl) ?_
 refine VL.pick_t rfl rfl ?_
 refine VL.move rfl ?_
 refine VL.go rfl rfl rfl ?_
 refine VL.move rfl ?_
 refine VL.go rfl rfl rfl ?_
 refine VL.index (xs := P2) rfl rfl Try.underlying47 sz47 hA19 (by omega) (by have hi := (show 0 < P2.length by decide); omega) ?_
 refine VL.go rfl rfl rfl ?_
 refine VL.fieldAt rfl (by obtain ⟨a, ha⟩ := hA19.isAt (by have hi := (show 0 < P2.length by decide); omega); rw [ha]; rfl) fo50_2 ?_
 refine VL.go rfl rfl rfl ?_
 refine VL.elem (s := ⟨w16, _⟩) (0) 2 rfl kd48 (fun _ h => h) (by repeat (first | exact List.mem_cons_self .. | apply List.mem_cons_of_mem)) Mono_par hA19 (List.getElem?_eq_getElem (show 0 < P2.length by decide)) (by simp) (by decide) (fun vs v hl hr hv => ?_)
 obtain ⟨p22, c23, hy21, rfl, hA24⟩ := hr
 have ehy21 : v = .int .u32 ((P2[0]'(show 0 < P2.length by decide)).due : Nat) := (Option.some.inj (hv.symm.trans rfl))
 subst ehy21
 refine VL.go rfl rfl rfl ?_
 refine VL.eql rfl rfl ?_
 refine VL.yes (by have := due_0; have e := dueAt_eq (xs := P2) (j := 0) (by decide); omega) ?_
 refine VL.pick_t rfl rfl ?_
 refine VL.move rfl ?_
 refine VL.go rfl rfl rfl ?_
 refine VL.move rfl ?_
 refine VL.go rfl rfl rfl ?_
 refine VL.index (xs := P2) rfl rfl Try.underlying47 sz47 hA19 (by omega) (by have hi := (show 1 < P2.length by decide); omega) ?_
 refine VL.go rfl rfl rfl ?_
 refine VL.fieldAt rfl (by obtain ⟨a, ha⟩ := hA19.isAt (by have hi := (show 1 < P2.length by decide); omega); rw [ha]; rfl) fo50_2 ?_
 refine VL.go rfl rfl rfl ?_
 refine VL.elem (s := ⟨w16, _⟩) (1) 2 rfl kd48 (fun _ h => h) (by repeat (first | exact List.mem_cons_self .. | apply List.mem_cons_of_mem)) Mono_par hA19 (List.getElem?_eq_getElem (show 1 < P2.length by decide)) (by simp) (by decide) (fun vs v hl hr hv => ?_)
 obtain ⟨p26, c27, hy25, rfl, hA28⟩ := hr
 have ehy25 : v = .int .u32 ((P2[1]'(show 1 < P2.length by decide)).due : Nat) := (Option.some.inj (hv.symm.trans rfl))
 subst ehy25
 refine VL.go rfl rfl rfl ?_
 refine VL.eql rfl rfl ?_
 refine VL.yes (by have := due_1; have e := dueAt_eq (xs := P2) (j := 1) (by decide); omega) ?_
 refine VL.pick_t rfl rfl ?_
 refine VL.move rfl ?_
 refine VL.go rfl rfl rfl ?_
 refine VL.move rfl ?_
 refine VL.go rfl rfl rfl ?_
 refine VL.call Try.func38 rfl (by decide) rfl (fun w' hw => ripe_w hw (hA19.nowA (s := ⟨w16, _⟩) Mono_par hw) (by decide) (now := 7) (by decide)) (fun v => ?_)
 refine VL.fact fun e29 => ?_
 subst e29
 refine VL.go rfl rfl rfl ?_
 refine VL.eql rfl rfl ?_
 refine VL.yes (best_2) ?_
 refine VL.pick_t rfl rfl ?_
 refine VL.assign rfl ?_
 refine VL.nn ?_
 refine VC.ret ?_
 refine VX.ret1 rfl rfl (fun we hw => ?_)
 exact ⟨rfl, hw.subA⟩

end Go.Proofs.Ytcfecmoagfgnaaa

/- The law on what is ripe. -/
namespace Go.Proofs.Ytcfecmoagfgnaaa
open Go.Vc Go.Pl

theorem vcToOwnB {P : Program} {n : Nat} {Q : Exit → Act → World → Prop} {S : List Snap} {H : List Chunk} {c : Code} {w0 : World} {σ : Sl} (hO : Own S H w0) (h : VC P n Q c σ (Own (⟨w0, keys H⟩ :: S) H)) : VC P n Q c σ (fun w => w = w0) := VC.turn (fun w e => by subst e; exact hO.keep) h
/-- How many are due. -/
def cntD (xs : List Par) (now : Nat) : Nat := (xs.filter fun y => decide (y.due ≤ now)).length
theorem cnt_take {xs : List Par} {now i : Nat} (h : i < xs.length) : cntD (xs.take (i + 1)) now = cntD (xs.take i) now + (if (xs[i]'h).due ≤ now then 1 else 0) := by
 unfold cntD
 rw [List.take_succ_eq_append_getElem h, List.filter_append, List.length_append]
 by_cases h1 : (xs[i]'h).due ≤ now
 ·rw [if_pos h1]; simp [h1]
 ·rw [if_neg h1]; simp [h1]
theorem cnt_cut {xs : List Par} {now i : Nat} (h : i < xs.length) (h1 : (xs[i]'h).due ≤ now) : cntD (xs.take i ++ xs.drop (i + 1)) now + 1 = cntD xs now := by
 have e : xs = xs.take i ++ xs[i]'h :: xs.drop (i + 1) := by rw [← List.drop_eq_getElem_cons h, List.take_append_drop]
 have e2 : cntD xs now = cntD (xs.take i ++ xs[i]'h :: xs.drop (i + 1)) now := congrArg (fun z => cntD z now) e
 rw [e2]
 unfold cntD
 simp only [List.filter_append, List.length_append, List.filter_cons, h1, decide_true, if_true, List.length_cons]
 omega
theorem cnt_le (xs : List Par) (now : Nat) : cntD xs now ≤ xs.length := List.length_filter_le _ _
theorem cnt_zero {xs : List Par} {now : Nat} (h : bestI xs now xs.length = none) : cntD xs now = 0 := by
 unfold cntD
 rw [List.length_eq_zero_iff, List.filter_eq_nil_iff]
 intro y hy
 obtain ⟨j, hj, rfl⟩ := List.mem_iff_getElem.1 hy
 have := best_none h j hj
 rw [dueAt_eq hj] at this
 simpa using this
theorem cnt_pos {xs : List Par} {now b : Nat} (h : bestI xs now xs.length = some b) : 0 < cntD xs now := by
 obtain ⟨h1, h2, _⟩ := best_some h
 rw [dueAt_eq h1] at h2
 have := cnt_cut h1 h2
 omega
theorem mem_cut {xs : List Par} {i : Nat} {y : Par} (h : y ∈ xs.take i ++ xs.drop (i + 1)) : y ∈ xs := (List.mem_append.1 h).elim List.mem_of_mem_take List.mem_of_mem_drop
theorem cut_len {xs : List Par} {i : Nat} (h : i < xs.length) : (xs.take i ++ xs.drop (i + 1)).length = xs.length - 1 := by
 simp only [List.length_append, List.length_take, List.length_drop]; omega
theorem cut_least {xs : List Par} {now b : Nat} (h : bestI xs now xs.length = some b) (hb : b < xs.length) : ∀ y ∈ xs, y.due ≤ now → (xs[b]'hb).due ≤ y.due := by
 intro y hy hd
 obtain ⟨j, hj, rfl⟩ := List.mem_iff_getElem.1 hy
 obtain ⟨_, _, h3, _⟩ := best_some h
 have := h3 j hj (by rw [dueAt_eq hj]; exact hd)
 rwa [dueAt_eq hj, dueAt_eq hb] at this

theorem bagRipe_w {S : List Snap} {H : List Chunk} {w : World} (ho : Own S H w) {xs : List Par} {p : Option Addr} {c : Nat} (hX : Arr 4 parR (keys H) w p xs c) {now : Nat} (hnow : now < 4294967296) (hbs : ∀ y ∈ xs, y.bytes.length ≤ 140737488351232) : Calls Try.prog 9 #[.slice p xs.length c, .int .u32 (now : Int)] w (Ret fun v w' => v = .bool true ∧ Own S H w') := by
 refine enter (G := Own (⟨w, keys H⟩ :: S) H) ho.keep Try.func9 rfl Try.ntmps9 rfl ?_
 refine VC.sr ?_
 refine VL.assign rfl ?_
 refine VL.nn ?_
 refine VC.seq ?_
 refine VC.sr ?_
 refine VL.call Try.func37 rfl (by decide) rfl (fun w' hw => alive24_w hw) (fun v => ?_)
 refine VL.fact fun e1 => ?_
 subst e1
 refine VL.not rfl ?_
 refine VL.nn ?_
 refine VC.no rfl ?_
 refine VC.skip ?_
 refine VX.next ?_
 refine VC.seq ?_
 refine VC.sr ?_
 refine VL.move rfl ?_
 refine VL.len Try.underlying47 rfl rfl ?_
 refine VL.gtr rfl rfl ?_
 refine VL.case (fun h3 => ?_) (fun h3 => ?_)
 ·refine VL.nn ?_
  refine VC.yes rfl ?_
  refine VC.sr ?_
  refine VL.assign rfl ?_
  refine VL.nn ?_
  refine VC.ret ?_
  refine VX.then_ret ?_
  refine VX.ret1 rfl rfl (fun we hw => ?_)
  exact ⟨rfl, hw.subA⟩
 ·refine VL.nn ?_
  refine VC.no rfl ?_
  refine VC.skip ?_
  refine VX.next ?_
  refine VC.sr ?_
  refine VL.assign rfl ?_
  refine VL.nn ?_
  refine VC.seq ?_
  refine VC.sr ?_
  refine VL.assign rfl ?_
  refine VL.nn ?_
  refine VC.block ?_
  refine VC.loop (X := Nat) (fun i => [(0, .slice p xs.length c), (1, .int .u32 (now : Int)), (5, .int .i64 ((cntD (xs.take i) now : Nat) : Int)), (6, .int .i64 (i : Int))]) (fun i w' => i ≤ xs.length ∧ Own (⟨w, keys H⟩ :: S) H w') (fun i => xs.length - i) 0 ⟨rfl, rfl, rfl, rfl, trivial⟩ (fun w' h => ⟨Nat.zero_le _, h.subA⟩) (fun i => VC.fact fun hi => ?_)
  ·skip
   refine VC.seq ?_
   refine VC.sr ?_
   refine VL.move rfl ?_
   refine VL.move rfl ?_
   refine VL.len Try.underlying47 rfl rfl ?_
   refine VL.lss rfl rfl ?_
   refine VL.case (fun h7 => ?_) (fun h7 => ?_)
   ·have hlt : i < xs.length := by omega
    have hci := cnt_le (xs.take i) now
    have hct : (xs.take i).length ≤ i := List.length_take_le _ _
    refine VL.nn ?_
    refine VC.yes rfl ?_
    refine VC.skip ?_
    refine VX.next ?_
    refine VC.seq ?_
    refine VC.block ?_
    refine VC.sr ?_
    refine VL.move rfl ?_
    refine VL.move rfl ?_
    refine VL.index (xs := xs) rfl rfl Try.underlying47 sz47 hX (by omega) (by have hi := hlt; omega) ?_
    refine VL.fieldAt rfl (by obtain ⟨a, ha⟩ := hX.isAt (by have hi := hlt; omega); rw [ha]; rfl) fo50_2 ?_
    refine VL.elem (s := ⟨w, _⟩) (i) 2 rfl kd48 (fun _ h => h) (by repeat (first | exact List.mem_cons_self .. | apply List.mem_cons_of_mem)) Mono_par hX (List.getElem?_eq_getElem hlt) (by simp) (by decide) (fun vs v hl hr hv => ?_)
    obtain ⟨p3, c4, hy2, rfl, hA5⟩ := hr
    have ehy2 : v = .int .u32 ((xs[i]'hlt).due : Nat) := (Option.some.inj (hv.symm.trans rfl))
    subst ehy2
    refine VL.move rfl ?_
    refine VL.leq rfl rfl ?_
    refine VL.case (fun h9 => ?_) (fun h9 => ?_)
    ·refine VL.nn ?_
     refine VC.yes rfl ?_
     refine VC.region ?_
     refine VL.move rfl ?_
     refine VL.add rfl rfl (by simp only [InR]; omega) ?_
     refine VL.assign rfl ?_
     refine VL.nil ?_
     refine VX.block_normal ?_
     refine VX.next ?_
     refine VC.region ?_
     refine VL.move rfl ?_
     refine VL.add rfl rfl (by simp only [InR]; omega) ?_
     refine VL.assign rfl ?_
     refine VL.nil ?_
     refine VX.round (i + 1) ⟨rfl, rfl, ?_, rfl, trivial⟩ (fun w' h => ⟨by omega, h.subA⟩) (by omega)
     show some (Value.int .i64 _) = some (Value.int .i64 _)
     rw [cnt_take hlt, if_pos (by omega)]
     rfl
    ·refine VL.nn ?_
     refine VC.no rfl ?_
     refine VC.skip ?_
     refine VX.block_normal ?_
     refine VX.next ?_
     refine VC.region ?_
     refine VL.move rfl ?_
     refine VL.add rfl rfl (by simp only [InR]; omega) ?_
     refine VL.assign rfl ?_
     refine VL.nil ?_
     refine VX.round (i + 1) ⟨rfl, rfl, ?_, rfl, trivial⟩ (fun w' h => ⟨by omega, h.subA⟩) (by omega)
     show some (Value.int .i64 _) = some (Value.int .i64 _)
     rw [cnt_take hlt, if_neg (by omega)]
     rfl
   ·refine VL.nn ?_
    refine VC.no rfl ?_
    refine VC.exit ?_
    refine VX.then_exit ?_
    refine VX.then_exit ?_
    refine VX.block_here ?_
    refine VX.next ?_
    refine VC.sr ?_
    refine VL.move rfl ?_
    refine VL.assign rfl ?_
    refine VL.nn ?_
    refine VC.sr ?_
    refine VL.assign rfl ?_
    refine VL.nn ?_
    refine VC.seq ?_
    refine VC.sr ?_
    refine VL.assign rfl ?_
    refine VL.nn ?_
    refine VC.block ?_
    obtain rfl : i = xs.length := by omega
    rw [List.take_length]
    refine VC.loop (X := List Par × Option Addr × Nat × Nat × Nat) (fun (ys, q, d, last, m) => [(1, .int .u32 (now : Int)), (5, .int .i64 ((cntD xs now : Nat) : Int)), (7, .slice q ys.length d), (8, .int .u32 (last : Int)), (9, .int .i64 (m : Int))]) (fun (ys, q, d, last, m) w' => ((∀ y ∈ ys, y.bytes.length ≤ 140737488351232) ∧ ys.length ≤ 200 ∧ cntD ys now + m = cntD xs now ∧ ∀ y ∈ ys, y.due ≤ now → last ≤ y.due) ∧ Arr 4 parR (keys H) w' q ys d ∧ Own (⟨w, keys H⟩ :: S) H w') (fun (ys, _) => ys.length) (xs, p, c, 0, 0) ⟨rfl, rfl, rfl, rfl, rfl, trivial⟩ (fun w' h => ⟨⟨hbs, by omega, by omega, fun y _ _ => Nat.zero_le _⟩, (hX.nowA (s := ⟨w, _⟩) Mono_par h), h.subA⟩) (fun (ys, q, d, last, m) => VC.fact fun ⟨hbs2, hl2, hcnt, hla⟩ => VC.at (fun wa ⟨hY, hOa⟩ => vcToOwnB hOa ?_))
    ·skip
     refine VC.seq ?_
     refine VC.sr ?_
     refine VL.move rfl ?_
     refine VL.move rfl ?_
     refine VL.leq rfl rfl ?_
     refine VL.yes (by omega) ?_
     refine VL.nn ?_
     refine VC.yes rfl ?_
     refine VC.skip ?_
     refine VX.next ?_
     refine VC.seq ?_
     refine VC.block ?_
     refine VC.seq ?_
     rcases hbi : bestI ys now ys.length with _ | b
     ·have hcx := cnt_le xs now
      have hz := bestZ_none hbi
      have hc0 := cnt_zero hbi
      refine VC.region ?_
      refine VL.move rfl ?_
      refine VL.move rfl ?_
      refine VL.call Try.func38 rfl (by decide) rfl (fun w' hw => ripe_w hw (hY.nowA (s := ⟨wa, _⟩) Mono_par hw) (by omega) hnow) (fun v => ?_)
      refine VL.fact fun e6 => ?_
      subst e6
      refine VL.newv (v' := .int .i64 (-1)) (congrArg (Value.int .i64) hz) ?_
      refine VL.assign rfl ?_
      refine VL.nn ?_
      refine VC.seq ?_
      refine VC.sr ?_
      refine VL.move rfl ?_
      refine VL.move rfl ?_
      refine VL.move rfl ?_
      refine VL.call Try.func39 rfl (by decide) rfl (fun w' hw => refRipe_w hw (hY.nowA (s := ⟨wa, _⟩) Mono_par hw) (by omega) hnow) (fun v => ?_)
      refine VL.fact fun e7 => ?_
      subst e7
      refine VL.newv (v' := .int .i64 (-1)) (congrArg (Value.int .i64) hz) ?_
      refine VL.neq rfl rfl ?_
      refine VL.no (by omega) ?_
      refine VL.move rfl ?_
      refine VL.go rfl rfl rfl ?_
      refine VL.move rfl ?_
      refine VL.go rfl rfl rfl ?_
      refine VL.lss rfl rfl ?_
      refine VL.yes (by omega) ?_
      refine VL.go rfl rfl rfl ?_
      refine VL.move rfl ?_
      refine VL.go rfl rfl rfl ?_
      refine VL.move rfl ?_
      refine VL.go rfl rfl rfl ?_
      refine VL.eql rfl rfl ?_
      refine VL.yes (by omega) ?_
      refine VL.go rfl rfl rfl ?_
      refine VL.bneq Try.underlying4 rfl rfl ?_
      refine VL.pick_f rfl rfl ?_
      refine VL.nn ?_
      refine VC.no rfl ?_
      refine VC.skip ?_
      refine VX.next ?_
      refine VC.seq ?_
      refine VC.sr ?_
      refine VL.move rfl ?_
      refine VL.lss rfl rfl ?_
      refine VL.yes (by omega) ?_
      refine VL.nn ?_
      refine VC.yes rfl ?_
      refine VC.sr ?_
      refine VL.assign rfl ?_
      refine VL.nn ?_
      refine VC.ret ?_
      refine VX.then_ret ?_
      refine VX.block_ret ?_
      refine VX.then_ret ?_
      refine VX.then_ret ?_
      refine VX.block_ret ?_
      refine VX.then_ret ?_
      refine VX.ret1 rfl rfl (fun we hw => ?_)
      exact ⟨rfl, hw.subA⟩
     ·have hcx := cnt_le xs now
      have hz := bestZ_some hbi
      have hc0 := cnt_pos hbi
      obtain ⟨hbl, hbd, _⟩ := best_some hbi
      rw [dueAt_eq hbl] at hbd
      have hle := cut_least hbi hbl
      have hlb := hla _ (List.getElem_mem hbl) hbd
      have hyb : (ys[b]'hbl).ok := by
       obtain ⟨vs, a, _, _, h1, _⟩ := hY.cell (List.getElem?_eq_getElem hbl)
       obtain ⟨_, _, h2, _⟩ := h1
       exact h2
      refine VC.region ?_
      refine VL.move rfl ?_
      refine VL.move rfl ?_
      refine VL.call Try.func38 rfl (by decide) rfl (fun w' hw => ripe_w hw (hY.nowA (s := ⟨wa, _⟩) Mono_par hw) (by omega) hnow) (fun v => ?_)
      refine VL.fact fun e8 => ?_
      subst e8
      refine VL.newv (v' := .int .i64 (b : Int)) (congrArg (Value.int .i64) hz) ?_
      refine VL.assign rfl ?_
      refine VL.nn ?_
      refine VC.seq ?_
      refine VC.sr ?_
      refine VL.move rfl ?_
      refine VL.move rfl ?_
      refine VL.move rfl ?_
      refine VL.call Try.func39 rfl (by decide) rfl (fun w' hw => refRipe_w hw (hY.nowA (s := ⟨wa, _⟩) Mono_par hw) (by omega) hnow) (fun v => ?_)
      refine VL.fact fun e9 => ?_
      subst e9
      refine VL.newv (v' := .int .i64 (b : Int)) (congrArg (Value.int .i64) hz) ?_
      refine VL.neq rfl rfl ?_
      refine VL.no (by omega) ?_
      refine VL.move rfl ?_
      refine VL.go rfl rfl rfl ?_
      refine VL.move rfl ?_
      refine VL.go rfl rfl rfl ?_
      refine VL.lss rfl rfl ?_
      refine VL.no (by omega) ?_
      refine VL.go rfl rfl rfl ?_
      refine VL.move rfl ?_
      refine VL.go rfl rfl rfl ?_
      refine VL.move rfl ?_
      refine VL.go rfl rfl rfl ?_
      refine VL.eql rfl rfl ?_
      refine VL.no (by omega) ?_
      refine VL.go rfl rfl rfl ?_
      refine VL.bneq Try.underlying4 rfl rfl ?_
      refine VL.pick_f rfl rfl ?_
      refine VL.nn ?_
      refine VC.no rfl ?_
      refine VC.skip ?_
      refine VX.next ?_
      refine VC.seq ?_
      refine VC.sr ?_
      refine VL.move rfl ?_
      refine VL.lss rfl rfl ?_
      refine VL.no (by omega) ?_
      refine VL.nn ?_
      refine VC.no rfl ?_
      refine VC.skip ?_
      refine VX.next ?_
      refine VC.sr ?_
      refine VL.move rfl ?_
      refine VL.move rfl ?_
      refine VL.call Try.func40 rfl (by decide) rfl (fun w' hw => take_yes hw (hY.nowA (s := ⟨wa, _⟩) Mono_par hw) (by omega) b hbl (hbs2 _ (List.getElem_mem hbl))) (fun v => ?_)
      refine VL.at (fun w10 h1w => ?_)
      obtain ⟨q12, d13, p14, c15, rfl, hO11, hX16, hA17⟩ := h1w
      refine VL.toOwn hO11 ?_
      refine VL.move rfl ?_
      refine VL.extract rfl rfl ?_
      refine VL.extract rfl rfl ?_
      refine VL.extract rfl rfl ?_
      refine VL.alloc (L := parL) (ps := (parV (par0) none 0)) zero50 rfl rfl (fun g18 => ?_)
      refine VL.assign rfl ?_
      refine VL.store (L := parL) (qs := (parV ((ys[b]'hbl)) p14 c15)) (ps' := (parV ((ys[b]'hbl)) p14 c15)) 0 0 4 rfl rfl rfl (.inl kd50) rfl rfl (parV_len hyb) (parV_ok1 ((ys[b]'hbl)) p14 c15) rfl rfl ?_
      refine VL.set0 ?_
      refine VL.assign rfl ?_
      refine VL.nn ?_
      refine VC.seq ?_
      refine VC.sr ?_
      refine VL.move rfl ?_
      refine VL.not rfl ?_
      refine VL.move rfl ?_
      refine VL.go rfl rfl rfl ?_
      refine VL.fieldAddr rfl fo50_2 rfl ?_
      refine VL.go rfl rfl rfl ?_
      refine VL.load (v := .int .u32 ((ys[b]'hbl).due)) 0 2 rfl kd48 (fun _ h => h) rfl rfl rfl ?_
      refine VL.go rfl rfl rfl ?_
      refine VL.move rfl ?_
      refine VL.go rfl rfl rfl ?_
      refine VL.lss rfl rfl ?_
      refine VL.no (by omega) ?_
      refine VL.pick_f rfl rfl ?_
      refine VL.move rfl ?_
      refine VL.go rfl rfl rfl ?_
      refine VL.fieldAddr rfl fo50_2 rfl ?_
      refine VL.go rfl rfl rfl ?_
      refine VL.load (v := .int .u32 ((ys[b]'hbl).due)) 0 2 rfl kd48 (fun _ h => h) rfl rfl rfl ?_
      refine VL.go rfl rfl rfl ?_
      refine VL.move rfl ?_
      refine VL.go rfl rfl rfl ?_
      refine VL.gtr rfl rfl ?_
      refine VL.no (by omega) ?_
      refine VL.pick_f rfl rfl ?_
      refine VL.nn ?_
      refine VC.no rfl ?_
      refine VC.skip ?_
      refine VX.next ?_
      apply VC.anyTA 4 1005 (F := [eqF _, eqF _, eqF _, eqF _]) [⟨[], [11]⟩, ⟨[], [12]⟩, ⟨[(80, 1)], []⟩, ⟨[(79, 0)], []⟩] [(81, 2), (7, 3)] [0, 1, 4, 5, 6, 8, 9, 10, 12, 13, 14, 15, 16, 17, 18, 19, 20, 21, 22, 23, 24, 25, 26, 27, 28, 29, 30, 31, 32, 33, 34, 35, 36, 37, 38, 39, 40, 41, 42, 43, 44, 45, 46, 47, 48, 49, 50, 51, 52, 53, 54, 55, 56, 57, 58, 59, 60, 61, 62, 63, 64, 65, 66, 67, 68, 69, 70, 71, 72, 73, 74, 75, 76, 77, 78] rfl (by kernel_rfl) (by kernel_rfl) rfl rfl (by kernel_rfl) (by kernel_rfl) (by kernel_rfl) rfl ?obs24 ?end24
      case obs24 =>
       refine Obs.cons ?_ ?_
       ·refine obS (by kernel_rfl) rfl rfl (fun ph24 w24 hO24 => ?_)
        refine VL.move rfl ?_
        exact VL.finS hO24 rfl rfl
       refine Obs.cons ?_ ?_
       ·refine obS (by kernel_rfl) rfl rfl (fun ph24 w24 hO24 => ?_)
        refine VL.fieldAddr rfl fo50_2 rfl ?_
        exact VL.finS hO24 rfl rfl
       refine Obs.cons ?_ ?_
       ·refine ob (by kernel_rfl) rfl (by kernel_rfl) rfl (fun w24 hO24 => ?_)
        rintro _ rfl
        refine VL.load (v := .int .u32 ((ys[b]'hbl).due)) 0 2 rfl kd48 (fun _ e => e ▸ hO24) rfl rfl rfl ?_
        exact VL.finS hO24 rfl rfl
       refine Obs.cons ?_ ?_
       ·refine obS (by kernel_rfl) rfl rfl (fun ph24 w24 hO24 => ?_)
        rintro _ rfl
        refine VL.assign rfl ?_
        exact VL.finS hO24 rfl rfl
       exact Obs.nil
      case end24 =>
       intro w24 hO24
       rintro _ rfl _ rfl
       refine VL.toOwn hO24 ?_
       refine VL.assign rfl ?_
       refine VL.nil ?_
       refine VX.block_normal ?_
       refine VX.next ?_
       refine VC.region ?_
       refine VL.move rfl ?_
       refine VL.add rfl rfl (by simp only [InR]; omega) ?_
       refine VL.assign rfl ?_
       refine VL.nil ?_
       refine VX.round ((ys.take b ++ ys.drop (b + 1)), q12, d13, (ys[b]'hbl).due, m + 1) ⟨rfl, rfl, rfl, rfl, rfl, trivial⟩ (fun w' h => ⟨⟨fun y hy => hbs2 y (mem_cut hy), by have := cut_len hbl; omega, by have := cnt_cut hbl hbd; omega, fun y hy => hle y (mem_cut hy)⟩, (hX16.nowA (s := ⟨w10, _⟩) Mono_par h.drop), h.drop.subA⟩) (by have := cut_len hbl; show (ys.take b ++ ys.drop (b + 1)).length < ys.length; omega)

end Go.Proofs.Ytcfecmoagfgnaaa

/- Parcels as arguments, opened. -/
namespace Go.Proofs.Ytcfecmoagfgnaaa
open Go.Vc Go.Pl

open Go.ChangeShapes Go.WideShapes Go.ChangeAt Go.RowKit
section
variable {Hh : Type} {enc : TypeId × Value → Hh} {P : Program} {W : World} {t : TypeId}
/-- Opened, where the data's weights are what can be reached. -/
def OpensB (enc : TypeId × Value → Hh) (P : Program) (W : World) (t : TypeId) {X : Type} (R : Rel X) : Prop :=
  ∀ fuel cs x, DataW.trod enc P W 0 (fun _ => true) true fuel t cs = some x → (∀ n ∈ x.1.weights P t, n ≤ reachBytes) → ∃ y, R [] W cs y
theorem weightsAll_in {e : TypeId} : ∀ {l : List (DataW Hh)} {d : DataW Hh}, d ∈ l → ∀ n ∈ d.weights P e, n ∈ DataW.weightsAll P e l
 | d' :: r, d, hd, n, hn => by
  simp only [DataW.weightsAll, List.mem_append]
  rcases List.mem_cons.1 hd with rfl | h
  ·exact Or.inl hn
  ·exact Or.inr (weightsAll_in h n hn)

theorem OpensB.slice {t e : TypeId} {X : Type} {R : Rel X} {sz : Nat} (ht : P.underlying t = some (.slice e)) (hsz : P.cellsOf e = sz) (hpos : 0 < sz) (he : OpensB enc P W e R) : OpensB enc P W t (RV sz R) := by
 intro fuel cs x h hwt
 subst hsz
 rcases DataW.trod_slice ht h with ⟨rfl, _⟩ | ⟨a, len, cap, elems, rest, n, _, rfl, ex, hb, hl, hm, hlen, hel, hsp, _⟩
 ·exact ⟨[], none, 0, rfl, Arr.none⟩
 ·obtain ⟨hrl, hre⟩ := hsp rfl
  have each : ∀ i, i < len → ∃ y, ∃ vs : List Value, vs.length = P.cellsOf e ∧ R [] W vs y ∧ ∀ j v, vs[j]? = some v → W.cell? ((a.add (i * P.cellsOf e)).add j) = some v := by
   intro i hi
   have h1 := hel i hi
   rw [List.getElem?_eq_getElem (by omega)] at h1
   cases hc : W.cells? 0 (a.add (i * P.cellsOf e)) (P.cellsOf e) with
   | none => simp [hc] at h1
   | some vs =>
    simp [hc] at h1
    obtain ⟨y, hy⟩ := he _ _ _ h1 (fun n hn => hwt n (by
     rw [ex]
     simp only [DataW.weights, ht, List.mem_cons, List.mem_append]
     exact .inr (.inl (weightsAll_in (List.mem_map.2 ⟨_, List.getElem_mem (by omega), rfl⟩) n hn))))
    obtain ⟨h2, h3, h4⟩ := World.cells?_some hc
    refine ⟨y, vs, h3, hy, fun j v hj => ?_⟩
    have hjl := (List.getElem?_eq_some_iff.1 hj).1
    rw [h4 j (by omega)]; exact hj
  obtain ⟨ys, hys, hyp⟩ := pick_list len each
  subst hys
  refine ⟨ys, some a, cap, rfl, hl, hm, fun e => (by cases e), fun a' ea hc0 => ?_⟩
  simp at ea; subst ea
  -- the first cell is there
  have hfirst : ∃ v, W.cell? a = some v := by
   have key : ∀ z, (W.cells? 0 (a.add 0) (P.cellsOf e)).bind (DataW.trod enc P W 0 (fun _ => true) true n e) = some z → ∃ v, W.cell? a = some v := by
    intro z hz
    cases hc : W.cells? 0 (a.add 0) (P.cellsOf e) with
    | none => simp [hc] at hz
    | some vs =>
     obtain ⟨h2, h3, h4⟩ := World.cells?_some hc
     have := h4 0 hpos
     rw [List.getElem?_eq_getElem (by omega)] at this
     exact ⟨_, by simpa [Addr.add] using this⟩
   by_cases h0 : 0 < ys.length
   ·have h1 := hel 0 h0
    rw [List.getElem?_eq_getElem (by omega), Nat.zero_mul] at h1
    exact key _ h1
   ·have h1 := hre 0 (by omega)
    rw [List.getElem?_eq_getElem (by omega)] at h1
    have e0 : (ys.length + 0) * P.cellsOf e = 0 := by rw [show ys.length + 0 = 0 by omega, Nat.zero_mul]
    rw [e0] at h1
    exact key _ h1
  obtain ⟨v0, hv0⟩ := hfirst
  unfold World.cell? at hv0
  cases hh : W.heap[a.block]? with
  | none => simp [hh] at hv0
  | some o =>
   cases o with
   | cells c el fr =>
    simp only [hh] at hv0
    have hspot : a.spot = none := by
     cases hs : a.spot with
     | none => rfl
     | some _ => simp [hs] at hv0
    refine ⟨hspot, by simp, (Array.getElem?_eq_some_iff.1 hh).1, c, el, fr, rfl, fun j y hj => ?_⟩
    obtain ⟨vs, f1, f2, f3⟩ := hyp j y hj
    refine ⟨vs, f1, f2, fun i v hv => ?_⟩
    have := f3 i v hv
    have ea : (a.add (j * P.cellsOf e)).add i = ⟨a.block, a.off + (j * P.cellsOf e + i), none⟩ := by
     obtain ⟨ab, ao, asp⟩ := a
     simp at hspot; subst hspot
     rw [add_lit, add_lit, Nat.add_assoc]
    rw [ea] at this
    simpa [World.cell?, hh] using this
   | _ => simp [hh] at hv0


theorem fieldIn {fs : Array Field} {fuel : Nat} {cs : List Value} {x : DataW Hh × List MemPlace} (j : Nat) (tj : TypeId) (o n : Nat) (ht : P.underlying t = some (.struct fs)) (hL : (fs[j]?).map (fun f => (f.type, f.offset, P.cellsOf f.type)) = some (tj, o, n)) (h : DataW.trod enc P W 0 (fun _ => true) true fuel t cs = some x) :
  ∃ m z, DataW.trod enc P W 0 (fun _ => true) true m tj ((cs.drop o).take n) = some z ∧ ∀ k ∈ z.1.weights P tj, k ∈ x.1.weights P t := by
 obtain ⟨xs, m, _, ex, _, hxl, hx⟩ := DataW.trod_struct ht h
 cases hf : fs[j]? with
 | none => rw [hf] at hL; cases hL
 | some f =>
  rw [hf] at hL
  simp only [Option.map_some, Option.some.injEq, Prod.mk.injEq] at hL
  obtain ⟨rfl, rfl, rfl⟩ := hL
  have hlt : j < xs.length := by
   rw [hxl]
   exact (Array.getElem?_eq_some_iff.1 hf).1
  have h3 := hx j f hf
  rw [List.getElem?_eq_getElem hlt] at h3
  refine ⟨m, xs[j], h3, fun k hk => ?_⟩
  rw [ex]
  simp only [DataW.weights, ht]
  exact DataW.weights_mem_each (j := j) (t := f.type) (d := xs[j].1) (by rw [List.getElem?_map, Array.getElem?_toList, hf]; rfl) (by rw [List.getElem?_map, List.getElem?_eq_getElem hlt]; rfl) k hk
theorem okSlice {e : TypeId} {r : Reach} {base : Nat} {v : Value} (ht : P.underlying t = some (.slice e)) (hval : Value.okWide P W r base t v) : ∃ p n c, v = .slice p n c := by
 unfold Value.okWide Cell.okWide Cell.ok at hval
 rw [ht] at hval
 cases v <;> simp at hval ⊢
theorem arrImp {X : Type} {sz : Nat} {R R' : Rel X} {K : List Nat} {w : World} {p : Option Addr} {xs : List X} {c : Nat} (h : Arr sz R K w p xs c) (hi : ∀ vs y, R K w vs y → R' K w vs y) : Arr sz R' K w p xs c := by
 obtain ⟨a1, a2, a3, a4⟩ := h
 refine ⟨a1, a2, a3, fun a ea hc => ?_⟩
 obtain ⟨b1, b2, b3, cs, el, fr, hg, hx⟩ := a4 a ea hc
 refine ⟨b1, b2, b3, cs, el, fr, hg, fun j y hj => ?_⟩
 obtain ⟨vs, f1, f2, f3⟩ := hx j y hj
 exact ⟨vs, f1, hi _ _ f2, f3⟩
end
section
variable {Hh : Type} {enc : TypeId × Value → Hh} {W : World}
theorem open50 : Opens enc Try.prog W 50 parR := by
 intro fuel cs x h
 obtain ⟨hl, m, hz0, hz1, hz2, hz3, _⟩ := openFields [(5, 0, 1), (5, 1, 1), (48, 2, 1), (24, 3, 1)] Try.underlying50 (by kernel_rfl) h
 rw [show Try.prog.cellsOf 50 = 4 by kernel_rfl] at hl
 obtain ⟨z0, hz0⟩ := hz0
 obtain ⟨y0, ho0, hy0⟩ := (openU8 Try.underlying5) _ _ _ hz0
 obtain ⟨z1, hz1⟩ := hz1
 obtain ⟨y1, ho1, hy1⟩ := (openU8 Try.underlying5) _ _ _ hz1
 obtain ⟨z2, hz2⟩ := hz2
 obtain ⟨y2, ho2, hy2⟩ := (openU32 Try.underlying48) _ _ _ hz2
 obtain ⟨z3, hz3⟩ := hz3
 obtain ⟨y3, p3, c3, hy3, hA3⟩ := (Opens.slice (sz := 1) Try.underlying24 (by kernel_rfl) (by decide) (Opens.u8 Try.underlying5)) _ _ _ hz3
 refine ⟨⟨y0, y1, y2, y3⟩, p3, c3, ⟨ho0, ho1, ho2⟩, ?_, hA3⟩
 have e0 : cs = cs.drop 0 := rfl
 have f0 := cutCells 0 1 hy0
 have f1 := cutCells 1 1 hy1
 have f2 := cutCells 2 1 hy2
 have f3 := cutCells 3 1 hy3
 have fe : cs.drop 4 = [] := List.drop_eq_nil_of_le (by omega)
 rw [e0, f0, f1, f2, f3, fe]
 simp only [cat, List.append_assoc, List.append_nil, List.nil_append]
def parRB : Rel Par := fun K w vs y => y.bytes.length ≤ reachBytes ∧ parR K w vs y
theorem open50B : OpensB enc Try.prog W 50 parRB := by
 intro fuel cs x h hwt
 obtain ⟨y, hy⟩ := open50 fuel cs x h
 refine ⟨y, ?_, hy⟩
 obtain ⟨p, c, _, rfl, hA⟩ := hy
 obtain ⟨m, z, h3, hz⟩ := fieldIn (t := 50) 3 24 3 1 Try.underlying50 (by kernel_rfl) h
 have hc3 : ((cat (parV y p c)).drop 3).take 1 = [.slice p y.bytes.length c] := rfl
 rw [hc3] at h3
 rcases DataW.trod_slice Try.underlying24 h3 with ⟨e1, _⟩ | ⟨a, len, cap, elems, rest, n, _, e1, e2, _, _, _, hlen, _⟩
 ·have e4 : y.bytes.length = 0 := (Value.slice.inj (List.cons.inj e1).1).2.1
  rw [e4]; exact Nat.zero_le _
 ·have e4 : y.bytes.length = len := (Value.slice.inj (List.cons.inj e1).1).2.1
  rw [e4, ← hlen]
  have hm : ((elems.map (·.1)).length + (rest.map (·.1)).length) * Try.prog.bytesOf 5 ∈ z.1.weights Try.prog 24 := by
   rw [e2]
   simp only [DataW.weights, Try.underlying24, List.mem_cons, true_or]
  have := hwt _ (hz _ hm)
  rw [show Try.prog.bytesOf 5 = 1 by kernel_rfl, List.length_map, List.length_map, Nat.mul_one] at this
  omega
theorem open47B : OpensB enc Try.prog W 47 (RV 4 parRB) := OpensB.slice Try.underlying47 (by kernel_rfl) (by decide) open50B
set_option maxRecDepth 100000 in
theorem value47 {r : Reach} {base : Nat} {v : Value} {d : DataW Hh} {ps : List MemPlace} (hval : Value.okWide Try.prog W r base 47 v) (hd : DataW.Trod enc Try.prog W 0 (fun _ => true) true 47 v d ps) (hwt : ∀ n ∈ d.weights Try.prog 47, n ≤ reachBytes) :
  ∃ p xs c, v = .slice p xs.length c ∧ Arr 4 parR [] W p xs c ∧ ∀ y ∈ xs, y.bytes.length ≤ reachBytes := by
 obtain ⟨fuel, hf⟩ := hd
 obtain ⟨xs, p, c, hv, hA⟩ := open47B _ _ _ hf hwt
 obtain ⟨p', n', c', rfl⟩ := okSlice (P := Try.prog) (W := W) (t := 47) (r := r) (base := base) (v := v) Try.underlying47 hval
 have hv' : [Value.slice p' n' c'] = [.slice p xs.length c] := hv
 refine ⟨p, xs, c, (List.cons.inj hv').1, arrImp hA fun _ _ h => h.2, fun y hy => ?_⟩
 obtain ⟨i, hi⟩ := List.mem_iff_getElem?.1 hy
 obtain ⟨vs, a, _, _, h1, _⟩ := hA.cell hi
 exact h1.1
end
end Go.Proofs.Ytcfecmoagfgnaaa

/- The dump's head, taken apart once: its kernel's run is long. -/
set_option maxRecDepth 100000
namespace Go.Proofs.Ytcfecmoagfgnaaa
open Go

def signs : List Char := [104, 97, 114, 110, 101, 115, 115, 32, 102, 100, 52, 102, 57, 98, 57, 102, 49, 55, 56, 57, 57, 51, 101, 97, 57, 99, 99, 102, 101, 98, 51, 98, 102, 53, 98, 50, 100, 102, 54, 99, 50, 101, 100, 98, 49, 51, 57, 102, 51, 101, 52, 102, 100, 56, 51, 97, 49, 50, 97, 97, 48, 99, 53, 98, 50, 54, 97, 51, 52, 53, 48, 48, 32, 99, 117, 116, 32, 97, 116, 32, 109, 105, 115, 115, 105, 118, 101, 47, 109, 105, 115, 115, 105, 118, 101, 108, 97, 119, 48, 50, 46, 79, 99, 116, 101, 116, 78, 117, 109, 98, 101, 114, 115, 32, 109, 105, 115, 115, 105, 118, 101, 47, 109, 105, 115, 115, 105, 118, 101, 108, 97, 119, 48, 50, 46, 79, 99, 116, 101, 116, 74, 111, 105, 110, 115, 32, 109, 105, 115, 115, 105, 118, 101, 47, 109, 105, 115, 115, 105, 118, 101, 108, 97, 119, 48, 50, 46, 79, 99, 116, 101, 116, 83, 112, 108, 105, 116, 115, 32, 109, 105, 115, 115, 105, 118, 101, 47, 109, 105, 115, 115, 105, 118, 101, 108, 97, 119, 48, 50, 46, 79, 99, 116, 101, 116, 67, 117, 116, 32, 109, 105, 115, 115, 105, 118, 101, 47, 109, 105, 115, 115, 105, 118, 101, 108, 97, 119, 48, 50, 46, 79, 99, 116, 101, 116, 79, 119, 110, 32, 109, 105, 115, 115, 105, 118, 101, 47, 109, 105, 115, 115, 105, 118, 101, 108, 97, 119, 48, 50, 46, 79, 99, 116, 101, 116, 66, 121, 116, 101, 115, 32, 109, 105, 115, 115, 105, 118, 101, 47, 109, 105, 115, 115, 105, 118, 101, 108, 97, 119, 50, 52, 46, 66, 97, 103, 82, 105, 112, 101, 32, 109, 105, 115, 115, 105, 118, 101, 47, 109, 105, 115, 115, 105, 118, 101, 108, 97, 119, 50, 52, 46, 66, 97, 103, 80, 108, 97, 121, 115, 32, 109, 105, 115, 115, 105, 118, 101, 47, 109, 105, 115, 115, 105, 118, 101, 108, 97, 119, 50, 52, 46, 66, 97, 103, 79, 119, 110, 32, 109, 105, 115, 115, 105, 118, 101, 47, 109, 105, 115, 115, 105, 118, 101, 108, 97, 119, 49, 52, 46, 87, 105, 114, 101, 76, 101, 116, 116, 101, 114, 115, 32, 109, 105, 115, 115, 105, 118, 101, 47, 109, 105, 115, 115, 105, 118, 101, 108, 97, 119, 49, 52, 46, 87, 105, 114, 101, 73, 116, 101, 109, 115, 32, 109, 105, 115, 115, 105, 118, 101, 47, 109, 105, 115, 115, 105, 118, 101, 108, 97, 119, 49, 52, 46, 87, 105, 114, 101, 66, 117, 110, 100, 108, 101, 115, 32, 109, 105, 115, 115, 105, 118, 101, 47, 109, 105, 115, 115, 105, 118, 101, 108, 97, 119, 49, 52, 46, 87, 105, 114, 101, 79, 98, 106, 101, 99, 116, 115, 32, 109, 105, 115, 115, 105, 118, 101, 47, 109, 105, 115, 115, 105, 118, 101, 108, 97, 119, 50, 49, 46, 70, 101, 100, 113, 84, 97, 107, 101, 115, 32, 109, 105, 115, 115, 105, 118, 101, 47, 109, 105, 115, 115, 105, 118, 101, 108, 97, 119, 49, 52, 46, 87, 105, 114, 101, 67, 97, 108, 108, 115, 32, 109, 105, 115, 115, 105, 118, 101, 47, 109, 105, 115, 115, 105, 118, 101, 108, 97, 119, 49, 52, 46, 87, 105, 114, 101, 84, 117, 114, 110, 101, 100, 32, 109, 105, 115, 115, 105, 118, 101, 47, 109, 105, 115, 115, 105, 118, 101, 108, 97, 119, 49, 52, 46, 87, 105, 114, 101, 82, 101, 112, 108, 105, 101, 115, 32, 109, 105, 115, 115, 105, 118, 101, 47, 109, 105, 115, 115, 105, 118, 101, 108, 97, 119, 49, 52, 46, 87, 105, 114, 101, 80, 97, 99, 107, 101, 116, 115, 32, 109, 105, 115, 115, 105, 118, 101, 47, 109, 105, 115, 115, 105, 118, 101, 108, 97, 119, 49, 52, 46, 87, 105, 114, 101, 82, 101, 97, 100, 115, 32, 109, 105, 115, 115, 105, 118, 101, 47, 109, 105, 115, 115, 105, 118, 101, 108, 97, 119, 50, 49, 46, 70, 101, 100, 113, 82, 111, 119, 115, 32, 109, 105, 115, 115, 105, 118, 101, 47, 109, 105, 115, 115, 105, 118, 101, 108, 97, 119, 50, 49, 46, 70, 101, 100, 113, 76, 111, 97, 100, 115].map Char.ofNat
def words : List (List Char) := [[104, 97, 114, 110, 101, 115, 115], [102, 100, 52, 102, 57, 98, 57, 102, 49, 55, 56, 57, 57, 51, 101, 97, 57, 99, 99, 102, 101, 98, 51, 98, 102, 53, 98, 50, 100, 102, 54, 99, 50, 101, 100, 98, 49, 51, 57, 102, 51, 101, 52, 102, 100, 56, 51, 97, 49, 50, 97, 97, 48, 99, 53, 98, 50, 54, 97, 51, 52, 53, 48, 48], [99, 117, 116], [97, 116], [109, 105, 115, 115, 105, 118, 101, 47, 109, 105, 115, 115, 105, 118, 101, 108, 97, 119, 48, 50, 46, 79, 99, 116, 101, 116, 78, 117, 109, 98, 101, 114, 115], [109, 105, 115, 115, 105, 118, 101, 47, 109, 105, 115, 115, 105, 118, 101, 108, 97, 119, 48, 50, 46, 79, 99, 116, 101, 116, 74, 111, 105, 110, 115], [109, 105, 115, 115, 105, 118, 101, 47, 109, 105, 115, 115, 105, 118, 101, 108, 97, 119, 48, 50, 46, 79, 99, 116, 101, 116, 83, 112, 108, 105, 116, 115], [109, 105, 115, 115, 105, 118, 101, 47, 109, 105, 115, 115, 105, 118, 101, 108, 97, 119, 48, 50, 46, 79, 99, 116, 101, 116, 67, 117, 116], [109, 105, 115, 115, 105, 118, 101, 47, 109, 105, 115, 115, 105, 118, 101, 108, 97, 119, 48, 50, 46, 79, 99, 116, 101, 116, 79, 119, 110], [109, 105, 115, 115, 105, 118, 101, 47, 109, 105, 115, 115, 105, 118, 101, 108, 97, 119, 48, 50, 46, 79, 99, 116, 101, 116, 66, 121, 116, 101, 115], [109, 105, 115, 115, 105, 118, 101, 47, 109, 105, 115, 115, 105, 118, 101, 108, 97, 119, 50, 52, 46, 66, 97, 103, 82, 105, 112, 101], [109, 105, 115, 115, 105, 118, 101, 47, 109, 105, 115, 115, 105, 118, 101, 108, 97, 119, 50, 52, 46, 66, 97, 103, 80, 108, 97, 121, 115], [109, 105, 115, 115, 105, 118, 101, 47, 109, 105, 115, 115, 105, 118, 101, 108, 97, 119, 50, 52, 46, 66, 97, 103, 79, 119, 110], [109, 105, 115, 115, 105, 118, 101, 47, 109, 105, 115, 115, 105, 118, 101, 108, 97, 119, 49, 52, 46, 87, 105, 114, 101, 76, 101, 116, 116, 101, 114, 115], [109, 105, 115, 115, 105, 118, 101, 47, 109, 105, 115, 115, 105, 118, 101, 108, 97, 119, 49, 52, 46, 87, 105, 114, 101, 73, 116, 101, 109, 115], [109, 105, 115, 115, 105, 118, 101, 47, 109, 105, 115, 115, 105, 118, 101, 108, 97, 119, 49, 52, 46, 87, 105, 114, 101, 66, 117, 110, 100, 108, 101, 115], [109, 105, 115, 115, 105, 118, 101, 47, 109, 105, 115, 115, 105, 118, 101, 108, 97, 119, 49, 52, 46, 87, 105, 114, 101, 79, 98, 106, 101, 99, 116, 115], [109, 105, 115, 115, 105, 118, 101, 47, 109, 105, 115, 115, 105, 118, 101, 108, 97, 119, 50, 49, 46, 70, 101, 100, 113, 84, 97, 107, 101, 115], [109, 105, 115, 115, 105, 118, 101, 47, 109, 105, 115, 115, 105, 118, 101, 108, 97, 119, 49, 52, 46, 87, 105, 114, 101, 67, 97, 108, 108, 115], [109, 105, 115, 115, 105, 118, 101, 47, 109, 105, 115, 115, 105, 118, 101, 108, 97, 119, 49, 52, 46, 87, 105, 114, 101, 84, 117, 114, 110, 101, 100], [109, 105, 115, 115, 105, 118, 101, 47, 109, 105, 115, 115, 105, 118, 101, 108, 97, 119, 49, 52, 46, 87, 105, 114, 101, 82, 101, 112, 108, 105, 101, 115], [109, 105, 115, 115, 105, 118, 101, 47, 109, 105, 115, 115, 105, 118, 101, 108, 97, 119, 49, 52, 46, 87, 105, 114, 101, 80, 97, 99, 107, 101, 116, 115], [109, 105, 115, 115, 105, 118, 101, 47, 109, 105, 115, 115, 105, 118, 101, 108, 97, 119, 49, 52, 46, 87, 105, 114, 101, 82, 101, 97, 100, 115], [109, 105, 115, 115, 105, 118, 101, 47, 109, 105, 115, 115, 105, 118, 101, 108, 97, 119, 50, 49, 46, 70, 101, 100, 113, 82, 111, 119, 115], [109, 105, 115, 115, 105, 118, 101, 47, 109, 105, 115, 115, 105, 118, 101, 108, 97, 119, 50, 49, 46, 70, 101, 100, 113, 76, 111, 97, 100, 115]].map (List.map Char.ofNat)
theorem signs_is : Try.prog.initOrder.toList = signs := String.toList_ofList (l := signs)
theorem words_is : wordsSigns Try.prog.initOrder.toList = words := by rw [signs_is]; kernel_rfl
theorem mayEnter_is : Try.prog.mayEnter = true := by unfold Program.mayEnter; rw [words_is]; kernel_rfl
theorem headLifts_is : Try.prog.headLifts = [] := by unfold Program.headLifts; rw [words_is]; kernel_rfl
theorem liftsFinal_is : Try.prog.liftsFinal = Rows.octetJoinsRow.lifted := by unfold Program.liftsFinal; rw [words_is, headLifts_is]; kernel_rfl
theorem make_is : Try.prog.make = some Rows.octetJoinsRow.make := by unfold Program.make; rw [words_is, headLifts_is]; kernel_rfl
end Go.Proofs.Ytcfecmoagfgnaaa

/- The statement BagRipe. -/
set_option maxRecDepth 100000
namespace Go.Proofs.Ytcfecmoagfgnaaa.bagRipe
open Go.ChangeShapes Go.WideShapes Go.ChangeAt Go.RowKit Go.Vc Go.Pl

theorem own : ownKnob Try.prog.godebug = none := by kernel_rfl

theorem lifted (os : Os) (started : os.Started) (H : Type) (enc : TypeId × Value → H) :
  ReturnsInHanded {} Try.checked os 9 .any (Rows.bagRipeSpec.pre6 enc Try.prog Try.f9 Rows.bagRipeRow.domain false) (Rows.bagRipeSpec.post enc Try.prog Try.f9 false true false false) := by
 refine law_of (C := Try.checked) (tb := 4) started own (by kernel_rfl) Try.func9
  (ChangeSpec.witness6 (enc := enc) (C := Try.checked) false ⟨#[], #[.slice none 0 0, .int .u32 0], []⟩ 8 (by kernel_rfl) (by kernel_rfl) (by kernel_rfl) (by kernel_rfl)) rfl (by kernel_rfl) Try.underlying4 (by kernel_rfl) (by kernel_rfl) ?_
 intro W base args ds ps hval0 hAA hsz
 have hval : ∀ (j : Nat) t v, Try.f9.params[j]? = some t → args[j]? = some v → Value.okWide Try.prog W .any base t v := hval0
 have hA : DataW.TrodAll enc Try.prog W 0 (fun _ => true) true Try.f9.params.toList args.toList ds ps := hAA
 rw [Try.params9] at hA hval
 obtain ⟨v0, vs0, d0, ds0, p0, q0, hargs, rfl, rfl, h0, r0⟩ := trodAll_cons hA
 obtain ⟨v1, vs1, d1, ds1, p1, q1, rfl, rfl, rfl, h1, r1⟩ := trodAll_cons r0
 obtain ⟨rfl, rfl, rfl⟩ := trodAll_nil r1
 obtain rfl : args = #[v0, v1] := by cases args; simp_all
 have hwt0 : ∀ n ∈ d0.weights Try.prog 47, n ≤ reachBytes := fun n hn => of_decide_eq_true (List.all_eq_true.1 hsz n (DataW.weights_mem_each (j := 0) (by rw [Try.params9]; rfl) rfl n hn))
 obtain ⟨p0, x0, c0, rfl, hA0, hB0⟩ := value47 (hval 0 47 v0 rfl rfl) h0 hwt0
 obtain ⟨a1, rfl, rfl, rfl, w1⟩ := open_int Try.underlying48 (hval 1 48 v1 rfl rfl) h1
 exact ⟨rfl, by have := bagRipe_w (Own.start W) hA0 (now := a1.toNat) (by have := bounds_u32 w1; omega) hB0; rw [Int.toNat_of_nonneg (bounds_u32 w1).1] at this; exact this⟩

theorem closed : joinedFacts Try.prog 9 Try.f9 Rows.bagRipeSpec Rows.bagRipeRow = true := by
 unfold joinedFacts
 rw [mayEnter_is, liftsFinal_is, make_is]
 kernel_rfl

theorem over : Rows.bagRipeRow.holds Try.pinned (OpenSpec.ofChange Rows.bagRipeSpec) :=
 OpenClaim.holds_of_wide 9 Try.f9 rfl rfl rfl rfl rfl rfl rfl ⟨rfl, rfl, rfl, rfl, rfl⟩ rfl rfl rfl rfl rfl (by kernel_rfl) Try.func9 closed
  (of_decide_eq_true (by kernel_rfl)) (by unfold Func.isWrapper; first | (rw [if_pos (by decide +kernel)]; kernel_rfl) | (rw [if_neg (by decide +kernel)]; exact ⟨rfl, rfl⟩))
  (fun os started H enc _ => lifted os started H enc)

/-- The statement. -/
theorem proved : Rows.BagRipeSaid :=
 over
end Go.Proofs.Ytcfecmoagfgnaaa.bagRipe

