/- The statement WireReads is proved, for every input: part 20 of 27 of the texts that it needs. -/
import Derived.Test.YtcfecmoagfgnaaaMrdAS
/- The reference: bytes of packets; one against the other. -/
namespace Go.Proofs.Ytcfecmoagfgnaaa
open Go.Vc Go.Pl

theorem brow0 {S : List Snap} {H : List Chunk} {w : World} (h : Own S H w) : Own S (brow none 0 ([] : List (List UInt8)) :: H) w := Own.arow_nil (Mono.slice Mono.byte) 24 1 h
theorem oall_some {xs : List Object} {i : Nat} (h : i < xs.length) (h1 : ((xs.take i).all fun x => (objectO x).isSome) = true) (h2 : (objectO (xs[i]'h)).isSome = true) : ((xs.take (i + 1)).all fun x => (objectO x).isSome) = true := by
 rw [List.take_succ_eq_append_getElem h, List.all_append, h1]
 simp [h2]
theorem ochain_good {xs : List Object} {i : Nat} (h0 : xs.length ≤ 4) (hie : i = xs.length) (hall : ((xs.take i).all fun x => (objectO x).isSome) = true) : joinO (chainP (xs.take i)) true = chainO xs := by
 rw [hie, List.take_length] at hall ⊢
 have hg : chainGood xs = true := by unfold chainGood; rw [decide_eq_true h0, Bool.true_and]; exact hall
 unfold chainO; rw [hg]
theorem ochain_bad {xs : List Object} {i : Nat} (h : i < xs.length) (h2 : (objectO (xs[i]'h)).isSome = false) : none = chainO xs := by
 have hg : chainGood xs = false := by
  unfold chainGood
  rw [Bool.and_eq_false_iff]
  right
  rw [List.all_eq_false]
  exact ⟨xs[i]'h, List.getElem_mem h, by rw [h2]; decide⟩
 unfold chainO; rw [hg]; exact none_joinO _
theorem pktO_bad {x : Pkt} (h : (chainO x.chain).isSome = false) : none = pktO x := by unfold pktO; rw [h]; exact none_joinO _
theorem pktO_good {x : Pkt} (h : (chainO x.chain).isSome = true) (hk : kindIn x.kind = true) : joinO (pktP x) true = pktO x := by unfold pktO; rw [h, hk]; rfl
theorem pkt_iff {x y : Pkt} : y = x ↔ x.src = y.src ∧ x.dst = y.dst ∧ x.kind = y.kind ∧ x.chain = y.chain ∧ x.body = y.body ∧ x.sig = y.sig := by
 constructor
 ·rintro rfl; exact ⟨rfl, rfl, rfl, rfl, rfl, rfl⟩
 ·rintro ⟨h1, h2, h3, h4, h5, h6⟩
  cases x; cases y
  simp only at h1 h2 h3 h4 h5 h6
  subst h1 h2 h3 h4 h5 h6; rfl
/-- An object's value, with its slice. -/
def objF {K : List Nat} (y : Object) : SFact K :=
  ⟨fun v w => ∃ q d, v = .agg (cat (objectV y q d)).toArray ∧ Arr 65 vouchR K w q y.vouches d, false,
   fun _ _ w _ hs ⟨q, d, e, h⟩ => ⟨q, d, e, Arr.after (s := ⟨w, K⟩) h Mono_vouch ⟨hs, fun _ hk => .inl hk⟩⟩⟩

theorem refChain_w {S : List Snap} {H : List Chunk} {w : World} (ho : Own S H w) {xs : List Object} (hxs : ∀ x ∈ xs, x.ok) {p : Option Addr} {c : Nat} (hX : Arr 101 objectR' (keys H) w p xs c) : Calls Try.prog 149 #[.slice p xs.length c] w (RetO S H (chainO xs)) := by
 have hsm := hX.small
 refine enter (G := Own (⟨w, keys H⟩ :: S) H) ho.keep Try.func149 rfl Try.ntmps149 rfl ?_
 refine VC.sr ?_
 refine VL.assign rfl ?_
 refine VL.assign rfl ?_
 refine VL.nn ?_
 refine VC.seq ?_
 refine VC.sr ?_
 refine VL.move rfl ?_
 refine VL.len Try.underlying116 rfl rfl ?_
 refine VL.gtr rfl rfl ?_
 refine VL.case (fun h0 => ?_) (fun h0 => ?_)
 ·have h0 : ¬ xs.length ≤ 4 := by omega
  refine VL.nn ?_
  refine VC.yes rfl ?_
  refine VC.sr ?_
  refine VL.assign rfl ?_
  refine VL.assign rfl ?_
  refine VL.nn ?_
  refine VC.ret ?_
  refine VX.then_ret ?_
  refine VX.ret2 rfl rfl rfl (fun we hw => ?_)
  exact postO ((chainO_none h0)) ⟨none, 0, rfl, hw.subA, Arr.none⟩
 ·have h0 : xs.length ≤ 4 := by omega
  refine VL.nn ?_
  refine VC.no rfl ?_
  refine VC.skip ?_
  refine VX.next ?_
  refine VC.sr ?_
  refine VL.assign rfl ?_
  refine VL.nn ?_
  refine VC.seq ?_
  refine VC.sr ?_
  refine VL.assign rfl ?_
  refine VL.nn ?_
  refine VC.block ?_
  refine VC.turn (G' := Own _ (brow none 0 (([] : List (List UInt8))) :: H)) (fun w' h => brow0 h) ?_
  refine VC.loop (X := Nat × Option Nat × Nat) (fun (i, gq, cq) => [(0, .slice p xs.length c), (4, rowV gq (chainP (xs.take i)).length cq), (5, .int .i64 (i : Int))]) (fun (i, gq, cq) w' => (i ≤ xs.length ∧ ((xs.take i).all fun x => (objectO x).isSome) = true) ∧ Own (⟨w, keys H⟩ :: S) (brow gq cq ((chainP (xs.take i))) :: H) w') (fun (i, _) => xs.length - i) (0, none, 0) ⟨rfl, rfl, rfl, trivial⟩ (fun w' h => ⟨⟨Nat.zero_le _, rfl⟩, by have e1 : chainP (xs.take 0) = [] := rfl; rw [e1]; exact h.subA⟩) (fun (i, gq, cq) => VC.fact fun ⟨hi, hall⟩ => ?_)
  ·have htk : (chainP (List.take i xs)).length ≤ i := by rw [chainP_length]; exact List.length_take_le _ _
   refine VC.seq ?_
   refine VC.sr ?_
   refine VL.move rfl ?_
   refine VL.move rfl ?_
   refine VL.len Try.underlying116 rfl rfl ?_
   refine VL.lss rfl rfl ?_
   refine VL.case (fun h5 => ?_) (fun h5 => ?_)
   ·have hlt : i < xs.length := by omega
    refine VL.nn ?_
    refine VC.yes rfl ?_
    refine VC.skip ?_
    refine VX.next ?_
    refine VC.seq ?_
    refine VC.block ?_
    refine VC.sr ?_
    refine VL.move rfl ?_
    refine VL.move rfl ?_
    refine VL.index (xs := xs) rfl rfl Try.underlying116 sz116 hX (by omega) (by have hi := hlt; omega) ?_
    refine VL.elems (s := ⟨w, _⟩) (m := 101) (i) 0 rfl kd85 (fun _ h => h) (by repeat (first | exact List.mem_cons_self .. | apply List.mem_cons_of_mem)) hX (List.getElem?_eq_getElem hlt) (by simp) (by decide) (fun vs hl hr => ?_)
    obtain ⟨q3, d4, hy2, rfl, hV5⟩ := hr
    refine VL.newv (v' := .agg (cat (objectV (xs[i]'hlt) q3 d4)).toArray) (by rw [List.drop_zero, List.take_of_length_le (by rw [hl]; decide)]) ?_
    refine VL.call Try.func66 rfl (by decide) rfl (fun w' hw => refObject_w hw (x := (xs[i]'hlt)) (hxs _ (List.getElem_mem hlt)) (hV5.nowA (s := ⟨w, _⟩) Mono_vouch hw)) (fun v => ?_)
    refine VL.at (fun w6 h1w => ?_)
    obtain ⟨p7, c8, rfl, hO10, hA9⟩ := h1w
    refine VL.toOwn hO10 ?_
    refine VL.move rfl ?_
    refine VL.extract rfl rfl ?_
    refine VL.extract rfl rfl ?_
    refine VL.assign rfl ?_
    refine VL.assign rfl ?_
    refine VL.nn ?_
    refine VC.seq ?_
    refine VC.sr ?_
    refine VL.move rfl ?_
    cases hs : (objectO (xs[i]'hlt)).isSome
    ·refine VL.not rfl ?_
     refine VL.nn ?_
     refine VC.yes rfl ?_
     refine VC.sr ?_
     refine VL.assign rfl ?_
     refine VL.assign rfl ?_
     refine VL.nn ?_
     refine VC.ret ?_
     refine VX.then_ret ?_
     refine VX.block_ret ?_
     refine VX.then_ret ?_
     refine VX.then_ret ?_
     refine VX.block_ret ?_
     refine VX.then_ret ?_
     refine VX.ret2 rfl rfl rfl (fun we hw => ?_)
     exact postO ((ochain_bad hlt hs)) ⟨none, 0, rfl, hw.drop.subA, Arr.none⟩
    ·refine VL.not rfl ?_
     refine VL.nn ?_
     refine VC.no rfl ?_
     refine VC.skip ?_
     refine VX.next ?_
     refine VC.region ?_
     refine VL.move rfl ?_
     refine VL.move rfl ?_
     refine VL.lit el31 rfl rfl rfl (by simp [Value.cells]) (by intro u hu; simp [Value.cells] at hu; rcases hu with rfl <;> rfl) (fun g11 => ?_)
     refine VL.letRowS [((objectO ((xs[i]'hlt))).getD [])] rfl (fun w' hw => ⟨⟨_, _, rfl, (hA9.nowA (s := ⟨w6, _⟩) Mono.byte hw)⟩, trivial⟩) (fun w12 hO13 hA14 => ?_)
     refine VL.appends (R := bytesR) (hR := Mono.slice Mono.byte) (ys := (chainP (xs.take i))) (zs := [((objectO ((xs[i]'hlt))).getD [])]) 0 el31 rfl rfl rfl (fun _ h => h) rfl (fun _ hw => (hA14.nowA (s := ⟨w12, _⟩) (Mono.slice Mono.byte) hw)) bytesR_ok1 (by simp only [List.length_append, List.length_cons, List.length_nil, List.length_map]; omega) (fun g15 c16 => ?_) (by simp only [List.length_append, List.length_cons, List.length_nil, List.length_map]; omega)
     refine VL.set0 ?_
     refine VL.assign rfl ?_
     refine VL.nil ?_
     refine VX.block_normal ?_
     refine VX.next ?_
     refine VC.region ?_
     refine VL.move rfl ?_
     refine VL.add rfl rfl (by simp only [InR]; omega) ?_
     refine VL.assign rfl ?_
     refine VL.nil ?_
     have el : chainP (xs.take i) ++ [(objectO (xs[i]'hlt)).getD []] = chainP (xs.take (i + 1)) := chain_next hlt
     refine VX.round (i + 1, g15, c16) ⟨rfl, congrArg (fun l : List (List UInt8) => some (rowV g15 l.length c16)) el, rfl, trivial⟩ (fun w' h => ⟨⟨by omega, oall_some hlt hall hs⟩, ?_⟩) (by show xs.length - (i + 1) < xs.length - i; omega)
     rw [← el]
     exact h.subA
   ·have hie : i = xs.length := by omega
    refine VL.nn ?_
    refine VC.no rfl ?_
    refine VC.exit ?_
    refine VX.then_exit ?_
    refine VX.then_exit ?_
    refine VX.block_here ?_
    refine VX.next ?_
    refine VC.seq ?_
    refine VC.letArr (fun wr hOr hAr => ?_)
    refine VC.region ?_
    refine VL.move rfl ?_
    refine VL.call Try.func31 rfl (by decide) rfl (fun w' hw => join_O (ls := (chainP (xs.take i))) hw (hAr.nowA (s := ⟨wr, _⟩) (Mono.slice Mono.byte) hw)) (fun v => ?_)
    refine VL.at (fun w17 h1w => ?_)
    obtain ⟨p18, c19, rfl, hO21, hA20⟩ := h1w
    refine VL.toOwn hO21 ?_
    refine VL.extract rfl rfl ?_
    refine VL.extract rfl rfl ?_
    refine VL.assign rfl ?_
    refine VL.assign rfl ?_
    refine VL.nn ?_
    refine VC.ret ?_
    refine VX.ret2 rfl rfl rfl (fun we hw => ?_)
    exact postO ((ochain_good h0 hie hall)) ⟨p18, c19, rfl, hw.subA, (hA20.nowA (s := ⟨w17, _⟩) Mono.byte hw)⟩

theorem refPkt_w {S : List Snap} {H : List Chunk} {w : World} (ho : Own S H w) {x : Pkt} (hx : x.ok) {q : Option Addr} {d : Nat} (hV : Arr 101 objectR' (keys H) w q x.chain d) {p : Option Addr} {c : Nat} (hA : Bytes (keys H) w p x.body c) : Calls Try.prog 91 #[.agg (cat (pktV x q d p c)).toArray] w (RetO S H (pktO x)) := by
 have hx1 := hx.src
 have hx2 := hx.dst
 have hx3 := hx.kind
 refine enter (G := Own (⟨w, keys H⟩ :: S) H) ho.keep Try.func91 rfl Try.ntmps91 rfl ?_
 refine VC.sr ?_
 refine VL.box (L := pktL) (ps := (pktV (x) q d p c)) rfl rfl (pktV_len hx) (fun g1 => ?_)
 refine VL.assign rfl ?_
 refine VL.assign rfl ?_
 refine VL.nn ?_
 refine VC.sr ?_
 refine VL.fieldAddr rfl fo118_3 rfl ?_
 refine VL.load (v := .slice q (x.chain).length d) 0 3 rfl kd116 (fun _ h => h) rfl rfl rfl ?_
 refine VL.call Try.func149 rfl (by decide) rfl (fun w' hw => refChain_w hw hx.chain (hV.nowA (s := ⟨w, _⟩) Mono_object hw)) (fun v => ?_)
 refine VL.at (fun w2 h1w => ?_)
 obtain ⟨p3, c4, rfl, hO6, hA5⟩ := h1w
 refine VL.toOwn hO6 ?_
 refine VL.move rfl ?_
 refine VL.extract rfl rfl ?_
 refine VL.extract rfl rfl ?_
 refine VL.assign rfl ?_
 refine VL.assign rfl ?_
 refine VL.nn ?_
 refine VC.seq ?_
 refine VC.sr ?_
 refine VL.move rfl ?_
 cases hs : (chainO x.chain).isSome
 ·refine VL.not rfl ?_
  refine VL.move rfl ?_
  refine VL.pass rfl rfl rfl rfl rfl ?_
  refine VL.pass rfl rfl rfl rfl rfl ?_
  refine VL.pass rfl rfl rfl rfl rfl ?_
  refine VL.pick_t rfl rfl ?_
  refine VL.move rfl ?_
  refine VL.pass rfl rfl rfl rfl rfl ?_
  refine VL.pass rfl rfl rfl rfl rfl ?_
  refine VL.pass rfl rfl rfl rfl rfl ?_
  refine VL.pick_t rfl rfl ?_
  refine VL.nn ?_
  refine VC.yes rfl ?_
  refine VC.sr ?_
  refine VL.assign rfl ?_
  refine VL.assign rfl ?_
  refine VL.nn ?_
  refine VC.ret ?_
  refine VX.then_ret ?_
  refine VX.ret2 rfl rfl rfl (fun we hw => ?_)
  exact postO ((pktO_bad hs)) ⟨none, 0, rfl, hw.drop.subA, Arr.none⟩
 ·refine VL.not rfl ?_
  refine VL.move rfl ?_
  refine VL.go rfl rfl rfl ?_
  refine VL.fieldAddr rfl fo118_2 rfl ?_
  refine VL.go rfl rfl rfl ?_
  refine VL.load (v := .int .u8 (x.kind)) 0 2 rfl kd5 (fun _ h => h) rfl rfl rfl ?_
  refine VL.go rfl rfl rfl ?_
  refine VL.lss rfl rfl ?_
  refine VL.case (fun h2_5 => ?_) (fun h2_5 => ?_)
  ·have h2_5 : x.kind < 1 := by have h : ((x.kind : Nat) : Int) < 1 := h2_5; omega
   have hkin : kindIn x.kind = false := by unfold kindIn; simp; omega
   refine VL.pick_f rfl rfl ?_
   refine VL.move rfl ?_
   refine VL.pass rfl rfl rfl rfl rfl ?_
   refine VL.pass rfl rfl rfl rfl rfl ?_
   refine VL.pass rfl rfl rfl rfl rfl ?_
   refine VL.pick_t rfl rfl ?_
   refine VL.nn ?_
   refine VC.yes rfl ?_
   refine VC.sr ?_
   refine VL.assign rfl ?_
   refine VL.assign rfl ?_
   refine VL.nn ?_
   refine VC.ret ?_
   refine VX.then_ret ?_
   refine VX.ret2 rfl rfl rfl (fun we hw => ?_)
   exact postO ((pktO_none hkin)) ⟨none, 0, rfl, hw.drop.subA, Arr.none⟩
  ·have h2_5 : 1 ≤ x.kind := by have h : ¬ ((x.kind : Nat) : Int) < 1 := h2_5; omega
   refine VL.pick_f rfl rfl ?_
   refine VL.move rfl ?_
   refine VL.go rfl rfl rfl ?_
   refine VL.fieldAddr rfl fo118_2 rfl ?_
   refine VL.go rfl rfl rfl ?_
   refine VL.load (v := .int .u8 (x.kind)) 0 2 rfl kd5 (fun _ h => h) rfl rfl rfl ?_
   refine VL.go rfl rfl rfl ?_
   refine VL.gtr rfl rfl ?_
   refine VL.case (fun h2_10 => ?_) (fun h2_10 => ?_)
   ·have h2_10 : 4 < x.kind := by have h : (4 : Int) < ((x.kind : Nat) : Int) := h2_10; omega
    have hkin : kindIn x.kind = false := by unfold kindIn; simp; omega
    refine VL.pick_f rfl rfl ?_
    refine VL.nn ?_
    refine VC.yes rfl ?_
    refine VC.sr ?_
    refine VL.assign rfl ?_
    refine VL.assign rfl ?_
    refine VL.nn ?_
    refine VC.ret ?_
    refine VX.then_ret ?_
    refine VX.ret2 rfl rfl rfl (fun we hw => ?_)
    exact postO ((pktO_none hkin)) ⟨none, 0, rfl, hw.drop.subA, Arr.none⟩
   ·have h2_10 : x.kind ≤ 4 := by have h : ¬ (4 : Int) < ((x.kind : Nat) : Int) := h2_10; omega
    refine VL.pick_f rfl rfl ?_
    refine VL.nn ?_
    refine VC.no rfl ?_
    refine VC.skip ?_
    refine VX.next ?_
    refine VC.seq ?_
    refine VC.letCells 0 rfl (fun w7 hO9 hF8 => ?_)
    apply VC.anyTA 18 1020 (F := [eqF _, eqF _, capF (be 1 (x.src)) 1, eqF _, eqF _, capF (be 1 (x.dst)) 1, eqF _, eqF _, capF (be 1 (x.kind)) 1, eqF _, eqF _, eqF _, eqF _, eqF _, arrF 1 bytesR (Mono.slice Mono.byte) ([be 1 (x.src), be 1 (x.dst), be 1 (x.kind), ((chainO x.chain).getD []), x.body, x.sig]), outF (joinO [be 1 (x.src), be 1 (x.dst), be 1 (x.kind), ((chainO x.chain).getD []), x.body, x.sig] true), bytesF ((joinO [be 1 (x.src), be 1 (x.dst), be 1 (x.kind), ((chainO x.chain).getD []), x.body, x.sig] true).getD []), eqF _]) [⟨[], [1]⟩, ⟨[(24, 0)], []⟩, ⟨[(25, 1)], []⟩, ⟨[], [1]⟩, ⟨[(27, 3)], []⟩, ⟨[(28, 4)], []⟩, ⟨[], [1]⟩, ⟨[(30, 6)], []⟩, ⟨[(31, 7)], []⟩, ⟨[], [4]⟩, ⟨[], [1]⟩, ⟨[(34, 10)], []⟩, ⟨[], [1]⟩, ⟨[(36, 12)], []⟩, ⟨[(26, 2), (29, 5), (32, 8), (33, 9), (35, 11), (37, 13)], []⟩, ⟨[(38, 14)], []⟩, ⟨[(39, 15)], []⟩, ⟨[(39, 15)], []⟩] [(40, 16), (41, 17)] [0, 1, 2, 3, 5, 6, 7, 8, 9, 10, 11, 12, 13, 14, 15, 16, 17, 18, 19, 20, 21, 22, 23] rfl (by kernel_rfl) (by kernel_rfl) rfl rfl (by kernel_rfl) (by kernel_rfl) (by kernel_rfl) rfl ?obs4 ?end4
    case obs4 =>
     refine Obs.cons ?_ ?_
     ·refine obS (by kernel_rfl) rfl rfl (fun ph4 w4 hO4 => ?_)
      refine VL.fieldAddr rfl fo118_0 rfl ?_
      exact VL.finS hO4 rfl rfl
     refine Obs.cons ?_ ?_
     ·refine obS (by kernel_rfl) rfl rfl (fun ph4 w4 hO4 => ?_)
      rintro _ rfl
      refine VL.loadF (s := ⟨w7, _⟩) (v := .int .u8 (x.src)) 0 rfl kd5 hF8 (fun _ e => e ▸ Still.ok hO4 (by repeat (first | exact List.mem_cons_self .. | apply List.mem_cons_of_mem))) rfl rfl ?_
      exact VL.finS hO4 rfl rfl
     refine Obs.cons ?_ ?_
     ·refine ob (by kernel_rfl) rfl (by kernel_rfl) rfl (fun w4 hO4 => ?_)
      rintro _ rfl
      refine VL.toOwn hO4 ?_
      refine VL.litByte (m := x.src) el24 rfl (by have hm := hx.src; omega) (fun g10 w11 hO12 hA13 => ?_)
      exact VL.finO rfl (fun _ h => h.subA) (fun _ h => ⟨_, rfl, (hA13.nowA (s := ⟨w11, _⟩) Mono.byte h)⟩)
     refine Obs.cons ?_ ?_
     ·refine obS (by kernel_rfl) rfl rfl (fun ph4 w4 hO4 => ?_)
      refine VL.fieldAddr rfl fo118_1 rfl ?_
      exact VL.finS hO4 rfl rfl
     refine Obs.cons ?_ ?_
     ·refine obS (by kernel_rfl) rfl rfl (fun ph4 w4 hO4 => ?_)
      rintro _ rfl
      refine VL.loadF (s := ⟨w7, _⟩) (v := .int .u8 (x.dst)) 1 rfl kd5 hF8 (fun _ e => e ▸ Still.ok hO4 (by repeat (first | exact List.mem_cons_self .. | apply List.mem_cons_of_mem))) rfl rfl ?_
      exact VL.finS hO4 rfl rfl
     refine Obs.cons ?_ ?_
     ·refine ob (by kernel_rfl) rfl (by kernel_rfl) rfl (fun w4 hO4 => ?_)
      rintro _ rfl
      refine VL.toOwn hO4 ?_
      refine VL.litByte (m := x.dst) el24 rfl (by have hm := hx.dst; omega) (fun g14 w15 hO16 hA17 => ?_)
      exact VL.finO rfl (fun _ h => h.subA) (fun _ h => ⟨_, rfl, (hA17.nowA (s := ⟨w15, _⟩) Mono.byte h)⟩)
     refine Obs.cons ?_ ?_
     ·refine obS (by kernel_rfl) rfl rfl (fun ph4 w4 hO4 => ?_)
      refine VL.fieldAddr rfl fo118_2 rfl ?_
      exact VL.finS hO4 rfl rfl
     refine Obs.cons ?_ ?_
     ·refine obS (by kernel_rfl) rfl rfl (fun ph4 w4 hO4 => ?_)
      rintro _ rfl
      refine VL.loadF (s := ⟨w7, _⟩) (v := .int .u8 (x.kind)) 2 rfl kd5 hF8 (fun _ e => e ▸ Still.ok hO4 (by repeat (first | exact List.mem_cons_self .. | apply List.mem_cons_of_mem))) rfl rfl ?_
      exact VL.finS hO4 rfl rfl
     refine Obs.cons ?_ ?_
     ·refine ob (by kernel_rfl) rfl (by kernel_rfl) rfl (fun w4 hO4 => ?_)
      rintro _ rfl
      refine VL.toOwn hO4 ?_
      refine VL.litByte (m := x.kind) el24 rfl (by have hm := hx.kind; omega) (fun g18 w19 hO20 hA21 => ?_)
      exact VL.finO rfl (fun _ h => h.subA) (fun _ h => ⟨_, rfl, (hA21.nowA (s := ⟨w19, _⟩) Mono.byte h)⟩)
     refine Obs.cons ?_ ?_
     ·refine obS (by kernel_rfl) rfl rfl (fun ph4 w4 hO4 => ?_)
      refine VL.move rfl ?_
      exact VL.finS hO4 rfl rfl
     refine Obs.cons ?_ ?_
     ·refine obS (by kernel_rfl) rfl rfl (fun ph4 w4 hO4 => ?_)
      refine VL.fieldAddr rfl fo118_4 rfl ?_
      exact VL.finS hO4 rfl rfl
     refine Obs.cons ?_ ?_
     ·refine obS (by kernel_rfl) rfl rfl (fun ph4 w4 hO4 => ?_)
      rintro _ rfl
      refine VL.loadF (s := ⟨w7, _⟩) (v := .slice p (x.body).length c) 4 rfl kd24 hF8 (fun _ e => e ▸ Still.ok hO4 (by repeat (first | exact List.mem_cons_self .. | apply List.mem_cons_of_mem))) rfl rfl ?_
      exact VL.finS hO4 rfl rfl
     refine Obs.cons ?_ ?_
     ·refine obS (by kernel_rfl) rfl rfl (fun ph4 w4 hO4 => ?_)
      refine VL.fieldAddr rfl fo118_5 rfl ?_
      exact VL.finS hO4 rfl rfl
     refine Obs.cons ?_ ?_
     ·refine obS (by kernel_rfl) rfl rfl (fun ph4 w4 hO4 => ?_)
      rintro _ rfl
      refine VL.sliceArrAt Try.underlying80 (by kernel_rfl) rfl ?_
      refine VL.newv (v' := .slice (some ⟨g1, 5, none⟩) (x.sig).length 64) (by rw [hx.sig]) ?_
      exact VL.finS hO4 rfl rfl
     refine Obs.cons ?_ ?_
     ·refine ob (by kernel_rfl) rfl (by kernel_rfl) rfl (fun w4 hO4 => ?_)
      rintro _ ⟨p4_2, rfl, hA4_2⟩ _ ⟨p4_5, rfl, hA4_5⟩ _ ⟨p4_8, rfl, hA4_8⟩ _ rfl _ rfl _ rfl
      refine VL.toOwn hO4 ?_
      refine VL.lit el31 rfl rfl rfl (by simp [Value.cells]) (by intro u hu; simp [Value.cells] at hu; rcases hu with rfl | rfl | rfl | rfl | rfl | rfl <;> rfl) (fun g22 => ?_)
      refine VL.letRowS [be 1 (x.src), be 1 (x.dst), be 1 (x.kind), ((chainO x.chain).getD []), x.body, x.sig] rfl (fun w' hw => ⟨⟨_, _, rfl, (hA4_2.nowA (s := ⟨w4, _⟩) Mono.byte hw)⟩, ⟨⟨_, _, rfl, (hA4_5.nowA (s := ⟨w4, _⟩) Mono.byte hw)⟩, ⟨⟨_, _, rfl, (hA4_8.nowA (s := ⟨w4, _⟩) Mono.byte hw)⟩, ⟨⟨_, _, rfl, (hA5.nowA (s := ⟨w2, _⟩) Mono.byte hw)⟩, ⟨⟨_, _, rfl, (hA.nowA (s := ⟨w, _⟩) Mono.byte hw)⟩, ⟨⟨_, _, rfl, ((hF8.bytes 5 5 rfl rfl hx.sig rfl).nowA (s := ⟨w7, _⟩) Mono.byte hw)⟩, trivial⟩⟩⟩⟩⟩⟩) (fun w23 hO24 hA25 => ?_)
      exact VL.finO rfl (fun _ h => h.subA) (fun _ h => ⟨_, _, rfl, (hA25.nowA (s := ⟨w23, _⟩) (Mono.slice Mono.byte) h)⟩)
     refine Obs.cons ?_ ?_
     ·refine ob (by kernel_rfl) rfl (by kernel_rfl) rfl (fun w4 hO4 => ?_)
      rintro _ ⟨p4_14, c4_14, rfl, hA4_14⟩
      refine VL.toOwn hO4 ?_
      refine VL.call Try.func31 rfl (by decide) rfl (fun w' hw => join_O (ls := [be 1 (x.src), be 1 (x.dst), be 1 (x.kind), ((chainO x.chain).getD []), x.body, x.sig]) hw (hA4_14.nowA (s := ⟨w4, _⟩) (Mono.slice Mono.byte) hw)) (fun v => ?_)
      refine VL.at (fun w26 h1w => ?_)
      obtain ⟨p27, c28, rfl, hO30, hA29⟩ := h1w
      refine VL.toOwn hO30 ?_
      exact VL.finO rfl (fun _ h => h.subA) (fun _ h => ⟨_, _, rfl, (hA29.nowA (s := ⟨w26, _⟩) Mono.byte h)⟩)
     refine Obs.cons ?_ ?_
     ·refine obS (by kernel_rfl) rfl rfl (fun ph4 w4 hO4 => ?_)
      rintro _ ⟨p4_15, c4_15, rfl, hA4_15⟩
      refine VL.extract rfl rfl ?_
      exact VL.finS hO4 rfl ⟨_, _, rfl, hA4_15⟩
     refine Obs.cons ?_ ?_
     ·refine obS (by kernel_rfl) rfl rfl (fun ph4 w4 hO4 => ?_)
      rintro _ ⟨p4_15, c4_15, rfl, hA4_15⟩
      refine VL.extract rfl rfl ?_
      exact VL.finS hO4 rfl rfl
     exact Obs.nil
    case end4 =>
     intro w4 hO4
     rintro _ ⟨pz, cz, rfl, hz⟩ _ rfl
     refine VL.toOwn hO4 ?_
     refine VL.assign rfl ?_
     refine VL.assign rfl ?_
     refine VL.nn ?_
     refine VC.ret ?_
     refine VX.ret2 rfl rfl rfl (fun we hw => ?_)
     exact postO ((pktO_good hs (kindIn_of.2 ⟨h2_5, h2_10⟩))) ⟨pz, cz, rfl, hw.subA, (hz.nowA (s := ⟨w4, _⟩) Mono.byte hw)⟩

theorem sameChains_g {S : List Snap} {H : List Chunk} {w : World} (ho : Own S H w) {xs : List Object} (hxs : ∀ x ∈ xs, x.ok) {p : Option Addr} {c : Nat} (hX : Arr 101 objectR' (keys H) w p xs c) {ys : List Object} (hys : ∀ x ∈ ys, x.ok) {p2 : Option Addr} {c2 : Nat} (hY : Arr 101 objectR' (keys H) w p2 ys c2) : Calls Try.prog 145 #[.slice p xs.length c, .slice p2 ys.length c2] w (Ret fun v w' => ∃ b : Bool, v = .bool b ∧ (b = true ↔ ys = xs) ∧ Own S H w') := by
 have hsm := hX.small
 refine enter (G := Own (⟨w, keys H⟩ :: S) H) ho.keep Try.func145 rfl Try.ntmps145 rfl ?_
 refine VC.sr ?_
 refine VL.assign rfl ?_
 refine VL.nn ?_
 refine VC.seq ?_
 refine VC.sr ?_
 refine VL.move rfl ?_
 refine VL.len Try.underlying116 rfl rfl ?_
 refine VL.move rfl ?_
 refine VL.len Try.underlying116 rfl rfl ?_
 refine VL.neq rfl rfl ?_
 refine VL.case (fun h1_4 => ?_) (fun h1_4 => ?_)
 ·have h1_4 : ¬ xs.length = ys.length := by omega
  refine VL.nn ?_
  refine VC.yes rfl ?_
  refine VC.sr ?_
  refine VL.assign rfl ?_
  refine VL.nn ?_
  refine VC.ret ?_
  refine VX.then_ret ?_
  refine VX.ret1 rfl rfl (fun we hw => ?_)
  exact ⟨false, rfl, ⟨fun h => absurd h (by decide), fun h => absurd (congrArg List.length h).symm h1_4⟩, hw.subA⟩
 ·have h1_4 : xs.length = ys.length := by omega
  refine VL.nn ?_
  refine VC.no rfl ?_
  refine VC.skip ?_
  refine VX.next ?_
  refine VC.seq ?_
  refine VC.sr ?_
  refine VL.assign rfl ?_
  refine VL.nn ?_
  refine VC.block ?_
  refine VC.loop (X := Nat) (fun i => [(0, .slice p xs.length c), (1, .slice p2 ys.length c2), (5, .int .i64 (i : Int))]) (fun i w' => (i ≤ xs.length ∧ ∀ j, j < i → xs[j]? = ys[j]?) ∧ Own (⟨w, keys H⟩ :: S) H w') (fun i => xs.length - i) 0 ⟨rfl, rfl, rfl, trivial⟩ (fun w' h => ⟨⟨Nat.zero_le _, fun j hj => absurd hj (Nat.not_lt_zero _)⟩, h.subA⟩) (fun i => VC.fact fun ⟨hi, hall⟩ => ?_)
  ·skip
   refine VC.seq ?_
   refine VC.sr ?_
   refine VL.move rfl ?_
   refine VL.move rfl ?_
   refine VL.len Try.underlying116 rfl rfl ?_
   refine VL.lss rfl rfl ?_
   refine VL.case (fun h4 => ?_) (fun h4 => ?_)
   ·have hlt : i < xs.length := by omega
    have hlt2 : i < ys.length := by omega
    refine VL.nn ?_
    refine VC.yes rfl ?_
    refine VC.skip ?_
    refine VX.next ?_
    refine VC.seq ?_
    refine VC.block ?_
    refine VC.seq ?_
    by_cases hv : xs[i]'hlt = ys[i]'hlt2
    ·apply VC.anyTA 8 1010 (F := [eqF _, eqF _, eqF _, objF (xs[i]'hlt), eqF _, eqF _, eqF _, objF (ys[i]'hlt2)]) [⟨[], [0]⟩, ⟨[], [5]⟩, ⟨[(17, 0), (18, 1)], []⟩, ⟨[(19, 2)], []⟩, ⟨[], [1]⟩, ⟨[], [5]⟩, ⟨[(21, 4), (22, 5)], []⟩, ⟨[(23, 6)], []⟩] [(20, 3), (24, 7)] [0, 1, 4, 5, 6, 7, 8, 9, 10, 11, 12, 13, 14, 15, 16, 25, 26] rfl (by kernel_rfl) (by kernel_rfl) rfl rfl (by kernel_rfl) (by kernel_rfl) (by kernel_rfl) rfl ?obs6 ?end6
     case obs6 =>
      refine Obs.cons ?_ ?_
      ·refine obS (by kernel_rfl) rfl rfl (fun ph6 w6 hO6 => ?_)
       refine VL.move rfl ?_
       exact VL.finS hO6 rfl rfl
      refine Obs.cons ?_ ?_
      ·refine obS (by kernel_rfl) rfl rfl (fun ph6 w6 hO6 => ?_)
       refine VL.move rfl ?_
       exact VL.finS hO6 rfl rfl
      refine Obs.cons ?_ ?_
      ·refine obS (by kernel_rfl) rfl rfl (fun ph6 w6 hO6 => ?_)
       rintro _ rfl _ rfl
       refine VL.index (xs := xs) rfl rfl Try.underlying116 sz116 hX (by omega) (by have hi := hlt; omega) ?_
       exact VL.finS hO6 rfl rfl
      refine Obs.cons ?_ ?_
      ·refine ob (by kernel_rfl) rfl (by kernel_rfl) rfl (fun w6 hO6 => ?_)
       rintro _ rfl
       refine VL.elems (s := ⟨w, _⟩) (m := 101) (i) 0 rfl kd85 (fun _ e => e ▸ hO6) (by repeat (first | exact List.mem_cons_self .. | apply List.mem_cons_of_mem)) hX (List.getElem?_eq_getElem hlt) (by simp) (by decide) (fun vs hl hr => ?_)
       obtain ⟨q9, d9, hy9, rfl, hV9⟩ := hr
       refine VL.newv (v' := .agg (cat (objectV (xs[i]'hlt) q9 d9)).toArray) (by rw [List.drop_zero, List.take_of_length_le (by rw [hl]; decide)]) ?_
       exact VL.finS hO6 rfl ⟨_, _, rfl, hV9.nowA (s := ⟨w, _⟩) Mono_vouch hO6⟩
      refine Obs.cons ?_ ?_
      ·refine obS (by kernel_rfl) rfl rfl (fun ph6 w6 hO6 => ?_)
       refine VL.move rfl ?_
       exact VL.finS hO6 rfl rfl
      refine Obs.cons ?_ ?_
      ·refine obS (by kernel_rfl) rfl rfl (fun ph6 w6 hO6 => ?_)
       refine VL.move rfl ?_
       exact VL.finS hO6 rfl rfl
      refine Obs.cons ?_ ?_
      ·refine obS (by kernel_rfl) rfl rfl (fun ph6 w6 hO6 => ?_)
       rintro _ rfl _ rfl
       refine VL.index (xs := ys) rfl rfl Try.underlying116 sz116 hY (by omega) (by have hi := hlt2; omega) ?_
       exact VL.finS hO6 rfl rfl
      refine Obs.cons ?_ ?_
      ·refine ob (by kernel_rfl) rfl (by kernel_rfl) rfl (fun w6 hO6 => ?_)
       rintro _ rfl
       refine VL.elems (s := ⟨w, _⟩) (m := 101) (i) 0 rfl kd85 (fun _ e => e ▸ hO6) (by repeat (first | exact List.mem_cons_self .. | apply List.mem_cons_of_mem)) hY (List.getElem?_eq_getElem hlt2) (by simp) (by decide) (fun vs hl hr => ?_)
       obtain ⟨q9, d9, hy9, rfl, hV9⟩ := hr
       refine VL.newv (v' := .agg (cat (objectV (ys[i]'hlt2) q9 d9)).toArray) (by rw [List.drop_zero, List.take_of_length_le (by rw [hl]; decide)]) ?_
       exact VL.finS hO6 rfl ⟨_, _, rfl, hV9.nowA (s := ⟨w, _⟩) Mono_vouch hO6⟩
      exact Obs.nil
     case end6 =>
      intro w6 hO6
      rintro _ ⟨qa3, da3, rfl, hVa3⟩ _ ⟨qa7, da7, rfl, hVa7⟩
      refine VL.toOwn hO6 ?_
      refine VL.call Try.func72 rfl (by decide) rfl (fun w' hw => sameObjects_g hw (hxs _ (List.getElem_mem hlt)) (hVa3.nowA (s := ⟨w6, _⟩) Mono_vouch hw) (hys _ (List.getElem_mem hlt2)) (hVa7.nowA (s := ⟨w6, _⟩) Mono_vouch hw)) (fun v => ?_)
      refine VL.ex fun b => VL.fact fun e => VL.fact fun h2 => ?_
      subst e
      obtain rfl : b = true := h2.2 hv.symm
      refine VL.not rfl ?_
      refine VL.nn ?_
      refine VC.no rfl ?_
      refine VC.skip ?_
      refine VX.block_normal ?_
      refine VX.next ?_
      refine VC.region ?_
      refine VL.move rfl ?_
      refine VL.add rfl rfl (by simp only [InR]; omega) ?_
      refine VL.assign rfl ?_
      refine VL.nil ?_
      refine VX.round (i + 1) ⟨rfl, rfl, rfl, trivial⟩ (fun w' h => ⟨⟨by omega, fun j hj => ?_⟩, h.subA⟩) (by show xs.length - (i + 1) < xs.length - i; omega)
      by_cases hji : j < i
      ·exact hall j hji
      ·obtain rfl : j = i := by omega
       rw [List.getElem?_eq_getElem hlt, List.getElem?_eq_getElem hlt2, hv]
    ·apply VC.anyTA 8 1010 (F := [eqF _, eqF _, eqF _, objF (xs[i]'hlt), eqF _, eqF _, eqF _, objF (ys[i]'hlt2)]) [⟨[], [0]⟩, ⟨[], [5]⟩, ⟨[(17, 0), (18, 1)], []⟩, ⟨[(19, 2)], []⟩, ⟨[], [1]⟩, ⟨[], [5]⟩, ⟨[(21, 4), (22, 5)], []⟩, ⟨[(23, 6)], []⟩] [(20, 3), (24, 7)] [0, 1, 4, 5, 6, 7, 8, 9, 10, 11, 12, 13, 14, 15, 16, 25, 26] rfl (by kernel_rfl) (by kernel_rfl) rfl rfl (by kernel_rfl) (by kernel_rfl) (by kernel_rfl) rfl ?obs6 ?end6
     case obs6 =>
      refine Obs.cons ?_ ?_
      ·refine obS (by kernel_rfl) rfl rfl (fun ph6 w6 hO6 => ?_)
       refine VL.move rfl ?_
       exact VL.finS hO6 rfl rfl
      refine Obs.cons ?_ ?_
      ·refine obS (by kernel_rfl) rfl rfl (fun ph6 w6 hO6 => ?_)
       refine VL.move rfl ?_
       exact VL.finS hO6 rfl rfl
      refine Obs.cons ?_ ?_
      ·refine obS (by kernel_rfl) rfl rfl (fun ph6 w6 hO6 => ?_)
       rintro _ rfl _ rfl
       refine VL.index (xs := xs) rfl rfl Try.underlying116 sz116 hX (by omega) (by have hi := hlt; omega) ?_
       exact VL.finS hO6 rfl rfl
      refine Obs.cons ?_ ?_
      ·refine ob (by kernel_rfl) rfl (by kernel_rfl) rfl (fun w6 hO6 => ?_)
       rintro _ rfl
       refine VL.elems (s := ⟨w, _⟩) (m := 101) (i) 0 rfl kd85 (fun _ e => e ▸ hO6) (by repeat (first | exact List.mem_cons_self .. | apply List.mem_cons_of_mem)) hX (List.getElem?_eq_getElem hlt) (by simp) (by decide) (fun vs hl hr => ?_)
       obtain ⟨q9, d9, hy9, rfl, hV9⟩ := hr
       refine VL.newv (v' := .agg (cat (objectV (xs[i]'hlt) q9 d9)).toArray) (by rw [List.drop_zero, List.take_of_length_le (by rw [hl]; decide)]) ?_
       exact VL.finS hO6 rfl ⟨_, _, rfl, hV9.nowA (s := ⟨w, _⟩) Mono_vouch hO6⟩
      refine Obs.cons ?_ ?_
      ·refine obS (by kernel_rfl) rfl rfl (fun ph6 w6 hO6 => ?_)
       refine VL.move rfl ?_
       exact VL.finS hO6 rfl rfl
      refine Obs.cons ?_ ?_
      ·refine obS (by kernel_rfl) rfl rfl (fun ph6 w6 hO6 => ?_)
       refine VL.move rfl ?_
       exact VL.finS hO6 rfl rfl
      refine Obs.cons ?_ ?_
      ·refine obS (by kernel_rfl) rfl rfl (fun ph6 w6 hO6 => ?_)
       rintro _ rfl _ rfl
       refine VL.index (xs := ys) rfl rfl Try.underlying116 sz116 hY (by omega) (by have hi := hlt2; omega) ?_
       exact VL.finS hO6 rfl rfl
      refine Obs.cons ?_ ?_
      ·refine ob (by kernel_rfl) rfl (by kernel_rfl) rfl (fun w6 hO6 => ?_)
       rintro _ rfl
       refine VL.elems (s := ⟨w, _⟩) (m := 101) (i) 0 rfl kd85 (fun _ e => e ▸ hO6) (by repeat (first | exact List.mem_cons_self .. | apply List.mem_cons_of_mem)) hY (List.getElem?_eq_getElem hlt2) (by simp) (by decide) (fun vs hl hr => ?_)
       obtain ⟨q9, d9, hy9, rfl, hV9⟩ := hr
       refine VL.newv (v' := .agg (cat (objectV (ys[i]'hlt2) q9 d9)).toArray) (by rw [List.drop_zero, List.take_of_length_le (by rw [hl]; decide)]) ?_
       exact VL.finS hO6 rfl ⟨_, _, rfl, hV9.nowA (s := ⟨w, _⟩) Mono_vouch hO6⟩
      exact Obs.nil
     case end6 =>
      intro w6 hO6
      rintro _ ⟨qa3, da3, rfl, hVa3⟩ _ ⟨qa7, da7, rfl, hVa7⟩
      refine VL.toOwn hO6 ?_
      refine VL.call Try.func72 rfl (by decide) rfl (fun w' hw => sameObjects_g hw (hxs _ (List.getElem_mem hlt)) (hVa3.nowA (s := ⟨w6, _⟩) Mono_vouch hw) (hys _ (List.getElem_mem hlt2)) (hVa7.nowA (s := ⟨w6, _⟩) Mono_vouch hw)) (fun v => ?_)
      refine VL.ex fun b => VL.fact fun e => VL.fact fun h2 => ?_
      subst e
      obtain rfl : b = false := (by cases b with
       | false => rfl
       | true => exact absurd (h2.1 rfl).symm hv)
      refine VL.not rfl ?_
      refine VL.nn ?_
      refine VC.yes rfl ?_
      refine VC.sr ?_
      refine VL.assign rfl ?_
      refine VL.nn ?_
      refine VC.ret ?_
      refine VX.block_ret ?_
      refine VX.then_ret ?_
      refine VX.then_ret ?_
      refine VX.block_ret ?_
      refine VX.then_ret ?_
      refine VX.ret1 rfl rfl (fun we hw => ?_)
      refine ⟨false, rfl, ⟨fun h => absurd h (by decide), fun e => absurd ?_ hv⟩, hw.subA⟩
      subst e; rfl
   ·have hie : i = xs.length := by omega
    refine VL.nn ?_
    refine VC.no rfl ?_
    refine VC.exit ?_
    refine VX.then_exit ?_
    refine VX.then_exit ?_
    refine VX.block_here ?_
    refine VX.next ?_
    refine VC.sr ?_
    refine VL.assign rfl ?_
    refine VL.nn ?_
    refine VC.ret ?_
    refine VX.ret1 rfl rfl (fun we hw => ?_)
    refine ⟨true, rfl, ⟨fun _ => (List.ext_getElem? fun k => ?_), fun _ => rfl⟩, hw.subA⟩
    by_cases hk : k < xs.length
    ·exact (hall k (by omega)).symm
    ·rw [List.getElem?_eq_none (by omega), List.getElem?_eq_none (by omega)]

theorem samePkts_g {S : List Snap} {H : List Chunk} {w : World} (ho : Own S H w) {x : Pkt} (hx : x.ok) {q : Option Addr} {d : Nat} (hV : Arr 101 objectR' (keys H) w q x.chain d) {p : Option Addr} {c : Nat} (hA : Bytes (keys H) w p x.body c) {y : Pkt} (hy : y.ok) {q2 : Option Addr} {d2 : Nat} (hV2 : Arr 101 objectR' (keys H) w q2 y.chain d2) {p2 : Option Addr} {c2 : Nat} (hA2 : Bytes (keys H) w p2 y.body c2) : Calls Try.prog 83 #[.agg (cat (pktV x q d p c)).toArray, .agg (cat (pktV y q2 d2 p2 c2)).toArray] w (Ret fun v w' => ∃ b : Bool, v = .bool b ∧ (b = true ↔ y = x) ∧ Own S H w') := by
 refine enter (G := Own (⟨w, keys H⟩ :: S) H) ho.keep Try.func83 rfl Try.ntmps83 rfl ?_
 refine VC.sr ?_
 refine VL.box (L := pktL) (ps := (pktV (x) q d p c)) rfl rfl (pktV_len hx) (fun g1 => ?_)
 refine VL.box (L := pktL) (ps := (pktV (y) q2 d2 p2 c2)) rfl rfl (pktV_len hy) (fun g2 => ?_)
 refine VL.assign rfl ?_
 refine VL.nn ?_
 refine VC.sr ?_
 refine VL.fieldAddr rfl fo118_0 rfl ?_
 refine VL.load (v := .int .u8 (x.src)) 1 0 rfl kd5 (fun _ h => h) rfl rfl rfl ?_
 refine VL.fieldAddr rfl fo118_0 rfl ?_
 refine VL.load (v := .int .u8 (y.src)) 0 0 rfl kd5 (fun _ h => h) rfl rfl rfl ?_
 refine VL.eql rfl rfl ?_
 refine VL.case (fun h1_4 => ?_) (fun h1_4 => ?_)
 ·have h1_4 : x.src = y.src := by omega
  refine VL.move rfl ?_
  refine VL.go rfl rfl rfl ?_
  refine VL.fieldAddr rfl fo118_1 rfl ?_
  refine VL.go rfl rfl rfl ?_
  refine VL.load (v := .int .u8 (x.dst)) 1 1 rfl kd5 (fun _ h => h) rfl rfl rfl ?_
  refine VL.go rfl rfl rfl ?_
  refine VL.fieldAddr rfl fo118_1 rfl ?_
  refine VL.go rfl rfl rfl ?_
  refine VL.load (v := .int .u8 (y.dst)) 0 1 rfl kd5 (fun _ h => h) rfl rfl rfl ?_
  refine VL.go rfl rfl rfl ?_
  refine VL.eql rfl rfl ?_
  refine VL.case (fun h1_10 => ?_) (fun h1_10 => ?_)
  ·have h1_10 : x.dst = y.dst := by omega
   refine VL.pick_t rfl rfl ?_
   refine VL.move rfl ?_
   refine VL.go rfl rfl rfl ?_
   refine VL.fieldAddr rfl fo118_2 rfl ?_
   refine VL.go rfl rfl rfl ?_
   refine VL.load (v := .int .u8 (x.kind)) 1 2 rfl kd5 (fun _ h => h) rfl rfl rfl ?_
   refine VL.go rfl rfl rfl ?_
   refine VL.fieldAddr rfl fo118_2 rfl ?_
   refine VL.go rfl rfl rfl ?_
   refine VL.load (v := .int .u8 (y.kind)) 0 2 rfl kd5 (fun _ h => h) rfl rfl rfl ?_
   refine VL.go rfl rfl rfl ?_
   refine VL.eql rfl rfl ?_
   refine VL.case (fun h1_17 => ?_) (fun h1_17 => ?_)
   ·have h1_17 : x.kind = y.kind := by omega
    refine VL.pick_t rfl rfl ?_
    refine VL.move rfl ?_
    refine VL.go rfl rfl rfl ?_
    refine VL.fieldAddr rfl fo118_3 rfl ?_
    refine VL.go rfl rfl rfl ?_
    refine VL.load (v := .slice q (x.chain).length d) 1 3 rfl kd116 (fun _ h => h) rfl rfl rfl ?_
    refine VL.go rfl rfl rfl ?_
    refine VL.fieldAddr rfl fo118_3 rfl ?_
    refine VL.go rfl rfl rfl ?_
    refine VL.load (v := .slice q2 (y.chain).length d2) 0 3 rfl kd116 (fun _ h => h) rfl rfl rfl ?_
    refine VL.go rfl rfl rfl ?_
    refine VL.call Try.func145 rfl (by decide) rfl (fun w' hw => sameChains_g hw hx.chain (hV.nowA (s := ⟨w, _⟩) Mono_object hw) hy.chain (hV2.nowA (s := ⟨w, _⟩) Mono_object hw)) (fun v => ?_)
    refine VL.ex fun b => VL.fact fun e => VL.fact fun h1_24 => ?_
    subst e
    cases b
    ·have h1_24 := mt h1_24.2 (by decide)
     refine VL.pick_t rfl rfl ?_
     refine VL.move rfl ?_
     refine VL.pass rfl rfl rfl rfl rfl ?_
     refine VL.pass rfl rfl rfl rfl rfl ?_
     refine VL.pass rfl rfl rfl rfl rfl ?_
     refine VL.pass rfl rfl rfl rfl rfl ?_
     refine VL.pass rfl rfl rfl rfl rfl ?_
     refine VL.pick_f rfl rfl ?_
     refine VL.move rfl ?_
     refine VL.pass rfl rfl rfl rfl rfl ?_
     refine VL.pass rfl rfl rfl rfl rfl ?_
     refine VL.pass rfl rfl rfl rfl rfl ?_
     refine VL.pass rfl rfl rfl rfl rfl ?_
     refine VL.pass rfl rfl rfl rfl rfl ?_
     refine VL.pick_f rfl rfl ?_
     refine VL.assign rfl ?_
     refine VL.nn ?_
     refine VC.ret ?_
     refine VX.ret1 rfl rfl (fun we hw => ?_)
     exact ⟨false, rfl, ⟨fun h => absurd h (by decide), fun h => absurd (pkt_iff.1 h).2.2.2.1.symm h1_24⟩, hw.drop.drop.subA⟩
    ·have h1_24 := (h1_24.1 rfl).symm
     refine VL.pick_t rfl rfl ?_
     refine VL.move rfl ?_
     refine VL.go rfl rfl rfl ?_
     refine VL.fieldAddr rfl fo118_4 rfl ?_
     refine VL.go rfl rfl rfl ?_
     refine VL.load (v := .slice p (x.body).length c) 1 4 rfl kd24 (fun _ h => h) rfl rfl rfl ?_
     refine VL.go rfl rfl rfl ?_
     refine VL.fieldAddr rfl fo118_4 rfl ?_
     refine VL.go rfl rfl rfl ?_
     refine VL.load (v := .slice p2 (y.body).length c2) 0 4 rfl kd24 (fun _ h => h) rfl rfl rfl ?_
     refine VL.go rfl rfl rfl ?_
     refine VL.call Try.func27 rfl (by decide) rfl (fun w' hw => bytes_B hw (hA.nowA (s := ⟨w, _⟩) Mono.byte hw) (hA2.nowA (s := ⟨w, _⟩) Mono.byte hw)) (fun v => ?_)
     refine VL.ex fun b => VL.fact fun e => VL.fact fun h1_31 => ?_
     subst e
     cases b
     ·have h1_31 := mt h1_31.2 (by decide)
      refine VL.pick_t rfl rfl ?_
      refine VL.move rfl ?_
      refine VL.pass rfl rfl rfl rfl rfl ?_
      refine VL.pass rfl rfl rfl rfl rfl ?_
      refine VL.pass rfl rfl rfl rfl rfl ?_
      refine VL.pass rfl rfl rfl rfl rfl ?_
      refine VL.pass rfl rfl rfl rfl rfl ?_
      refine VL.pick_f rfl rfl ?_
      refine VL.assign rfl ?_
      refine VL.nn ?_
      refine VC.ret ?_
      refine VX.ret1 rfl rfl (fun we hw => ?_)
      exact ⟨false, rfl, ⟨fun h => absurd h (by decide), fun h => absurd (pkt_iff.1 h).2.2.2.2.1 h1_31⟩, hw.drop.drop.subA⟩
     ·have h1_31 := h1_31.1 rfl
      refine VL.pick_t rfl rfl ?_
      refine VL.move rfl ?_
      refine VL.go rfl rfl rfl ?_
      refine VL.fieldAddr rfl fo118_5 rfl ?_
      refine VL.go rfl rfl rfl ?_
      refine VL.loads (cs := (x.sig).map bv) 1 5 1 rfl kd80 (fun _ h => h) rfl rfl rfl rfl ?_
      refine VL.go rfl rfl rfl ?_
      refine VL.fieldAddr rfl fo118_5 rfl ?_
      refine VL.go rfl rfl rfl ?_
      refine VL.loads (cs := (y.sig).map bv) 0 5 1 rfl kd80 (fun _ h => h) rfl rfl rfl rfl ?_
      refine VL.go rfl rfl rfl ?_
      refine VL.eqT guard80 rfl rfl (eqSig 9998 hx.sig hy.sig) (fun b h1_38 => ?_)
      cases b
      ·have h1_38 := mt h1_38.2 (by decide)
       refine VL.pick_t rfl rfl ?_
       refine VL.assign rfl ?_
       refine VL.nn ?_
       refine VC.ret ?_
       refine VX.ret1 rfl rfl (fun we hw => ?_)
       exact ⟨false, rfl, ⟨fun h => absurd h (by decide), fun h => absurd (pkt_iff.1 h).2.2.2.2.2 h1_38⟩, hw.drop.drop.subA⟩
      ·have h1_38 := h1_38.1 rfl
       refine VL.pick_t rfl rfl ?_
       refine VL.assign rfl ?_
       refine VL.nn ?_
       refine VC.ret ?_
       refine VX.ret1 rfl rfl (fun we hw => ?_)
       exact ⟨true, rfl, ⟨fun _ => pkt_iff.2 ⟨h1_4, h1_10, h1_17, h1_24, h1_31, h1_38⟩, fun _ => rfl⟩, hw.drop.drop.subA⟩
   ·have h1_17 : ¬ x.kind = y.kind := by omega
    refine VL.pick_t rfl rfl ?_
    refine VL.move rfl ?_
    refine VL.pass rfl rfl rfl rfl rfl ?_
    refine VL.pass rfl rfl rfl rfl rfl ?_
    refine VL.pass rfl rfl rfl rfl rfl ?_
    refine VL.pass rfl rfl rfl rfl rfl ?_
    refine VL.pass rfl rfl rfl rfl rfl ?_
    refine VL.pick_f rfl rfl ?_
    refine VL.move rfl ?_
    refine VL.pass rfl rfl rfl rfl rfl ?_
    refine VL.pass rfl rfl rfl rfl rfl ?_
    refine VL.pass rfl rfl rfl rfl rfl ?_
    refine VL.pass rfl rfl rfl rfl rfl ?_
    refine VL.pass rfl rfl rfl rfl rfl ?_
    refine VL.pick_f rfl rfl ?_
    refine VL.move rfl ?_
    refine VL.pass rfl rfl rfl rfl rfl ?_
    refine VL.pass rfl rfl rfl rfl rfl ?_
    refine VL.pass rfl rfl rfl rfl rfl ?_
    refine VL.pass rfl rfl rfl rfl rfl ?_
    refine VL.pass rfl rfl rfl rfl rfl ?_
    refine VL.pick_f rfl rfl ?_
    refine VL.assign rfl ?_
    refine VL.nn ?_
    refine VC.ret ?_
    refine VX.ret1 rfl rfl (fun we hw => ?_)
    exact ⟨false, rfl, ⟨fun h => absurd h (by decide), fun h => absurd (pkt_iff.1 h).2.2.1 h1_17⟩, hw.drop.drop.subA⟩
  ·have h1_10 : ¬ x.dst = y.dst := by omega
   refine VL.pick_t rfl rfl ?_
   refine VL.move rfl ?_
   refine VL.pass rfl rfl rfl rfl rfl ?_
   refine VL.pass rfl rfl rfl rfl rfl ?_
   refine VL.pass rfl rfl rfl rfl rfl ?_
   refine VL.pass rfl rfl rfl rfl rfl ?_
   refine VL.pass rfl rfl rfl rfl rfl ?_
   refine VL.pick_f rfl rfl ?_
   refine VL.move rfl ?_
   refine VL.pass rfl rfl rfl rfl rfl ?_
   refine VL.pass rfl rfl rfl rfl rfl ?_
   refine VL.pass rfl rfl rfl rfl rfl ?_
   refine VL.pass rfl rfl rfl rfl rfl ?_
   refine VL.pass rfl rfl rfl rfl rfl ?_
   refine VL.pick_f rfl rfl ?_
   refine VL.move rfl ?_
   refine VL.pass rfl rfl rfl rfl rfl ?_
   refine VL.pass rfl rfl rfl rfl rfl ?_
   refine VL.pass rfl rfl rfl rfl rfl ?_
   refine VL.pass rfl rfl rfl rfl rfl ?_
   refine VL.pass rfl rfl rfl rfl rfl ?_
   refine VL.pick_f rfl rfl ?_
   refine VL.move rfl ?_
   refine VL.pass rfl rfl rfl rfl rfl ?_
   refine VL.pass rfl rfl rfl rfl rfl ?_
   refine VL.pass rfl rfl rfl rfl rfl ?_
   refine VL.pass rfl rfl rfl rfl rfl ?_
   refine VL.pass rfl rfl rfl rfl rfl ?_
   refine VL.pick_f rfl rfl ?_
   refine VL.assign rfl ?_
   refine VL.nn ?_
   refine VC.ret ?_
   refine VX.ret1 rfl rfl (fun we hw => ?_)
   exact ⟨false, rfl, ⟨fun h => absurd h (by decide), fun h => absurd (pkt_iff.1 h).2.1 h1_10⟩, hw.drop.drop.subA⟩
 ·have h1_4 : ¬ x.src = y.src := by omega
  refine VL.move rfl ?_
  refine VL.pass rfl rfl rfl rfl rfl ?_
  refine VL.pass rfl rfl rfl rfl rfl ?_
  refine VL.pass rfl rfl rfl rfl rfl ?_
  refine VL.pass rfl rfl rfl rfl rfl ?_
  refine VL.pass rfl rfl rfl rfl rfl ?_
  refine VL.pick_f rfl rfl ?_
  refine VL.move rfl ?_
  refine VL.pass rfl rfl rfl rfl rfl ?_
  refine VL.pass rfl rfl rfl rfl rfl ?_
  refine VL.pass rfl rfl rfl rfl rfl ?_
  refine VL.pass rfl rfl rfl rfl rfl ?_
  refine VL.pass rfl rfl rfl rfl rfl ?_
  refine VL.pick_f rfl rfl ?_
  refine VL.move rfl ?_
  refine VL.pass rfl rfl rfl rfl rfl ?_
  refine VL.pass rfl rfl rfl rfl rfl ?_
  refine VL.pass rfl rfl rfl rfl rfl ?_
  refine VL.pass rfl rfl rfl rfl rfl ?_
  refine VL.pass rfl rfl rfl rfl rfl ?_
  refine VL.pick_f rfl rfl ?_
  refine VL.move rfl ?_
  refine VL.pass rfl rfl rfl rfl rfl ?_
  refine VL.pass rfl rfl rfl rfl rfl ?_
  refine VL.pass rfl rfl rfl rfl rfl ?_
  refine VL.pass rfl rfl rfl rfl rfl ?_
  refine VL.pass rfl rfl rfl rfl rfl ?_
  refine VL.pick_f rfl rfl ?_
  refine VL.move rfl ?_
  refine VL.pass rfl rfl rfl rfl rfl ?_
  refine VL.pass rfl rfl rfl rfl rfl ?_
  refine VL.pass rfl rfl rfl rfl rfl ?_
  refine VL.pass rfl rfl rfl rfl rfl ?_
  refine VL.pass rfl rfl rfl rfl rfl ?_
  refine VL.pick_f rfl rfl ?_
  refine VL.assign rfl ?_
  refine VL.nn ?_
  refine VC.ret ?_
  refine VX.ret1 rfl rfl (fun we hw => ?_)
  exact ⟨false, rfl, ⟨fun h => absurd h (by decide), fun h => absurd (pkt_iff.1 h).1 h1_4⟩, hw.drop.drop.subA⟩

theorem samePkts_e {S : List Snap} {H : List Chunk} {w : World} (ho : Own S H w) {x y : Pkt} (hx : x.ok) {q : Option Addr} {d : Nat} (hV : Arr 101 objectR' (keys H) w q x.chain d) {p : Option Addr} {c : Nat} (hA : Bytes (keys H) w p x.body c) {q2 : Option Addr} {d2 : Nat} (hV2 : Arr 101 objectR' (keys H) w q2 y.chain d2) {p2 : Option Addr} {c2 : Nat} (hA2 : Bytes (keys H) w p2 y.body c2) (e : y = x) : Calls Try.prog 83 #[.agg (cat (pktV x q d p c)).toArray, .agg (cat (pktV y q2 d2 p2 c2)).toArray] w (Ret fun v w' => v = .bool true ∧ Own S H w') :=
 calls_mono (samePkts_g ho hx hV hA (e ▸ hx) hV2 hA2) fun v w' ⟨b, h1, h2, h3⟩ => ⟨by rw [h1, h2.2 e], h3⟩

end Go.Proofs.Ytcfecmoagfgnaaa

