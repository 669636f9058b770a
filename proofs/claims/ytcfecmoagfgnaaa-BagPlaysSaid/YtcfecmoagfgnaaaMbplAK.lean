/- The statement BagPlays is proved, for every input: part 11 of 19 of the texts that it needs. -/
import Derived.Test.YtcfecmoagfgnaaaMbplAJ
/- wire: what bytes are read as: packets. -/
namespace Go.Proofs.Ytcfecmoagfgnaaa
open Go.Vc Go.Pl

theorem Own.drop2 {S : List Snap} {a b : Chunk} {H : List Chunk} {w : World} (h : Own S (a :: b :: H) w) : Own S (a :: H) w := Own.drop (c := b) (h.perm (List.Perm.swap a b H))
theorem third_is {ps : List (List UInt8)} (h : 2 < ps.length) : nextP (at2 ps) = ps[2]'h := by
 match ps, h with
 | a :: b :: c :: r, _ => rfl
theorem num_one {l : List UInt8} (h : l.length = 1) (h0 : 0 < l.length) : num l = (l[0]'h0).toNat := by
 match l, h with
 | [b], _ => simp [num]
theorem kb_why {l : List UInt8} (h : openW l ≠ 0) : ¬ kindBad (openP l) := by
 rcases openW_cases l with ⟨h1, _⟩ | ⟨_, h1⟩
 ·rw [h1]; intro h; exact absurd h.1 (by decide)
 ·exact absurd h1 h
theorem kb_short {ps : List (List UInt8)} (h : ¬ 2 < ps.length) : ¬ kindBad ps := fun hb => h hb.1
theorem kb_len {ps : List (List UInt8)} (h : 2 < ps.length) (h1 : (ps[2]'h).length ≠ 1) : ¬ kindBad ps := fun hb => h1 (by rw [← third_is h]; exact hb.2.1)
theorem kb_iff {ps : List (List UInt8)} (h : 2 < ps.length) (h1 : (ps[2]'h).length = 1) (h0 : 0 < (ps[2]'h).length) : kindBad ps ↔ kindIn (((ps[2]'h)[0]'h0).toNat) = false := by
 unfold kindBad
 rw [third_is h, num_one h1 h0]
 exact ⟨fun hb => hb.2.2, fun hb => ⟨h, h1, hb⟩⟩
theorem kindIn_no {k : Nat} (h : k < 1 ∨ 4 < k) : kindIn k = false := by unfold kindIn; rw [Bool.and_eq_false_iff]; rcases h with h | h <;> simp <;> omega
theorem zero_at {l : List UInt8} (hz : l = [0]) (h : 0 < l.length) : ¬ (((l[0]'h).toNat : Nat) : Int) ≠ 0 := by subst hz; simp
theorem nz_at {l : List UInt8} (hz : l ≠ [0]) (hl : l.length = 1) (h : 0 < l.length) : (((l[0]'h).toNat : Nat) : Int) ≠ 0 := by
 match l, hl with
 | [b], _ =>
  intro e
  refine hz ?_
  have e : b.toNat = 0 := by have e : ((b.toNat : Nat) : Int) = 0 := e; omega
  rw [show b = 0 from UInt8.toNat.inj e]

theorem getPkt_w {S : List Snap} {H : List Chunk} {w : World} (ho : Own S H w) {p : Option Addr} {l : List UInt8} {c : Nat} (hA : Bytes (keys H) w p l c) : Calls Try.prog 81 #[.slice p l.length c] w (Ret fun v w' => ∃ q d p c, v = .tuple #[.agg (cat (pktV ((pktR l).getD pkt0) q d p c)).toArray, .int .i64 ((pktW l : Nat) : Int)] ∧ Own S H w' ∧ Arr 101 objectR' (keys H) w' q ((pktR l).getD pkt0).chain d ∧ Bytes (keys H) w' p ((pktR l).getD pkt0).body c) := by
 refine enter (G := Own (⟨w, keys H⟩ :: S) H) ho.keep Try.func81 rfl Try.ntmps81 rfl ?_
 refine VC.sr ?_
 refine VL.alloc (L := pktL) (ps := (pktV (pkt0) none 0 none 0)) zero118 rfl rfl (fun g1 => ?_)
 refine VL.assign rfl ?_
 refine VL.nn ?_
 refine VC.sr ?_
 refine VL.move rfl ?_
 refine VL.call Try.func121 rfl (by decide) rfl (fun w' hw => open_R hw (hA.nowA (s := ⟨w, _⟩) Mono.byte hw)) (fun v => ?_)
 refine VL.ex fun g2 => VL.fact fun e3 => ?_
 subst e3
 refine VL.assign rfl ?_
 refine VL.nn ?_
 refine VC.seq ?_
 refine VC.join (X := Bool) (fun b => [(2, .pointer (some ⟨g1, 0, none⟩)), (4, .pointer (some ⟨g2, 0, none⟩)), (57, .bool b)]) (fun _ => Own (⟨w, keys H⟩ :: S) (rch g2 (openP (l)) (openW (l)) :: blk g1 118 pktL (pktV (pkt0) none 0 none 0) :: H)) (fun b => (b = true ↔ kindBad (openP l))) (fun hrest => ?_) (fun b hbk => ?_)
 ·skip
  refine VC.region ?_
  refine VL.move rfl ?_
  refine VL.nilCheck rfl ?_
  refine VL.fieldAddr rfl fo196_1 rfl ?_
  refine loadWhy 0 rfl (fun _ h => h) rfl ?_
  refine VL.eql rfl rfl ?_
  refine VL.case (fun h2_4 => ?_) (fun h2_4 => ?_)
  ·skip
   refine VL.move rfl ?_
   refine VL.go rfl rfl rfl ?_
   refine VL.move rfl ?_
   refine VL.go rfl rfl rfl ?_
   refine VL.nilCheck rfl ?_
   refine VL.go rfl rfl rfl ?_
   refine VL.fieldAddr rfl fo196_0 rfl ?_
   refine VL.go rfl rfl rfl ?_
   refine loadParts 0 rfl rfl (fun p4 c5 w6 hO7 hA8 => ?_)
   refine VL.go rfl rfl rfl ?_
   refine VL.len Try.underlying31 rfl rfl ?_
   refine VL.go rfl rfl rfl ?_
   refine VL.gtr rfl rfl ?_
   refine VL.case (fun h2_11 => ?_) (fun h2_11 => ?_)
   ·have hlen : 2 < (openP (l)).length := by omega
    refine VL.pick_t rfl rfl ?_
    refine VL.move rfl ?_
    refine VL.go rfl rfl rfl ?_
    refine VL.move rfl ?_
    refine VL.go rfl rfl rfl ?_
    refine VL.nilCheck rfl ?_
    refine VL.go rfl rfl rfl ?_
    refine VL.fieldAddr rfl fo196_0 rfl ?_
    refine VL.go rfl rfl rfl ?_
    refine loadParts 0 rfl rfl (fun p9 c10 w11 hO12 hA13 => ?_)
    refine VL.go rfl rfl rfl ?_
    refine VL.index (xs := (openP (l))) rfl rfl Try.underlying31 sz31 hA13 (by omega) (by have hi := hlen; omega) ?_
    refine VL.go rfl rfl rfl ?_
    refine VL.elem (s := ⟨w11, _⟩) (2) 0 rfl kd24 (fun _ h => h) (by repeat (first | exact List.mem_cons_self .. | apply List.mem_cons_of_mem)) (Mono.slice Mono.byte) hA13 (List.getElem?_eq_getElem hlen) (by simp) (by decide) (fun vs v hl hr hv => ?_)
    obtain ⟨p16, c17, rfl, hA18⟩ := hr
    have ehy15 : v = .slice p16 ((openP (l))[2]'hlen).length c17 := Option.some.inj (hv.symm.trans rfl)
    subst ehy15
    refine VL.go rfl rfl rfl ?_
    refine VL.len Try.underlying24 rfl rfl ?_
    refine VL.go rfl rfl rfl ?_
    refine VL.eql rfl rfl ?_
    refine VL.case (fun h2_21 => ?_) (fun h2_21 => ?_)
    ·have h1l : ((openP (l))[2]'hlen).length = 1 := by omega
     have h1p : 0 < ((openP (l))[2]'hlen).length := by omega
     refine VL.pick_t rfl rfl ?_
     refine VL.move rfl ?_
     refine VL.go rfl rfl rfl ?_
     refine VL.move rfl ?_
     refine VL.go rfl rfl rfl ?_
     refine VL.nilCheck rfl ?_
     refine VL.go rfl rfl rfl ?_
     refine VL.fieldAddr rfl fo196_0 rfl ?_
     refine VL.go rfl rfl rfl ?_
     refine loadParts 0 rfl rfl (fun p19 c20 w21 hO22 hA23 => ?_)
     refine VL.go rfl rfl rfl ?_
     refine VL.index (xs := (openP (l))) rfl rfl Try.underlying31 sz31 hA23 (by omega) (by have hi := hlen; omega) ?_
     refine VL.go rfl rfl rfl ?_
     refine VL.elem (s := ⟨w21, _⟩) (2) 0 rfl kd24 (fun _ h => h) (by repeat (first | exact List.mem_cons_self .. | apply List.mem_cons_of_mem)) (Mono.slice Mono.byte) hA23 (List.getElem?_eq_getElem hlen) (by simp) (by decide) (fun vs v hl hr hv => ?_)
     obtain ⟨p26, c27, rfl, hA28⟩ := hr
     have ehy25 : v = .slice p26 ((openP (l))[2]'hlen).length c27 := Option.some.inj (hv.symm.trans rfl)
     subst ehy25
     refine VL.go rfl rfl rfl ?_
     refine VL.index (xs := ((openP (l))[2]'hlen)) rfl rfl Try.underlying24 sz24 hA28 (by omega) (by have hi := h1p; omega) ?_
     refine VL.go rfl rfl rfl ?_
     refine VL.byte (s := ⟨w21, _⟩) (y := ((openP (l))[2]'hlen)[0]'h1p) rfl kd5 (fun _ h => h) (by repeat (first | exact List.mem_cons_self .. | apply List.mem_cons_of_mem)) hA28 (List.getElem?_eq_getElem h1p) ?_
     refine VL.go rfl rfl rfl ?_
     refine VL.lss rfl rfl ?_
     refine VL.case (fun h2_32 => ?_) (fun h2_32 => ?_)
     ·have hb : kindBad (openP l) := (kb_iff hlen h1l h1p).2 (kindIn_no (.inl (by have h : ((((((openP (l))[2]'hlen)[0]'h1p).toNat : Nat)) : Int) < 1 := h2_32; omega)))
      refine VL.go rfl rfl rfl ?_
      refine VL.move rfl ?_
      refine VL.pass rfl rfl rfl rfl rfl ?_
      refine VL.pass rfl rfl rfl rfl rfl ?_
      refine VL.pass rfl rfl rfl rfl rfl ?_
      refine VL.pass rfl rfl rfl rfl rfl ?_
      refine VL.pass rfl rfl rfl rfl rfl ?_
      refine VL.pass rfl rfl rfl rfl rfl ?_
      refine VL.pass rfl rfl rfl rfl rfl ?_
      refine VL.pass rfl rfl rfl rfl rfl ?_
      refine VL.pass rfl rfl rfl rfl rfl ?_
      refine VL.go rfl rfl rfl ?_
      refine VL.pick_t rfl rfl ?_
      refine VL.pick_t rfl rfl ?_
      refine VL.nil ?_
      exact VX.join hrest true ⟨fun _ => hb, fun _ => rfl⟩ ⟨rfl, rfl, rfl, trivial⟩ (fun _ h => h.subA)
     ·skip
      refine VL.go rfl rfl rfl ?_
      refine VL.move rfl ?_
      refine VL.go rfl rfl rfl ?_
      refine VL.move rfl ?_
      refine VL.go rfl rfl rfl ?_
      refine VL.nilCheck rfl ?_
      refine VL.go rfl rfl rfl ?_
      refine VL.fieldAddr rfl fo196_0 rfl ?_
      refine VL.go rfl rfl rfl ?_
      refine loadParts 0 rfl rfl (fun p31 c32 w33 hO34 hA35 => ?_)
      refine VL.go rfl rfl rfl ?_
      refine VL.index (xs := (openP (l))) rfl rfl Try.underlying31 sz31 hA35 (by omega) (by have hi := hlen; omega) ?_
      refine VL.go rfl rfl rfl ?_
      refine VL.elem (s := ⟨w33, _⟩) (2) 0 rfl kd24 (fun _ h => h) (by repeat (first | exact List.mem_cons_self .. | apply List.mem_cons_of_mem)) (Mono.slice Mono.byte) hA35 (List.getElem?_eq_getElem hlen) (by simp) (by decide) (fun vs v hl hr hv => ?_)
      obtain ⟨p38, c39, rfl, hA40⟩ := hr
      have ehy37 : v = .slice p38 ((openP (l))[2]'hlen).length c39 := Option.some.inj (hv.symm.trans rfl)
      subst ehy37
      refine VL.go rfl rfl rfl ?_
      refine VL.index (xs := ((openP (l))[2]'hlen)) rfl rfl Try.underlying24 sz24 hA40 (by omega) (by have hi := h1p; omega) ?_
      refine VL.go rfl rfl rfl ?_
      refine VL.byte (s := ⟨w33, _⟩) (y := ((openP (l))[2]'hlen)[0]'h1p) rfl kd5 (fun _ h => h) (by repeat (first | exact List.mem_cons_self .. | apply List.mem_cons_of_mem)) hA40 (List.getElem?_eq_getElem h1p) ?_
      refine VL.go rfl rfl rfl ?_
      refine VL.gtr rfl rfl ?_
      refine VL.case (fun h2_42 => ?_) (fun h2_42 => ?_)
      ·have hb : kindBad (openP l) := (kb_iff hlen h1l h1p).2 (kindIn_no (.inr (by have h : (4 : Int) < ((((((openP (l))[2]'hlen)[0]'h1p).toNat : Nat)) : Int) := h2_42; omega)))
       refine VL.go rfl rfl rfl ?_
       refine VL.pick_f rfl rfl ?_
       refine VL.pick_t rfl rfl ?_
       refine VL.nil ?_
       exact VX.join hrest true ⟨fun _ => hb, fun _ => rfl⟩ ⟨rfl, rfl, rfl, trivial⟩ (fun _ h => h.subA)
      ·have hnb : ¬ kindBad (openP l) := fun hb => by
        have h1 := (kb_iff hlen h1l h1p).1 hb
        rw [kindIn_of.2 ⟨by have h : ¬ ((((((openP (l))[2]'hlen)[0]'h1p).toNat : Nat)) : Int) < 1 := h2_32; omega, by have h : ¬ (4 : Int) < ((((((openP (l))[2]'hlen)[0]'h1p).toNat : Nat)) : Int) := h2_42; omega⟩] at h1
        cases h1
       refine VL.go rfl rfl rfl ?_
       refine VL.pick_f rfl rfl ?_
       refine VL.pick_t rfl rfl ?_
       refine VL.nil ?_
       exact VX.join hrest false ⟨fun h => absurd h (by decide), fun h => absurd h hnb⟩ ⟨rfl, rfl, rfl, trivial⟩ (fun _ h => h.subA)
    ·have hnb : ¬ kindBad (openP l) := kb_len hlen (by omega)
     refine VL.pick_t rfl rfl ?_
     refine VL.move rfl ?_
     refine VL.pass rfl rfl rfl rfl rfl ?_
     refine VL.pass rfl rfl rfl rfl rfl ?_
     refine VL.pass rfl rfl rfl rfl rfl ?_
     refine VL.pass rfl rfl rfl rfl rfl ?_
     refine VL.pass rfl rfl rfl rfl rfl ?_
     refine VL.pass rfl rfl rfl rfl rfl ?_
     refine VL.pass rfl rfl rfl rfl rfl ?_
     refine VL.pass rfl rfl rfl rfl rfl ?_
     refine VL.pass rfl rfl rfl rfl rfl ?_
     refine VL.pass rfl rfl rfl rfl rfl ?_
     refine VL.passu rfl rfl rfl rfl ?_
     refine VL.passu rfl rfl rfl rfl ?_
     refine VL.passu rfl rfl rfl rfl ?_
     refine VL.passu rfl rfl rfl rfl ?_
     refine VL.passu rfl rfl rfl rfl ?_
     refine VL.passu rfl rfl rfl rfl ?_
     refine VL.passu rfl rfl rfl rfl ?_
     refine VL.passu rfl rfl rfl rfl ?_
     refine VL.passu rfl rfl rfl rfl ?_
     refine VL.pass rfl rfl rfl rfl rfl ?_
     refine VL.pick_f rfl rfl ?_
     refine VL.nil ?_
     exact VX.join hrest false ⟨fun h => absurd h (by decide), fun h => absurd h hnb⟩ ⟨rfl, rfl, rfl, trivial⟩ (fun _ h => h.subA)
   ·have hnb : ¬ kindBad (openP l) := kb_short (by omega)
    refine VL.pick_t rfl rfl ?_
    refine VL.move rfl ?_
    refine VL.pass rfl rfl rfl rfl rfl ?_
    refine VL.pass rfl rfl rfl rfl rfl ?_
    refine VL.pass rfl rfl rfl rfl rfl ?_
    refine VL.pass rfl rfl rfl rfl rfl ?_
    refine VL.pass rfl rfl rfl rfl rfl ?_
    refine VL.pass rfl rfl rfl rfl rfl ?_
    refine VL.pass rfl rfl rfl rfl rfl ?_
    refine VL.pass rfl rfl rfl rfl rfl ?_
    refine VL.pick_f rfl rfl ?_
    refine VL.move rfl ?_
    refine VL.pass rfl rfl rfl rfl rfl ?_
    refine VL.pass rfl rfl rfl rfl rfl ?_
    refine VL.pass rfl rfl rfl rfl rfl ?_
    refine VL.pass rfl rfl rfl rfl rfl ?_
    refine VL.pass rfl rfl rfl rfl rfl ?_
    refine VL.pass rfl rfl rfl rfl rfl ?_
    refine VL.pass rfl rfl rfl rfl rfl ?_
    refine VL.pass rfl rfl rfl rfl rfl ?_
    refine VL.pass rfl rfl rfl rfl rfl ?_
    refine VL.pass rfl rfl rfl rfl rfl ?_
    refine VL.passu rfl rfl rfl rfl ?_
    refine VL.passu rfl rfl rfl rfl ?_
    refine VL.passu rfl rfl rfl rfl ?_
    refine VL.passu rfl rfl rfl rfl ?_
    refine VL.passu rfl rfl rfl rfl ?_
    refine VL.passu rfl rfl rfl rfl ?_
    refine VL.passu rfl rfl rfl rfl ?_
    refine VL.passu rfl rfl rfl rfl ?_
    refine VL.passu rfl rfl rfl rfl ?_
    refine VL.pass rfl rfl rfl rfl rfl ?_
    refine VL.pick_f rfl rfl ?_
    refine VL.nil ?_
    exact VX.join hrest false ⟨fun h => absurd h (by decide), fun h => absurd h hnb⟩ ⟨rfl, rfl, rfl, trivial⟩ (fun _ h => h.subA)
  ·have hnb : ¬ kindBad (openP l) := kb_why (by omega)
   refine VL.move rfl ?_
   refine VL.pass rfl rfl rfl rfl rfl ?_
   refine VL.pass rfl rfl rfl rfl rfl ?_
   refine VL.pass rfl rfl rfl rfl rfl ?_
   refine VL.pass rfl rfl rfl rfl rfl ?_
   refine VL.pass rfl rfl rfl rfl rfl ?_
   refine VL.pass rfl rfl rfl rfl rfl ?_
   refine VL.pick_f rfl rfl ?_
   refine VL.move rfl ?_
   refine VL.pass rfl rfl rfl rfl rfl ?_
   refine VL.pass rfl rfl rfl rfl rfl ?_
   refine VL.pass rfl rfl rfl rfl rfl ?_
   refine VL.pass rfl rfl rfl rfl rfl ?_
   refine VL.pass rfl rfl rfl rfl rfl ?_
   refine VL.pass rfl rfl rfl rfl rfl ?_
   refine VL.pass rfl rfl rfl rfl rfl ?_
   refine VL.pass rfl rfl rfl rfl rfl ?_
   refine VL.pick_f rfl rfl ?_
   refine VL.move rfl ?_
   refine VL.pass rfl rfl rfl rfl rfl ?_
   refine VL.pass rfl rfl rfl rfl rfl ?_
   refine VL.pass rfl rfl rfl rfl rfl ?_
   refine VL.pass rfl rfl rfl rfl rfl ?_
   refine VL.pass rfl rfl rfl rfl rfl ?_
   refine VL.pass rfl rfl rfl rfl rfl ?_
   refine VL.pass rfl rfl rfl rfl rfl ?_
   refine VL.pass rfl rfl rfl rfl rfl ?_
   refine VL.pass rfl rfl rfl rfl rfl ?_
   refine VL.pass rfl rfl rfl rfl rfl ?_
   refine VL.passu rfl rfl rfl rfl ?_
   refine VL.passu rfl rfl rfl rfl ?_
   refine VL.passu rfl rfl rfl rfl ?_
   refine VL.passu rfl rfl rfl rfl ?_
   refine VL.passu rfl rfl rfl rfl ?_
   refine VL.passu rfl rfl rfl rfl ?_
   refine VL.passu rfl rfl rfl rfl ?_
   refine VL.passu rfl rfl rfl rfl ?_
   refine VL.passu rfl rfl rfl rfl ?_
   refine VL.pass rfl rfl rfl rfl rfl ?_
   refine VL.pick_f rfl rfl ?_
   refine VL.nil ?_
   exact VX.join hrest false ⟨fun h => absurd h (by decide), fun h => absurd h hnb⟩ ⟨rfl, rfl, rfl, trivial⟩ (fun _ h => h.subA)
 skip
 refine VC.split rfl (fun hc57 => ?_) (fun hc57 => ?_)
 ·refine VC.seq ?_
  refine VC.region ?_
  refine VL.build0 (cs := cat (pktV (pkt0) none 0 none 0)) built118 ?_
  refine VL.store (L := pktL) (qs := (pktV (pkt0) none 0 none 0)) (ps' := (pktV (pkt0) none 0 none 0)) 1 0 6 rfl rfl rfl (.inl kd118) rfl rfl rfl (pktV_ok1 pkt0 none 0 none 0) rfl rfl ?_
  refine VL.set1 ?_
  refine VL.assign rfl ?_
  refine VL.nn ?_
  refine VC.ret ?_
  refine VX.then_ret ?_
  refine VX.ret_cell (cs := cat (pktV (pkt0) none 0 none 0)) 1 rfl rfl rfl kd118 (fun _ h => h) rfl rfl (fun we hw => ?_)
  obtain ⟨e1, e2⟩ := pktW_bad (hbk.1 hc57)
  exact ⟨none, 0, none, 0, by rw [e1]; exact congrArg (fun n : Nat => Value.tuple #[_, .int .i64 (n : Int)]) (e2).symm, hw.drop.drop.subA, by rw [e1]; exact Arr.none, by rw [e1]; exact Arr.none⟩
 ·refine VC.skip ?_
  refine VX.next ?_
  refine VC.seq ?_
  have hnb : ¬ kindBad (openP l) := mt hbk.2 (by rw [hc57]; decide)
  refine VC.region ?_
  refine VL.move rfl ?_
  refine VL.call Try.func122 rfl (by decide) rfl (fun w' hw => byte_R (i := 0) rfl hw) (fun v => ?_)
  refine VL.fact fun e43 => ?_
  subst e43
  refine VL.set0 ?_
  refine VL.move rfl ?_
  refine VL.call Try.func122 rfl (by decide) rfl (fun w' hw => byte_R (i := 0) rfl hw) (fun v => ?_)
  refine VL.fact fun e44 => ?_
  subst e44
  refine VL.set0 ?_
  refine VL.move rfl ?_
  refine VL.call Try.func122 rfl (by decide) rfl (fun w' hw => byte_R (i := 0) rfl hw) (fun v => ?_)
  refine VL.fact fun e45 => ?_
  subst e45
  refine VL.set0 ?_
  refine VL.build (zs := pktZ) (L := pktFL) [(0, [.int .u8 (takeN (openP (l)) 1)]), (1, [.int .u8 (takeN ((openP (l)).drop 1) 1)]), (2, [.int .u8 (takeN (((openP (l)).drop 1).drop 1) 1)])] plan118 rfl ⟨⟨rfl, ⟨_, rfl, rfl⟩, rfl⟩, ⟨⟨rfl, ⟨_, rfl, rfl⟩, rfl⟩, ⟨⟨rfl, ⟨_, rfl, rfl⟩, rfl⟩, trivial⟩⟩⟩ rfl ?_
  refine VL.newv (v' := .agg (cat (pktV ((Pkt.mk (takeN (openP l) 1) (takeN ((openP l).drop 1) 1) (takeN (((openP l).drop 1).drop 1) 1) [] [] (zeros 64))) none 0 none 0)).toArray) rfl ?_
  refine VL.alloc (L := pktL) (ps := (pktV (pkt0) none 0 none 0)) zero118 rfl rfl (fun g46 => ?_)
  refine VL.store (L := pktL) (qs := (pktV ((Pkt.mk (takeN (openP l) 1) (takeN ((openP l).drop 1) 1) (takeN (((openP l).drop 1).drop 1) 1) [] [] (zeros 64))) none 0 none 0)) (ps' := (pktV ((Pkt.mk (takeN (openP l) 1) (takeN ((openP l).drop 1) 1) (takeN (((openP l).drop 1).drop 1) 1) [] [] (zeros 64))) none 0 none 0)) 0 0 6 rfl rfl rfl (.inl kd118) rfl rfl (pktV_len ((⟨takeN_lt _ 1, takeN_lt _ 1, takeN_lt _ 1, (by simp), rfl⟩ : Pkt.ok (Pkt.mk (takeN (openP l) 1) (takeN ((openP l).drop 1) 1) (takeN (((openP l).drop 1).drop 1) 1) [] [] (zeros 64))))) (pktV_ok1 ((Pkt.mk (takeN (openP l) 1) (takeN ((openP l).drop 1) 1) (takeN (((openP l).drop 1).drop 1) 1) [] [] (zeros 64))) none 0 none 0) rfl rfl ?_
  refine VL.set0 ?_
  refine VL.nn ?_
  refine VC.sr ?_
  refine VL.build (zs := [[.slice none 0 0], [.int .i64 0]]) [] plan196 rfl trivial rfl ?_
  refine VL.box (L := [1, 1]) (ps := [[.slice none 0 0], [.int .i64 0]]) rfl rfl rfl (fun g0 => ?_)
  refine VL.turn (fun w' hw => shutR (parts := []) (why := 0) (p := none) (c := 0) hw Arr.none) ?_
  refine VL.assign rfl ?_
  refine VL.nn ?_
  refine VC.join (X := Nat × List (List UInt8) × Nat) (fun (gl, _, _) => [(2, .pointer (some ⟨g1, 0, none⟩)), (4, .pointer (some ⟨g2, 0, none⟩)), (5, .pointer (some ⟨g46, 0, none⟩)), (6, .pointer (some ⟨gl, 0, none⟩))]) (fun (gl, c0, y0) => Own (⟨w, keys H⟩ :: S) (rch gl c0 y0 :: blk g46 118 pktL (pktV ((Pkt.mk (takeN (openP l) 1) (takeN ((openP l).drop 1) 1) (takeN (((openP l).drop 1).drop 1) 1) [] [] (zeros 64))) none 0 none 0) :: rch g2 (((((openP (l)).drop 1).drop 1).drop 1).drop 1) (nextW ((((openP (l)).drop 1).drop 1).drop 1) (lenW (((openP (l)).drop 1).drop 1) (lenW ((openP (l)).drop 1) (lenW (openP (l)) (openW (l)) 1) 1) 1)) :: blk g1 118 pktL (pktV (pkt0) none 0 none 0) :: H)) (fun (_, c0, y0) => ((nextP ((((openP l).drop 1).drop 1).drop 1)) = [0] ∧ c0 = [] ∧ y0 = 0) ∨ ((nextP ((((openP l).drop 1).drop 1).drop 1)) ≠ [0] ∧ c0 = openP (nextP ((((openP l).drop 1).drop 1).drop 1)) ∧ y0 = openW (nextP ((((openP l).drop 1).drop 1).drop 1)))) (fun hrest => ?_) (fun (gl, c0, y0) hcz => ?_)
  ·skip
   refine VC.sr ?_
   refine VL.move rfl ?_
   refine VL.call Try.func124 rfl (by decide) rfl (fun w' hw => piece_R (i := 2) rfl hw) (fun v => ?_)
   refine VL.at (fun w47 h1w => ?_)
   obtain ⟨p48, c49, rfl, hO51, hA50⟩ := h1w
   replace hO51 := ownSet2 hO51
   replace hA50 := arrSet2 hA50
   refine VL.toOwn hO51 ?_
   refine VL.assign rfl ?_
   refine VL.nn ?_
   refine VC.join (X := Bool) (fun b => [(2, .pointer (some ⟨g1, 0, none⟩)), (4, .pointer (some ⟨g2, 0, none⟩)), (5, .pointer (some ⟨g46, 0, none⟩)), (6, .pointer (some ⟨g0, 0, none⟩)), (7, .slice p48 (nextP ((((openP l).drop 1).drop 1).drop 1)).length c49), (78, .bool b)]) (fun _ => Own (⟨w47, keys (rch g0 [] 0 :: blk g46 118 pktL (pktV ((Pkt.mk (takeN (openP l) 1) (takeN ((openP l).drop 1) 1) (takeN (((openP l).drop 1).drop 1) 1) [] [] (zeros 64))) none 0 none 0) :: rch g2 (((((openP (l)).drop 1).drop 1).drop 1).drop 1) (nextW ((((openP (l)).drop 1).drop 1).drop 1) (lenW (((openP (l)).drop 1).drop 1) (lenW ((openP (l)).drop 1) (lenW (openP (l)) (openW (l)) 1) 1) 1)) :: blk g1 118 pktL (pktV (pkt0) none 0 none 0) :: H)⟩ :: ⟨w, keys H⟩ :: S) (rch g0 [] 0 :: blk g46 118 pktL (pktV ((Pkt.mk (takeN (openP l) 1) (takeN ((openP l).drop 1) 1) (takeN (((openP l).drop 1).drop 1) 1) [] [] (zeros 64))) none 0 none 0) :: rch g2 (((((openP (l)).drop 1).drop 1).drop 1).drop 1) (nextW ((((openP (l)).drop 1).drop 1).drop 1) (lenW (((openP (l)).drop 1).drop 1) (lenW ((openP (l)).drop 1) (lenW (openP (l)) (openW (l)) 1) 1) 1)) :: blk g1 118 pktL (pktV (pkt0) none 0 none 0) :: H)) (fun b => (b = true ↔ ¬ (nextP ((((openP l).drop 1).drop 1).drop 1)) = [0])) (fun hrest => ?_) (fun b2 hbz => ?_)
   ·skip
    by_cases hz : (nextP ((((openP l).drop 1).drop 1).drop 1)) = [0]
    ·have h1p2 : 0 < (nextP ((((openP l).drop 1).drop 1).drop 1)).length := by rw [hz]; decide
     refine VC.region ?_
     refine VL.move rfl ?_
     refine VL.len Try.underlying24 rfl rfl ?_
     refine VL.neq rfl rfl ?_
     refine VL.no (by rw [hz]; decide) ?_
     refine VL.move rfl ?_
     refine VL.go rfl rfl rfl ?_
     refine VL.move rfl ?_
     refine VL.go rfl rfl rfl ?_
     refine VL.index (xs := nextP ((((openP (l)).drop 1).drop 1).drop 1)) rfl rfl Try.underlying24 sz24 hA50 (by omega) (by have hi := h1p2; omega) ?_
     refine VL.go rfl rfl rfl ?_
     refine VL.byte (s := ⟨w47, _⟩) (y := (nextP ((((openP (l)).drop 1).drop 1).drop 1))[0]'h1p2) rfl kd5 (fun _ h => h) (by repeat (first | exact List.mem_cons_self .. | apply List.mem_cons_of_mem)) hA50 (List.getElem?_eq_getElem h1p2) ?_
     refine VL.go rfl rfl rfl ?_
     refine VL.neq rfl rfl ?_
     refine VL.no (zero_at hz h1p2) ?_
     refine VL.pick_f rfl rfl ?_
     refine VL.nil ?_
     exact VX.join hrest false ⟨fun h => absurd h (by decide), fun h => absurd hz h⟩ ⟨rfl, rfl, rfl, rfl, rfl, rfl, trivial⟩ (fun _ h => h.subA)
    ·refine VC.region ?_
     refine VL.move rfl ?_
     refine VL.len Try.underlying24 rfl rfl ?_
     refine VL.neq rfl rfl ?_
     refine VL.case (fun h7_2 => ?_) (fun h7_2 => ?_)
     ·skip
      refine VL.move rfl ?_
      refine VL.pass rfl rfl rfl rfl rfl ?_
      refine VL.pass rfl rfl rfl rfl rfl ?_
      refine VL.pass rfl rfl rfl rfl rfl ?_
      refine VL.pass rfl rfl rfl rfl rfl ?_
      refine VL.pick_t rfl rfl ?_
      refine VL.nil ?_
      exact VX.join hrest true ⟨fun _ => hz, fun _ => rfl⟩ ⟨rfl, rfl, rfl, rfl, rfl, rfl, trivial⟩ (fun _ h => h.subA)
     ·have h1l2 : (nextP ((((openP l).drop 1).drop 1).drop 1)).length = 1 := by omega
      have h1p2 : 0 < (nextP ((((openP l).drop 1).drop 1).drop 1)).length := by omega
      refine VL.move rfl ?_
      refine VL.go rfl rfl rfl ?_
      refine VL.move rfl ?_
      refine VL.go rfl rfl rfl ?_
      refine VL.index (xs := nextP ((((openP (l)).drop 1).drop 1).drop 1)) rfl rfl Try.underlying24 sz24 hA50 (by omega) (by have hi := h1p2; omega) ?_
      refine VL.go rfl rfl rfl ?_
      refine VL.byte (s := ⟨w47, _⟩) (y := (nextP ((((openP (l)).drop 1).drop 1).drop 1))[0]'h1p2) rfl kd5 (fun _ h => h) (by repeat (first | exact List.mem_cons_self .. | apply List.mem_cons_of_mem)) hA50 (List.getElem?_eq_getElem h1p2) ?_
      refine VL.go rfl rfl rfl ?_
      refine VL.neq rfl rfl ?_
      refine VL.yes (nz_at hz h1l2 h1p2) ?_
      refine VL.pick_f rfl rfl ?_
      refine VL.nil ?_
      exact VX.join hrest true ⟨fun _ => hz, fun _ => rfl⟩ ⟨rfl, rfl, rfl, rfl, rfl, rfl, trivial⟩ (fun _ h => h.subA)
   skip
   refine VC.split rfl (fun hc78 => ?_) (fun hc78 => ?_)
   ·refine VC.region ?_
    refine VL.move rfl ?_
    refine VL.call Try.func121 rfl (by decide) rfl (fun w' hw => open_R hw (hA50.nowA (s := ⟨w47, _⟩) Mono.byte hw)) (fun v => ?_)
    refine VL.ex fun g56 => VL.fact fun e57 => ?_
    subst e57
    refine VL.assign rfl ?_
    refine VL.nil ?_
    exact VX.join hrest (g56, openP (nextP ((((openP l).drop 1).drop 1).drop 1)), openW (nextP ((((openP l).drop 1).drop 1).drop 1))) (.inr ⟨hbz.1 hc78, rfl, rfl⟩) ⟨rfl, rfl, rfl, rfl, trivial⟩ (fun _ h => (Own.drop2 h).subA)
   ·refine VC.skip ?_
    exact VX.join hrest (g0, [], 0) (.inl ⟨Classical.not_not.1 (mt hbz.2 (by rw [hc78]; decide)), rfl, rfl⟩) ⟨rfl, rfl, rfl, rfl, trivial⟩ (fun _ h => h.subA)
  refine VC.turn (G' := Own (⟨w, keys H⟩ :: S) (rch gl c0 y0 :: blk g46 118 pktL (pktV ((Pkt.mk (takeN (openP l) 1) (takeN ((openP l).drop 1) 1) (takeN (((openP l).drop 1).drop 1) 1) [] [] (zeros 64))) none 0 none 0) :: rch g2 (((((openP (l)).drop 1).drop 1).drop 1).drop 1) (nextW ((((openP (l)).drop 1).drop 1).drop 1) (lenW (((openP (l)).drop 1).drop 1) (lenW ((openP (l)).drop 1) (lenW (openP (l)) (openW (l)) 1) 1) 1)) :: blk g1 118 pktL (pktV (pkt0) none 0 none 0) :: H)) (fun _ h => h) ?_
  refine VC.join (X := List Object × List (List UInt8) × Nat × Option Nat × Nat) (fun _ => [(2, .pointer (some ⟨g1, 0, none⟩)), (4, .pointer (some ⟨g2, 0, none⟩)), (5, .pointer (some ⟨g46, 0, none⟩)), (6, .pointer (some ⟨gl, 0, none⟩))]) (fun (xs, ps, er, gv, cv) => Own (⟨w, keys H⟩ :: S) (arow 85 101 objectR' Mono_object gv cv xs :: rch gl ps er :: blk g46 118 pktL (pktV ((Pkt.mk (takeN (openP l) 1) (takeN ((openP l).drop 1) 1) (takeN (((openP l).drop 1).drop 1) 1) xs [] (zeros 64))) (gv.map fun g => (⟨g, 0, none⟩ : Addr)) cv none 0) :: rch g2 (((((openP (l)).drop 1).drop 1).drop 1).drop 1) (nextW ((((openP (l)).drop 1).drop 1).drop 1) (lenW (((openP (l)).drop 1).drop 1) (lenW ((openP (l)).drop 1) (lenW (openP (l)) (openW (l)) 1) 1) 1)) :: blk g1 118 pktL (pktV (pkt0) none 0 none 0) :: H)) (fun (xs, ps, er, _, _) => OInv c0 y0 xs ps er ∧ (ps = [] ∨ 4 ≤ xs.length ∨ er ≠ 0)) (fun hrest => ?_) (fun (xs, ps, er, gv, cv) ⟨hinv, hx⟩ => ?_)
  ·skip
   refine VC.block ?_
   refine VC.turn (G' := Own _ (arow 85 101 objectR' Mono_object none 0 ([] : List Object) :: rch gl c0 y0 :: blk g46 118 pktL (pktV ((Pkt.mk (takeN (openP l) 1) (takeN ((openP l).drop 1) 1) (takeN (((openP l).drop 1).drop 1) 1) [] [] (zeros 64))) none 0 none 0) :: rch g2 (((((openP (l)).drop 1).drop 1).drop 1).drop 1) (nextW ((((openP (l)).drop 1).drop 1).drop 1) (lenW (((openP (l)).drop 1).drop 1) (lenW ((openP (l)).drop 1) (lenW (openP (l)) (openW (l)) 1) 1) 1)) :: blk g1 118 pktL (pktV (pkt0) none 0 none 0) :: H)) (fun w' h => newRowO h) ?_
   refine VC.loop (X := List Object × List (List UInt8) × Nat × Option Nat × Nat) (fun _ => [(2, .pointer (some ⟨g1, 0, none⟩)), (4, .pointer (some ⟨g2, 0, none⟩)), (5, .pointer (some ⟨g46, 0, none⟩)), (6, .pointer (some ⟨gl, 0, none⟩))]) (fun (xs, ps, er, gv, cv) w' => OInv c0 y0 xs ps er ∧ Own (⟨w, keys H⟩ :: S) (arow 85 101 objectR' Mono_object gv cv xs :: rch gl ps er :: blk g46 118 pktL (pktV ((Pkt.mk (takeN (openP l) 1) (takeN ((openP l).drop 1) 1) (takeN (((openP l).drop 1).drop 1) 1) xs [] (zeros 64))) (gv.map fun g => (⟨g, 0, none⟩ : Addr)) cv none 0) :: rch g2 (((((openP (l)).drop 1).drop 1).drop 1).drop 1) (nextW ((((openP (l)).drop 1).drop 1).drop 1) (lenW (((openP (l)).drop 1).drop 1) (lenW ((openP (l)).drop 1) (lenW (openP (l)) (openW (l)) 1) 1) 1)) :: blk g1 118 pktL (pktV (pkt0) none 0 none 0) :: H) w') (fun (_, ps, _) => ps.length) ([], c0, y0, none, 0) ⟨rfl, rfl, rfl, rfl, trivial⟩ (fun w' h => ⟨OInv.start _ _, h.subA⟩) (fun (xs, ps, er, gv, cv) => VC.fact fun hinv => ?_)
   ·have hxs := hinv.1
    refine VC.seq ?_
    refine VC.sr ?_
    refine VL.move rfl ?_
    refine VL.nilCheck rfl ?_
    refine VL.fieldAddr rfl fo196_0 rfl ?_
    refine loadParts 1 rfl rfl (fun p58 c59 w60 hO61 hA62 => ?_)
    refine VL.len Try.underlying31 rfl rfl ?_
    refine VL.gtr rfl rfl ?_
    refine VL.case (fun h9_5 => ?_) (fun h9_5 => ?_)
    ·obtain ⟨pc, rest, rfl⟩ : ∃ pc rest, ps = pc :: rest := by
      cases ps with
      | nil => exact absurd h9_5 (by simp)
      | cons a b => exact ⟨a, b, rfl⟩
     refine VL.move rfl ?_
     refine VL.go rfl rfl rfl ?_
     refine VL.fieldAddr rfl fo118_3 rfl ?_
     refine VL.go rfl rfl rfl ?_
     refine VL.load (v := .slice (gv.map fun g => (⟨g, 0, none⟩ : Addr)) (xs).length cv) 2 3 rfl kd116 (fun _ h => h) rfl rfl rfl ?_
     refine VL.go rfl rfl rfl ?_
     refine VL.len Try.underlying116 rfl rfl ?_
     refine VL.go rfl rfl rfl ?_
     refine VL.lss rfl rfl ?_
     refine VL.case (fun h9_10 => ?_) (fun h9_10 => ?_)
     ·have h9_10 : xs.length < 4 := by have h : ((xs.length : Nat) : Int) < 4 := h9_10; omega
      refine VL.pick_t rfl rfl ?_
      refine VL.move rfl ?_
      refine VL.go rfl rfl rfl ?_
      refine VL.move rfl ?_
      refine VL.go rfl rfl rfl ?_
      refine VL.nilCheck rfl ?_
      refine VL.go rfl rfl rfl ?_
      refine VL.fieldAddr rfl fo196_1 rfl ?_
      refine VL.go rfl rfl rfl ?_
      refine loadWhy 1 rfl (fun _ h => h) rfl ?_
      refine VL.go rfl rfl rfl ?_
      refine VL.eql rfl rfl ?_
      refine VL.case (fun h9_17 => ?_) (fun h9_17 => ?_)
      ·have her : er = 0 := by omega
       refine VL.pick_t rfl rfl ?_
       refine VL.nn ?_
       refine VC.yes rfl ?_
       refine VC.skip ?_
       refine VX.next ?_
       refine VC.block ?_
       refine VC.sr ?_
       refine VL.move rfl ?_
       refine VL.call Try.func124 rfl (by decide) rfl (fun w' hw => piece_R (i := 1) rfl hw) (fun v => ?_)
       refine VL.at (fun w63 h1w => ?_)
       obtain ⟨p64, c65, rfl, hO67, hA66⟩ := h1w
       replace hO67 := ownSet1 hO67
       replace hA66 := arrSet1 hA66
       refine VL.toOwn hO67 ?_
       refine VL.call Try.func71 rfl (by decide) rfl (fun w' hw => getObject_w hw (hA66.nowA (s := ⟨w63, _⟩) Mono.byte hw)) (fun v => ?_)
       refine VL.at (fun w68 h1w => ?_)
       obtain ⟨p70, c71, rfl, hO69, hA72⟩ := h1w
       refine VL.toOwn hO69 ?_
       refine VL.move rfl ?_
       refine VL.extract rfl rfl ?_
       refine VL.extract rfl rfl ?_
       refine VL.alloc (L := objectL) (ps := (objectV (object0) none 0)) zero85 rfl rfl (fun g73 => ?_)
       refine VL.store (L := objectL) (qs := (objectV (((objectR pc).getD object0)) p70 c71)) (ps' := (objectV (((objectR pc).getD object0)) p70 c71)) 0 0 7 rfl rfl rfl (.inl kd85) rfl rfl (objectV_len (objectR_ok pc)) (objectV_ok1 (((objectR pc).getD object0)) p70 c71) rfl rfl ?_
       refine VL.set0 ?_
       refine VL.assign rfl ?_
       refine VL.nn ?_
       refine VC.sr ?_
       refine VL.move rfl ?_
       refine VL.move rfl ?_
       refine VL.call Try.func125 rfl (by decide) rfl (fun w' hw => fail_R (i := 2) rfl hw (if (objectR pc).isSome then 0 else 141)) (fun v => ?_)
       refine VL.fact fun e74 => ?_
       subst e74
       refine VL.set2 ?_
       refine VL.nn ?_
       have hxs2 : ∀ x ∈ xs ++ [((objectR pc).getD object0)], x.ok := fun x hx => (List.mem_append.1 hx).elim (hxs x) (fun h => by rw [List.mem_singleton] at h; subst h; exact objectR_ok pc)
       refine VC.region ?_
       refine VL.fieldAddr rfl fo118_3 rfl ?_
       refine VL.load (v := .slice (gv.map fun g => (⟨g, 0, none⟩ : Addr)) (xs).length cv) 3 3 rfl kd116 (fun _ h => h) rfl rfl rfl ?_
       refine VL.loads (cs := cat (objectV (((objectR pc).getD object0)) p70 c71)) 0 0 7 rfl kd85 (fun _ h => h) rfl rfl rfl rfl ?_
       refine VL.lit el116 rfl rfl rfl (by intro v hv; simp only [List.mem_singleton] at hv; subst hv; show (cat (objectV ((objectR pc).getD object0) p70 c71)).toArray.size = 101; rw [List.size_toArray, cat_size (objectV_len (objectR_ok pc))]; rfl) (by rw [show [Value.agg (cat (objectV ((objectR pc).getD object0) p70 c71)).toArray].flatMap (·.cells.toList) = (cat (objectV ((objectR pc).getD object0) p70 c71)) by simp [Value.cells]]; exact objectV_ok1 _ _ _) (fun gz => ?_)
       refine VL.letRow objectR' [((objectR pc).getD object0)] rfl (fun w' hw => one_object (objectR_ok pc) (hA72.nowA (s := ⟨w68, _⟩) Mono_vouch hw)) (fun wl hOl hAl => ?_)
       refine VL.appends (R := objectR') (hR := Mono_object) (ys := xs) (zs := [((objectR pc).getD object0)]) 1 el116 rfl rfl rfl (fun _ h => h) rfl (fun _ hw => (hAl.nowA (s := ⟨wl, _⟩) Mono_object hw)) objectR'_ok1 (by simp only [List.length_cons, List.length_nil]; omega) (fun gv2 cv2 => ?_) (by simp only [List.length_cons, List.length_nil]; omega)
       refine VL.set1 ?_
       refine VL.fieldAddr rfl fo118_3 rfl ?_
       refine VL.store (L := pktL) (qs := [[rowV gv2 (xs ++ [((objectR pc).getD object0)]).length cv2]]) (ps' := (pktV ((Pkt.mk (takeN (openP l) 1) (takeN ((openP l).drop 1) 1) (takeN (((openP l).drop 1).drop 1) 1) (xs ++ [((objectR pc).getD object0)]) [] (zeros 64))) (gv2.map fun g => (⟨g, 0, none⟩ : Addr)) cv2 none 0)) 3 3 1 rfl rfl rfl (.inr ⟨kd116, rfl⟩) rfl rfl rfl (by intro u hu; simp [cat] at hu; subst hu; rfl) rfl rfl ?_
       refine VL.set3 ?_
       refine VL.nil ?_
       refine VX.block_normal ?_
       subst her
       obtain rfl : y0 = 0 := by
        rcases hinv.2.2 with ⟨e, _⟩ | ⟨e, _⟩
        ·exact e.symm
        ·cases e
       refine VX.round (xs ++ [((objectR pc).getD object0)], rest, (if (objectR pc).isSome then 0 else 141), gv2, cv2) ⟨rfl, rfl, rfl, rfl, trivial⟩ (fun w' h => ⟨hinv.step h9_10, (h.drop).subA⟩) (by show rest.length < (pc :: rest).length; simp)
      ·have h9_17 : er ≠ 0 := by omega
       refine VL.pick_t rfl rfl ?_
       refine VL.nn ?_
       refine VC.no rfl ?_
       refine VC.exit ?_
       refine VX.then_exit ?_
       refine VX.then_exit ?_
       refine VX.block_here ?_
       exact VX.join hrest (xs, (pc :: rest), er, gv, cv) ⟨hinv, .inr (.inr h9_17)⟩ ⟨rfl, rfl, rfl, rfl, trivial⟩ (fun _ h => h.subA)
     ·have h9_10 : 4 ≤ xs.length := by have h : ¬ ((xs.length : Nat) : Int) < 4 := h9_10; omega
      refine VL.pick_t rfl rfl ?_
      refine VL.move rfl ?_
      refine VL.pass rfl rfl rfl rfl rfl ?_
      refine VL.pass rfl rfl rfl rfl rfl ?_
      refine VL.pass rfl rfl rfl rfl rfl ?_
      refine VL.pass rfl rfl rfl rfl rfl ?_
      refine VL.pass rfl rfl rfl rfl rfl ?_
      refine VL.pick_f rfl rfl ?_
      refine VL.nn ?_
      refine VC.no rfl ?_
      refine VC.exit ?_
      refine VX.then_exit ?_
      refine VX.then_exit ?_
      refine VX.block_here ?_
      exact VX.join hrest (xs, (pc :: rest), er, gv, cv) ⟨hinv, .inr (.inl h9_10)⟩ ⟨rfl, rfl, rfl, rfl, trivial⟩ (fun _ h => h.subA)
    ·obtain rfl : ps = [] := List.eq_nil_of_length_eq_zero (by omega)
     refine VL.move rfl ?_
     refine VL.pass rfl rfl rfl rfl rfl ?_
     refine VL.pass rfl rfl rfl rfl rfl ?_
     refine VL.pass rfl rfl rfl rfl rfl ?_
     refine VL.pass rfl rfl rfl rfl rfl ?_
     refine VL.pick_f rfl rfl ?_
     refine VL.move rfl ?_
     refine VL.pass rfl rfl rfl rfl rfl ?_
     refine VL.pass rfl rfl rfl rfl rfl ?_
     refine VL.pass rfl rfl rfl rfl rfl ?_
     refine VL.pass rfl rfl rfl rfl rfl ?_
     refine VL.pass rfl rfl rfl rfl rfl ?_
     refine VL.pick_f rfl rfl ?_
     refine VL.nn ?_
     refine VC.no rfl ?_
     refine VC.exit ?_
     refine VX.then_exit ?_
     refine VX.then_exit ?_
     refine VX.block_here ?_
     exact VX.join hrest (xs, [], er, gv, cv) ⟨hinv, .inl rfl⟩ ⟨rfl, rfl, rfl, rfl, trivial⟩ (fun _ h => h.subA)
  refine VC.turn (G' := Own (⟨w, keys H⟩ :: S) (arow 85 101 objectR' Mono_object gv cv xs :: rch gl ps er :: blk g46 118 pktL (pktV ((Pkt.mk (takeN (openP l) 1) (takeN ((openP l).drop 1) 1) (takeN (((openP l).drop 1).drop 1) 1) xs [] (zeros 64))) (gv.map fun g => (⟨g, 0, none⟩ : Addr)) cv none 0) :: rch g2 (((((openP (l)).drop 1).drop 1).drop 1).drop 1) (nextW ((((openP (l)).drop 1).drop 1).drop 1) (lenW (((openP (l)).drop 1).drop 1) (lenW ((openP (l)).drop 1) (lenW (openP (l)) (openW (l)) 1) 1) 1)) :: blk g1 118 pktL (pktV (pkt0) none 0 none 0) :: H)) (fun _ h => h) ?_
  have hxs := hinv.1
  refine VC.seq ?_
  refine VC.letArr (fun wr hOr hAr => ?_)
  refine VC.region ?_
  refine VL.move rfl ?_
  refine VL.move rfl ?_
  refine VL.call Try.func126 rfl (by decide) rfl (fun w' hw => end_R (i := 0) rfl hw) (fun v => ?_)
  refine VL.fact fun e75 => ?_
  subst e75
  refine VL.set0 ?_
  refine VL.call Try.func125 rfl (by decide) rfl (fun w' hw => fail_R (i := 2) rfl hw (endW ps er)) (fun v => ?_)
  refine VL.fact fun e76 => ?_
  subst e76
  refine VL.set2 ?_
  refine VL.nn ?_
  refine VC.sr ?_
  refine VL.move rfl ?_
  refine VL.call Try.func124 rfl (by decide) rfl (fun w' hw => piece_R (i := 2) rfl hw) (fun v => ?_)
  refine VL.at (fun w77 h1w => ?_)
  obtain ⟨p78, c79, rfl, hO81, hA80⟩ := h1w
  replace hO81 := ownSet2 hO81
  replace hA80 := arrSet2 hA80
  refine VL.toOwn hO81 ?_
  refine VL.move rfl ?_
  refine VL.call Try.func131 rfl (by decide) rfl (fun w' hw => sig_R (i := 2) rfl hw) (fun v => ?_)
  refine VL.fact fun e82 => ?_
  subst e82
  refine VL.set2 ?_
  refine VL.fieldAddr rfl fo118_4 rfl ?_
  refine VL.store (L := pktL) (qs := [[.slice p78 (nextP (((((openP (l)).drop 1).drop 1).drop 1).drop 1)).length c79]]) 1 4 1 rfl rfl rfl (.inr ⟨kd24, rfl⟩) rfl rfl rfl (by intro u hu; simp [cat] at hu; subst hu; rfl) rfl rfl ?_
  refine VL.set1 ?_
  refine VL.fieldAddr rfl fo118_5 rfl ?_
  refine VL.store (L := pktL) (qs := [(takeB 64 ((((((openP (l)).drop 1).drop 1).drop 1).drop 1).drop 1)).map bv]) 1 5 1 rfl rfl rfl (.inl kd80) rfl rfl (arr_len (takeB_length ((((((openP (l)).drop 1).drop 1).drop 1).drop 1).drop 1) 64)) (ok1_bytes _) rfl rfl ?_
  refine VL.set1 ?_
  refine VL.nn ?_
  refine VC.seq ?_
  refine VC.sr ?_
  refine VL.move rfl ?_
  refine VL.call Try.func126 rfl (by decide) rfl (fun w' hw => end_R (i := 2) rfl hw) (fun v => ?_)
  refine VL.fact fun e83 => ?_
  subst e83
  refine VL.set2 ?_
  refine VL.assign rfl ?_
  refine VL.nn ?_
  refine VC.sr ?_
  refine VL.move rfl ?_
  refine VL.neq rfl rfl ?_
  refine VL.case (fun h16_1 => ?_) (fun h16_1 => ?_)
  ·skip
   refine VL.nn ?_
   refine VC.yes rfl ?_
   refine VC.sr ?_
   refine VL.build0 (cs := cat (pktV (pkt0) none 0 none 0)) built118 ?_
   refine VL.store (L := pktL) (qs := (pktV (pkt0) none 0 none 0)) (ps' := (pktV (pkt0) none 0 none 0)) 3 0 6 rfl rfl rfl (.inl kd118) rfl rfl rfl (pktV_ok1 pkt0 none 0 none 0) rfl rfl ?_
   refine VL.set3 ?_
   refine VL.assign rfl ?_
   refine VL.nn ?_
   refine VC.ret ?_
   refine VX.then_ret ?_
   refine VX.ret_cell (cs := cat (pktV (pkt0) none 0 none 0)) 3 rfl rfl rfl kd118 (fun _ h => h) rfl rfl (fun we hw => ?_)
   obtain ⟨hce, hci⟩ := chain_end hcz hinv hx
   have hpw := pkt_why l hnb
   rw [← hce] at hpw
   obtain ⟨e1, _⟩ := why_none h16_1 hpw
   have e2 : pktW l = 141 := by rw [pktW_good hnb, e1]; rfl
   exact ⟨none, 0, none, 0, by rw [e1]; exact congrArg (fun n : Nat => Value.tuple #[_, .int .i64 (n : Int)]) (e2).symm, hw.drop.drop.drop.drop.subA, by rw [e1]; exact Arr.none, by rw [e1]; exact Arr.none⟩
  ·skip
   refine VL.nn ?_
   refine VC.no rfl ?_
   refine VC.skip ?_
   refine VX.next ?_
   refine VC.sr ?_
   refine VL.loads (cs := cat (pktV ((pktOf (openP l) xs)) (gv.map fun g => (⟨g, 0, none⟩ : Addr)) cv p78 c79)) 1 0 6 rfl kd118 (fun _ h => h) rfl rfl rfl rfl ?_
   refine VL.store (L := pktL) (qs := (pktV ((pktOf (openP l) xs)) (gv.map fun g => (⟨g, 0, none⟩ : Addr)) cv p78 c79)) (ps' := (pktV ((pktOf (openP l) xs)) (gv.map fun g => (⟨g, 0, none⟩ : Addr)) cv p78 c79)) 3 0 6 rfl rfl rfl (.inl kd118) rfl rfl (pktV_len ((⟨takeN_lt _ 1, takeN_lt _ 1, takeN_lt _ 1, hxs, takeB_length _ _⟩ : Pkt.ok (pktOf (openP l) xs)))) (pktV_ok1 ((pktOf (openP l) xs)) (gv.map fun g => (⟨g, 0, none⟩ : Addr)) cv p78 c79) rfl rfl ?_
   refine VL.set3 ?_
   refine VL.assign rfl ?_
   refine VL.nn ?_
   refine VC.ret ?_
   refine VX.ret_cell (cs := cat (pktV ((pktOf (openP l) xs)) (gv.map fun g => (⟨g, 0, none⟩ : Addr)) cv p78 c79)) 3 rfl rfl rfl (by rw [cat_size (pktV_len ((⟨takeN_lt _ 1, takeN_lt _ 1, takeN_lt _ 1, hxs, takeB_length _ _⟩ : Pkt.ok (pktOf (openP l) xs))))]; exact kd118) (fun _ h => h) rfl rfl (fun we hw => ?_)
   obtain ⟨hce, hci⟩ := chain_end hcz hinv hx
   have hpw := pkt_why l hnb
   rw [← hce] at hpw
   obtain ⟨y, e1⟩ := why_some h16_1 hpw
   have e2 : pktW l = 0 := by rw [pktW_good hnb, e1]; rfl
   have e3 := pkt_is e1 hci
   rw [e1, e2, e3]
   exact ⟨_, _, _, _, rfl, hw.drop.drop.drop.drop.subA, (hAr.nowA (s := ⟨wr, _⟩) Mono_object hw.drop.drop.drop.drop), (hA80.nowA (s := ⟨w77, _⟩) Mono.byte hw.drop.drop.drop.drop)⟩

end Go.Proofs.Ytcfecmoagfgnaaa

/- The rules of the walks, continued: a region whose order is open, in which memory is made behind the operation that turns what is owned. -/
namespace Go.Vc
section
variable {P : Program} {n : Nat} {Q : Exit → Act → World → Prop} {ops : Array Oper} {S : List Snap} {H H' : List Chunk}
/-- How worlds may turn: ahead of that operation; behind it nothing that is there turns. -/
def Turn2 (K : List Nat) : Bool → World → World → Prop
  | false, w, w' => Snap.ok ⟨w, K⟩ w'
  | true, w, w' => Snap.ok ⟨w, []⟩ w'
theorem Turn2.rfl_ {K : List Nat} {ph : Bool} {w : World} : Turn2 K ph w w := by cases ph <;> exact Snap.ok_refl _ _
theorem okNil {w w' : World} (h : Snap.ok ⟨w, []⟩ w') (K : List Nat) : Snap.ok ⟨w, K⟩ w' := ⟨h.os, h.tape, h.output, h.size, fun k hk _ => h.block k hk (by simp)⟩
theorem fact_stays2 {K : List Nat} (F : List (SFact K)) (hg : ∀ f ∈ F, f.late = true → ∀ v w w', Snap.ok ⟨w, []⟩ w' → f.f v w → f.f v w') : ∀ ph i v w w', Turn2 K ph w w' → (lateOf F i = true → ph = true) → factOf (F.map (·.f)) i v w → factOf (F.map (·.f)) i v w' := by
 intro ph i v w w' hs hl h
 unfold factOf at h ⊢
 rw [List.getElem?_map] at h ⊢
 cases hf : F[i]? with
 | none => trivial
 | some f =>
  simp [hf, lateOf] at h hl ⊢
  cases hfl : f.late with
  | true =>
   have := hl hfl
   subst this
   exact hg f (List.mem_of_getElem? hf) hfl v w w' hs h
  | false =>
   cases ph with
   | true => exact f.st hfl v w w' (okNil hs K) h
   | false => exact f.st hfl v w w' hs h
theorem obS2 {kk : Nat} {F : List (SFact (keys H))} {σ : Sl} {i : Nat} {I : Ins} {o : Oper} (hok : insOk ops i I = true) (hn : decide ((I.pre.map (·.1)).Nodup) = true) (hk : Nat.beq i kk = false)
  (h : ∀ ph w0, Still S H ph w0 → EachV F w0 I.pre [] (fun τ => VL P n ops (Post n Q (Still S H) (Turn2 (keys H)) (factOf (F.map (·.f)) i) o.dst ph ph w0) [o] (τ ++ only σ I.bas) (fun w => w = w0))) :
  Ob P n ops Q (Still S H) (Turn2 (keys H)) kk (F.map (·.f)) σ i I o :=
 ⟨hok, fun ph w0 vals hJ _ _ _ _ hF => by
  have h1 := EachV.spec I.pre [] _ (h ph w0 hJ) hF
  intro a w ha hw
  have h2 := h1 a w (ha.back (of_decide_eq_true hn)) hw
  have e : (ph || Nat.beq i kk) = ph := by rw [hk, Bool.or_false]
  rw [e]
  exact h2⟩
theorem obK2 {kk : Nat} {F : List (SFact (keys H))} {σ : Sl} {I : Ins} {o : Oper} (hok : insOk ops kk I = true) (hn : decide ((I.pre.map (·.1)).Nodup) = true)
  (h : ∀ w0, Own S H w0 → EachV F w0 I.pre [] (fun τ => VL P n ops (Post n Q (Still S H) (Turn2 (keys H)) (factOf (F.map (·.f)) kk) o.dst false true w0) [o] (τ ++ only σ I.bas) (fun w => w = w0))) :
  Ob P n ops Q (Still S H) (Turn2 (keys H)) kk (F.map (·.f)) σ kk I o :=
 ⟨hok, fun ph w0 vals hJ h1 _ _ _ hF => by
  have hp : ph = false := h1 rfl
  subst hp
  have h1 := EachV.spec I.pre [] _ (h w0 hJ) hF
  intro a w ha hw
  have h2 := h1 a w (ha.back (of_decide_eq_true hn)) hw
  rw [Nat.beq_refl]
  exact h2⟩
/-- It waits for that operation. -/
theorem obA2 {kk : Nat} {F : List (SFact (keys H))} {σ : Sl} {i : Nat} {I : Ins} {o : Oper} (hok : insOk ops i I = true) (hn : decide ((I.pre.map (·.1)).Nodup) = true) (hk : waits o kk = true)
  (h : ∀ w0, Still S H true w0 → EachV F w0 I.pre [] (fun τ => VL P n ops (Post n Q (Still S H) (Turn2 (keys H)) (factOf (F.map (·.f)) i) o.dst true true w0) [o] (τ ++ only σ I.bas) (fun w => w = w0))) :
  Ob P n ops Q (Still S H) (Turn2 (keys H)) kk (F.map (·.f)) σ i I o :=
 ⟨hok, fun ph w0 vals hJ _ _ _ h4 hF => by
  have hp : ph = true := h4 hk
  subst hp
  have h1 := EachV.spec I.pre [] _ (h w0 hJ) hF
  intro a w ha hw
  exact h1 a w (ha.back (of_decide_eq_true hn)) hw⟩
theorem VL.finS2 {f : Fact} {d : Nat} {ph : Bool} {w0 : World} {σ : Sl} {v : Value} (hO : Still S H ph w0) (hv : look σ d = some v) (h : f v w0) :
  VL P n ops (Post n Q (Still S H) (Turn2 (keys H)) f (some d) ph ph w0) [] σ (fun w => w = w0) :=
 VL.fin hv fun w e => by subst e; exact ⟨h, Turn2.rfl_, hO⟩
theorem VL.finK2 {f : Fact} {d : Nat} {w0 : World} {σ : Sl} {v : Value} (hv : look σ d = some v) {G : World → Prop} (hG : ∀ w, G w → Own (⟨w0, keys H⟩ :: S) H' w) (h : ∀ w, G w → f v w) :
  VL P n ops (Post n Q (Still S H) (Turn2 (keys H)) f (some d) false true w0) [] σ G :=
 VL.fin hv fun w hw => ⟨h w hw, ((hG w hw).after (List.mem_cons_self ..)).1, fun s hs => ((hG w hw).snap s (List.mem_cons_of_mem _ hs)).1⟩
theorem Snap.ok_trans {s : Snap} {w w' : World} (h : s.ok w) (h2 : Snap.ok ⟨w, []⟩ w') : s.ok w' :=
 ⟨h2.os.trans h.os, h2.tape.trans h.tape, h2.output.trans h.output, Nat.le_trans h.size h2.size, fun k hk hk2 => (h2.block k (Nat.lt_of_lt_of_le hk h.size) (by simp)).trans (h.block k hk hk2)⟩
theorem VL.finA2 {f : Fact} {d : Nat} {w0 : World} {σ : Sl} {v : Value} (hO : Still S H true w0) (hv : look σ d = some v) {G : World → Prop} (hG : ∀ w, G w → Snap.ok ⟨w0, []⟩ w) (h : ∀ w, G w → f v w) :
  VL P n ops (Post n Q (Still S H) (Turn2 (keys H)) f (some d) true true w0) [] σ G :=
 VL.fin hv fun w hw => ⟨h w hw, hG w hw, fun s hs => Snap.ok_trans (hO s hs) (hG w hw)⟩
theorem VC.anyT2 {id : Nat} {l : List Oper} {σ : Sl} (m kk : Nat) (F : List (SFact (keys H))) (hgr : ∀ f ∈ F, f.late = true → ∀ v w w', Snap.ok ⟨w, []⟩ w' → f.f v w → f.f v w') (Is : List Ins) (outs : List (Nat × Nat)) (bas : List Nat)
  (hmix : P.follows .mixedOrders = true) (hp : plainRegion l.toArray = true) (htl : tailed l.toArray m = true) (hkm : Nat.blt kk m = true) (hml : Nat.ble m l.length = true)
  (hlate : (F.zipIdx.all fun (f, i) => !f.late || Nat.beq i kk || match l[i]? with | some o => waits o kk | none => true) = true)
  (houts : outs.all (fun (d, j) => Nat.blt j m && match l[j]? with | some p => (match p.dst with | some d' => Nat.beq d d' | none => false) | none => false) = true)
  (hbas : bas.all (fun t => (l.take m).all fun p => match p.dst with | some d => !Nat.beq d t | none => true) = true) (hn : decide ((outs.map (·.1)).Nodup) = true)
  (hobs : Obs P n l.toArray Q (Still S H) (Turn2 (keys H)) kk (F.map (·.f)) σ 0 Is (l.take m))
  (hend : ∀ w0, Still S H true w0 → EachV F w0 outs [] (fun τ => VL P n l.toArray Q (l.drop m) (τ ++ only σ bas) (fun w => w = w0))) :
  VC P n Q (.region id l.toArray true) σ (Own S H) :=
 VC.anyT (Still S H) (Turn2 (keys H)) m kk (F.map (·.f)) Is outs bas hmix hp htl (by left; simp [Nat.blt, Nat.ble_eq] at hkm; omega) (by simpa [Nat.ble_eq] using hml) (fun _ h => h.drew) (lateOf F) (fun i o hi hl => by
  unfold lateOf at hl
  cases hf : F[i]? with
  | none => simp [hf] at hl
  | some f =>
   simp only [hf] at hl
   have h1 := List.all_eq_true.1 hlate (f, i) (by rw [List.mem_zipIdx_iff_getElem?]; simpa using hf)
   simp only [hl, hi, Bool.not_true, Bool.false_or, Bool.or_eq_true] at h1
   rcases h1 with h1 | h1
   ·exact .inl (Nat.eq_of_beq_eq_true h1)
   ·exact .inr h1) (fact_stays2 F hgr) houts hbas hobs (fun vals a w ha ⟨h1, h2⟩ => (hend w (by rw [hkm] at h2; exact h2)).spec outs [] _ h1 a w (ha.back (of_decide_eq_true hn)) rfl)

/-- What is owned stays where nothing that is there turns. -/
theorem Own.later {w w' : World} (h : Own S H w) (hs : Snap.ok ⟨w, []⟩ w') : Own S H w' := by
 have := Own.grow (A := []) h hs.os hs.tape hs.output hs.size (fun k hk => hs.block k hk (by simp)) (by simp [keys]) (by simp [keys]) (by simp)
 simpa using this
/-- Blocks that are as they were. -/
def memo (w0 : World) (ks : List Nat) : Chunk := ⟨ks, fun _ w => ∀ k ∈ ks, w.heap[k]? = w0.heap[k]?, fun _ _ w w' h _ _ hφ k hk => by rw [h k hk]; exact hφ k hk⟩
theorem keys_memo (w0 : World) (ks : List Nat) : keys [memo w0 ks] = ks := by simp [keys, memo]
theorem Own.memo {w : World} (h : Own S H w) : Own [⟨w, keys H⟩] [Vc.memo w (keys H)] w :=
 ⟨by rw [keys_memo]; exact h.nodup, by rw [keys_memo]; exact h.lt, fun c hc => by
  rw [List.mem_singleton] at hc
  subst hc
  exact fun _ _ => rfl, fun s hs => by
  rw [List.mem_singleton] at hs
  subst hs
  exact ⟨Snap.ok_refl _ _, fun k hk => .inl (by rw [keys_memo] at hk; exact hk)⟩⟩
theorem grown {w w' : World} {ks : List Nat} (h : Own [⟨w, ks⟩] [Vc.memo w ks] w') : Snap.ok ⟨w, []⟩ w' := by
 obtain ⟨h1, _⟩ := h.snap ⟨w, ks⟩ (by simp)
 have h2 : ∀ k ∈ ks, w'.heap[k]? = w.heap[k]? := h.holds (Vc.memo w ks) (by simp)
 exact ⟨h1.os, h1.tape, h1.output, h1.size, fun k hk _ => by
  by_cases hm : k ∈ ks
  ·exact h2 k hm
  ·exact h1.block k hk hm⟩
/-- A slice of bytes in a block of bytes. -/
def BytesT (K : List Nat) (w : World) (p : Option Addr) (l : List UInt8) (c : Nat) : Prop := Bytes K w p l c ∧ (0 < c → ∀ a, p = some a → ∃ cs fr, w.heap[a.block]? = some (.cells cs 5 fr))
def bytesTF {K : List Nat} (l : List UInt8) : SFact K :=
  ⟨fun v w => ∃ p c, v = .slice p l.length c ∧ BytesT K w p l c, false, fun _ v w w' hs ⟨p, c, e, h1, h2⟩ => ⟨p, c, e, Arr.after (s := ⟨w, K⟩) h1 Mono.byte ⟨hs, fun _ hk => .inl hk⟩, fun hc a ea => by
    obtain ⟨cs, fr, h3⟩ := h2 hc a ea
    obtain ⟨_, h4, h5, _⟩ := h1.at_ a ea hc
    exact ⟨cs, fr, (hs.block _ h5 h4).trans h3⟩⟩⟩
/-- It lies apart from a row of something else. -/
theorem BytesT.apart {w : World} {X : Type} {R : Rel X} {hR : Mono R} {e : TypeId} {sz : Nat} {g : Option Nat} {c c' : Nat} {ys : List X} {p : Option Addr} {l : List UInt8} (h : BytesT (keys H) w p l c) (ho : Own S (arow e sz R hR g c' ys :: H) w) (he : e ≠ 5) : Bytes (keys (arow e sz R hR g c' ys :: H)) w p l c := by
 obtain ⟨h1, h2⟩ := h
 obtain ⟨a1, a2, a3, a4⟩ := h1
 refine ⟨a1, a2, a3, fun a ea hc => ?_⟩
 obtain ⟨b1, b2, b3, b4⟩ := a4 a ea hc
 refine ⟨b1, ?_, b3, b4⟩
 rw [keys_cons, List.mem_append]
 rintro (hk | hk)
 ·have hg : g = some a.block := by simpa [arow] using hk
  subst hg
  obtain ⟨_, ⟨hrow, _⟩, _⟩ := ho.holds (arow e sz R hR (some a.block) c' ys) (by simp)
  rcases hrow.2 with ⟨e1, _⟩ | ⟨g1, cap1, cur, e1, _, e3, _⟩
  ·simp [rowV] at e1
  ·simp [rowV] at e1
   obtain ⟨rfl, rfl⟩ := e1
   obtain ⟨cs, fr, h3⟩ := h2 hc a ea
   rw [e3] at h3
   cases h3
   exact he rfl
 ·exact b2 hk
end
end Go.Vc

