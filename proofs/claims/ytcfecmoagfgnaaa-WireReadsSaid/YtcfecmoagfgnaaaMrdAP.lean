/- The statement WireReads is proved, for every input: part 16 of 27 of the texts that it needs. -/
import Derived.Test.YtcfecmoagfgnaaaMrdAO
/- wire: what bytes are read as: packets. -/
namespace Go.Proofs.Ytcfecmoagfgnaaa
open Go.Vc Go.Pl

theorem Own.drop2 {S : List Snap} {a b : Chunk} {H : List Chunk} {w : World} (h : Own S (a :: b :: H) w) : Own S (a :: H) w := Own.drop (c := b) (h.perm (List.Perm.swap a b H))
theorem third_is {ps : List (List UInt8)} (h : 2 < ps.length) : nextP (at2 ps) = ps[2]'h := by
 match ps, h with
 | a :: b :: c :: r, _ => rfl
theorem num_one {l : List UInt8} (h : l.length = 1) (h0 : 0 < l.length) : num l = (l[0]'h0).toNat := by
 match l, h with
 | [b], _ => simp [num]
theorem kb_why {l : List UInt8} (h : openW l ≠ 0) : ¬ kindBad (openP l) := by
 rcases openW_cases l with ⟨h1, _⟩ | ⟨_, h1⟩
 ·rw [h1]; intro h; exact absurd h.1 (by decide)
 ·exact absurd h1 h
theorem kb_short {ps : List (List UInt8)} (h : ¬ 2 < ps.length) : ¬ kindBad ps := fun hb => h hb.1
theorem kb_len {ps : List (List UInt8)} (h : 2 < ps.length) (h1 : (ps[2]'h).length ≠ 1) : ¬ kindBad ps := fun hb => h1 (by rw [← third_is h]; exact hb.2.1)
theorem kb_iff {ps : List (List UInt8)} (h : 2 < ps.length) (h1 : (ps[2]'h).length = 1) (h0 : 0 < (ps[2]'h).length) : kindBad ps ↔ kindIn (((ps[2]'h)[0]'h0).toNat) = false := by
 unfold kindBad
 rw [third_is h, num_one h1 h0]
 exact ⟨fun hb => hb.2.2, fun hb => ⟨h, h1, hb⟩⟩
theorem kindIn_no {k : Nat} (h : k < 1 ∨ 4 < k) : kindIn k = false := by unfold kindIn; rw [Bool.and_eq_false_iff]; rcases h with h | h <;> simp <;> omega
theorem zero_at {l : List UInt8} (hz : l = [0]) (h : 0 < l.length) : ¬ (((l[0]'h).toNat : Nat) : Int) ≠ 0 := by subst hz; simp
theorem nz_at {l : List UInt8} (hz : l ≠ [0]) (hl : l.length = 1) (h : 0 < l.length) : (((l[0]'h).toNat : Nat) : Int) ≠ 0 := by
 match l, hl with
 | [b], _ =>
  intro e
  refine hz ?_
  have e : b.toNat = 0 := by have e : ((b.toNat : Nat) : Int) = 0 := e; omega
  rw [show b = 0 from UInt8.toNat.inj e]

theorem getPkt_w {S : List Snap} {H : List Chunk} {w : World} (ho : Own S H w) {p : Option Addr} {l : List UInt8} {c : Nat} (hA : Bytes (keys H) w p l c) : Calls Try.prog 81 #[.slice p l.length c] w (Ret fun v w' => ∃ q d p c, v = .tuple #[.agg (cat (pktV ((pktR l).getD pkt0) q d p c)).toArray, .int .i64 ((pktW l : Nat) : Int)] ∧ Own S H w' ∧ Arr 101 objectR' (keys H) w' q ((pktR l).getD pkt0).chain d ∧ Bytes (keys H) w' p ((pktR l).getD pkt0).body c) := by
 refine enter (G := Own (⟨w, keys H⟩ :: S) H) ho.keep Try.func81 rfl Try.ntmps81 rfl ?_
 refine VC.sr ?_
 refine VL.alloc (L := pktL) (ps := (pktV (pkt0) none 0 none 0)) zero118 rfl rfl (fun g1 => ?_)
 refine VL.assign rfl ?_
 refine VL.nn ?_
 refine VC.sr ?_
 refine VL.move rfl ?_
 refine VL.call Try.func121 rfl (by decide) rfl (fun w' hw => open_R hw (hA.nowA (s := ⟨w, _⟩) Mono.byte hw)) (fun v => ?_)
 refine VL.ex fun g2 => VL.fact fun e3 => ?_
 subst e3
 refine VL.assign rfl ?_
 refine VL.nn ?_
 refine VC.seq ?_
 refine VC.join (X := Bool) (fun b => [(2, .pointer (some ⟨g1, 0, none⟩)), (4, .pointer (some ⟨g2, 0, none⟩)), (57, .bool b)]) (fun _ => Own (⟨w, keys H⟩ :: S) (rch g2 (openP (l)) (openW (l)) :: blk g1 118 pktL (pktV (pkt0) none 0 none 0) :: H)) (fun b => (b = true ↔ kindBad (openP l))) (fun hrest => ?_) (fun b hbk => ?_)
 ·skip
  refine VC.region ?_
  refine VL.move rfl ?_
  refine VL.nilCheck rfl ?_
  refine VL.fieldAddr rfl fo196_1 rfl ?_
  refine loadWhy 0 rfl (fun _ h => h) rfl ?_
  refine VL.eql rfl rfl ?_
  refine VL.case (fun h2_4 => ?_) (fun h2_4 => ?_)
  ·skip
   refine VL.move rfl ?_
   refine VL.go rfl rfl rfl ?_
   refine VL.move rfl ?_
   refine VL.go rfl rfl rfl ?_
   refine VL.nilCheck rfl ?_
   refine VL.go rfl rfl rfl ?_
   refine VL.fieldAddr rfl fo196_0 rfl ?_
   refine VL.go rfl rfl rfl ?_
   refine loadParts 0 rfl rfl (fun p4 c5 w6 hO7 hA8 => ?_)
   refine VL.go rfl rfl rfl ?_
   refine VL.len Try.underlying31 rfl rfl ?_
   refine VL.go rfl rfl rfl ?_
   refine VL.gtr rfl rfl ?_
   refine VL.case (fun h2_11 => ?_) (fun h2_11 => ?_)
   ·have hlen : 2 < (openP (l)).length := by omega
    refine VL.pick_t rfl rfl ?_
    refine VL.move rfl ?_
    refine VL.go rfl rfl rfl ?_
    refine VL.move rfl ?_
    refine VL.go rfl rfl rfl ?_
    refine VL.nilCheck rfl ?_
    refine VL.go rfl rfl rfl ?_
    refine VL.fieldAddr rfl fo196_0 rfl ?_
    refine VL.go rfl rfl rfl ?_
    refine loadParts 0 rfl rfl (fun p9 c10 w11 hO12 hA13 => ?_)
    refine VL.go rfl rfl rfl ?_
    refine VL.index (xs := (openP (l))) rfl rfl Try.underlying31 sz31 hA13 (by omega) (by have hi := hlen; omega) ?_
    refine VL.go rfl rfl rfl ?_
    refine VL.elem (s := ⟨w11, _⟩) (2) 0 rfl kd24 (fun _ h => h) (by repeat (first | exact List.mem_cons_self .. | apply List.mem_cons_of_mem)) (Mono.slice Mono.byte) hA13 (List.getElem?_eq_getElem hlen) (by simp) (by decide) (fun vs v hl hr hv => ?_)
    obtain ⟨p16, c17, rfl, hA18⟩ := hr
    have ehy15 : v = .slice p16 ((openP (l))[2]'hlen).length c17 := Option.some.inj (hv.symm.trans rfl)
    subst ehy15
    refine VL.go rfl rfl rfl ?_
    refine VL.len Try.underlying24 rfl rfl ?_
    refine VL.go rfl rfl rfl ?_
    refine VL.eql rfl rfl ?_
    refine VL.case (fun h2_21 => ?_) (fun h2_21 => ?_)
    ·have h1l : ((openP (l))[2]'hlen).length = 1 := by omega
     have h1p : 0 < ((openP (l))[2]'hlen).length := by omega
     refine VL.pick_t rfl rfl ?_
     refine VL.move rfl ?_
     refine VL.go rfl rfl rfl ?_
     refine VL.move rfl ?_
     refine VL.go rfl rfl rfl ?_
     refine VL.nilCheck rfl ?_
     refine VL.go rfl rfl rfl ?_
     refine VL.fieldAddr rfl fo196_0 rfl ?_
     refine VL.go rfl rfl rfl ?_
     refine loadParts 0 rfl rfl (fun p19 c20 w21 hO22 hA23 => ?_)
     refine VL.go rfl rfl rfl ?_
     refine VL.index (xs := (openP (l))) rfl rfl Try.underlying31 sz31 hA23 (by omega) (by have hi := hlen; omega) ?_
     refine VL.go rfl rfl rfl ?_
     refine VL.elem (s := ⟨w21, _⟩) (2) 0 rfl kd24 (fun _ h => h) (by repeat (first | exact List.mem_cons_self .. | apply List.mem_cons_of_mem)) (Mono.slice Mono.byte) hA23 (List.getElem?_eq_getElem hlen) (by simp) (by decide) (fun vs v hl hr hv => ?_)
     obtain ⟨p26, c27, rfl, hA28⟩ := hr
     have ehy25 : v = .slice p26 ((openP (l))[2]'hlen).length c27 := Option.some.inj (hv.symm.trans rfl)
     subst ehy25
     refine VL.go rfl rfl rfl ?_
     refine VL.index (xs := ((openP (l))[2]'hlen)) rfl rfl Try.underlying24 sz24 hA28 (by omega) (by have hi := h1p; omega) ?_
     refine VL.go rfl rfl rfl ?_
     refine VL.byte (s := ⟨w21, _⟩) (y := ((openP (l))[2]'hlen)[0]'h1p) rfl kd5 (fun _ h => h) (by repeat (first | exact List.mem_cons_self .. | apply List.mem_cons_of_mem)) hA28 (List.getElem?_eq_getElem h1p) ?_
     refine VL.go rfl rfl rfl ?_
     refine VL.lss rfl rfl ?_
     refine VL.case (fun h2_32 => ?_) (fun h2_32 => ?_)
     ·have hb : kindBad (openP l) := (kb_iff hlen h1l h1p).2 (kindIn_no (.inl (by have h : ((((((openP (l))[2]'hlen)[0]'h1p).toNat : Nat)) : Int) < 1 := h2_32; omega)))
      refine VL.go rfl rfl rfl ?_
      refine VL.move rfl ?_
      refine VL.pass rfl rfl rfl rfl rfl ?_
      refine VL.pass rfl rfl rfl rfl rfl ?_
      refine VL.pass rfl rfl rfl rfl rfl ?_
      refine VL.pass rfl rfl rfl rfl rfl ?_
      refine VL.pass rfl rfl rfl rfl rfl ?_
      refine VL.pass rfl rfl rfl rfl rfl ?_
      refine VL.pass rfl rfl rfl rfl rfl ?_
      refine VL.pass rfl rfl rfl rfl rfl ?_
      refine VL.pass rfl rfl rfl rfl rfl ?_
      refine VL.go rfl rfl rfl ?_
      refine VL.pick_t rfl rfl ?_
      refine VL.pick_t rfl rfl ?_
      refine VL.nil ?_
      exact VX.join hrest true ⟨fun _ => hb, fun _ => rfl⟩ ⟨rfl, rfl, rfl, trivial⟩ (fun _ h => h.subA)
     ·skip
      refine VL.go rfl rfl rfl ?_
      refine VL.move rfl ?_
      refine VL.go rfl rfl rfl ?_
      refine VL.move rfl ?_
      refine VL.go rfl rfl rfl ?_
      refine VL.nilCheck rfl ?_
      refine VL.go rfl rfl rfl ?_
      refine VL.fieldAddr rfl fo196_0 rfl ?_
      refine VL.go rfl rfl rfl ?_
      refine loadParts 0 rfl rfl (fun p31 c32 w33 hO34 hA35 => ?_)
      refine VL.go rfl rfl rfl ?_
      refine VL.index (xs := (openP (l))) rfl rfl Try.underlying31 sz31 hA35 (by omega) (by have hi := hlen; omega) ?_
      refine VL.go rfl rfl rfl ?_
      refine VL.elem (s := ⟨w33, _⟩) (2) 0 rfl kd24 (fun _ h => h) (by repeat (first | exact List.mem_cons_self .. | apply List.mem_cons_of_mem)) (Mono.slice Mono.byte) hA35 (List.getElem?_eq_getElem hlen) (by simp) (by decide) (fun vs v hl hr hv => ?_)
      obtain ⟨p38, c39, rfl, hA40⟩ := hr
      have ehy37 : v = .slice p38 ((openP (l))[2]'hlen).length c39 := Option.some.inj (hv.symm.trans rfl)
      subst ehy37
      refine VL.go rfl rfl rfl ?_
      refine VL.index (xs := ((openP (l))[2]'hlen)) rfl rfl Try.underlying24 sz24 hA40 (by omega) (by have hi := h1p; omega) ?_
      refine VL.go rfl rfl rfl ?_
      refine VL.byte (s := ⟨w33, _⟩) (y := ((openP (l))[2]'hlen)[0]'h1p) rfl kd5 (fun _ h => h) (by repeat (first | exact List.mem_cons_self .. | apply List.mem_cons_of_mem)) hA40 (List.getElem?_eq_getElem h1p) ?_
      refine VL.go rfl rfl rfl ?_
      refine VL.gtr rfl rfl ?_
      refine VL.case (fun h2_42 => ?_) (fun h2_42 => ?_)
      ·have hb : kindBad (openP l) := (kb_iff hlen h1l h1p).2 (kindIn_no (.inr (by have h : (4 : Int) < ((((((openP (l))[2]'hlen)[0]'h1p).toNat : Nat)) : Int) := h2_42; omega)))
       refine VL.go rfl rfl rfl ?_
       refine VL.pick_f rfl rfl ?_
       refine VL.pick_t rfl rfl ?_
       refine VL.nil ?_
       exact VX.join hrest true ⟨fun _ => hb, fun _ => rfl⟩ ⟨rfl, rfl, rfl, trivial⟩ (fun _ h => h.subA)
      ·have hnb : ¬ kindBad (openP l) := fun hb => by
        have h1 := (kb_iff hlen h1l h1p).1 hb
        rw [kindIn_of.2 ⟨by have h : ¬ ((((((openP (l))[2]'hlen)[0]'h1p).toNat : Nat)) : Int) < 1 := h2_32; omega, by have h : ¬ (4 : Int) < ((((((openP (l))[2]'hlen)[0]'h1p).toNat : Nat)) : Int) := h2_42; omega⟩] at h1
        cases h1
       refine VL.go rfl rfl rfl ?_
       refine VL.pick_f rfl rfl ?_
       refine VL.pick_t rfl rfl ?_
       refine VL.nil ?_
       exact VX.join hrest false ⟨fun h => absurd h (by decide), fun h => absurd h hnb⟩ ⟨rfl, rfl, rfl, trivial⟩ (fun _ h => h.subA)
    ·have hnb : ¬ kindBad (openP l) := kb_len hlen (by omega)
     refine VL.pick_t rfl rfl ?_
     refine VL.move rfl ?_
     refine VL.pass rfl rfl rfl rfl rfl ?_
     refine VL.pass rfl rfl rfl rfl rfl ?_
     refine VL.pass rfl rfl rfl rfl rfl ?_
     refine VL.pass rfl rfl rfl rfl rfl ?_
     refine VL.pass rfl rfl rfl rfl rfl ?_
     refine VL.pass rfl rfl rfl rfl rfl ?_
     refine VL.pass rfl rfl rfl rfl rfl ?_
     refine VL.pass rfl rfl rfl rfl rfl ?_
     refine VL.pass rfl rfl rfl rfl rfl ?_
     refine VL.pass rfl rfl rfl rfl rfl ?_
     refine VL.passu rfl rfl rfl rfl ?_
     refine VL.passu rfl rfl rfl rfl ?_
     refine VL.passu rfl rfl rfl rfl ?_
     refine VL.passu rfl rfl rfl rfl ?_
     refine VL.passu rfl rfl rfl rfl ?_
     refine VL.passu rfl rfl rfl rfl ?_
     refine VL.passu rfl rfl rfl rfl ?_
     refine VL.passu rfl rfl rfl rfl ?_
     refine VL.passu rfl rfl rfl rfl ?_
     refine VL.pass rfl rfl rfl rfl rfl ?_
     refine VL.pick_f rfl rfl ?_
     refine VL.nil ?_
     exact VX.join hrest false ⟨fun h => absurd h (by decide), fun h => absurd h hnb⟩ ⟨rfl, rfl, rfl, trivial⟩ (fun _ h => h.subA)
   ·have hnb : ¬ kindBad (openP l) := kb_short (by omega)
    refine VL.pick_t rfl rfl ?_
    refine VL.move rfl ?_
    refine VL.pass rfl rfl rfl rfl rfl ?_
    refine VL.pass rfl rfl rfl rfl rfl ?_
    refine VL.pass rfl rfl rfl rfl rfl ?_
    refine VL.pass rfl rfl rfl rfl rfl ?_
    refine VL.pass rfl rfl rfl rfl rfl ?_
    refine VL.pass rfl rfl rfl rfl rfl ?_
    refine VL.pass rfl rfl rfl rfl rfl ?_
    refine VL.pass rfl rfl rfl rfl rfl ?_
    refine VL.pick_f rfl rfl ?_
    refine VL.move rfl ?_
    refine VL.pass rfl rfl rfl rfl rfl ?_
    refine VL.pass rfl rfl rfl rfl rfl ?_
    refine VL.pass rfl rfl rfl rfl rfl ?_
    refine VL.pass rfl rfl rfl rfl rfl ?_
    refine VL.pass rfl rfl rfl rfl rfl ?_
    refine VL.pass rfl rfl rfl rfl rfl ?_
    refine VL.pass rfl rfl rfl rfl rfl ?_
    refine VL.pass rfl rfl rfl rfl rfl ?_
    refine VL.pass rfl rfl rfl rfl rfl ?_
    refine VL.pass rfl rfl rfl rfl rfl ?_
    refine VL.passu rfl rfl rfl rfl ?_
    refine VL.passu rfl rfl rfl rfl ?_
    refine VL.passu rfl rfl rfl rfl ?_
    refine VL.passu rfl rfl rfl rfl ?_
    refine VL.passu rfl rfl rfl rfl ?_
    refine VL.passu rfl rfl rfl rfl ?_
    refine VL.passu rfl rfl rfl rfl ?_
    refine VL.passu rfl rfl rfl rfl ?_
    refine VL.passu rfl rfl rfl rfl ?_
    refine VL.pass rfl rfl rfl rfl rfl ?_
    refine VL.pick_f rfl rfl ?_
    refine VL.nil ?_
    exact VX.join hrest false ⟨fun h => absurd h (by decide), fun h => absurd h hnb⟩ ⟨rfl, rfl, rfl, trivial⟩ (fun _ h => h.subA)
  ·have hnb : ¬ kindBad (openP l) := kb_why (by omega)
   refine VL.move rfl ?_
   refine VL.pass rfl rfl rfl rfl rfl ?_
   refine VL.pass rfl rfl rfl rfl rfl ?_
   refine VL.pass rfl rfl rfl rfl rfl ?_
   refine VL.pass rfl rfl rfl rfl rfl ?_
   refine VL.pass rfl rfl rfl rfl rfl ?_
   refine VL.pass rfl rfl rfl rfl rfl ?_
   refine VL.pick_f rfl rfl ?_
   refine VL.move rfl ?_
   refine VL.pass rfl rfl rfl rfl rfl ?_
   refine VL.pass rfl rfl rfl rfl rfl ?_
   refine VL.pass rfl rfl rfl rfl rfl ?_
   refine VL.pass rfl rfl rfl rfl rfl ?_
   refine VL.pass rfl rfl rfl rfl rfl ?_
   refine VL.pass rfl rfl rfl rfl rfl ?_
   refine VL.pass rfl rfl rfl rfl rfl ?_
   refine VL.pass rfl rfl rfl rfl rfl ?_
   refine VL.pick_f rfl rfl ?_
   refine VL.move rfl ?_
   refine VL.pass rfl rfl rfl rfl rfl ?_
   refine VL.pass rfl rfl rfl rfl rfl ?_
   refine VL.pass rfl rfl rfl rfl rfl ?_
   refine VL.pass rfl rfl rfl rfl rfl ?_
   refine VL.pass rfl rfl rfl rfl rfl ?_
   refine VL.pass rfl rfl rfl rfl rfl ?_
   refine VL.pass rfl rfl rfl rfl rfl ?_
   refine VL.pass rfl rfl rfl rfl rfl ?_
   refine VL.pass rfl rfl rfl rfl rfl ?_
   refine VL.pass rfl rfl rfl rfl rfl ?_
   refine VL.passu rfl rfl rfl rfl ?_
   refine VL.passu rfl rfl rfl rfl ?_
   refine VL.passu rfl rfl rfl rfl ?_
   refine VL.passu rfl rfl rfl rfl ?_
   refine VL.passu rfl rfl rfl rfl ?_
   refine VL.passu rfl rfl rfl rfl ?_
   refine VL.passu rfl rfl rfl rfl ?_
   refine VL.passu rfl rfl rfl rfl ?_
   refine VL.passu rfl rfl rfl rfl ?_
   refine VL.pass rfl rfl rfl rfl rfl ?_
   refine VL.pick_f rfl rfl ?_
   refine VL.nil ?_
   exact VX.join hrest false ⟨fun h => absurd h (by decide), fun h => absurd h hnb⟩ ⟨rfl, rfl, rfl, trivial⟩ (fun _ h => h.subA)
 skip
 refine VC.split rfl (fun hc57 => ?_) (fun hc57 => ?_)
 ·refine VC.seq ?_
  refine VC.region ?_
  refine VL.build0 (cs := cat (pktV (pkt0) none 0 none 0)) built118 ?_
  refine VL.store (L := pktL) (qs := (pktV (pkt0) none 0 none 0)) (ps' := (pktV (pkt0) none 0 none 0)) 1 0 6 rfl rfl rfl (.inl kd118) rfl rfl rfl (pktV_ok1 pkt0 none 0 none 0) rfl rfl ?_
  refine VL.set1 ?_
  refine VL.assign rfl ?_
  refine VL.nn ?_
  refine VC.ret ?_
  refine VX.then_ret ?_
  refine VX.ret_cell (cs := cat (pktV (pkt0) none 0 none 0)) 1 rfl rfl rfl kd118 (fun _ h => h) rfl rfl (fun we hw => ?_)
  obtain ⟨e1, e2⟩ := pktW_bad (hbk.1 hc57)
  exact ⟨none, 0, none, 0, by rw [e1]; exact congrArg (fun n : Nat => Value.tuple #[_, .int .i64 (n : Int)]) (e2).symm, hw.drop.drop.subA, by rw [e1]; exact Arr.none, by rw [e1]; exact Arr.none⟩
 ·refine VC.skip ?_
  refine VX.next ?_
  refine VC.seq ?_
  have hnb : ¬ kindBad (openP l) := mt hbk.2 (by rw [hc57]; decide)
  refine VC.region ?_
  refine VL.move rfl ?_
  refine VL.call Try.func122 rfl (by decide) rfl (fun w' hw => byte_R (i := 0) rfl hw) (fun v => ?_)
  refine VL.fact fun e43 => ?_
  subst e43
  refine VL.set0 ?_
  refine VL.move rfl ?_
  refine VL.call Try.func122 rfl (by decide) rfl (fun w' hw => byte_R (i := 0) rfl hw) (fun v => ?_)
  refine VL.fact fun e44 => ?_
  subst e44
  refine VL.set0 ?_
  refine VL.move rfl ?_
  refine VL.call Try.func122 rfl (by decide) rfl (fun w' hw => byte_R (i := 0) rfl hw) (fun v => ?_)
  refine VL.fact fun e45 => ?_
  subst e45
  refine VL.set0 ?_
  refine VL.build (zs := pktZ) (L := pktFL) [(0, [.int .u8 (takeN (openP (l)) 1)]), (1, [.int .u8 (takeN ((openP (l)).drop 1) 1)]), (2, [.int .u8 (takeN (((openP (l)).drop 1).drop 1) 1)])] plan118 rfl ⟨⟨rfl, ⟨_, rfl, rfl⟩, rfl⟩, ⟨⟨rfl, ⟨_, rfl, rfl⟩, rfl⟩, ⟨⟨rfl, ⟨_, rfl, rfl⟩, rfl⟩, trivial⟩⟩⟩ rfl ?_
  refine VL.newv (v' := .agg (cat (pktV ((Pkt.mk (takeN (openP l) 1) (takeN ((openP l).drop 1) 1) (takeN (((openP l).drop 1).drop 1) 1) [] [] (zeros 64))) none 0 none 0)).toArray) rfl ?_
  refine VL.alloc (L := pktL) (ps := (pktV (pkt0) none 0 none 0)) zero118 rfl rfl (fun g46 => ?_)
  refine VL.store (L := pktL) (qs := (pktV ((Pkt.mk (takeN (openP l) 1) (takeN ((openP l).drop 1) 1) (takeN (((openP l).drop 1).drop 1) 1) [] [] (zeros 64))) none 0 none 0)) (ps' := (pktV ((Pkt.mk (takeN (openP l) 1) (takeN ((openP l).drop 1) 1) (takeN (((openP l).drop 1).drop 1) 1) [] [] (zeros 64))) none 0 none 0)) 0 0 6 rfl rfl rfl (.inl kd118) rfl rfl (pktV_len ((⟨takeN_lt _ 1, takeN_lt _ 1, takeN_lt _ 1, (by simp), rfl⟩ : Pkt.ok (Pkt.mk (takeN (openP l) 1) (takeN ((openP l).drop 1) 1) (takeN (((openP l).drop 1).drop 1) 1) [] [] (zeros 64))))) (pktV_ok1 ((Pkt.mk (takeN (openP l) 1) (takeN ((openP l).drop 1) 1) (takeN (((openP l).drop 1).drop 1) 1) [] [] (zeros 64))) none 0 none 0) rfl rfl ?_
  refine VL.set0 ?_
  refine VL.nn ?_
  refine VC.sr ?_
  refine VL.build (zs := [[.slice none 0 0], [.int .i64 0]]) [] plan196 rfl trivial rfl ?_
  refine VL.box (L := [1, 1]) (ps := [[.slice none 0 0], [.int .i64 0]]) rfl rfl rfl (fun g0 => ?_)
  refine VL.turn (fun w' hw => shutR (parts := []) (why := 0) (p := none) (c := 0) hw Arr.none) ?_
  refine VL.assign rfl ?_
  refine VL.nn ?_
  refine VC.join (X := Nat × List (List UInt8) × Nat) (fun (gl, _, _) => [(2, .pointer (some ⟨g1, 0, none⟩)), (4, .pointer (some ⟨g2, 0, none⟩)), (5, .pointer (some ⟨g46, 0, none⟩)), (6, .pointer (some ⟨gl, 0, none⟩))]) (fun (gl, c0, y0) => Own (⟨w, keys H⟩ :: S) (rch gl c0 y0 :: blk g46 118 pktL (pktV ((Pkt.mk (takeN (openP l) 1) (takeN ((openP l).drop 1) 1) (takeN (((openP l).drop 1).drop 1) 1) [] [] (zeros 64))) none 0 none 0) :: rch g2 (((((openP (l)).drop 1).drop 1).drop 1).drop 1) (nextW ((((openP (l)).drop 1).drop 1).drop 1) (lenW (((openP (l)).drop 1).drop 1) (lenW ((openP (l)).drop 1) (lenW (openP (l)) (openW (l)) 1) 1) 1)) :: blk g1 118 pktL (pktV (pkt0) none 0 none 0) :: H)) (fun (_, c0, y0) => ((nextP ((((openP l).drop 1).drop 1).drop 1)) = [0] ∧ c0 = [] ∧ y0 = 0) ∨ ((nextP ((((openP l).drop 1).drop 1).drop 1)) ≠ [0] ∧ c0 = openP (nextP ((((openP l).drop 1).drop 1).drop 1)) ∧ y0 = openW (nextP ((((openP l).drop 1).drop 1).drop 1)))) (fun hrest => ?_) (fun (gl, c0, y0) hcz => ?_)
  ·skip
   refine VC.sr ?_
   refine VL.move rfl ?_
   refine VL.call Try.func124 rfl (by decide) rfl (fun w' hw => piece_R (i := 2) rfl hw) (fun v => ?_)
   refine VL.at (fun w47 h1w => ?_)
   obtain ⟨p48, c49, rfl, hO51, hA50⟩ := h1w
   replace hO51 := ownSet2 hO51
   replace hA50 := arrSet2 hA50
   refine VL.toOwn hO51 ?_
   refine VL.assign rfl ?_
   refine VL.nn ?_
   refine VC.join (X := Bool) (fun b => [(2, .pointer (some ⟨g1, 0, none⟩)), (4, .pointer (some ⟨g2, 0, none⟩)), (5, .pointer (some ⟨g46, 0, none⟩)), (6, .pointer (some ⟨g0, 0, none⟩)), (7, .slice p48 (nextP ((((openP l).drop 1).drop 1).drop 1)).length c49), (78, .bool b)]) (fun _ => Own (⟨w47, keys (rch g0 [] 0 :: blk g46 118 pktL (pktV ((Pkt.mk (takeN (openP l) 1) (takeN ((openP l).drop 1) 1) (takeN (((openP l).drop 1).drop 1) 1) [] [] (zeros 64))) none 0 none 0) :: rch g2 (((((openP (l)).drop 1).drop 1).drop 1).drop 1) (nextW ((((openP (l)).drop 1).drop 1).drop 1) (lenW (((openP (l)).drop 1).drop 1) (lenW ((openP (l)).drop 1) (lenW (openP (l)) (openW (l)) 1) 1) 1)) :: blk g1 118 pktL (pktV (pkt0) none 0 none 0) :: H)⟩ :: ⟨w, keys H⟩ :: S) (rch g0 [] 0 :: blk g46 118 pktL (pktV ((Pkt.mk (takeN (openP l) 1) (takeN ((openP l).drop 1) 1) (takeN (((openP l).drop 1).drop 1) 1) [] [] (zeros 64))) none 0 none 0) :: rch g2 (((((openP (l)).drop 1).drop 1).drop 1).drop 1) (nextW ((((openP (l)).drop 1).drop 1).drop 1) (lenW (((openP (l)).drop 1).drop 1) (lenW ((openP (l)).drop 1) (lenW (openP (l)) (openW (l)) 1) 1) 1)) :: blk g1 118 pktL (pktV (pkt0) none 0 none 0) :: H)) (fun b => (b = true ↔ ¬ (nextP ((((openP l).drop 1).drop 1).drop 1)) = [0])) (fun hrest => ?_) (fun b2 hbz => ?_)
   ·skip
    by_cases hz : (nextP ((((openP l).drop 1).drop 1).drop 1)) = [0]
    ·have h1p2 : 0 < (nextP ((((openP l).drop 1).drop 1).drop 1)).length := by rw [hz]; decide
     refine VC.region ?_
     refine VL.move rfl ?_
     refine VL.len Try.underlying24 rfl rfl ?_
     refine VL.neq rfl rfl ?_
     refine VL.no (by rw [hz]; decide) ?_
     refine VL.move rfl ?_
     refine VL.go rfl rfl rfl ?_
     refine VL.move rfl ?_
     refine VL.go rfl rfl rfl ?_
     refine VL.index (xs := nextP ((((openP (l)).drop 1).drop 1).drop 1)) rfl rfl Try.underlying24 sz24 hA50 (by omega) (by have hi := h1p2; omega) ?_
     refine VL.go rfl rfl rfl ?_
     refine VL.byte (s := ⟨w47, _⟩) (y := (nextP ((((openP (l)).drop 1).drop 1).drop 1))[0]'h1p2) rfl kd5 (fun _ h => h) (by repeat (first | exact List.mem_cons_self .. | apply List.mem_cons_of_mem)) hA50 (List.getElem?_eq_getElem h1p2) ?_
     refine VL.go rfl rfl rfl ?_
     refine VL.neq rfl rfl ?_
     refine VL.no (zero_at hz h1p2) ?_
     refine VL.pick_f rfl rfl ?_
     refine VL.nil ?_
     exact VX.join hrest false ⟨fun h => absurd h (by decide), fun h => absurd hz h⟩ ⟨rfl, rfl, rfl, rfl, rfl, rfl, trivial⟩ (fun _ h => h.subA)
    ·refine VC.region ?_
     refine VL.move rfl ?_
     refine VL.len Try.underlying24 rfl rfl ?_
     refine VL.neq rfl rfl ?_
     refine VL.case (fun h7_2 => ?_) (fun h7_2 => ?_)
     ·skip
      refine VL.move rfl ?_
      refine VL.pass rfl rfl rfl rfl rfl ?_
      refine VL.pass rfl rfl rfl rfl rfl ?_
      refine VL.pass rfl rfl rfl rfl rfl ?_
      refine VL.pass rfl rfl rfl rfl rfl ?_
      refine VL.pick_t rfl rfl ?_
      refine VL.nil ?_
      exact VX.join hrest true ⟨fun _ => hz, fun _ => rfl⟩ ⟨rfl, rfl, rfl, rfl, rfl, rfl, trivial⟩ (fun _ h => h.subA)
     ·have h1l2 : (nextP ((((openP l).drop 1).drop 1).drop 1)).length = 1 := by omega
      have h1p2 : 0 < (nextP ((((openP l).drop 1).drop 1).drop 1)).length := by omega
      refine VL.move rfl ?_
      refine VL.go rfl rfl rfl ?_
      refine VL.move rfl ?_
      refine VL.go rfl rfl rfl ?_
      refine VL.index (xs := nextP ((((openP (l)).drop 1).drop 1).drop 1)) rfl rfl Try.underlying24 sz24 hA50 (by omega) (by have hi := h1p2; omega) ?_
      refine VL.go rfl rfl rfl ?_
      refine VL.byte (s := ⟨w47, _⟩) (y := (nextP ((((openP (l)).drop 1).drop 1).drop 1))[0]'h1p2) rfl kd5 (fun _ h => h) (by repeat (first | exact List.mem_cons_self .. | apply List.mem_cons_of_mem)) hA50 (List.getElem?_eq_getElem h1p2) ?_
      refine VL.go rfl rfl rfl ?_
      refine VL.neq rfl rfl ?_
      refine VL.yes (nz_at hz h1l2 h1p2) ?_
      refine VL.pick_f rfl rfl ?_
      refine VL.nil ?_
      exact VX.join hrest true ⟨fun _ => hz, fun _ => rfl⟩ ⟨rfl, rfl, rfl, rfl, rfl, rfl, trivial⟩ (fun _ h => h.subA)
   skip
   refine VC.split rfl (fun hc78 => ?_) (fun hc78 => ?_)
   ·refine VC.region ?_
    refine VL.move rfl ?_
    refine VL.call Try.func121 rfl (by decide) rfl (fun w' hw => open_R hw (hA50.nowA (s := ⟨w47, _⟩) Mono.byte hw)) (fun v => ?_)
    refine VL.ex fun g56 => VL.fact fun e57 => ?_
    subst e57
    refine VL.assign rfl ?_
    refine VL.nil ?_
    exact VX.join hrest (g56, openP (nextP ((((openP l).drop 1).drop 1).drop 1)), openW (nextP ((((openP l).drop 1).drop 1).drop 1))) (.inr ⟨hbz.1 hc78, rfl, rfl⟩) ⟨rfl, rfl, rfl, rfl, trivial⟩ (fun _ h => (Own.drop2 h).subA)
   ·refine VC.skip ?_
    exact VX.join hrest (g0, [], 0) (.inl ⟨Classical.not_not.1 (mt hbz.2 (by rw [hc78]; decide)), rfl, rfl⟩) ⟨rfl, rfl, rfl, rfl, trivial⟩ (fun _ h => h.subA)
  refine VC.turn (G' := Own (⟨w, keys H⟩ :: S) (rch gl c0 y0 :: blk g46 118 pktL (pktV ((Pkt.mk (takeN (openP l) 1) (takeN ((openP l).drop 1) 1) (takeN (((openP l).drop 1).drop 1) 1) [] [] (zeros 64))) none 0 none 0) :: rch g2 (((((openP (l)).drop 1).drop 1).drop 1).drop 1) (nextW ((((openP (l)).drop 1).drop 1).drop 1) (lenW (((openP (l)).drop 1).drop 1) (lenW ((openP (l)).drop 1) (lenW (openP (l)) (openW (l)) 1) 1) 1)) :: blk g1 118 pktL (pktV (pkt0) none 0 none 0) :: H)) (fun _ h => h) ?_
  refine VC.join (X := List Object × List (List UInt8) × Nat × Option Nat × Nat) (fun _ => [(2, .pointer (some ⟨g1, 0, none⟩)), (4, .pointer (some ⟨g2, 0, none⟩)), (5, .pointer (some ⟨g46, 0, none⟩)), (6, .pointer (some ⟨gl, 0, none⟩))]) (fun (xs, ps, er, gv, cv) => Own (⟨w, keys H⟩ :: S) (arow 85 101 objectR' Mono_object gv cv xs :: rch gl ps er :: blk g46 118 pktL (pktV ((Pkt.mk (takeN (openP l) 1) (takeN ((openP l).drop 1) 1) (takeN (((openP l).drop 1).drop 1) 1) xs [] (zeros 64))) (gv.map fun g => (⟨g, 0, none⟩ : Addr)) cv none 0) :: rch g2 (((((openP (l)).drop 1).drop 1).drop 1).drop 1) (nextW ((((openP (l)).drop 1).drop 1).drop 1) (lenW (((openP (l)).drop 1).drop 1) (lenW ((openP (l)).drop 1) (lenW (openP (l)) (openW (l)) 1) 1) 1)) :: blk g1 118 pktL (pktV (pkt0) none 0 none 0) :: H)) (fun (xs, ps, er, _, _) => OInv c0 y0 xs ps er ∧ (ps = [] ∨ 4 ≤ xs.length ∨ er ≠ 0)) (fun hrest => ?_) (fun (xs, ps, er, gv, cv) ⟨hinv, hx⟩ => ?_)
  ·skip
   refine VC.block ?_
   refine VC.turn (G' := Own _ (arow 85 101 objectR' Mono_object none 0 ([] : List Object) :: rch gl c0 y0 :: blk g46 118 pktL (pktV ((Pkt.mk (takeN (openP l) 1) (takeN ((openP l).drop 1) 1) (takeN (((openP l).drop 1).drop 1) 1) [] [] (zeros 64))) none 0 none 0) :: rch g2 (((((openP (l)).drop 1).drop 1).drop 1).drop 1) (nextW ((((openP (l)).drop 1).drop 1).drop 1) (lenW (((openP (l)).drop 1).drop 1) (lenW ((openP (l)).drop 1) (lenW (openP (l)) (openW (l)) 1) 1) 1)) :: blk g1 118 pktL (pktV (pkt0) none 0 none 0) :: H)) (fun w' h => newRowO h) ?_
   refine VC.loop (X := List Object × List (List UInt8) × Nat × Option Nat × Nat) (fun _ => [(2, .pointer (some ⟨g1, 0, none⟩)), (4, .pointer (some ⟨g2, 0, none⟩)), (5, .pointer (some ⟨g46, 0, none⟩)), (6, .pointer (some ⟨gl, 0, none⟩))]) (fun (xs, ps, er, gv, cv) w' => OInv c0 y0 xs ps er ∧ Own (⟨w, keys H⟩ :: S) (arow 85 101 objectR' Mono_object gv cv xs :: rch gl ps er :: blk g46 118 pktL (pktV ((Pkt.mk (takeN (openP l) 1) (takeN ((openP l).drop 1) 1) (takeN (((openP l).drop 1).drop 1) 1) xs [] (zeros 64))) (gv.map fun g => (⟨g, 0, none⟩ : Addr)) cv none 0) :: rch g2 (((((openP (l)).drop 1).drop 1).drop 1).drop 1) (nextW ((((openP (l)).drop 1).drop 1).drop 1) (lenW (((openP (l)).drop 1).drop 1) (lenW ((openP (l)).drop 1) (lenW (openP (l)) (openW (l)) 1) 1) 1)) :: blk g1 118 pktL (pktV (pkt0) none 0 none 0) :: H) w') (fun (_, ps, _) => ps.length) ([], c0, y0, none, 0) ⟨rfl, rfl, rfl, rfl, trivial⟩ (fun w' h => ⟨OInv.start _ _, h.subA⟩) (fun (xs, ps, er, gv, cv) => VC.fact fun hinv => ?_)
   ·have hxs := hinv.1
    refine VC.seq ?_
    refine VC.sr ?_
    refine VL.move rfl ?_
    refine VL.nilCheck rfl ?_
    refine VL.fieldAddr rfl fo196_0 rfl ?_
    refine loadParts 1 rfl rfl (fun p58 c59 w60 hO61 hA62 => ?_)
    refine VL.len Try.underlying31 rfl rfl ?_
    refine VL.gtr rfl rfl ?_
    refine VL.case (fun h9_5 => ?_) (fun h9_5 => ?_)
    ·obtain ⟨pc, rest, rfl⟩ : ∃ pc rest, ps = pc :: rest := by
      cases ps with
      | nil => exact absurd h9_5 (by simp)
      | cons a b => exact ⟨a, b, rfl⟩
     refine VL.move rfl ?_
     refine VL.go rfl rfl rfl ?_
     refine VL.fieldAddr rfl fo118_3 rfl ?_
     refine VL.go rfl rfl rfl ?_
     refine VL.load (v := .slice (gv.map fun g => (⟨g, 0, none⟩ : Addr)) (xs).length cv) 2 3 rfl kd116 (fun _ h => h) rfl rfl rfl ?_
     refine VL.go rfl rfl rfl ?_
     refine VL.len Try.underlying116 rfl rfl ?_
     refine VL.go rfl rfl rfl ?_
     refine VL.lss rfl rfl ?_
     refine VL.case (fun h9_10 => ?_) (fun h9_10 => ?_)
     ·have h9_10 : xs.length < 4 := by have h : ((xs.length : Nat) : Int) < 4 := h9_10; omega
      refine VL.pick_t rfl rfl ?_
      refine VL.move rfl ?_
      refine VL.go rfl rfl rfl ?_
      refine VL.move rfl ?_
      refine VL.go rfl rfl rfl ?_
      refine VL.nilCheck rfl ?_
      refine VL.go rfl rfl rfl ?_
      refine VL.fieldAddr rfl fo196_1 rfl ?_
      refine VL.go rfl rfl rfl ?_
      refine loadWhy 1 rfl (fun _ h => h) rfl ?_
      refine VL.go rfl rfl rfl ?_
      refine VL.eql rfl rfl ?_
      refine VL.case (fun h9_17 => ?_) (fun h9_17 => ?_)
      ·have her : er = 0 := by omega
       refine VL.pick_t rfl rfl ?_
       refine VL.nn ?_
       refine VC.yes rfl ?_
       refine VC.skip ?_
       refine VX.next ?_
       refine VC.block ?_
       refine VC.sr ?_
       refine VL.move rfl ?_
       refine VL.call Try.func124 rfl (by decide) rfl (fun w' hw => piece_R (i := 1) rfl hw) (fun v => ?_)
       refine VL.at (fun w63 h1w => ?_)
       obtain ⟨p64, c65, rfl, hO67, hA66⟩ := h1w
       replace hO67 := ownSet1 hO67
       replace hA66 := arrSet1 hA66
       refine VL.toOwn hO67 ?_
       refine VL.call Try.func71 rfl (by decide) rfl (fun w' hw => getObject_w hw (hA66.nowA (s := ⟨w63, _⟩) Mono.byte hw)) (fun v => ?_)
       refine VL.at (fun w68 h1w => ?_)
       obtain ⟨p70, c71, rfl, hO69, hA72⟩ := h1w
       refine VL.toOwn hO69 ?_
       refine VL.move rfl ?_
       refine VL.extract rfl rfl ?_
       refine VL.extract rfl rfl ?_
       refine VL.alloc (L := objectL) (ps := (objectV (object0) none 0)) zero85 rfl rfl (fun g73 => ?_)
       refine VL.store (L := objectL) (qs := (objectV (((objectR pc).getD object0)) p70 c71)) (ps' := (objectV (((objectR pc).getD object0)) p70 c71)) 0 0 7 rfl rfl rfl (.inl kd85) rfl rfl (objectV_len (objectR_ok pc)) (objectV_ok1 (((objectR pc).getD object0)) p70 c71) rfl rfl ?_
       refine VL.set0 ?_
       refine VL.assign rfl ?_
       refine VL.nn ?_
       refine VC.sr ?_
       refine VL.move rfl ?_
       refine VL.move rfl ?_
       refine VL.call Try.func125 rfl (by decide) rfl (fun w' hw => fail_R (i := 2) rfl hw (if (objectR pc).isSome then 0 else 141)) (fun v => ?_)
       refine VL.fact fun e74 => ?_
       subst e74
       refine VL.set2 ?_
       refine VL.nn ?_
       have hxs2 : ∀ x ∈ xs ++ [((objectR pc).getD object0)], x.ok := fun x hx => (List.mem_append.1 hx).elim (hxs x) (fun h => by rw [List.mem_singleton] at h; subst h; exact objectR_ok pc)
       refine VC.region ?_
       refine VL.fieldAddr rfl fo118_3 rfl ?_
       refine VL.load (v := .slice (gv.map fun g => (⟨g, 0, none⟩ : Addr)) (xs).length cv) 3 3 rfl kd116 (fun _ h => h) rfl rfl rfl ?_
       refine VL.loads (cs := cat (objectV (((objectR pc).getD object0)) p70 c71)) 0 0 7 rfl kd85 (fun _ h => h) rfl rfl rfl rfl ?_
       refine VL.lit el116 rfl rfl rfl (by intro v hv; simp only [List.mem_singleton] at hv; subst hv; show (cat (objectV ((objectR pc).getD object0) p70 c71)).toArray.size = 101; rw [List.size_toArray, cat_size (objectV_len (objectR_ok pc))]; rfl) (by rw [show [Value.agg (cat (objectV ((objectR pc).getD object0) p70 c71)).toArray].flatMap (·.cells.toList) = (cat (objectV ((objectR pc).getD object0) p70 c71)) by simp [Value.cells]]; exact objectV_ok1 _ _ _) (fun gz => ?_)
       refine VL.letRow objectR' [((objectR pc).getD object0)] rfl (fun w' hw => one_object (objectR_ok pc) (hA72.nowA (s := ⟨w68, _⟩) Mono_vouch hw)) (fun wl hOl hAl => ?_)
       refine VL.appends (R := objectR') (hR := Mono_object) (ys := xs) (zs := [((objectR pc).getD object0)]) 1 el116 rfl rfl rfl (fun _ h => h) rfl (fun _ hw => (hAl.nowA (s := ⟨wl, _⟩) Mono_object hw)) objectR'_ok1 (by simp only [List.length_cons, List.length_nil]; omega) (fun gv2 cv2 => ?_) (by simp only [List.length_cons, List.length_nil]; omega)
       refine VL.set1 ?_
       refine VL.fieldAddr rfl fo118_3 rfl ?_
       refine VL.store (L := pktL) (qs := [[rowV gv2 (xs ++ [((objectR pc).getD object0)]).length cv2]]) (ps' := (pktV ((Pkt.mk (takeN (openP l) 1) (takeN ((openP l).drop 1) 1) (takeN (((openP l).drop 1).drop 1) 1) (xs ++ [((objectR pc).getD object0)]) [] (zeros 64))) (gv2.map fun g => (⟨g, 0, none⟩ : Addr)) cv2 none 0)) 3 3 1 rfl rfl rfl (.inr ⟨kd116, rfl⟩) rfl rfl rfl (by intro u hu; simp [cat] at hu; subst hu; rfl) rfl rfl ?_
       refine VL.set3 ?_
       refine VL.nil ?_
       refine VX.block_normal ?_
       subst her
       obtain rfl : y0 = 0 := by
        rcases hinv.2.2 with ⟨e, _⟩ | ⟨e, _⟩
        ·exact e.symm
        ·cases e
       refine VX.round (xs ++ [((objectR pc).getD object0)], rest, (if (objectR pc).isSome then 0 else 141), gv2, cv2) ⟨rfl, rfl, rfl, rfl, trivial⟩ (fun w' h => ⟨hinv.step h9_10, (h.drop).subA⟩) (by show rest.length < (pc :: rest).length; simp)
      ·have h9_17 : er ≠ 0 := by omega
       refine VL.pick_t rfl rfl ?_
       refine VL.nn ?_
       refine VC.no rfl ?_
       refine VC.exit ?_
       refine VX.then_exit ?_
       refine VX.then_exit ?_
       refine VX.block_here ?_
       exact VX.join hrest (xs, (pc :: rest), er, gv, cv) ⟨hinv, .inr (.inr h9_17)⟩ ⟨rfl, rfl, rfl, rfl, trivial⟩ (fun _ h => h.subA)
     ·have h9_10 : 4 ≤ xs.length := by have h : ¬ ((xs.length : Nat) : Int) < 4 := h9_10; omega
      refine VL.pick_t rfl rfl ?_
      refine VL.move rfl ?_
      refine VL.pass rfl rfl rfl rfl rfl ?_
      refine VL.pass rfl rfl rfl rfl rfl ?_
      refine VL.pass rfl rfl rfl rfl rfl ?_
      refine VL.pass rfl rfl rfl rfl rfl ?_
      refine VL.pass rfl rfl rfl rfl rfl ?_
      refine VL.pick_f rfl rfl ?_
      refine VL.nn ?_
      refine VC.no rfl ?_
      refine VC.exit ?_
      refine VX.then_exit ?_
      refine VX.then_exit ?_
      refine VX.block_here ?_
      exact VX.join hrest (xs, (pc :: rest), er, gv, cv) ⟨hinv, .inr (.inl h9_10)⟩ ⟨rfl, rfl, rfl, rfl, trivial⟩ (fun _ h => h.subA)
    ·obtain rfl : ps = [] := List.eq_nil_of_length_eq_zero (by omega)
     refine VL.move rfl ?_
     refine VL.pass rfl rfl rfl rfl rfl ?_
     refine VL.pass rfl rfl rfl rfl rfl ?_
     refine VL.pass rfl rfl rfl rfl rfl ?_
     refine VL.pass rfl rfl rfl rfl rfl ?_
     refine VL.pick_f rfl rfl ?_
     refine VL.move rfl ?_
     refine VL.pass rfl rfl rfl rfl rfl ?_
     refine VL.pass rfl rfl rfl rfl rfl ?_
     refine VL.pass rfl rfl rfl rfl rfl ?_
     refine VL.pass rfl rfl rfl rfl rfl ?_
     refine VL.pass rfl rfl rfl rfl rfl ?_
     refine VL.pick_f rfl rfl ?_
     refine VL.nn ?_
     refine VC.no rfl ?_
     refine VC.exit ?_
     refine VX.then_exit ?_
     refine VX.then_exit ?_
     refine VX.block_here ?_
     exact VX.join hrest (xs, [], er, gv, cv) ⟨hinv, .inl rfl⟩ ⟨rfl, rfl, rfl, rfl, trivial⟩ (fun _ h => h.subA)
  refine VC.turn (G' := Own (⟨w, keys H⟩ :: S) (arow 85 101 objectR' Mono_object gv cv xs :: rch gl ps er :: blk g46 118 pktL (pktV ((Pkt.mk (takeN (openP l) 1) (takeN ((openP l).drop 1) 1) (takeN (((openP l).drop 1).drop 1) 1) xs [] (zeros 64))) (gv.map fun g => (⟨g, 0, none⟩ : Addr)) cv none 0) :: rch g2 (((((openP (l)).drop 1).drop 1).drop 1).drop 1) (nextW ((((openP (l)).drop 1).drop 1).drop 1) (lenW (((openP (l)).drop 1).drop 1) (lenW ((openP (l)).drop 1) (lenW (openP (l)) (openW (l)) 1) 1) 1)) :: blk g1 118 pktL (pktV (pkt0) none 0 none 0) :: H)) (fun _ h => h) ?_
  have hxs := hinv.1
  refine VC.seq ?_
  refine VC.letArr (fun wr hOr hAr => ?_)
  refine VC.region ?_
  refine VL.move rfl ?_
  refine VL.move rfl ?_
  refine VL.call Try.func126 rfl (by decide) rfl (fun w' hw => end_R (i := 0) rfl hw) (fun v => ?_)
  refine VL.fact fun e75 => ?_
  subst e75
  refine VL.set0 ?_
  refine VL.call Try.func125 rfl (by decide) rfl (fun w' hw => fail_R (i := 2) rfl hw (endW ps er)) (fun v => ?_)
  refine VL.fact fun e76 => ?_
  subst e76
  refine VL.set2 ?_
  refine VL.nn ?_
  refine VC.sr ?_
  refine VL.move rfl ?_
  refine VL.call Try.func124 rfl (by decide) rfl (fun w' hw => piece_R (i := 2) rfl hw) (fun v => ?_)
  refine VL.at (fun w77 h1w => ?_)
  obtain ⟨p78, c79, rfl, hO81, hA80⟩ := h1w
  replace hO81 := ownSet2 hO81
  replace hA80 := arrSet2 hA80
  refine VL.toOwn hO81 ?_
  refine VL.move rfl ?_
  refine VL.call Try.func131 rfl (by decide) rfl (fun w' hw => sig_R (i := 2) rfl hw) (fun v => ?_)
  refine VL.fact fun e82 => ?_
  subst e82
  refine VL.set2 ?_
  refine VL.fieldAddr rfl fo118_4 rfl ?_
  refine VL.store (L := pktL) (qs := [[.slice p78 (nextP (((((openP (l)).drop 1).drop 1).drop 1).drop 1)).length c79]]) 1 4 1 rfl rfl rfl (.inr ⟨kd24, rfl⟩) rfl rfl rfl (by intro u hu; simp [cat] at hu; subst hu; rfl) rfl rfl ?_
  refine VL.set1 ?_
  refine VL.fieldAddr rfl fo118_5 rfl ?_
  refine VL.store (L := pktL) (qs := [(takeB 64 ((((((openP (l)).drop 1).drop 1).drop 1).drop 1).drop 1)).map bv]) 1 5 1 rfl rfl rfl (.inl kd80) rfl rfl (arr_len (takeB_length ((((((openP (l)).drop 1).drop 1).drop 1).drop 1).drop 1) 64)) (ok1_bytes _) rfl rfl ?_
  refine VL.set1 ?_
  refine VL.nn ?_
  refine VC.seq ?_
  refine VC.sr ?_
  refine VL.move rfl ?_
  refine VL.call Try.func126 rfl (by decide) rfl (fun w' hw => end_R (i := 2) rfl hw) (fun v => ?_)
  refine VL.fact fun e83 => ?_
  subst e83
  refine VL.set2 ?_
  refine VL.assign rfl ?_
  refine VL.nn ?_
  refine VC.sr ?_
  refine VL.move rfl ?_
  refine VL.neq rfl rfl ?_
  refine VL.case (fun h16_1 => ?_) (fun h16_1 => ?_)
  ·skip
   refine VL.nn ?_
   refine VC.yes rfl ?_
   refine VC.sr ?_
   refine VL.build0 (cs := cat (pktV (pkt0) none 0 none 0)) built118 ?_
   refine VL.store (L := pktL) (qs := (pktV (pkt0) none 0 none 0)) (ps' := (pktV (pkt0) none 0 none 0)) 3 0 6 rfl rfl rfl (.inl kd118) rfl rfl rfl (pktV_ok1 pkt0 none 0 none 0) rfl rfl ?_
   refine VL.set3 ?_
   refine VL.assign rfl ?_
   refine VL.nn ?_
   refine VC.ret ?_
   refine VX.then_ret ?_
   refine VX.ret_cell (cs := cat (pktV (pkt0) none 0 none 0)) 3 rfl rfl rfl kd118 (fun _ h => h) rfl rfl (fun we hw => ?_)
   obtain ⟨hce, hci⟩ := chain_end hcz hinv hx
   have hpw := pkt_why l hnb
   rw [← hce] at hpw
   obtain ⟨e1, _⟩ := why_none h16_1 hpw
   have e2 : pktW l = 141 := by rw [pktW_good hnb, e1]; rfl
   exact ⟨none, 0, none, 0, by rw [e1]; exact congrArg (fun n : Nat => Value.tuple #[_, .int .i64 (n : Int)]) (e2).symm, hw.drop.drop.drop.drop.subA, by rw [e1]; exact Arr.none, by rw [e1]; exact Arr.none⟩
  ·skip
   refine VL.nn ?_
   refine VC.no rfl ?_
   refine VC.skip ?_
   refine VX.next ?_
   refine VC.sr ?_
   refine VL.loads (cs := cat (pktV ((pktOf (openP l) xs)) (gv.map fun g => (⟨g, 0, none⟩ : Addr)) cv p78 c79)) 1 0 6 rfl kd118 (fun _ h => h) rfl rfl rfl rfl ?_
   refine VL.store (L := pktL) (qs := (pktV ((pktOf (openP l) xs)) (gv.map fun g => (⟨g, 0, none⟩ : Addr)) cv p78 c79)) (ps' := (pktV ((pktOf (openP l) xs)) (gv.map fun g => (⟨g, 0, none⟩ : Addr)) cv p78 c79)) 3 0 6 rfl rfl rfl (.inl kd118) rfl rfl (pktV_len ((⟨takeN_lt _ 1, takeN_lt _ 1, takeN_lt _ 1, hxs, takeB_length _ _⟩ : Pkt.ok (pktOf (openP l) xs)))) (pktV_ok1 ((pktOf (openP l) xs)) (gv.map fun g => (⟨g, 0, none⟩ : Addr)) cv p78 c79) rfl rfl ?_
   refine VL.set3 ?_
   refine VL.assign rfl ?_
   refine VL.nn ?_
   refine VC.ret ?_
   refine VX.ret_cell (cs := cat (pktV ((pktOf (openP l) xs)) (gv.map fun g => (⟨g, 0, none⟩ : Addr)) cv p78 c79)) 3 rfl rfl rfl (by rw [cat_size (pktV_len ((⟨takeN_lt _ 1, takeN_lt _ 1, takeN_lt _ 1, hxs, takeB_length _ _⟩ : Pkt.ok (pktOf (openP l) xs))))]; exact kd118) (fun _ h => h) rfl rfl (fun we hw => ?_)
   obtain ⟨hce, hci⟩ := chain_end hcz hinv hx
   have hpw := pkt_why l hnb
   rw [← hce] at hpw
   obtain ⟨y, e1⟩ := why_some h16_1 hpw
   have e2 : pktW l = 0 := by rw [pktW_good hnb, e1]; rfl
   have e3 := pkt_is e1 hci
   rw [e1, e2, e3]
   exact ⟨_, _, _, _, rfl, hw.drop.drop.drop.drop.subA, (hAr.nowA (s := ⟨wr, _⟩) Mono_object hw.drop.drop.drop.drop), (hA80.nowA (s := ⟨w77, _⟩) Mono.byte hw.drop.drop.drop.drop)⟩

end Go.Proofs.Ytcfecmoagfgnaaa

/- What the document's answer takes bytes for: pieces, whatever they are. -/
namespace Go.Pl

/-- Bytes copied to an array of k bytes. -/
def padB (k : Nat) (l : List UInt8) : List UInt8 := l.take k ++ zeros (k - l.length)
theorem padB_length (k : Nat) (l : List UInt8) : (padB k l).length = k := by
 unfold padB; rw [List.length_append, List.length_take, zeros_length]; omega
theorem padB_self {l : List UInt8} {k : Nat} (h : l.length = k) : padB k l = l := by
 unfold padB; rw [List.take_of_length_le (by omega), h, Nat.sub_self]; exact List.append_nil l
def refN (p : List UInt8) : Nat := num (p.take 4)
def tkN (k : Nat) (ps : List (List UInt8)) : Nat := refN (nextP ps) % 256 ^ k
def tkB (k : Nat) (ps : List (List UInt8)) : List UInt8 := padB k (nextP ps)
theorem tkN_lt (k : Nat) (ps : List (List UInt8)) : tkN k ps < 256 ^ k := Nat.mod_lt _ (Nat.pow_pos (by decide))
theorem tkB_length (k : Nat) (ps : List (List UInt8)) : (tkB k ps).length = k := padB_length _ _
theorem refN_be {k n : Nat} (hk : k ≤ 4) (h : n < 256 ^ k) : refN (be k n) = n := by
 unfold refN; rw [List.take_of_length_le (by rw [be_length]; exact hk), num_be' h]
theorem tkN_be {k n : Nat} {r : List (List UInt8)} (hk : k ≤ 4) (h : n < 256 ^ k) : tkN k (be k n :: r) = n := by
 show refN (be k n) % 256 ^ k = n
 rw [refN_be hk h, Nat.mod_eq_of_lt h]
theorem tkB_cons {p : List UInt8} {r : List (List UInt8)} {k : Nat} (h : p.length = k) : tkB k (p :: r) = p := padB_self h

/-- What is read is that whose bytes these are. -/
theorem readT {α : Type} {R : List UInt8 → Option α} {O : α → Option (List UInt8)} {okp : α → Prop} (hR : ∀ l x, R l = some x ↔ okp x ∧ O x = some l) {l : List UInt8} {x0 : α} (h0 : okp x0) (h : ∀ y, okp y → O y = some l → y = x0) : R l = if O x0 = some l then some x0 else none := by
 split
 ·rename_i h1
  exact (hR l x0).2 ⟨h0, h1⟩
 ·rename_i h1
  cases hr : R l with
  | none => rfl
  | some y =>
   obtain ⟨h2, h3⟩ := (hR l y).1 hr
   exact absurd (h y h2 h3 ▸ h3) h1

def bundleT' (a : List (List UInt8)) : Bundle :=
  ⟨tkN 1 a, tkB 32 (a.drop 1), tkB 32 ((a.drop 1).drop 1), tkN 2 (((a.drop 1).drop 1).drop 1), tkB 32 ((((a.drop 1).drop 1).drop 1).drop 1), tkB 64 (((((a.drop 1).drop 1).drop 1).drop 1).drop 1)⟩
theorem bundleT'_ok (a : List (List UInt8)) : (bundleT' a).ok := ⟨tkN_lt 1 _, tkB_length _ _, tkB_length _ _, tkN_lt 2 _, tkB_length _ _, tkB_length _ _⟩
theorem bundleT'_P {y : Bundle} (h : y.ok) : bundleT' (bundleP y) = y := by
 obtain ⟨a, b, c, d, e, f⟩ := y
 have h1 := h.device; have h2 := h.agree; have h3 := h.signer; have h4 := h.id; have h5 := h.once; have h6 := h.sig
 simp only at h1 h2 h3 h4 h5 h6
 simp only [bundleT', bundleP, List.drop_succ_cons, List.drop_zero]
 rw [tkN_be (by decide) (by omega), tkB_cons h2, tkB_cons h3, tkN_be (by decide) (by omega), tkB_cons h5, tkB_cons h6]
theorem bundle_rd (l : List UInt8) : bundleR l = if bundleB (bundleT' (openP l)) = l then some (bundleT' (openP l)) else none := by
 have h := readT (R := bundleR) (O := fun x => some (bundleB x)) (okp := Bundle.ok) (fun l x => by rw [bundleR_iff, Option.some_inj]) (l := l) (bundleT'_ok (openP l)) (fun y hy e => by
  have e := Option.some.inj e
  rw [← e, show openP (bundleB y) = bundleP y from open_join (bundleP_ok hy), bundleT'_P hy])
 rw [h]
 simp only [Option.some_inj]
theorem bundle_open {l : List UInt8} {y : Bundle} (h : bundleR l = some y) : openP l ≠ [] := by
 obtain ⟨h1, h2⟩ := bundleR_iff.1 h
 rw [← h2, show openP (bundleB y) = bundleP y from open_join (bundleP_ok h1)]
 simp [bundleP]

def headerT' (a : List (List UInt8)) : Header :=
  ⟨tkB 32 a, decide (refN (nextP (a.drop 1)) = 1), tkB 32 ((a.drop 1).drop 1), tkB 32 (((a.drop 1).drop 1).drop 1), tkB 32 ((((a.drop 1).drop 1).drop 1).drop 1), tkN 2 (((((a.drop 1).drop 1).drop 1).drop 1).drop 1), tkB 32 ((((((a.drop 1).drop 1).drop 1).drop 1).drop 1).drop 1), tkN 2 (((((((a.drop 1).drop 1).drop 1).drop 1).drop 1).drop 1).drop 1), tkN 2 ((((((((a.drop 1).drop 1).drop 1).drop 1).drop 1).drop 1).drop 1).drop 1)⟩
theorem headerT'_ok (a : List (List UInt8)) : (headerT' a).ok := ⟨tkB_length _ _, tkB_length _ _, tkB_length _ _, tkB_length _ _, tkN_lt 2 _, tkB_length _ _, tkN_lt 2 _, tkN_lt 2 _⟩
theorem headerT'_P {y : Header} (h : y.ok) : headerT' (headerP y) = y := by
 obtain ⟨a, b, c, d, e, f, g, i, j⟩ := y
 have h1 := h.session; have h2 := h.agree; have h3 := h.signer; have h4 := h.base; have h5 := h.id; have h6 := h.ratchet; have h7 := h.n; have h8 := h.prev
 simp only at h1 h2 h3 h4 h5 h6 h7 h8
 simp only [headerT', headerP, List.drop_succ_cons, List.drop_zero]
 have e1 : decide (refN (nextP [be 1 (if b = true then 1 else 0), c, d, e, be 2 f, g, be 2 i, be 2 j]) = 1) = b := by
  show decide (refN (be 1 (if b = true then 1 else 0)) = 1) = b
  rw [refN_be (by decide) (by split <;> decide)]
  cases b <;> rfl
 rw [e1, tkB_cons h1, tkB_cons h2, tkB_cons h3, tkB_cons h4, tkN_be (by decide) (by omega), tkB_cons h6, tkN_be (by decide) (by omega), tkN_be (by decide) (by omega)]
def letterT' (a : List (List UInt8)) : Letter := ⟨tkN 1 a, tkN 1 (a.drop 1), headerT' (openP (nextP ((a.drop 1).drop 1))), nextP (((a.drop 1).drop 1).drop 1)⟩
theorem letterT'_ok (a : List (List UInt8)) : (letterT' a).ok := ⟨tkN_lt 1 _, tkN_lt 1 _, headerT'_ok _⟩
theorem letterO_P {y : Letter} (h : y.ok) {l : List UInt8} (e : letterO y = some l) : openP l = letterP y ∧ letterT' (openP l) = y := by
 obtain ⟨h1, h2, rfl⟩ := joinO_eq e
 have eo := open_join h1
 refine ⟨eo, ?_⟩
 rw [eo]
 obtain ⟨t, ht⟩ := Option.isSome_iff_exists.1 h2
 have e2 : openP t = headerP y.header := by
  unfold headerO at ht
  split at ht
  ·cases ht; exact open_join (headerP_ok h.header)
  ·cases ht
 obtain ⟨a, b, c, d⟩ := y
 have h3 := h.src; have h4 := h.dst
 simp only at h3 h4 ht e2
 simp only [letterT', letterP, List.drop_succ_cons, List.drop_zero]
 rw [tkN_be (by decide) (by omega), tkN_be (by decide) (by omega), show nextP [(headerO c).getD [], d] = t by show (headerO c).getD [] = t; rw [ht]; rfl, e2, headerT'_P h.header]
 rfl
theorem letter_rd (l : List UInt8) : letterR l = if letterO (letterT' (openP l)) = some l then some (letterT' (openP l)) else none :=
 readT (okp := Letter.ok) (fun _ _ => letterR_iff) (letterT'_ok (openP l)) (fun y hy e => ((letterO_P hy e).2).symm)
theorem letter_open {l : List UInt8} {y : Letter} (h : letterR l = some y) : openP l ≠ [] := by
 obtain ⟨h1, h2⟩ := letterR_iff.1 h
 rw [(letterO_P h1 h2).1]; simp [letterP]

def vouchT' (p : List UInt8) : Vouch := if p = [] then vouch0 else ⟨(p.headD 0).toNat, padB 64 (p.drop 1)⟩
theorem vouchT'_ok (p : List UInt8) : (vouchT' p).ok := by
 unfold vouchT'; split
 ·exact ⟨by decide, rfl⟩
 ·exact ⟨UInt8.toNat_lt _, padB_length _ _⟩
theorem vouchT'_B {v : Vouch} (h : v.ok) : vouchT' (vouchB v) = v := by
 unfold vouchT'
 rw [if_neg (by simp [vouchB])]
 have h1 := h.notary
 obtain ⟨a, b⟩ := v
 simp only at h1
 show Vouch.mk (UInt8.ofNat a).toNat (padB 64 b) = _
 rw [padB_self h.sig, UInt8.toNat_ofNat_of_lt' (by simpa using h1)]
def objectT' (a : List (List UInt8)) (vs : List Vouch) : Object :=
  ⟨tkN 1 a, tkN 1 (a.drop 1), tkB 32 ((a.drop 1).drop 1), tkN 4 (((a.drop 1).drop 1).drop 1), tkN 4 ((((a.drop 1).drop 1).drop 1).drop 1), tkB 64 (((((a.drop 1).drop 1).drop 1).drop 1).drop 1), vs⟩
def objectV' (a : List (List UInt8)) : List Vouch := ((((((((a.drop 1).drop 1).drop 1).drop 1).drop 1).drop 1)).map vouchT')
theorem objectT'_ok (a : List (List UInt8)) {vs : List Vouch} (h : ∀ v ∈ vs, v.ok) : (objectT' a vs).ok := ⟨tkN_lt 1 _, tkN_lt 1 _, tkB_length _ _, tkN_lt 4 _, tkN_lt 4 _, tkB_length _ _, h⟩
theorem objectV'_ok (a : List (List UInt8)) : ∀ v ∈ objectV' a, v.ok := fun v hv => by
 obtain ⟨p, _, rfl⟩ := List.mem_map.1 hv
 exact vouchT'_ok p
theorem vouches_back {vs : List Vouch} (h : ∀ v ∈ vs, v.ok) : (vs.map vouchB).map vouchT' = vs := by
 rw [List.map_map]
 conv => rhs; rw [← List.map_id vs]
 exact List.map_congr_left fun v hv => vouchT'_B (h v hv)
theorem objectO_P {y : Object} (h : y.ok) {l : List UInt8} (e : objectO y = some l) : openP l = objectP y ∧ objectT' (openP l) (objectV' (openP l)) = y := by
 unfold objectO at e
 split at e
 ·rename_i h4
  cases e
  have eo : openP (joinB (objectP y)) = objectP y := open_join (objectP_ok h h4)
  refine ⟨eo, ?_⟩
  rw [eo]
  obtain ⟨a, b, c, d, e, f, g⟩ := y
  have h1 := h.server; have h2 := h.n; have h3 := h.key; have h4 := h.since; have h5 := h.till; have h6 := h.sig
  simp only at h1 h2 h3 h4 h5 h6
  simp only [objectT', objectV', objectP, objectP0, List.cons_append, List.nil_append, List.drop_succ_cons, List.drop_zero]
  rw [tkN_be (by decide) (by omega), tkN_be (by decide) (by omega), tkB_cons h3, tkN_be (by decide) (by omega), tkN_be (by decide) (by omega), tkB_cons h6, vouches_back h.vouches]
 ·cases e
theorem object_rd (l : List UInt8) : objectR l = if objectO (objectT' (openP l) (objectV' (openP l))) = some l then some (objectT' (openP l) (objectV' (openP l))) else none :=
 readT (okp := Object.ok) (fun _ _ => objectR_iff) (objectT'_ok (openP l) (objectV'_ok _)) (fun y hy e => ((objectO_P hy e).2).symm)
theorem object_open {l : List UInt8} {y : Object} (h : objectR l = some y) : openP l ≠ [] := by
 obtain ⟨h1, h2⟩ := objectR_iff.1 h
 rw [(objectO_P h1 h2).1]; simp [objectP, objectP0]

def chainT' (p : List UInt8) : List Object := (openP p).map fun q => (objectR q).getD object0
theorem chainT'_ok (p : List UInt8) : ∀ x ∈ chainT' p, x.ok := fun x hx => by
 obtain ⟨q, _, rfl⟩ := List.mem_map.1 hx
 exact objectR_ok q
def pktT' (a : List (List UInt8)) (xs : List Object) : Pkt := ⟨tkN 1 a, tkN 1 (at1 a), tkN 1 (at2 a), xs, nextP (at4 a), tkB 64 (at5 a)⟩
theorem pktT'_ok (a : List (List UInt8)) {xs : List Object} (h : ∀ x ∈ xs, x.ok) : (pktT' a xs).ok := ⟨tkN_lt 1 _, tkN_lt 1 _, tkN_lt 1 _, h, tkB_length _ _⟩
theorem pktO_P {y : Pkt} (h : y.ok) {l : List UInt8} (e : pktO y = some l) : openP l = pktP y ∧ pktT' (openP l) (chainT' (nextP (at3 (openP l)))) = y := by
 obtain ⟨h1, h2, rfl⟩ := joinO_eq e
 have eo := open_join h1
 refine ⟨eo, ?_⟩
 rw [eo]
 rw [Bool.and_eq_true] at h2
 obtain ⟨t, ht⟩ := Option.isSome_iff_exists.1 h2.1
 obtain ⟨h3, h4, h5⟩ := joinO_eq ht
 have e1 : chainT' t = y.chain := by
  unfold chainT'
  rw [h5, open_join h3]
  exact (objects_back h.chain (chainGood_iff.1 h4).2).2
 obtain ⟨a, b, c, d, m, f⟩ := y
 have h6 := h.src; have h7 := h.dst; have h8 := h.kind; have h9 := h.sig
 simp only at h6 h7 h8 h9 ht e1
 simp only [pktT', pktP, at1, at2, at3, at4, at5, List.drop_succ_cons, List.drop_zero]
 rw [tkN_be (by decide) (by omega), tkN_be (by decide) (by omega), tkN_be (by decide) (by omega), tkB_cons h9, show nextP [(chainO d).getD [], m, f] = t by show (chainO d).getD [] = t; rw [ht]; rfl, e1]
 rfl
theorem pkt_rd (l : List UInt8) : pktR l = if pktO (pktT' (openP l) (chainT' (nextP (at3 (openP l))))) = some l then some (pktT' (openP l) (chainT' (nextP (at3 (openP l))))) else none :=
 readT (okp := Pkt.ok) (fun _ _ => pktR_iff) (pktT'_ok (openP l) (chainT'_ok _)) (fun y hy e => ((pktO_P hy e).2).symm)
theorem pkt_open {l : List UInt8} {y : Pkt} (h : pktR l = some y) : openP l ≠ [] := by
 obtain ⟨h1, h2⟩ := pktR_iff.1 h
 rw [(pktO_P h1 h2).1]; simp [pktP]
end Go.Pl

