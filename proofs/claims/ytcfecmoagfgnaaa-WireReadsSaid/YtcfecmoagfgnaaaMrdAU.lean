/- The statement WireReads is proved, for every input: part 21 of 27 of the texts that it needs. -/
import Derived.Test.YtcfecmoagfgnaaaMrdAT
/- The reference: what bytes are read as: packets. -/
namespace Go.Proofs.Ytcfecmoagfgnaaa
open Go.Vc Go.Pl

section
variable {n : Nat} {Q : Exit → Act → World → Prop} {σ : Sl} {G : World → Prop} {ops : Array Oper} {rest : List Oper}
variable {d : Nat} {ty : TypeId} {pos : String} {aft : Array Edge} {S : List Snap} {H : List Chunk}
theorem loadL {x : Operand} {g : Nat} {left : List (List UInt8)} (i : Nat) (hx : ev σ x = some (.pointer (some ⟨g, 0, none⟩))) (hi : H[i]? = some (tch g true left))
  (h : ∀ p c w1, Own S H w1 → Arr 1 bytesR (keys H) w1 p left c → VL Try.prog n ops Q rest ((d, .slice p left.length c) :: σ) (Own (⟨w1, keys H⟩ :: S) H)) (hdn : Nat.blt d n = true := by rfl) : VL Try.prog n ops Q (⟨some d, .load 31 x, ty, pos, aft, none⟩ :: rest) σ (Own S H) := by
 refine VL.at fun w hw => ?_
 obtain ⟨ps, h1, h2, ls, p, c, m, rfl, h3, _, h4, hA⟩ := hw.holds _ (List.mem_of_getElem? hi)
 obtain rfl : m = 0 := h4 rfl
 obtain rfl : left = ls := h3
 refine VL.val (v := .slice p left.length c) rfl rfl hdn (fun a w' ha e => ?_) (VL.turn (fun w' e => by subst e; exact hw.keep) (h p c w hw hA))
 subst e
 have hc : w'.cell? ⟨g, 0, none⟩ = some (.slice p left.length c) := by
  rw [cell_of_row w' g 0 _ 216 (0, 0) h1]
  rfl
 simp [execOp, ha.ev hx, run_load_cell kd31 hc]
end
theorem pkt_empty {l : List UInt8} (h : ¬ openP l ≠ []) : pktR l = none ∧ pktW l = 141 := by
 have h1 : pktR l = none := by
  cases e : pktR l with
  | none => rfl
  | some y => exact absurd (pkt_open e) h
 refine ⟨h1, ?_⟩
 rw [pktW_good (fun hb => by
  have h2 := hb.1
  rw [Classical.not_not.1 h] at h2
  exact absurd h2 (by decide)), h1]
 rfl
abbrev objsOf (ps : List (List UInt8)) : List Object := ps.map fun q => (objectR q).getD object0
theorem pkt_no {l : List UInt8} {xs : List Object} (hv : chainT' (nextP (at3 (openP l))) = xs ++ objsOf []) (h : ¬ pktO (pktT' (openP l) xs) = some l) : pktR l = none := by
 rw [show objsOf [] = [] from rfl, List.append_nil] at hv
 rw [pkt_rd, hv, if_neg h]
theorem pkt_yes {l : List UInt8} {xs : List Object} (hv : chainT' (nextP (at3 (openP l))) = xs ++ objsOf []) (h : pktO (pktT' (openP l) xs) = some l) : pktR l = some (pktT' (openP l) xs) := by
 rw [show objsOf [] = [] from rfl, List.append_nil] at hv
 rw [pkt_rd, hv, if_pos h]
theorem objs_step {A xs : List Object} {p : List UInt8} {r : List (List UInt8)} (h : A = xs ++ objsOf (p :: r)) : A = (xs ++ [(objectR p).getD object0]) ++ objsOf r := by
 rw [h, show objsOf (p :: r) = (objectR p).getD object0 :: objsOf r from rfl, List.append_assoc]; rfl

/-- It may have been taken from. -/
theorem tkFree {S : List Snap} {H : List Chunk} {w : World} {g : Nat} {z : Bool} {left : List (List UInt8)} (h : Own S (tch g z left :: H) w) : Own S (tch g false left :: H) w := by
 obtain ⟨ls, p, c, n, rfl, h1, _, h2, h3⟩ := openTk h
 exact shutTk h2 h1 (fun h => by cases h) h3
theorem tkFree1 {S : List Snap} {H : List Chunk} {a : Chunk} {w : World} {g : Nat} {z : Bool} {left : List (List UInt8)} (h : Own S (a :: tch g z left :: H) w) : Own S (a :: tch g false left :: H) w :=
 (tkFree (h.perm (List.Perm.swap _ _ _))).perm (List.Perm.swap _ _ _)

theorem readPkt_w {S : List Snap} {H : List Chunk} {w : World} (ho : Own S H w) {p : Option Addr} {l : List UInt8} {c : Nat} (hA : Bytes (keys H) w p l c) : Calls Try.prog 82 #[.slice p l.length c] w (Ret fun v w' => ∃ q d p c, v = .tuple #[.agg (cat (pktV ((pktR l).getD pkt0) q d p c)).toArray, .int .i64 ((pktW l : Nat) : Int)] ∧ Own S H w' ∧ Arr 101 objectR' (keys H) w' q ((pktR l).getD pkt0).chain d ∧ Bytes (keys H) w' p ((pktR l).getD pkt0).body c) := by
 refine enter (G := Own (⟨w, keys H⟩ :: S) H) ho.keep Try.func82 rfl Try.ntmps82 rfl ?_
 refine VC.sr ?_
 refine VL.alloc (L := pktL) (ps := (pktV (pkt0) none 0 none 0)) zero118 rfl rfl (fun g1 => ?_)
 refine VL.assign rfl ?_
 refine VL.nn ?_
 refine VC.sr ?_
 refine VL.move rfl ?_
 refine VL.call Try.func140 rfl (by decide) rfl (fun w' hw => open_T hw (hA.nowA (s := ⟨w, _⟩) Mono.byte hw)) (fun v => ?_)
 refine VL.ex fun g2 => VL.fact fun e3 => ?_
 subst e3
 refine VL.move rfl ?_
 refine VL.extract rfl rfl ?_
 refine VL.extract rfl rfl ?_
 refine VL.assign rfl ?_
 refine VL.assign rfl ?_
 refine VL.nn ?_
 refine VC.seq ?_
 refine VC.sr ?_
 refine VL.move rfl ?_
 refine VL.case (fun ho => ?_) (fun ho => ?_)
 ·refine VL.not rfl ?_
  refine VL.nn ?_
  refine VC.no rfl ?_
  refine VC.skip ?_
  refine VX.next ?_
  refine VC.seq ?_
  refine VC.join (X := Bool) (fun b => [(2, .pointer (some ⟨g1, 0, none⟩)), (4, .pointer (some ⟨g2, 0, none⟩)), (0, .slice p l.length c), (58, .bool b)]) (fun _ => Own (⟨w, keys H⟩ :: S) (tch g2 true (openP l) :: blk g1 118 pktL (pktV (pkt0) none 0 none 0) :: H)) (fun b => (b = true ↔ kindBad (openP l))) (fun hrest => ?_) (fun b hbk => ?_)
  ·skip
   refine VC.region ?_
   refine VL.move rfl ?_
   refine VL.nilCheck rfl ?_
   refine VL.fieldAddr rfl fo216_0 rfl ?_
   refine loadL 0 rfl rfl (fun p4 c5 w6 hO7 hA8 => ?_)
   refine VL.len Try.underlying31 rfl rfl ?_
   refine VL.gtr rfl rfl ?_
   refine VL.case (fun h4_5 => ?_) (fun h4_5 => ?_)
   ·have hlen : 2 < (openP l).length := by omega
    refine VL.move rfl ?_
    refine VL.go rfl rfl rfl ?_
    refine VL.move rfl ?_
    refine VL.go rfl rfl rfl ?_
    refine VL.nilCheck rfl ?_
    refine VL.go rfl rfl rfl ?_
    refine VL.fieldAddr rfl fo216_0 rfl ?_
    refine VL.go rfl rfl rfl ?_
    refine loadL 0 rfl rfl (fun p9 c10 w11 hO12 hA13 => ?_)
    refine VL.go rfl rfl rfl ?_
    refine VL.index (xs := (openP l)) rfl rfl Try.underlying31 sz31 hA13 (by omega) (by have hi := hlen; omega) ?_
    refine VL.go rfl rfl rfl ?_
    refine VL.elem (s := ⟨w11, _⟩) (2) 0 rfl kd24 (fun _ h => h) (by repeat (first | exact List.mem_cons_self .. | apply List.mem_cons_of_mem)) (Mono.slice Mono.byte) hA13 (List.getElem?_eq_getElem hlen) (by simp) (by decide) (fun vs v hl hr hv => ?_)
    obtain ⟨p16, c17, rfl, hA18⟩ := hr
    have ehy15 : v = .slice p16 ((openP l)[2]'hlen).length c17 := Option.some.inj (hv.symm.trans rfl)
    subst ehy15
    refine VL.go rfl rfl rfl ?_
    refine VL.len Try.underlying24 rfl rfl ?_
    refine VL.go rfl rfl rfl ?_
    refine VL.eql rfl rfl ?_
    refine VL.case (fun h4_14 => ?_) (fun h4_14 => ?_)
    ·have h1l : ((openP (l))[2]'hlen).length = 1 := by omega
     have h1p : 0 < ((openP (l))[2]'hlen).length := by omega
     refine VL.pick_t rfl rfl ?_
     refine VL.move rfl ?_
     refine VL.go rfl rfl rfl ?_
     refine VL.move rfl ?_
     refine VL.go rfl rfl rfl ?_
     refine VL.nilCheck rfl ?_
     refine VL.go rfl rfl rfl ?_
     refine VL.fieldAddr rfl fo216_0 rfl ?_
     refine VL.go rfl rfl rfl ?_
     refine loadL 0 rfl rfl (fun p19 c20 w21 hO22 hA23 => ?_)
     refine VL.go rfl rfl rfl ?_
     refine VL.index (xs := (openP l)) rfl rfl Try.underlying31 sz31 hA23 (by omega) (by have hi := hlen; omega) ?_
     refine VL.go rfl rfl rfl ?_
     refine VL.elem (s := ⟨w21, _⟩) (2) 0 rfl kd24 (fun _ h => h) (by repeat (first | exact List.mem_cons_self .. | apply List.mem_cons_of_mem)) (Mono.slice Mono.byte) hA23 (List.getElem?_eq_getElem hlen) (by simp) (by decide) (fun vs v hl hr hv => ?_)
     obtain ⟨p26, c27, rfl, hA28⟩ := hr
     have ehy25 : v = .slice p26 ((openP l)[2]'hlen).length c27 := Option.some.inj (hv.symm.trans rfl)
     subst ehy25
     refine VL.go rfl rfl rfl ?_
     refine VL.index (xs := ((openP l)[2]'hlen)) rfl rfl Try.underlying24 sz24 hA28 (by omega) (by have hi := h1p; omega) ?_
     refine VL.go rfl rfl rfl ?_
     refine VL.byte (s := ⟨w21, _⟩) (y := ((openP l)[2]'hlen)[0]'h1p) rfl kd5 (fun _ h => h) (by repeat (first | exact List.mem_cons_self .. | apply List.mem_cons_of_mem)) hA28 ((congrArg (fun k : Nat => ((openP l)[2]'hlen)[k]?) (show _ = 0 by simp)).trans (List.getElem?_eq_getElem h1p)) ?_
     refine VL.go rfl rfl rfl ?_
     refine VL.lss rfl rfl ?_
     refine VL.case (fun h4_25 => ?_) (fun h4_25 => ?_)
     ·have hb : kindBad (openP l) := (kb_iff hlen h1l h1p).2 (kindIn_no (.inl (by have h : ((((((openP (l))[2]'hlen)[0]'h1p).toNat : Nat)) : Int) < 1 := h4_25; omega)))
      refine VL.go rfl rfl rfl ?_
      refine VL.move rfl ?_
      refine VL.pass rfl rfl rfl rfl rfl ?_
      refine VL.pass rfl rfl rfl rfl rfl ?_
      refine VL.pass rfl rfl rfl rfl rfl ?_
      refine VL.pass rfl rfl rfl rfl rfl ?_
      refine VL.pass rfl rfl rfl rfl rfl ?_
      refine VL.pass rfl rfl rfl rfl rfl ?_
      refine VL.pass rfl rfl rfl rfl rfl ?_
      refine VL.pass rfl rfl rfl rfl rfl ?_
      refine VL.pass rfl rfl rfl rfl rfl ?_
      refine VL.go rfl rfl rfl ?_
      refine VL.pick_t rfl rfl ?_
      refine VL.pick_t rfl rfl ?_
      refine VL.nil ?_
      exact VX.join hrest true ⟨fun _ => hb, fun _ => rfl⟩ ⟨rfl, rfl, rfl, rfl, trivial⟩ (fun _ h => h.subA)
     ·skip
      refine VL.go rfl rfl rfl ?_
      refine VL.move rfl ?_
      refine VL.go rfl rfl rfl ?_
      refine VL.move rfl ?_
      refine VL.go rfl rfl rfl ?_
      refine VL.nilCheck rfl ?_
      refine VL.go rfl rfl rfl ?_
      refine VL.fieldAddr rfl fo216_0 rfl ?_
      refine VL.go rfl rfl rfl ?_
      refine loadL 0 rfl rfl (fun p31 c32 w33 hO34 hA35 => ?_)
      refine VL.go rfl rfl rfl ?_
      refine VL.index (xs := (openP l)) rfl rfl Try.underlying31 sz31 hA35 (by omega) (by have hi := hlen; omega) ?_
      refine VL.go rfl rfl rfl ?_
      refine VL.elem (s := ⟨w33, _⟩) (2) 0 rfl kd24 (fun _ h => h) (by repeat (first | exact List.mem_cons_self .. | apply List.mem_cons_of_mem)) (Mono.slice Mono.byte) hA35 (List.getElem?_eq_getElem hlen) (by simp) (by decide) (fun vs v hl hr hv => ?_)
      obtain ⟨p38, c39, rfl, hA40⟩ := hr
      have ehy37 : v = .slice p38 ((openP l)[2]'hlen).length c39 := Option.some.inj (hv.symm.trans rfl)
      subst ehy37
      refine VL.go rfl rfl rfl ?_
      refine VL.index (xs := ((openP l)[2]'hlen)) rfl rfl Try.underlying24 sz24 hA40 (by omega) (by have hi := h1p; omega) ?_
      refine VL.go rfl rfl rfl ?_
      refine VL.byte (s := ⟨w33, _⟩) (y := ((openP l)[2]'hlen)[0]'h1p) rfl kd5 (fun _ h => h) (by repeat (first | exact List.mem_cons_self .. | apply List.mem_cons_of_mem)) hA40 ((congrArg (fun k : Nat => ((openP l)[2]'hlen)[k]?) (show _ = 0 by simp)).trans (List.getElem?_eq_getElem h1p)) ?_
      refine VL.go rfl rfl rfl ?_
      refine VL.gtr rfl rfl ?_
      refine VL.case (fun h4_35 => ?_) (fun h4_35 => ?_)
      ·have hb : kindBad (openP l) := (kb_iff hlen h1l h1p).2 (kindIn_no (.inr (by have h : (4 : Int) < ((((((openP (l))[2]'hlen)[0]'h1p).toNat : Nat)) : Int) := h4_35; omega)))
       refine VL.go rfl rfl rfl ?_
       refine VL.pick_f rfl rfl ?_
       refine VL.pick_t rfl rfl ?_
       refine VL.nil ?_
       exact VX.join hrest true ⟨fun _ => hb, fun _ => rfl⟩ ⟨rfl, rfl, rfl, rfl, trivial⟩ (fun _ h => h.subA)
      ·have hnb : ¬ kindBad (openP l) := fun hb => by
        have h1 := (kb_iff hlen h1l h1p).1 hb
        rw [kindIn_of.2 ⟨by have h : ¬ ((((((openP (l))[2]'hlen)[0]'h1p).toNat : Nat)) : Int) < 1 := h4_25; omega, by have h : ¬ (4 : Int) < ((((((openP (l))[2]'hlen)[0]'h1p).toNat : Nat)) : Int) := h4_35; omega⟩] at h1
        cases h1
       refine VL.go rfl rfl rfl ?_
       refine VL.pick_f rfl rfl ?_
       refine VL.pick_t rfl rfl ?_
       refine VL.nil ?_
       exact VX.join hrest false ⟨fun h => absurd h (by decide), fun h => absurd h hnb⟩ ⟨rfl, rfl, rfl, rfl, trivial⟩ (fun _ h => h.subA)
    ·have hnb : ¬ kindBad (openP l) := kb_len hlen (by omega)
     refine VL.pick_t rfl rfl ?_
     refine VL.move rfl ?_
     refine VL.pass rfl rfl rfl rfl rfl ?_
     refine VL.pass rfl rfl rfl rfl rfl ?_
     refine VL.pass rfl rfl rfl rfl rfl ?_
     refine VL.pass rfl rfl rfl rfl rfl ?_
     refine VL.pass rfl rfl rfl rfl rfl ?_
     refine VL.pass rfl rfl rfl rfl rfl ?_
     refine VL.pass rfl rfl rfl rfl rfl ?_
     refine VL.pass rfl rfl rfl rfl rfl ?_
     refine VL.pass rfl rfl rfl rfl rfl ?_
     refine VL.pass rfl rfl rfl rfl rfl ?_
     refine VL.passu rfl rfl rfl rfl ?_
     refine VL.passu rfl rfl rfl rfl ?_
     refine VL.passu rfl rfl rfl rfl ?_
     refine VL.passu rfl rfl rfl rfl ?_
     refine VL.passu rfl rfl rfl rfl ?_
     refine VL.passu rfl rfl rfl rfl ?_
     refine VL.passu rfl rfl rfl rfl ?_
     refine VL.passu rfl rfl rfl rfl ?_
     refine VL.passu rfl rfl rfl rfl ?_
     refine VL.pass rfl rfl rfl rfl rfl ?_
     refine VL.pick_f rfl rfl ?_
     refine VL.nil ?_
     exact VX.join hrest false ⟨fun h => absurd h (by decide), fun h => absurd h hnb⟩ ⟨rfl, rfl, rfl, rfl, trivial⟩ (fun _ h => h.subA)
   ·have hnb : ¬ kindBad (openP l) := kb_short (by omega)
    refine VL.move rfl ?_
    refine VL.pass rfl rfl rfl rfl rfl ?_
    refine VL.pass rfl rfl rfl rfl rfl ?_
    refine VL.pass rfl rfl rfl rfl rfl ?_
    refine VL.pass rfl rfl rfl rfl rfl ?_
    refine VL.pass rfl rfl rfl rfl rfl ?_
    refine VL.pass rfl rfl rfl rfl rfl ?_
    refine VL.pass rfl rfl rfl rfl rfl ?_
    refine VL.pass rfl rfl rfl rfl rfl ?_
    refine VL.pick_f rfl rfl ?_
    refine VL.move rfl ?_
    refine VL.pass rfl rfl rfl rfl rfl ?_
    refine VL.pass rfl rfl rfl rfl rfl ?_
    refine VL.pass rfl rfl rfl rfl rfl ?_
    refine VL.pass rfl rfl rfl rfl rfl ?_
    refine VL.pass rfl rfl rfl rfl rfl ?_
    refine VL.pass rfl rfl rfl rfl rfl ?_
    refine VL.pass rfl rfl rfl rfl rfl ?_
    refine VL.pass rfl rfl rfl rfl rfl ?_
    refine VL.pass rfl rfl rfl rfl rfl ?_
    refine VL.pass rfl rfl rfl rfl rfl ?_
    refine VL.passu rfl rfl rfl rfl ?_
    refine VL.passu rfl rfl rfl rfl ?_
    refine VL.passu rfl rfl rfl rfl ?_
    refine VL.passu rfl rfl rfl rfl ?_
    refine VL.passu rfl rfl rfl rfl ?_
    refine VL.passu rfl rfl rfl rfl ?_
    refine VL.passu rfl rfl rfl rfl ?_
    refine VL.passu rfl rfl rfl rfl ?_
    refine VL.passu rfl rfl rfl rfl ?_
    refine VL.pass rfl rfl rfl rfl rfl ?_
    refine VL.pick_f rfl rfl ?_
    refine VL.nil ?_
    exact VX.join hrest false ⟨fun h => absurd h (by decide), fun h => absurd h hnb⟩ ⟨rfl, rfl, rfl, rfl, trivial⟩ (fun _ h => h.subA)
  skip
  refine VC.split rfl (fun hc58 => ?_) (fun hc58 => ?_)
  ·refine VC.seq ?_
   refine VC.region ?_
   refine VL.build0 (cs := cat (pktV (pkt0) none 0 none 0)) built118 ?_
   refine VL.store (L := pktL) (qs := (pktV (pkt0) none 0 none 0)) (ps' := (pktV (pkt0) none 0 none 0)) 1 0 6 rfl rfl rfl (.inl kd118) rfl rfl rfl (pktV_ok1 pkt0 none 0 none 0) rfl rfl ?_
   refine VL.set1 ?_
   refine VL.assign rfl ?_
   refine VL.nn ?_
   refine VC.ret ?_
   refine VX.then_ret ?_
   refine VX.ret_cell (cs := cat (pktV (pkt0) none 0 none 0)) 1 rfl rfl rfl kd118 (fun _ h => h) rfl rfl (fun we hw => ?_)
   obtain ⟨e1, e2⟩ := pktW_bad (hbk.1 hc58)
   exact ⟨none, 0, none, 0, by rw [e1]; exact congrArg (fun n : Nat => Value.tuple #[_, .int .i64 (n : Int)]) (e2).symm, hw.drop.drop.subA, by rw [e1]; exact Arr.none, by rw [e1]; exact Arr.none⟩
  ·refine VC.skip ?_
   refine VX.next ?_
   refine VC.seq ?_
   have hnb : ¬ kindBad (openP l) := mt hbk.2 (by rw [hc58]; decide)
   refine VC.region ?_
   refine VL.move rfl ?_
   refine VL.call Try.func141 rfl (by decide) rfl (fun w' hw => num_T (i := 0) rfl hw) (fun v => ?_)
   refine VL.fact fun e43 => ?_
   subst e43
   refine VL.set0 ?_
   refine VL.convw (by rw [Try.underlying3]; rfl) Try.underlying5 rfl ?_
   refine VL.newv (v' := .int .u8 (tkN 1 (openP l) : Nat)) (wrapT_u8 _) ?_
   refine VL.move rfl ?_
   refine VL.call Try.func141 rfl (by decide) rfl (fun w' hw => num_T (i := 0) rfl hw) (fun v => ?_)
   refine VL.fact fun e44 => ?_
   subst e44
   refine VL.set0 ?_
   refine VL.convw (by rw [Try.underlying3]; rfl) Try.underlying5 rfl ?_
   refine VL.newv (v' := .int .u8 (tkN 1 ((openP l).drop 1) : Nat)) (wrapT_u8 _) ?_
   refine VL.move rfl ?_
   refine VL.call Try.func141 rfl (by decide) rfl (fun w' hw => num_T (i := 0) rfl hw) (fun v => ?_)
   refine VL.fact fun e45 => ?_
   subst e45
   refine VL.set0 ?_
   refine VL.convw (by rw [Try.underlying3]; rfl) Try.underlying5 rfl ?_
   refine VL.newv (v' := .int .u8 (tkN 1 (((openP l).drop 1).drop 1) : Nat)) (wrapT_u8 _) ?_
   refine VL.build (zs := pktZ) (L := pktFL) [(0, [.int .u8 (tkN 1 (openP l))]), (1, [.int .u8 (tkN 1 ((openP l).drop 1))]), (2, [.int .u8 (tkN 1 (((openP l).drop 1).drop 1))])] plan118 rfl ⟨⟨rfl, ⟨_, rfl, rfl⟩, rfl⟩, ⟨⟨rfl, ⟨_, rfl, rfl⟩, rfl⟩, ⟨⟨rfl, ⟨_, rfl, rfl⟩, rfl⟩, trivial⟩⟩⟩ rfl ?_
   refine VL.newv (v' := .agg (cat (pktV ((Pkt.mk (tkN 1 (openP l)) (tkN 1 ((openP l).drop 1)) (tkN 1 (((openP l).drop 1).drop 1)) [] [] (zeros 64))) none 0 none 0)).toArray) rfl ?_
   refine VL.alloc (L := pktL) (ps := (pktV (pkt0) none 0 none 0)) zero118 rfl rfl (fun g46 => ?_)
   refine VL.store (L := pktL) (qs := (pktV ((Pkt.mk (tkN 1 (openP l)) (tkN 1 ((openP l).drop 1)) (tkN 1 (((openP l).drop 1).drop 1)) [] [] (zeros 64))) none 0 none 0)) (ps' := (pktV ((Pkt.mk (tkN 1 (openP l)) (tkN 1 ((openP l).drop 1)) (tkN 1 (((openP l).drop 1).drop 1)) [] [] (zeros 64))) none 0 none 0)) 0 0 6 rfl rfl rfl (.inl kd118) rfl rfl (pktV_len ((⟨tkN_lt 1 _, tkN_lt 1 _, tkN_lt 1 _, (by simp), rfl⟩ : Pkt.ok (Pkt.mk (tkN 1 (openP l)) (tkN 1 ((openP l).drop 1)) (tkN 1 (((openP l).drop 1).drop 1)) [] [] (zeros 64))))) (pktV_ok1 ((Pkt.mk (tkN 1 (openP l)) (tkN 1 ((openP l).drop 1)) (tkN 1 (((openP l).drop 1).drop 1)) [] [] (zeros 64))) none 0 none 0) rfl rfl ?_
   refine VL.set0 ?_
   refine VL.nn ?_
   refine VC.sr ?_
   refine VL.move rfl ?_
   refine VL.call Try.func142 rfl (by decide) rfl (fun w' hw => next_T (i := 1) rfl hw) (fun v => ?_)
   refine VL.at (fun w47 h1w => ?_)
   obtain ⟨p48, c49, rfl, hO51, hA50⟩ := h1w
   replace hO51 := ownSet1 hO51
   replace hA50 := arrSet1 hA50
   refine VL.toOwn hO51 ?_
   refine VL.call Try.func140 rfl (by decide) rfl (fun w' hw => open_T hw (hA50.nowA (s := ⟨w47, _⟩) Mono.byte hw)) (fun v => ?_)
   refine VL.ex fun g52 => VL.fact fun e53 => ?_
   subst e53
   refine VL.move rfl ?_
   refine VL.extract rfl rfl ?_
   refine VL.extract rfl rfl ?_
   refine VL.assign rfl ?_
   refine VL.assign rfl ?_
   refine VL.nn ?_
   refine VC.seq ?_
   refine VC.block ?_
   refine VC.turn (G' := Own _ (arow 85 101 objectR' Mono_object none 0 ([] : List Object) :: tch g52 true (openP (nextP ((((openP l).drop 1).drop 1).drop 1))) :: blk g46 118 pktL (pktV ((Pkt.mk (tkN 1 (openP l)) (tkN 1 ((openP l).drop 1)) (tkN 1 (((openP l).drop 1).drop 1)) [] [] (zeros 64))) none 0 none 0) :: tch g2 false (((((openP l).drop 1).drop 1).drop 1).drop 1) :: blk g1 118 pktL (pktV (pkt0) none 0 none 0) :: H)) (fun w' h => newRowO h) ?_
   have hpl := openP_len (nextP ((((openP l).drop 1).drop 1).drop 1))
   refine VC.loop (X := List Object × List (List UInt8) × Option Nat × Nat) (fun _ => [(2, .pointer (some ⟨g1, 0, none⟩)), (4, .pointer (some ⟨g2, 0, none⟩)), (6, .pointer (some ⟨g46, 0, none⟩)), (7, .pointer (some ⟨g52, 0, none⟩)), (0, .slice p l.length c)]) (fun (xs, ps, gv, cv) w' => ((∀ x ∈ xs, x.ok) ∧ chainT' (nextP ((((openP l).drop 1).drop 1).drop 1)) = xs ++ objsOf ps ∧ xs.length + ps.length ≤ 64) ∧ Own (⟨w, keys H⟩ :: S) (arow 85 101 objectR' Mono_object gv cv xs :: tch g52 false ps :: blk g46 118 pktL (pktV ((Pkt.mk (tkN 1 (openP l)) (tkN 1 ((openP l).drop 1)) (tkN 1 (((openP l).drop 1).drop 1)) xs [] (zeros 64))) (gv.map fun g => (⟨g, 0, none⟩ : Addr)) cv none 0) :: tch g2 false (((((openP l).drop 1).drop 1).drop 1).drop 1) :: blk g1 118 pktL (pktV (pkt0) none 0 none 0) :: H) w') (fun (_, ps, _) => ps.length) ([], (openP (nextP ((((openP l).drop 1).drop 1).drop 1))), none, 0) ⟨rfl, rfl, rfl, rfl, rfl, trivial⟩ (fun w' h => ⟨⟨by simp, rfl, by simp only [List.length_nil]; omega⟩, (tkFree1 h).subA⟩) (fun (xs, ps, gv, cv) => VC.fact fun ⟨hxs, hveq, hvl⟩ => ?_)
   ·skip
    refine VC.seq ?_
    refine VC.sr ?_
    refine VL.move rfl ?_
    refine VL.call Try.func143 rfl (by decide) rfl (fun w' hw => left_T (i := 1) rfl hw) (fun v => ?_)
    refine VL.fact fun e54 => ?_
    subst e54
    refine VL.gtr rfl rfl ?_
    refine VL.case (fun h8 => ?_) (fun h8 => ?_)
    ·obtain ⟨pc, rest, rfl⟩ : ∃ pc rest, ps = pc :: rest := by
      cases ps with
      | nil => exact absurd h8 (by simp)
      | cons a b => exact ⟨a, b, rfl⟩
     refine VL.nn ?_
     refine VC.yes rfl ?_
     refine VC.skip ?_
     refine VX.next ?_
     refine VC.block ?_
     refine VC.sr ?_
     refine VL.move rfl ?_
     refine VL.call Try.func142 rfl (by decide) rfl (fun w' hw => next_T (i := 1) rfl hw) (fun v => ?_)
     refine VL.at (fun w55 h1w => ?_)
     obtain ⟨p56, c57, rfl, hO59, hA58⟩ := h1w
     replace hO59 := ownSet1 hO59
     replace hA58 := arrSet1 hA58
     refine VL.toOwn hO59 ?_
     refine VL.call Try.func96 rfl (by decide) rfl (fun w' hw => readObject_w hw (hA58.nowA (s := ⟨w55, _⟩) Mono.byte hw)) (fun v => ?_)
     refine VL.at (fun w60 h1w => ?_)
     obtain ⟨p62, c63, rfl, hO61, hA64⟩ := h1w
     refine VL.toOwn hO61 ?_
     refine VL.move rfl ?_
     refine VL.extract rfl rfl ?_
     refine VL.extract rfl rfl ?_
     refine VL.alloc (L := objectL) (ps := (objectV (object0) none 0)) zero85 rfl rfl (fun g65 => ?_)
     refine VL.store (L := objectL) (qs := (objectV (((objectR pc).getD object0)) p62 c63)) (ps' := (objectV (((objectR pc).getD object0)) p62 c63)) 0 0 7 rfl rfl rfl (.inl kd85) rfl rfl (objectV_len (objectR_ok pc)) (objectV_ok1 (((objectR pc).getD object0)) p62 c63) rfl rfl ?_
     refine VL.set0 ?_
     refine VL.assign rfl ?_
     refine VL.nn ?_
     have hxs2 : ∀ x ∈ xs ++ [((objectR pc).getD object0)], x.ok := fun x hx => (List.mem_append.1 hx).elim (hxs x) (fun h => by rw [List.mem_singleton] at h; subst h; exact objectR_ok pc)
     refine VC.region ?_
     refine VL.fieldAddr rfl fo118_3 rfl ?_
     refine VL.load (v := .slice (gv.map fun g => (⟨g, 0, none⟩ : Addr)) (xs).length cv) 3 3 rfl kd116 (fun _ h => h) rfl rfl rfl ?_
     refine VL.loads (cs := cat (objectV (((objectR pc).getD object0)) p62 c63)) 0 0 7 rfl kd85 (fun _ h => h) rfl rfl rfl rfl ?_
     refine VL.lit el116 rfl rfl rfl (by intro v hv; simp only [List.mem_singleton] at hv; subst hv; show (cat (objectV ((objectR pc).getD object0) p62 c63)).toArray.size = 101; rw [List.size_toArray, cat_size (objectV_len (objectR_ok pc))]; rfl) (by rw [show [Value.agg (cat (objectV ((objectR pc).getD object0) p62 c63)).toArray].flatMap (·.cells.toList) = (cat (objectV ((objectR pc).getD object0) p62 c63)) by simp [Value.cells]]; exact objectV_ok1 _ _ _) (fun gz => ?_)
     refine VL.letRow objectR' [((objectR pc).getD object0)] rfl (fun w' hw => one_object (objectR_ok pc) (hA64.nowA (s := ⟨w60, _⟩) Mono_vouch hw)) (fun wl hOl hAl => ?_)
     refine VL.appends (R := objectR') (hR := Mono_object) (ys := xs) (zs := [((objectR pc).getD object0)]) 1 el116 rfl rfl rfl (fun _ h => h) rfl (fun _ hw => (hAl.nowA (s := ⟨wl, _⟩) Mono_object hw)) objectR'_ok1 (by simp only [List.length_cons, List.length_nil] at hvl ⊢; omega) (fun gv2 cv2 => ?_) (by simp only [List.length_cons, List.length_nil] at hvl ⊢; omega)
     refine VL.set1 ?_
     refine VL.fieldAddr rfl fo118_3 rfl ?_
     refine VL.store (L := pktL) (qs := [[rowV gv2 (xs ++ [((objectR pc).getD object0)]).length cv2]]) (ps' := (pktV ((Pkt.mk (tkN 1 (openP l)) (tkN 1 ((openP l).drop 1)) (tkN 1 (((openP l).drop 1).drop 1)) (xs ++ [((objectR pc).getD object0)]) [] (zeros 64))) (gv2.map fun g => (⟨g, 0, none⟩ : Addr)) cv2 none 0)) 3 3 1 rfl rfl rfl (.inr ⟨kd116, rfl⟩) rfl rfl rfl (by intro u hu; simp [cat] at hu; subst hu; rfl) rfl rfl ?_
     refine VL.set3 ?_
     refine VL.nil ?_
     refine VX.block_normal ?_
     refine VX.round (xs ++ [((objectR pc).getD object0)], rest, gv2, cv2) ⟨rfl, rfl, rfl, rfl, rfl, trivial⟩ (fun w' h => ⟨⟨hxs2, objs_step hveq, by simp only [List.length_append, List.length_cons, List.length_nil] at hvl ⊢; omega⟩, (h.drop).subA⟩) (by show rest.length < (pc :: rest).length; simp)
    ·obtain rfl : ps = [] := List.eq_nil_of_length_eq_zero (by omega)
     refine VL.nn ?_
     refine VC.no rfl ?_
     refine VC.exit ?_
     refine VX.then_exit ?_
     refine VX.then_exit ?_
     refine VX.block_here ?_
     refine VX.next ?_
     refine VC.seq ?_
     refine VC.letArr (fun wr hOr hAr => ?_)
     refine VC.region ?_
     refine VL.move rfl ?_
     refine VL.call Try.func142 rfl (by decide) rfl (fun w' hw => next_T (i := 2) rfl hw) (fun v => ?_)
     refine VL.at (fun w66 h1w => ?_)
     obtain ⟨p67, c68, rfl, hO70, hA69⟩ := h1w
     replace hO70 := ownSet2 hO70
     replace hA69 := arrSet2 hA69
     refine VL.toOwn hO70 ?_
     refine VL.fieldAddr rfl fo118_4 rfl ?_
     refine VL.store (L := pktL) (qs := [[.slice p67 ((nextP (((((openP l).drop 1).drop 1).drop 1).drop 1))).length c68]]) 1 4 1 rfl rfl rfl (.inr ⟨kd24, rfl⟩) rfl rfl rfl (by intro u hu; simp [cat] at hu; subst hu; rfl) rfl rfl ?_
     refine VL.set1 ?_
     refine VL.nn ?_
     refine VC.sr ?_
     refine VL.move rfl ?_
     refine VL.call Try.func144 rfl (by decide) rfl (fun w' hw => sig_T (i := 2) rfl hw) (fun v => ?_)
     refine VL.fact fun e71 => ?_
     subst e71
     refine VL.set2 ?_
     refine VL.fieldAddr rfl fo118_5 rfl ?_
     refine VL.store (L := pktL) (qs := [(tkB 64 ((((((openP l).drop 1).drop 1).drop 1).drop 1).drop 1)).map bv]) 1 5 1 rfl rfl rfl (.inl kd80) rfl rfl (arr_len (tkB_length _ _)) (ok1_bytes _) rfl rfl ?_
     refine VL.set1 ?_
     refine VL.nn ?_
     refine VC.sr ?_
     refine VL.loads (cs := cat (pktV ((pktT' (openP l) xs)) (gv.map fun g => (⟨g, 0, none⟩ : Addr)) cv p67 c68)) 1 0 6 rfl kd118 (fun _ h => h) rfl rfl rfl rfl ?_
     refine VL.call Try.func91 rfl (by decide) rfl (fun w' hw => refPkt_w hw (x := (pktT' (openP l) xs)) (pktT'_ok (openP l) hxs) (hAr.nowA (s := ⟨wr, _⟩) Mono_object hw) (hA69.nowA (s := ⟨w66, _⟩) Mono.byte hw)) (fun v => ?_)
     refine VL.at (fun w72 h1w => ?_)
     obtain ⟨p73, c74, rfl, hO76, hA75⟩ := h1w
     refine VL.toOwn hO76 ?_
     refine VL.move rfl ?_
     refine VL.extract rfl rfl ?_
     refine VL.extract rfl rfl ?_
     refine VL.assign rfl ?_
     refine VL.assign rfl ?_
     refine VL.nn ?_
     refine VC.seq ?_
     refine VC.sr ?_
     refine VL.move rfl ?_
     cases hs : (pktO (pktT' (openP l) xs)).isSome
     ·refine VL.not rfl ?_
      refine VL.move rfl ?_
      refine VL.pass rfl rfl rfl rfl rfl ?_
      refine VL.pass rfl rfl rfl rfl rfl ?_
      refine VL.pass rfl rfl rfl rfl rfl ?_
      refine VL.pass rfl rfl rfl rfl rfl ?_
      refine VL.pick_t rfl rfl ?_
      refine VL.nn ?_
      refine VC.yes rfl ?_
      refine VC.sr ?_
      refine VL.build0 (cs := cat (pktV (pkt0) none 0 none 0)) built118 ?_
      refine VL.store (L := pktL) (qs := (pktV (pkt0) none 0 none 0)) (ps' := (pktV (pkt0) none 0 none 0)) 3 0 6 rfl rfl rfl (.inl kd118) rfl rfl rfl (pktV_ok1 pkt0 none 0 none 0) rfl rfl ?_
      refine VL.set3 ?_
      refine VL.assign rfl ?_
      refine VL.nn ?_
      refine VC.ret ?_
      refine VX.then_ret ?_
      refine VX.ret_cell (cs := cat (pktV (pkt0) none 0 none 0)) 3 rfl rfl rfl kd118 (fun _ h => h) rfl rfl (fun we hw => ?_)
      have e1 := pkt_no hveq (not_some hs)
      have e2 : pktW l = 141 := by rw [pktW_good hnb, e1]; rfl
      exact ⟨none, 0, none, 0, by rw [e1]; exact congrArg (fun n : Nat => Value.tuple #[_, .int .i64 (n : Int)]) (e2).symm, hw.drop.drop.drop.drop.subA, by rw [e1]; exact Arr.none, by rw [e1]; exact Arr.none⟩
     ·refine VL.not rfl ?_
      refine VL.move rfl ?_
      refine VL.go rfl rfl rfl ?_
      refine VL.move rfl ?_
      refine VL.go rfl rfl rfl ?_
      refine VL.move rfl ?_
      refine VL.go rfl rfl rfl ?_
      refine VL.call Try.func27 rfl (by decide) rfl (fun w' hw => bytes_B hw (hA75.nowA (s := ⟨w72, _⟩) Mono.byte hw) (hA.nowA (s := ⟨w, _⟩) Mono.byte hw)) (fun v => ?_)
      refine VL.ex fun b => VL.fact fun e => VL.fact fun h14_5 => ?_
      subst e
      cases b
      ·have h14_5 := mt h14_5.2 (by decide)
       refine VL.go rfl rfl rfl ?_
       refine VL.not rfl ?_
       refine VL.pick_f rfl rfl ?_
       refine VL.nn ?_
       refine VC.yes rfl ?_
       refine VC.sr ?_
       refine VL.build0 (cs := cat (pktV (pkt0) none 0 none 0)) built118 ?_
       refine VL.store (L := pktL) (qs := (pktV (pkt0) none 0 none 0)) (ps' := (pktV (pkt0) none 0 none 0)) 3 0 6 rfl rfl rfl (.inl kd118) rfl rfl rfl (pktV_ok1 pkt0 none 0 none 0) rfl rfl ?_
       refine VL.set3 ?_
       refine VL.assign rfl ?_
       refine VL.nn ?_
       refine VC.ret ?_
       refine VX.then_ret ?_
       refine VX.ret_cell (cs := cat (pktV (pkt0) none 0 none 0)) 3 rfl rfl rfl kd118 (fun _ h => h) rfl rfl (fun we hw => ?_)
       have e1 := pkt_no hveq (not_getD h14_5)
       have e2 : pktW l = 141 := by rw [pktW_good hnb, e1]; rfl
       exact ⟨none, 0, none, 0, by rw [e1]; exact congrArg (fun n : Nat => Value.tuple #[_, .int .i64 (n : Int)]) (e2).symm, hw.drop.drop.drop.drop.subA, by rw [e1]; exact Arr.none, by rw [e1]; exact Arr.none⟩
      ·have h14_5 := h14_5.1 rfl
       refine VL.go rfl rfl rfl ?_
       refine VL.not rfl ?_
       refine VL.pick_f rfl rfl ?_
       refine VL.nn ?_
       refine VC.no rfl ?_
       refine VC.skip ?_
       refine VX.next ?_
       refine VC.sr ?_
       refine VL.loads (cs := cat (pktV ((pktT' (openP l) xs)) (gv.map fun g => (⟨g, 0, none⟩ : Addr)) cv p67 c68)) 1 0 6 rfl kd118 (fun _ h => h) rfl rfl rfl rfl ?_
       refine VL.store (L := pktL) (qs := (pktV ((pktT' (openP l) xs)) (gv.map fun g => (⟨g, 0, none⟩ : Addr)) cv p67 c68)) (ps' := (pktV ((pktT' (openP l) xs)) (gv.map fun g => (⟨g, 0, none⟩ : Addr)) cv p67 c68)) 3 0 6 rfl rfl rfl (.inl kd118) rfl rfl (pktV_len (pktT'_ok (openP l) hxs)) (pktV_ok1 ((pktT' (openP l) xs)) (gv.map fun g => (⟨g, 0, none⟩ : Addr)) cv p67 c68) rfl rfl ?_
       refine VL.set3 ?_
       refine VL.assign rfl ?_
       refine VL.nn ?_
       refine VC.ret ?_
       refine VX.ret_cell (cs := cat (pktV ((pktT' (openP l) xs)) (gv.map fun g => (⟨g, 0, none⟩ : Addr)) cv p67 c68)) 3 rfl rfl rfl (by rw [cat_size (pktV_len (pktT'_ok (openP l) hxs))]; exact kd118) (fun _ h => h) rfl rfl (fun we hw => ?_)
       have e1 := pkt_yes hveq (some_of hs h14_5)
       have e2 : pktW l = 0 := by rw [pktW_good hnb, e1]; rfl
       rw [e1, e2]
       exact ⟨_, _, _, _, rfl, hw.drop.drop.drop.drop.subA, (hAr.nowA (s := ⟨wr, _⟩) Mono_object hw.drop.drop.drop.drop), (hA69.nowA (s := ⟨w66, _⟩) Mono.byte hw.drop.drop.drop.drop)⟩
 ·refine VL.not rfl ?_
  refine VL.nn ?_
  refine VC.yes rfl ?_
  refine VC.sr ?_
  refine VL.build0 (cs := cat (pktV (pkt0) none 0 none 0)) built118 ?_
  refine VL.store (L := pktL) (qs := (pktV (pkt0) none 0 none 0)) (ps' := (pktV (pkt0) none 0 none 0)) 1 0 6 rfl rfl rfl (.inl kd118) rfl rfl rfl (pktV_ok1 pkt0 none 0 none 0) rfl rfl ?_
  refine VL.set1 ?_
  refine VL.assign rfl ?_
  refine VL.nn ?_
  refine VC.ret ?_
  refine VX.then_ret ?_
  refine VX.ret_cell (cs := cat (pktV (pkt0) none 0 none 0)) 1 rfl rfl rfl kd118 (fun _ h => h) rfl rfl (fun we hw => ?_)
  obtain ⟨e1, e2⟩ := pkt_empty ho
  exact ⟨none, 0, none, 0, by rw [e1]; exact congrArg (fun n : Nat => Value.tuple #[_, .int .i64 (n : Int)]) (e2).symm, hw.drop.drop.subA, by rw [e1]; exact Arr.none, by rw [e1]; exact Arr.none⟩

end Go.Proofs.Ytcfecmoagfgnaaa

/- What the document's answer takes bytes for: items, calls, replies. -/
namespace Go.Proofs.Ytcfecmoagfgnaaa
open Go.Vc Go.Pl

def itemT' (a : List (List UInt8)) : Itm :=
  if tkN 1 a = 1 then ⟨tkN 1 a, 0, 0, (letterR (nextP (a.drop 1))).getD letter0, bundle0, object0⟩
  else if tkN 1 a = 2 ∨ tkN 1 a = 4 then ⟨tkN 1 a, tkN 1 (a.drop 1), tkN 1 ((a.drop 1).drop 1), letter0, bundle0, object0⟩
  else if tkN 1 a = 3 then ⟨tkN 1 a, tkN 1 (a.drop 1), 0, letter0, (bundleR (nextP ((a.drop 1).drop 1))).getD bundle0, object0⟩
  else ⟨tkN 1 a, 0, 0, letter0, bundle0, (objectR (nextP (a.drop 1))).getD object0⟩
theorem itemT'_1 {a : List (List UInt8)} (h : tkN 1 a = 1) : itemT' a = ⟨tkN 1 a, 0, 0, (letterR (nextP (a.drop 1))).getD letter0, bundle0, object0⟩ := if_pos h
theorem itemT'_2 {a : List (List UInt8)} (h : tkN 1 a = 2 ∨ tkN 1 a = 4) : itemT' a = ⟨tkN 1 a, tkN 1 (a.drop 1), tkN 1 ((a.drop 1).drop 1), letter0, bundle0, object0⟩ := by
 unfold itemT'; rw [if_neg (by omega), if_pos h]
theorem itemT'_3 {a : List (List UInt8)} (h : tkN 1 a = 3) : itemT' a = ⟨tkN 1 a, tkN 1 (a.drop 1), 0, letter0, (bundleR (nextP ((a.drop 1).drop 1))).getD bundle0, object0⟩ := by
 unfold itemT'; rw [if_neg (by omega), if_neg (by omega), if_pos h]
theorem itemT'_5 {a : List (List UInt8)} (h : tkN 1 a = 5 ∨ tkN 1 a = 6) : itemT' a = ⟨tkN 1 a, 0, 0, letter0, bundle0, (objectR (nextP (a.drop 1))).getD object0⟩ := by
 unfold itemT'; rw [if_neg (by omega), if_neg (by omega), if_neg (by omega)]
theorem itemT'_ok (a : List (List UInt8)) : (itemT' a).ok := by
 have z : (0 : Nat) < 256 := by decide
 have k1 : tkN 1 a < 256 := tkN_lt 1 a
 have k2 : tkN 1 (a.drop 1) < 256 := tkN_lt 1 _
 have k3 : tkN 1 ((a.drop 1).drop 1) < 256 := tkN_lt 1 _
 unfold itemT'
 split
 ·exact ⟨k1, z, z, letterR_ok _, bundle0_ok, object0_ok⟩
 ·split
  ·exact ⟨k1, k2, k3, letter0_ok, bundle0_ok, object0_ok⟩
  ·split
   ·exact ⟨k1, k2, z, letter0_ok, bundleR_ok _, object0_ok⟩
   ·exact ⟨k1, z, z, letter0_ok, bundle0_ok, objectR_ok _⟩
theorem itemO_P {y : Itm} (h : y.ok) {l : List UInt8} (e : itemO y = some l) : openP l ≠ [] ∧ itemT' (openP l) = y := by
 obtain ⟨h1, hg, rfl⟩ := joinO_eq e
 rw [open_join h1]
 obtain ⟨k, a, p, x, b, o⟩ := y
 have hk := h.kind; have ha := h.asker; have hp := h.peer
 simp only at hk ha hp
 unfold itemGood at hg
 simp only at hg
 by_cases c1 : k = 1
 ·subst c1
  rw [if_pos rfl] at hg
  simp only [Bool.and_eq_true, decide_eq_true_eq] at hg
  obtain ⟨hs, rfl, rfl, rfl, rfl⟩ := hg
  obtain ⟨t, ht⟩ := Option.isSome_iff_exists.1 hs
  have e1 : itemP ⟨1, 0, 0, x, bundle0, object0⟩ = [be 1 1, t] := by unfold itemP; rw [if_pos rfl, ht]; rfl
  rw [e1]
  have ek : tkN 1 [be 1 1, t] = 1 := tkN_be (by decide) (by decide)
  refine ⟨by simp, ?_⟩
  rw [itemT'_1 ek, ek, show nextP (List.drop 1 [be 1 1, t]) = t from rfl, letterR_iff.2 ⟨h.letter, ht⟩]; rfl
 ·rw [if_neg c1] at hg
  by_cases c2 : k = 2 ∨ k = 4
  ·rw [if_pos c2] at hg
   simp only [decide_eq_true_eq] at hg
   obtain ⟨rfl, rfl, rfl⟩ := hg
   have e1 : itemP ⟨k, a, p, letter0, bundle0, object0⟩ = [be 1 k, be 1 a, be 1 p] := by unfold itemP; rw [if_neg c1, if_pos c2]
   rw [e1]
   have ek : tkN 1 [be 1 k, be 1 a, be 1 p] = k := tkN_be (by decide) (by omega)
   refine ⟨by simp, ?_⟩
   rw [itemT'_2 (by rw [ek]; exact c2), ek]
   show Itm.mk k (tkN 1 [be 1 a, be 1 p]) (tkN 1 [be 1 p]) _ _ _ = _
   rw [tkN_be (by decide) (by omega), tkN_be (by decide) (by omega)]
  ·rw [if_neg c2] at hg
   by_cases c3 : k = 3
   ·subst c3
    rw [if_pos rfl] at hg
    simp only [decide_eq_true_eq] at hg
    obtain ⟨rfl, rfl, rfl⟩ := hg
    have e1 : itemP ⟨3, a, 0, letter0, b, object0⟩ = [be 1 3, be 1 a, bundleB b] := by unfold itemP; rw [if_neg c1, if_neg c2, if_pos rfl]
    rw [e1]
    have ek : tkN 1 [be 1 3, be 1 a, bundleB b] = 3 := tkN_be (by decide) (by decide)
    refine ⟨by simp, ?_⟩
    rw [itemT'_3 ek, ek, show nextP (List.drop 1 (List.drop 1 [be 1 3, be 1 a, bundleB b])) = bundleB b from rfl, bundleR_iff.2 ⟨h.bundle, rfl⟩]
    show Itm.mk 3 (tkN 1 [be 1 a, bundleB b]) _ _ _ _ = _
    rw [tkN_be (by decide) (by omega)]; rfl
   ·rw [if_neg c3] at hg
    by_cases c5 : k = 5 ∨ k = 6
    ·rw [if_pos c5] at hg
     simp only [Bool.and_eq_true, decide_eq_true_eq] at hg
     obtain ⟨hs, rfl, rfl, rfl, rfl⟩ := hg
     obtain ⟨t, ht⟩ := Option.isSome_iff_exists.1 hs
     have e1 : itemP ⟨k, 0, 0, letter0, bundle0, o⟩ = [be 1 k, t] := by unfold itemP; rw [if_neg c1, if_neg c2, if_neg c3, ht]; rfl
     rw [e1]
     have ek : tkN 1 [be 1 k, t] = k := tkN_be (by decide) (by omega)
     refine ⟨by simp, ?_⟩
     rw [itemT'_5 (by rw [ek]; exact c5), ek, show nextP (List.drop 1 [be 1 k, t]) = t from rfl, objectR_iff.2 ⟨h.object, ht⟩]; rfl
    ·rw [if_neg c5] at hg; cases hg
theorem item_rd (l : List UInt8) : itemR l = if itemO (itemT' (openP l)) = some l then some (itemT' (openP l)) else none :=
 readT (okp := Itm.ok) (fun _ _ => itemR_iff) (itemT'_ok (openP l)) (fun y hy e => ((itemO_P hy e).2).symm)
/-- The first piece is a byte. -/
theorem first_1 {l : List UInt8} (h : (nextP (openP l)).length = 1) : fitsP [some 1] (openP l) ∧ takeN (openP l) 1 = tkN 1 (openP l) := by
 cases hp : openP l with
 | nil => rw [hp] at h; exact absurd h (by decide)
 | cons a r =>
  rw [hp] at h
  have h : a.length = 1 := h
  refine ⟨⟨fun n e => by cases e; exact h, trivial⟩, ?_⟩
  rw [takeN_cons h]
  show num a = num (a.take 4) % 256 ^ 1
  rw [List.take_of_length_le (by omega)]
  have := num_lt a
  rw [h] at this
  rw [Nat.mod_eq_of_lt this]
theorem W1_0 {l : List UInt8} (h : (nextP (openP l)).length = 1) : ¬ ((W1 l : Nat) : Int) ≠ 0 := by
 rcases W1_cases l with ⟨_, _, _, _, e⟩ | ⟨hf, _⟩
 ·rw [e]; decide
 ·exact absurd (first_1 h).1 hf
theorem W1_1 {l : List UInt8} (h : ¬ (nextP (openP l)).length = 1) : ((W1 l : Nat) : Int) ≠ 0 ∧ W1 l = 141 := by
 rcases W1_cases l with ⟨a, r, e, ha, _⟩ | ⟨_, e⟩
 ·rw [e] at h; exact absurd ha h
 ·rw [e]; exact ⟨by decide, rfl⟩
theorem item_141 {l : List UInt8} (h : ¬ (nextP (openP l)).length = 1) : itemR l = none ∧ itemW l = 141 := by
 obtain ⟨h1, h2⟩ := W1_1 h
 obtain ⟨e1, e2⟩ := item_w0 h1
 exact ⟨e1, by rw [e2, h2]⟩
theorem item_140 {l : List UInt8} (h : (nextP (openP l)).length = 1) (h1 : tkN 1 (openP l) ≠ 1) (h2 : tkN 1 (openP l) ≠ 2) (h3 : tkN 1 (openP l) ≠ 3) (h4 : tkN 1 (openP l) ≠ 4) (h5 : tkN 1 (openP l) ≠ 5) (h6 : tkN 1 (openP l) ≠ 6) : itemR l = none ∧ itemW l = 140 := by
 obtain ⟨_, e⟩ := first_1 h
 rw [← e] at h1 h2 h3 h4 h5 h6
 exact item_none (W1_0 h) h1 h2 h3 h4 h5 h6
theorem itemW_T {l : List UInt8} (h : (nextP (openP l)).length = 1) (h1 : 1 ≤ tkN 1 (openP l)) (h2 : tkN 1 (openP l) ≤ 6) : itemW l = if (itemR l).isSome then 0 else 141 := by
 obtain ⟨_, e⟩ := first_1 h
 rw [← e] at h1 h2
 exact itemW_of h1 h2

/-! Calls -/
abbrev bundlesOf (ps : List (List UInt8)) : List Bundle := ps.map fun q => (bundleR q).getD bundle0
theorem bundlesOf_ok (ps : List (List UInt8)) : ∀ b ∈ bundlesOf ps, b.ok := fun b hb => by
 obtain ⟨q, _, rfl⟩ := List.mem_map.1 hb
 exact bundleR_ok q
def callT' (a : List (List UInt8)) : Cal :=
  if tkN 1 a = 1 then ⟨tkN 1 a, tkN 2 (a.drop 1), 0, 0, bundlesOf ((a.drop 1).drop 1), letter0⟩
  else if tkN 1 a = 2 then ⟨tkN 1 a, tkN 2 (a.drop 1), tkN 1 ((a.drop 1).drop 1), 0, [], letter0⟩
  else if tkN 1 a = 3 then ⟨tkN 1 a, tkN 2 (a.drop 1), 0, 0, [], (letterR (nextP ((a.drop 1).drop 1))).getD letter0⟩
  else ⟨tkN 1 a, tkN 2 (a.drop 1), 0, tkN 2 ((a.drop 1).drop 1), [], letter0⟩
theorem callT'_1 {a : List (List UInt8)} (h : tkN 1 a = 1) : callT' a = ⟨tkN 1 a, tkN 2 (a.drop 1), 0, 0, bundlesOf ((a.drop 1).drop 1), letter0⟩ := if_pos h
theorem callT'_2 {a : List (List UInt8)} (h : tkN 1 a = 2) : callT' a = ⟨tkN 1 a, tkN 2 (a.drop 1), tkN 1 ((a.drop 1).drop 1), 0, [], letter0⟩ := by
 unfold callT'; rw [if_neg (by omega), if_pos h]
theorem callT'_3 {a : List (List UInt8)} (h : tkN 1 a = 3) : callT' a = ⟨tkN 1 a, tkN 2 (a.drop 1), 0, 0, [], (letterR (nextP ((a.drop 1).drop 1))).getD letter0⟩ := by
 unfold callT'; rw [if_neg (by omega), if_neg (by omega), if_pos h]
theorem callT'_4 {a : List (List UInt8)} (h : tkN 1 a = 4) : callT' a = ⟨tkN 1 a, tkN 2 (a.drop 1), 0, tkN 2 ((a.drop 1).drop 1), [], letter0⟩ := by
 unfold callT'; rw [if_neg (by omega), if_neg (by omega), if_neg (by omega)]
theorem callT'_ok (a : List (List UInt8)) : (callT' a).ok := by
 have z : (0 : Nat) < 256 := by decide
 have z2 : (0 : Nat) < 65536 := by decide
 have k1 : tkN 1 a < 256 := tkN_lt 1 a
 have k2 : tkN 2 (a.drop 1) < 65536 := tkN_lt 2 _
 have k3 : tkN 1 ((a.drop 1).drop 1) < 256 := tkN_lt 1 _
 have k4 : tkN 2 ((a.drop 1).drop 1) < 65536 := tkN_lt 2 _
 unfold callT'
 split
 ·exact ⟨k1, k2, z, z2, bundlesOf_ok _, letter0_ok⟩
 ·split
  ·exact ⟨k1, k2, k3, z2, by simp, letter0_ok⟩
  ·split
   ·exact ⟨k1, k2, z, z2, by simp, letterR_ok _⟩
   ·exact ⟨k1, k2, z, k4, by simp, letter0_ok⟩
theorem bundles_back {bs : List Bundle} (h : ∀ b ∈ bs, b.ok) : bundlesOf (bs.map bundleB) = bs := by
 unfold bundlesOf
 rw [List.map_map]
 conv => rhs; rw [← List.map_id bs]
 refine List.map_congr_left fun b hb => ?_
 show (bundleR (bundleB b)).getD bundle0 = b
 rw [bundleR_iff.2 ⟨h b hb, rfl⟩]; rfl
theorem callO_P {y : Cal} (h : y.ok) {l : List UInt8} (e : callO y = some l) : openP l ≠ [] ∧ callT' (openP l) = y := by
 obtain ⟨h1, hg, rfl⟩ := joinO_eq e
 rw [open_join h1]
 obtain ⟨k, s, p, m, bs, x⟩ := y
 have hk := h.kind; have hs := h.seq; have hp := h.peer; have hm := h.mark
 simp only at hk hs hp hm
 unfold callGood at hg
 simp only at hg
 by_cases c1 : k = 1
 ·subst c1
  rw [if_pos rfl] at hg
  simp only [decide_eq_true_eq] at hg
  obtain ⟨_, rfl, rfl, rfl⟩ := hg
  have e1 : callP ⟨1, s, 0, 0, bs, letter0⟩ = be 1 1 :: be 2 s :: bs.map bundleB := by unfold callP callT; rw [if_pos rfl]
  rw [e1]
  have ek : tkN 1 (be 1 1 :: be 2 s :: bs.map bundleB) = 1 := tkN_be (by decide) (by decide)
  refine ⟨by simp, ?_⟩
  rw [callT'_1 ek, ek]
  show Cal.mk 1 (tkN 2 (be 2 s :: bs.map bundleB)) 0 0 (bundlesOf (bs.map bundleB)) letter0 = _
  rw [tkN_be (by decide) (by omega), bundles_back h.bundles]
 ·rw [if_neg c1] at hg
  by_cases c2 : k = 2
  ·subst c2
   rw [if_pos rfl] at hg
   simp only [decide_eq_true_eq] at hg
   obtain ⟨rfl, rfl, rfl⟩ := hg
   have e1 : callP ⟨2, s, p, 0, [], letter0⟩ = [be 1 2, be 2 s, be 1 p] := by unfold callP callT; rw [if_neg c1, if_pos rfl]
   rw [e1]
   have ek : tkN 1 [be 1 2, be 2 s, be 1 p] = 2 := tkN_be (by decide) (by decide)
   refine ⟨by simp, ?_⟩
   rw [callT'_2 ek, ek]
   show Cal.mk 2 (tkN 2 [be 2 s, be 1 p]) (tkN 1 [be 1 p]) 0 [] letter0 = _
   rw [tkN_be (by decide) (by omega), tkN_be (by decide) (by omega)]
  ·rw [if_neg c2] at hg
   by_cases c3 : k = 3
   ·subst c3
    rw [if_pos rfl] at hg
    simp only [Bool.and_eq_true, decide_eq_true_eq] at hg
    obtain ⟨hx, rfl, rfl, rfl⟩ := hg
    obtain ⟨t, ht⟩ := Option.isSome_iff_exists.1 hx
    have e1 : callP ⟨3, s, 0, 0, [], x⟩ = [be 1 3, be 2 s, t] := by unfold callP callT; rw [if_neg c1, if_neg c2, if_pos rfl, ht]; rfl
    rw [e1]
    have ek : tkN 1 [be 1 3, be 2 s, t] = 3 := tkN_be (by decide) (by decide)
    refine ⟨by simp, ?_⟩
    rw [callT'_3 ek, ek]
    show Cal.mk 3 (tkN 2 [be 2 s, t]) 0 0 [] ((letterR t).getD letter0) = _
    rw [tkN_be (by decide) (by omega), letterR_iff.2 ⟨h.letter, ht⟩]; rfl
   ·rw [if_neg c3] at hg
    by_cases c4 : k = 4
    ·subst c4
     rw [if_pos rfl] at hg
     simp only [decide_eq_true_eq] at hg
     obtain ⟨rfl, rfl, rfl⟩ := hg
     have e1 : callP ⟨4, s, 0, m, [], letter0⟩ = [be 1 4, be 2 s, be 2 m] := by unfold callP callT; rw [if_neg c1, if_neg c2, if_neg c3]
     rw [e1]
     have ek : tkN 1 [be 1 4, be 2 s, be 2 m] = 4 := tkN_be (by decide) (by decide)
     refine ⟨by simp, ?_⟩
     rw [callT'_4 ek, ek]
     show Cal.mk 4 (tkN 2 [be 2 s, be 2 m]) 0 (tkN 2 [be 2 m]) [] letter0 = _
     rw [tkN_be (by decide) (by omega), tkN_be (by decide) (by omega)]
    ·rw [if_neg c4] at hg; cases hg
theorem call_rd (l : List UInt8) : callR l = if callO (callT' (openP l)) = some l then some (callT' (openP l)) else none :=
 readT (okp := Cal.ok) (fun _ _ => callR_iff) (callT'_ok (openP l)) (fun y hy e => ((callO_P hy e).2).symm)
theorem call_141 {l : List UInt8} (h : ¬ (nextP (openP l)).length = 1) : callR l = none ∧ callW l = 141 := by
 obtain ⟨h1, h2⟩ := W1_1 h
 obtain ⟨e1, e2⟩ := call_w0 h1
 exact ⟨e1, by rw [e2, h2]⟩
theorem call_140 {l : List UInt8} (h : (nextP (openP l)).length = 1) (h1 : tkN 1 (openP l) ≠ 1) (h2 : tkN 1 (openP l) ≠ 2) (h3 : tkN 1 (openP l) ≠ 3) (h4 : tkN 1 (openP l) ≠ 4) : callR l = none ∧ callW l = 140 := by
 obtain ⟨_, e⟩ := first_1 h
 rw [← e] at h1 h2 h3 h4
 exact call_bad (W1_0 h) (by omega)
theorem callW_T {l : List UInt8} (h : (nextP (openP l)).length = 1) (h1 : 1 ≤ tkN 1 (openP l)) (h2 : tkN 1 (openP l) ≤ 4) : callW l = if (callR l).isSome then 0 else 141 := by
 obtain ⟨_, e⟩ := first_1 h
 rw [← e] at h1 h2
 exact callW_of h1 h2

/-! Replies -/
abbrev itemsOf (ps : List (List UInt8)) : List Itm := ps.map fun q => (itemR q).getD item0
theorem itemsOf_ok (ps : List (List UInt8)) : ∀ b ∈ itemsOf ps, b.ok := fun b hb => by
 obtain ⟨q, _, rfl⟩ := List.mem_map.1 hb
 exact itemR_ok q
theorem items_back {xs : List Itm} (h : ∀ x ∈ xs, x.ok) (hg : itemsGood xs = true) : itemsOf (itemsP xs) = xs := by
 unfold itemsGood at hg
 rw [Bool.and_eq_true, decide_eq_true_iff, List.all_eq_true] at hg
 unfold itemsOf itemsP
 rw [List.map_map]
 conv => rhs; rw [← List.map_id xs]
 refine List.map_congr_left fun x hx => ?_
 obtain ⟨t, ht⟩ := Option.isSome_iff_exists.1 (hg.2 x hx)
 show (itemR ((itemO x).getD [])).getD item0 = x
 rw [ht, show (some t).getD [] = t from rfl, itemR_iff.2 ⟨h x hx, ht⟩]; rfl
def repT' (a : List (List UInt8)) (xs : List Itm) : Rep := ⟨tkN 2 a, tkN 1 (a.drop 1), tkN 2 ((a.drop 1).drop 1), xs⟩
def trnT' (a : List (List UInt8)) (xs : List Itm) : Trn := ⟨tkN 2 a, xs⟩
theorem repT'_ok (a : List (List UInt8)) {xs : List Itm} (h : ∀ x ∈ xs, x.ok) : (repT' a xs).ok := ⟨tkN_lt 2 _, tkN_lt 1 _, tkN_lt 2 _, h⟩
theorem trnT'_ok (a : List (List UInt8)) {xs : List Itm} (h : ∀ x ∈ xs, x.ok) : (trnT' a xs).ok := ⟨tkN_lt 2 _, h⟩
theorem repO_P {y : Rep} (h : y.ok) {l : List UInt8} (e : repO y = some l) : openP l ≠ [] ∧ repT' (openP l) (itemsOf ((((openP l).drop 1).drop 1).drop 1)) = y := by
 obtain ⟨h1, hg, rfl⟩ := joinO_eq e
 rw [open_join h1]
 refine ⟨by simp [repP], ?_⟩
 obtain ⟨a, b, c, d⟩ := y
 have ha := h.seq; have hb := h.tag; have hc := h.mark
 simp only at ha hb hc
 show Rep.mk (tkN 2 (be 2 a :: be 1 b :: be 2 c :: itemsP d)) (tkN 1 (be 1 b :: be 2 c :: itemsP d)) (tkN 2 (be 2 c :: itemsP d)) (itemsOf (itemsP d)) = _
 rw [tkN_be (by decide) (by omega), tkN_be (by decide) (by omega), tkN_be (by decide) (by omega), items_back h.items hg]
theorem trnO_P {y : Trn} (h : y.ok) {l : List UInt8} (e : trnO y = some l) : openP l ≠ [] ∧ trnT' (openP l) (itemsOf ((openP l).drop 1)) = y := by
 obtain ⟨h1, hg, rfl⟩ := joinO_eq e
 rw [open_join h1]
 refine ⟨by simp, ?_⟩
 obtain ⟨a, d⟩ := y
 have ha := h.seq
 simp only at ha
 show Trn.mk (tkN 2 (be 2 a :: itemsP d)) (itemsOf (itemsP d)) = _
 rw [tkN_be (by decide) (by omega), items_back h.items hg]
theorem rep_rd (l : List UInt8) : repR l = if repO (repT' (openP l) (itemsOf ((((openP l).drop 1).drop 1).drop 1))) = some l then some (repT' (openP l) (itemsOf ((((openP l).drop 1).drop 1).drop 1))) else none :=
 readT (okp := Rep.ok) (fun _ _ => repR_iff) (repT'_ok (openP l) (itemsOf_ok _)) (fun y hy e => ((repO_P hy e).2).symm)
theorem trn_rd (l : List UInt8) : trnR l = if trnO (trnT' (openP l) (itemsOf ((openP l).drop 1))) = some l then some (trnT' (openP l) (itemsOf ((openP l).drop 1))) else none :=
 readT (okp := Trn.ok) (fun _ _ => trnR_iff) (trnT'_ok (openP l) (itemsOf_ok _)) (fun y hy e => ((trnO_P hy e).2).symm)
theorem rep_no {l : List UInt8} (h : ¬ openP l ≠ [] ∨ ¬ repO (repT' (openP l) (itemsOf ((((openP l).drop 1).drop 1).drop 1))) = some l) : repR l = none := by
 rcases h with h | h
 ·cases e : repR l with
  | none => rfl
  | some y => obtain ⟨h1, h2⟩ := repR_iff.1 e; exact absurd (repO_P h1 h2).1 h
 ·rw [rep_rd, if_neg h]
theorem trn_no {l : List UInt8} (h : ¬ openP l ≠ [] ∨ ¬ trnO (trnT' (openP l) (itemsOf ((openP l).drop 1))) = some l) : trnR l = none := by
 rcases h with h | h
 ·cases e : trnR l with
  | none => rfl
  | some y => obtain ⟨h1, h2⟩ := trnR_iff.1 e; exact absurd (trnO_P h1 h2).1 h
 ·rw [trn_rd, if_neg h]
end Go.Proofs.Ytcfecmoagfgnaaa

/- wire: lists of items, read. -/
namespace Go.Proofs.Ytcfecmoagfgnaaa
open Go.Vc Go.Pl

theorem el126 : Elem Try.prog 126 87 433 512 (.agg (cat (itemV item0 none 0 none 0)).toArray) := ⟨Try.underlying126, by kernel_rfl, by kernel_rfl, by kernel_rfl, by decide⟩
theorem one_item {K : List Nat} {w : World} {v : Itm} (hv : v.ok) {p : Option Addr} {c : Nat} {q : Option Addr} {d : Nat} (hA : Bytes K w p v.letter.body c) (hV : Arr 65 vouchR K w q v.object.vouches d) (j : Nat) (y : Itm) (hj : [v][j]? = some y) : itemR' K w ((([Value.agg (cat (itemV v p c q d)).toArray].flatMap (·.cells.toList)).drop (j * 433)).take 433) y := by
 have hj0 : j = 0 := by have := (List.getElem?_eq_some_iff.1 hj).1; simp at this; exact this
 subst hj0
 simp at hj; subst hj
 refine ⟨p, c, q, d, hv, ?_, hA, hV⟩
 have e : [Value.agg (cat (itemV v p c q d)).toArray].flatMap (·.cells.toList) = cat (itemV v p c q d) := by simp [Value.cells]
 rw [e, Nat.zero_mul, List.drop_zero, List.take_of_length_le (by rw [cat_size (itemV_len hv)]; decide)]
theorem newRowI {S : List Snap} {H : List Chunk} {w : World} (h : Own S H w) : Own S (arow 87 433 itemR' Mono_item none 0 ([] : List Itm) :: H) w := Own.arow_nil Mono_item 87 433 h
theorem itemR'_ok1 : ∀ (K : List Nat) (w : World) (vs : List Value) (y : Itm), itemR' K w vs y → ok1 vs := by
 rintro K w vs y ⟨p, c, q, d, _, rfl, _, _⟩
 exact itemV_ok1 _ _ _ _ _
theorem itemW_err {l : List UInt8} (h : ((itemW l : Nat) : Int) ≠ 0) : (if (itemR l).isSome then 0 else 141) = 141 := by
 cases e : itemR l with
 | none => rfl
 | some x => exact absurd (by unfold itemW; rw [e]; rfl) h
theorem itemW_fine {l : List UInt8} (h : ¬ ((itemW l : Nat) : Int) ≠ 0) : (if (itemR l).isSome then 0 else 141) = 0 := by
 cases e : itemR l with
 | none =>
  refine absurd (fun h2 => ?_) h
  unfold itemW at h2
  rw [e, if_neg (by simp)] at h2
  split at h2 <;> cases h2
 | some x => rfl

theorem getItems_w {S : List Snap} {H : List Chunk} {w : World} {g : Nat} {c0 : List (List UInt8)} {why0 : Nat} (ho : Own S (rch g c0 why0 :: H) w) : Calls Try.prog 148 #[.pointer (some ⟨g, 0, none⟩)] w (Ret fun v w' => ∃ q d xs ps why, v = .slice q xs.length d ∧ IInv c0 why0 xs ps why ∧ (ps = [] ∨ 4 ≤ xs.length ∨ why ≠ 0) ∧ Own S (rch g ps why :: H) w' ∧ Arr 433 itemR' (keys (rch g ps why :: H)) w' q xs d) := by
 refine enter (G := Own (⟨w, keys (rch g c0 why0 :: H)⟩ :: S) (rch g c0 why0 :: H)) ho.keep Try.func148 rfl Try.ntmps148 rfl ?_
 refine VC.sr ?_
 refine VL.assign rfl ?_
 refine VL.nn ?_
 refine VC.sr ?_
 refine VL.assign rfl ?_
 refine VL.nn ?_
 refine VC.seq ?_
 refine VC.block ?_
 refine VC.turn (G' := Own _ (arow 87 433 itemR' Mono_item none 0 ([] : List Itm) :: rch g c0 why0 :: H)) (fun w' h => newRowI h) ?_
 refine VC.loop (X := List Itm × List (List UInt8) × Nat × Option Nat × Nat) (fun (xs, _, _, gv, cv) => [(0, .pointer (some ⟨g, 0, none⟩)), (3, rowV gv xs.length cv)]) (fun (xs, ps, er, gv, cv) w' => IInv c0 why0 xs ps er ∧ Own (⟨w, keys (rch g c0 why0 :: H)⟩ :: S) (arow 87 433 itemR' Mono_item gv cv xs :: rch g ps er :: H) w') (fun (_, ps, _) => ps.length) ([], c0, why0, none, 0) ⟨rfl, rfl, trivial⟩ (fun w' h => ⟨IInv.start _ _, h.subA⟩) (fun (xs, ps, er, gv, cv) => VC.fact fun hinv => ?_)
 ·skip
  refine VC.seq ?_
  refine VC.sr ?_
  refine VL.move rfl ?_
  refine VL.nilCheck rfl ?_
  refine VL.fieldAddr rfl fo196_0 rfl ?_
  refine loadParts 1 rfl rfl (fun p1 c2 w3 hO4 hA5 => ?_)
  refine VL.len Try.underlying31 rfl rfl ?_
  refine VL.gtr rfl rfl ?_
  refine VL.case (fun h2_5 => ?_) (fun h2_5 => ?_)
  ·obtain ⟨pc, rest, rfl⟩ : ∃ pc rest, ps = pc :: rest := by
    cases ps with
    | nil => exact absurd h2_5 (by simp)
    | cons a b => exact ⟨a, b, rfl⟩
   refine VL.move rfl ?_
   refine VL.go rfl rfl rfl ?_
   refine VL.move rfl ?_
   refine VL.go rfl rfl rfl ?_
   refine VL.len Try.underlying126 rfl rfl ?_
   refine VL.go rfl rfl rfl ?_
   refine VL.lss rfl rfl ?_
   refine VL.case (fun h2_9 => ?_) (fun h2_9 => ?_)
   ·have h2_9 : xs.length < 4 := by have h : ((xs.length : Nat) : Int) < 4 := h2_9; omega
    refine VL.pick_t rfl rfl ?_
    refine VL.move rfl ?_
    refine VL.go rfl rfl rfl ?_
    refine VL.move rfl ?_
    refine VL.go rfl rfl rfl ?_
    refine VL.nilCheck rfl ?_
    refine VL.go rfl rfl rfl ?_
    refine VL.fieldAddr rfl fo196_1 rfl ?_
    refine VL.go rfl rfl rfl ?_
    refine loadWhy 1 rfl (fun _ h => h) rfl ?_
    refine VL.go rfl rfl rfl ?_
    refine VL.eql rfl rfl ?_
    refine VL.case (fun h2_16 => ?_) (fun h2_16 => ?_)
    ·have her : er = 0 := by omega
     refine VL.pick_t rfl rfl ?_
     refine VL.nn ?_
     refine VC.yes rfl ?_
     refine VC.skip ?_
     refine VX.next ?_
     refine VC.block ?_
     refine VC.sr ?_
     refine VL.move rfl ?_
     refine VL.call Try.func124 rfl (by decide) rfl (fun w' hw => piece_R (i := 1) rfl hw) (fun v => ?_)
     refine VL.at (fun w6 h1w => ?_)
     obtain ⟨p7, c8, rfl, hO10, hA9⟩ := h1w
     replace hO10 := ownSet1 hO10
     replace hA9 := arrSet1 hA9
     refine VL.toOwn hO10 ?_
     refine VL.call Try.func58 rfl (by decide) rfl (fun w' hw => getItem_w hw (hA9.nowA (s := ⟨w6, _⟩) Mono.byte hw)) (fun v => ?_)
     refine VL.at (fun w11 h1w => ?_)
     obtain ⟨p13, c14, q16, d17, rfl, hO12, hA15, hB18⟩ := h1w
     refine VL.toOwn hO12 ?_
     refine VL.move rfl ?_
     refine VL.extract rfl rfl ?_
     refine VL.extract rfl rfl ?_
     refine VL.alloc (L := itemL) (ps := (itemV (item0) none 0 none 0)) zero87 rfl rfl (fun g19 => ?_)
     refine VL.store (L := itemL) (qs := (itemV (((itemR pc).getD item0)) p13 c14 q16 d17)) (ps' := (itemV (((itemR pc).getD item0)) p13 c14 q16 d17)) 0 0 28 rfl rfl rfl (.inl kd87) rfl rfl (itemV_len (itemR_ok pc)) (itemV_ok1 (((itemR pc).getD item0)) p13 c14 q16 d17) rfl rfl ?_
     refine VL.set0 ?_
     refine VL.assign rfl ?_
     refine VL.nn ?_
     refine VC.seq ?_
     refine VC.sr ?_
     refine VL.move rfl ?_
     refine VL.neq rfl rfl ?_
     refine VL.case (fun h4_1 => ?_) (fun h4_1 => ?_)
     ·refine VL.nn ?_
      refine VC.yes rfl ?_
      refine VC.region ?_
      refine VL.move rfl ?_
      refine VL.call Try.func125 rfl (by decide) rfl (fun w' hw => fail_R (i := 2) rfl hw (141)) (fun v => ?_)
      refine VL.fact fun e20 => ?_
      subst e20
      refine VL.set2 ?_
      refine VL.nn ?_
      refine VC.region ?_
      refine VL.move rfl ?_
      refine VL.loads (cs := cat (itemV (((itemR pc).getD item0)) p13 c14 q16 d17)) 0 0 28 rfl kd87 (fun _ h => h) rfl rfl rfl rfl ?_
      refine VL.lit el126 rfl rfl rfl (by intro v hv; simp only [List.mem_singleton] at hv; subst hv; show (cat (itemV ((itemR pc).getD item0) p13 c14 q16 d17)).toArray.size = 433; rw [List.size_toArray, cat_size (itemV_len (itemR_ok pc))]; rfl) (by rw [show [Value.agg (cat (itemV ((itemR pc).getD item0) p13 c14 q16 d17)).toArray].flatMap (·.cells.toList) = (cat (itemV ((itemR pc).getD item0) p13 c14 q16 d17)) by simp [Value.cells]]; exact itemV_ok1 _ _ _ _ _) (fun gl => ?_)
      refine VL.letRow itemR' [((itemR pc).getD item0)] rfl (fun w' hw => one_item (itemR_ok pc) (hA15.nowA (s := ⟨w11, _⟩) Mono.byte hw) (hB18.nowA (s := ⟨w11, _⟩) Mono_vouch hw)) (fun wl hOl hAl => ?_)
      refine VL.appends (R := itemR') (hR := Mono_item) (ys := xs) (zs := [((itemR pc).getD item0)]) 1 el126 rfl rfl rfl (fun _ h => h) rfl (fun _ hw => hAl.nowA (s := ⟨wl, _⟩) Mono_item hw) itemR'_ok1 (by simp only [List.length_cons, List.length_nil]; omega) (fun gv2 cv2 => ?_) (by simp only [List.length_cons, List.length_nil]; omega)
      refine VL.set1 ?_
      refine VL.assign rfl ?_
      refine VL.nil ?_
      refine VX.block_normal ?_
      subst her
      obtain rfl : why0 = 0 := by
       rcases hinv.2.2 with ⟨e, _⟩ | ⟨e, _⟩
       ·exact e.symm
       ·cases e
      have ee : (if (itemR pc).isSome then 0 else 141) = 141 := itemW_err h4_1
      have hst := hinv.step h2_9
      rw [ee] at hst
      refine VX.round (xs ++ [(itemR pc).getD item0], rest, 141, gv2, cv2) ⟨rfl, rfl, trivial⟩ (fun w' h => ⟨hst, (h.drop).subA⟩) (by show rest.length < (pc :: rest).length; simp)
     ·refine VL.nn ?_
      refine VC.no rfl ?_
      refine VC.skip ?_
      refine VX.next ?_
      refine VC.region ?_
      refine VL.move rfl ?_
      refine VL.loads (cs := cat (itemV (((itemR pc).getD item0)) p13 c14 q16 d17)) 0 0 28 rfl kd87 (fun _ h => h) rfl rfl rfl rfl ?_
      refine VL.lit el126 rfl rfl rfl (by intro v hv; simp only [List.mem_singleton] at hv; subst hv; show (cat (itemV ((itemR pc).getD item0) p13 c14 q16 d17)).toArray.size = 433; rw [List.size_toArray, cat_size (itemV_len (itemR_ok pc))]; rfl) (by rw [show [Value.agg (cat (itemV ((itemR pc).getD item0) p13 c14 q16 d17)).toArray].flatMap (·.cells.toList) = (cat (itemV ((itemR pc).getD item0) p13 c14 q16 d17)) by simp [Value.cells]]; exact itemV_ok1 _ _ _ _ _) (fun gl => ?_)
      refine VL.letRow itemR' [((itemR pc).getD item0)] rfl (fun w' hw => one_item (itemR_ok pc) (hA15.nowA (s := ⟨w11, _⟩) Mono.byte hw) (hB18.nowA (s := ⟨w11, _⟩) Mono_vouch hw)) (fun wl hOl hAl => ?_)
      refine VL.appends (R := itemR') (hR := Mono_item) (ys := xs) (zs := [((itemR pc).getD item0)]) 1 el126 rfl rfl rfl (fun _ h => h) rfl (fun _ hw => hAl.nowA (s := ⟨wl, _⟩) Mono_item hw) itemR'_ok1 (by simp only [List.length_cons, List.length_nil]; omega) (fun gv2 cv2 => ?_) (by simp only [List.length_cons, List.length_nil]; omega)
      refine VL.set1 ?_
      refine VL.assign rfl ?_
      refine VL.nil ?_
      refine VX.block_normal ?_
      subst her
      obtain rfl : why0 = 0 := by
       rcases hinv.2.2 with ⟨e, _⟩ | ⟨e, _⟩
       ·exact e.symm
       ·cases e
      have ee : (if (itemR pc).isSome then 0 else 141) = 0 := itemW_fine h4_1
      have hst := hinv.step h2_9
      rw [ee] at hst
      refine VX.round (xs ++ [(itemR pc).getD item0], rest, 0, gv2, cv2) ⟨rfl, rfl, trivial⟩ (fun w' h => ⟨hst, (h.drop).subA⟩) (by show rest.length < (pc :: rest).length; simp)
    ·have h2_16 : er ≠ 0 := by omega
     refine VL.pick_t rfl rfl ?_
     refine VL.nn ?_
     refine VC.no rfl ?_
     refine VC.exit ?_
     refine VX.then_exit ?_
     refine VX.then_exit ?_
     refine VX.block_here ?_
     refine VX.next ?_
     refine VC.seq ?_
     refine VC.letArr (fun wr hOr hAr => ?_)
     refine VC.region ?_
     refine VL.move rfl ?_
     refine VL.assign rfl ?_
     refine VL.nn ?_
     refine VC.ret ?_
     refine VX.ret1 rfl rfl (fun we hw => ?_)
     exact ⟨_, _, xs, (pc :: rest), er, rfl, hinv, (.inr (.inr h2_16)), hw.subA, (hAr.nowA (s := ⟨wr, _⟩) Mono_item hw)⟩
   ·have h2_9 : 4 ≤ xs.length := by have h : ¬ ((xs.length : Nat) : Int) < 4 := h2_9; omega
    refine VL.pick_t rfl rfl ?_
    refine VL.move rfl ?_
    refine VL.pass rfl rfl rfl rfl rfl ?_
    refine VL.pass rfl rfl rfl rfl rfl ?_
    refine VL.pass rfl rfl rfl rfl rfl ?_
    refine VL.pass rfl rfl rfl rfl rfl ?_
    refine VL.pass rfl rfl rfl rfl rfl ?_
    refine VL.pick_f rfl rfl ?_
    refine VL.nn ?_
    refine VC.no rfl ?_
    refine VC.exit ?_
    refine VX.then_exit ?_
    refine VX.then_exit ?_
    refine VX.block_here ?_
    refine VX.next ?_
    refine VC.seq ?_
    refine VC.letArr (fun wr hOr hAr => ?_)
    refine VC.region ?_
    refine VL.move rfl ?_
    refine VL.assign rfl ?_
    refine VL.nn ?_
    refine VC.ret ?_
    refine VX.ret1 rfl rfl (fun we hw => ?_)
    exact ⟨_, _, xs, (pc :: rest), er, rfl, hinv, (.inr (.inl h2_9)), hw.subA, (hAr.nowA (s := ⟨wr, _⟩) Mono_item hw)⟩
  ·obtain rfl : ps = [] := List.eq_nil_of_length_eq_zero (by omega)
   refine VL.move rfl ?_
   refine VL.pass rfl rfl rfl rfl rfl ?_
   refine VL.pass rfl rfl rfl rfl rfl ?_
   refine VL.pass rfl rfl rfl rfl rfl ?_
   refine VL.pick_f rfl rfl ?_
   refine VL.move rfl ?_
   refine VL.pass rfl rfl rfl rfl rfl ?_
   refine VL.pass rfl rfl rfl rfl rfl ?_
   refine VL.pass rfl rfl rfl rfl rfl ?_
   refine VL.pass rfl rfl rfl rfl rfl ?_
   refine VL.pass rfl rfl rfl rfl rfl ?_
   refine VL.pick_f rfl rfl ?_
   refine VL.nn ?_
   refine VC.no rfl ?_
   refine VC.exit ?_
   refine VX.then_exit ?_
   refine VX.then_exit ?_
   refine VX.block_here ?_
   refine VX.next ?_
   refine VC.seq ?_
   refine VC.letArr (fun wr hOr hAr => ?_)
   refine VC.region ?_
   refine VL.move rfl ?_
   refine VL.assign rfl ?_
   refine VL.nn ?_
   refine VC.ret ?_
   refine VX.ret1 rfl rfl (fun we hw => ?_)
   exact ⟨_, _, xs, [], er, rfl, hinv, (.inl rfl), hw.subA, (hAr.nowA (s := ⟨wr, _⟩) Mono_item hw)⟩

end Go.Proofs.Ytcfecmoagfgnaaa

/- Replies as cells. -/
namespace Go.Proofs.Ytcfecmoagfgnaaa
open Go.Vc Go.Pl

abbrev repV (x : Rep) (q : Option Addr) (d : Nat) : List (List Value) := [[.int .u16 x.seq], [.int .u8 x.tag], [.int .u16 x.mark], [.slice q x.items.length d]]
abbrev repL : List Nat := [1, 1, 1, 1]
theorem zero128 : (Try.prog.info? 128).bind (·.zero) = some (.agg (cat (repV rep0 none 0)).toArray) := by kernel_rfl
theorem built128 : Try.prog.built 128 [] = some (cat (repV rep0 none 0)).toArray := by kernel_rfl
abbrev repZ : List (List Value) := [[.int .u16 0], [.int .u8 0], [.int .u16 0], [.slice none 0 0]]
abbrev repFL : List Nat := [1, 1, 1, 1]
theorem plan128 : planOf Try.prog 128 = some (placesL 0 repFL, (cat repZ).toArray) := by kernel_rfl
theorem repV_len {x : Rep} (h : x.ok) {q : Option Addr} {d : Nat} : (repV x q d).map List.length = repL := by simp []
theorem repV_ok1 (x : Rep) (q : Option Addr) (d : Nat) : ok1 (cat (repV x q d)) := by
 intro u hu
 rw [cat_eq] at hu
 simp only [List.mem_flatten, List.mem_cons, List.not_mem_nil, or_false] at hu
 obtain ⟨l, hl, hu⟩ := hu
 rcases hl with rfl | rfl | rfl | rfl <;> first | (simp only [List.mem_singleton] at hu; subst hu; rfl) | exact ok1_bytes _ u hu
abbrev trnV (x : Trn) (q : Option Addr) (d : Nat) : List (List Value) := [[.int .u16 x.seq], [.slice q x.items.length d]]
abbrev trnL : List Nat := [1, 1]
theorem zero132 : (Try.prog.info? 132).bind (·.zero) = some (.agg (cat (trnV trn0 none 0)).toArray) := by kernel_rfl
theorem built132 : Try.prog.built 132 [] = some (cat (trnV trn0 none 0)).toArray := by kernel_rfl
abbrev trnZ : List (List Value) := [[.int .u16 0], [.slice none 0 0]]
abbrev trnFL : List Nat := [1, 1]
theorem plan132 : planOf Try.prog 132 = some (placesL 0 trnFL, (cat trnZ).toArray) := by kernel_rfl
theorem trnV_len {x : Trn} (h : x.ok) {q : Option Addr} {d : Nat} : (trnV x q d).map List.length = trnL := by simp []
theorem trnV_ok1 (x : Trn) (q : Option Addr) (d : Nat) : ok1 (cat (trnV x q d)) := by
 intro u hu
 rw [cat_eq] at hu
 simp only [List.mem_flatten, List.mem_cons, List.not_mem_nil, or_false] at hu
 obtain ⟨l, hl, hu⟩ := hu
 rcases hl with rfl | rfl <;> first | (simp only [List.mem_singleton] at hu; subst hu; rfl) | exact ok1_bytes _ u hu
end Go.Proofs.Ytcfecmoagfgnaaa

/- The reference: lists of items. -/
namespace Go.Proofs.Ytcfecmoagfgnaaa
open Go.Vc Go.Pl

theorem list_none {ls : List (List UInt8)} {xs : List Itm} (h : itemsGood xs = false) : none = joinO (ls ++ itemsP xs) (itemsGood xs) := by rw [h]; exact none_joinO _
theorem all_some {xs : List Itm} {i : Nat} (h : i < xs.length) (h1 : ((xs.take i).all fun x => (itemO x).isSome) = true) (h2 : (itemO (xs[i]'h)).isSome = true) : ((xs.take (i + 1)).all fun x => (itemO x).isSome) = true := by
 rw [List.take_succ_eq_append_getElem h, List.all_append, h1]
 simp [h2]
theorem list_good {ls : List (List UInt8)} {xs : List Itm} {i : Nat} (h0 : xs.length ≤ 4) (hie : i = xs.length) (hall : ((xs.take i).all fun x => (itemO x).isSome) = true) : joinO (ls ++ itemsP (xs.take i)) true = joinO (ls ++ itemsP xs) (itemsGood xs) := by
 rw [hie, List.take_length] at hall ⊢
 have hg : itemsGood xs = true := by unfold itemsGood; rw [decide_eq_true h0, Bool.true_and]; exact hall
 rw [hg]
theorem not_all {xs : List Itm} {i : Nat} (h : i < xs.length) (h2 : (itemO (xs[i]'h)).isSome = false) : itemsGood xs = false := by
 unfold itemsGood
 rw [Bool.and_eq_false_iff]
 right
 rw [List.all_eq_false]
 exact ⟨xs[i]'h, List.getElem_mem h, by rw [h2]; decide⟩

end Go.Proofs.Ytcfecmoagfgnaaa

/- 'append' to a full row that is only read: a new row. -/
namespace Go.Vc
section
variable {P : Program} {n : Nat} {Q : Exit → Act → World → Prop} {σ : Sl} {ops : Array Oper} {rest : List Oper} {d : Nat} {ty : TypeId} {pos : String} {aft : Array Edge} {S : List Snap} {H : List Chunk}
theorem VL.appendL {X : Type} {R : Rel X} {hR : Mono R} {x y : Operand} {t e : TypeId} {by_ : Nat} {z : Value} {tys : Array TypeId} {p q : Option Addr} {l r : List X} {cp c : Nat} (hE : Elem P t e 1 by_ z) (htys : tys = #[t, t]) (hx : ev σ x = some (.slice p l.length cp)) (hy : ev σ y = some (.slice q r.length c))
  (hl : 0 < l.length) (hr : 0 < r.length) (hc : cp < l.length + r.length) (hn : l.length + r.length ≤ 100000) (hb : (l.length + r.length) * by_ ≤ 140737488355328) (hA : ∀ w, Own S H w → Arr 1 R (keys H) w p l cp) (hB : ∀ w, Own S H w → Arr 1 R (keys H) w q r c) (h1 : ∀ K w vs y, R K w vs y → ok1 vs)
  (h : ∀ g c', VL P n ops Q rest ((d, rowV (some g) (l ++ r).length c') :: σ) (Own S (arow e 1 R hR (some g) c' (l ++ r) :: H))) (hdn : Nat.blt d n = true := by rfl) : VL P n ops Q (⟨some d, .call ⟨.builtin .append, #[x, y], tys⟩, ty, pos, aft, none⟩ :: rest) σ (Own S H) := by
 subst htys
 refine VL.act (K := fun v w' => ∃ g c', v = rowV (some g) (l ++ r).length c' ∧ Own S (arow e 1 R hR (some g) c' (l ++ r) :: H) w') rfl rfl hdn (fun a w ha hw => ?_) (fun v => VL.ex fun g => VL.ex fun c' => VL.fact fun e0 => by subst e0; exact h g c')
 obtain ⟨inf, hi1, hi2, hi3, hi4⟩ := hE.get
 have hA' := hA w hw
 have hB' := hB w hw
 obtain ⟨b, rfl⟩ := hA'.isAt hl
 obtain ⟨b', rfl⟩ := hB'.isAt hr
 obtain ⟨n1, k1, e1, r1, o1⟩ := hA'.cells
 obtain ⟨n2, k2, e2, r2, o2⟩ := hB'.cells
 rw [Nat.mul_one] at e1 e2
 have c1 : ∀ j v, n1[j]? = some v → w.cell? (b.add j) = some v := by
  rcases k1 with ⟨h0, _⟩ | ⟨a0, e0, h0⟩
  ·cases h0
  ·cases e0; exact h0
 have c2 : ∀ j v, n2[j]? = some v → w.cell? (b'.add j) = some v := by
  rcases k2 with ⟨h0, _⟩ | ⟨a0, e0, h0⟩
  ·cases h0
  ·cases e0; exact h0
 have hr' := run_append_grow (P := P) w t ty e inf z hE.under hi1 hi2 b l.length cp n1 (by simp [hi3, e1]) c1 b' r.length c n2 (by simp [hi3, e2]) c2 hc (by omega) (growslice_fits hc (by rw [hi4]; omega))
 have hok : ok1 (n1 ++ n2) := by
  intro u hu
  rcases List.mem_append.1 hu with hu | hu
  ·obtain ⟨y, _, vs, hv, hy⟩ := o1 u hu
   exact h1 _ _ _ _ hy u hv
  ·obtain ⟨y, _, vs, hv, hy⟩ := o2 u hu
   exact h1 _ _ _ _ hy u hv
 refine ⟨.slice (some ⟨w.heap.size, 0, none⟩) (l.length + r.length) (grownCap w (l.length + r.length) cp e), w.drew.alloc (.cells (n1.toArray ++ n2.toArray ++ Builtin.zeroCells z.cells (grownCap w (l.length + r.length) cp e - (l.length + r.length))) e), ?_, w.heap.size, grownCap w (l.length + r.length) cp e, (by rw [List.length_append]; rfl), ?_⟩
 ·simp only [execOp, resolve, invoke, builtin, Sem.run_bind, List.map_toArray, List.map_cons, List.map_nil, ha.ev hx, ha.ev hy, hr', Result.andThen_ok, Sem.run_pure]
 ·have hrow : (w.drew.alloc (.cells (n1.toArray ++ n2.toArray ++ Builtin.zeroCells z.cells (grownCap w (l.length + r.length) cp e - (l.length + r.length))) e)).ownsRow 0 e 1 (rowV (some w.heap.size) (l.length + r.length) (grownCap w (l.length + r.length) cp e)) (l.length + r.length) (n1 ++ n2) :=
   new_row (z := z.cells) (w := w) rfl (by simp) (by simp [e1, e2]) hE.zsize (grownCap_ge _ _ _ _) (grownCap_le_maxLen _ _ _ _ (by simp only [maxLen]; omega))
  have hs := ownsRow_sizes hrow
  have h2 := Own.grow (A := [row e 1 (some w.heap.size) (l.length + r.length) (grownCap w (l.length + r.length) cp e) (n1 ++ n2)]) (w' := w.drew.alloc (.cells (n1.toArray ++ n2.toArray ++ Builtin.zeroCells z.cells (grownCap w (l.length + r.length) cp e - (l.length + r.length))) e)) hw.keep rfl rfl rfl (by simp) (fun k hk => Go.heap_alloc_old w.drew _ hk) (by simp [keys, row]) (fun k hk => ?_) (fun a0 ha0 => ?_)
  ·have h2 : Own (⟨w, keys H⟩ :: S) (row e 1 (some w.heap.size) (l.length + r.length) (grownCap w (l.length + r.length) cp e) (n1 ++ n2) :: H) _ := h2
   have h3 := Own.asArr (ys := l ++ r) hR h2 (by rw [List.length_append]) (fun j y hj => ?_)
   ·exact h3.lose
   ·refine hR ⟨w, keys H⟩ _ _ _ y (h2.after (List.mem_cons_self ..)) ?_
    rw [List.getElem?_append] at hj
    unfold part at r1 r2 ⊢
    split at hj
    ·rename_i hlt
     have := r1 j y hj
     rw [Nat.mul_one] at this ⊢
     rw [List.drop_append_of_le_length (by omega), List.take_append_of_le_length (by rw [List.length_drop]; omega)]
     exact this
    ·rename_i hge
     have := r2 (j - l.length) y hj
     rw [Nat.mul_one] at this ⊢
     rw [List.drop_append, List.drop_eq_nil_of_le (by omega), List.nil_append, e1]
     exact this
  ·simp [keys, row] at hk
   subst hk
   exact ⟨Nat.le_refl _, hs.2.2.2.2 _ rfl⟩
  ·rw [List.mem_singleton] at ha0; subst ha0
   exact ⟨hrow, hok⟩
end
end Go.Vc

