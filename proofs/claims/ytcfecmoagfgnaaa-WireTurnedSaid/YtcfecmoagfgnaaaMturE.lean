/- The statement WireTurned is proved, for every input: part 5 of 6 of the texts that it needs. -/
import Derived.Test.YtcfecmoagfgnaaaMturD
/- wire: what bytes are read as: packets. -/
namespace Go.Proofs.Ytcfecmoagfgnaaa
open Go.Vc Go.Pl

theorem Own.drop2 {S : List Snap} {a b : Chunk} {H : List Chunk} {w : World} (h : Own S (a :: b :: H) w) : Own S (a :: H) w := Own.drop (c := b) (h.perm (List.Perm.swap a b H))
theorem third_is {ps : List (List UInt8)} (h : 2 < ps.length) : nextP (at2 ps) = ps[2]'h := by
  match ps, h with
  | a :: b :: c :: r, _ => rfl
theorem num_one {l : List UInt8} (h : l.length = 1) (h0 : 0 < l.length) : num l = (l[0]'h0).toNat := by
  match l, h with
  | [b], _ => simp [num]
theorem kb_why {l : List UInt8} (h : openW l ≠ 0) : ¬ kindBad (openP l) := by
  rcases openW_cases l with ⟨h1, _⟩ | ⟨_, h1⟩
  · rw [h1]; intro h; exact absurd h.1 (by decide)
  · exact absurd h1 h
theorem kb_short {ps : List (List UInt8)} (h : ¬ 2 < ps.length) : ¬ kindBad ps := fun hb => h hb.1
theorem kb_len {ps : List (List UInt8)} (h : 2 < ps.length) (h1 : (ps[2]'h).length ≠ 1) : ¬ kindBad ps := fun hb => h1 (by rw [← third_is h]; exact hb.2.1)
theorem kb_iff {ps : List (List UInt8)} (h : 2 < ps.length) (h1 : (ps[2]'h).length = 1) (h0 : 0 < (ps[2]'h).length) : kindBad ps ↔ kindIn (((ps[2]'h)[0]'h0).toNat) = false := by
  unfold kindBad
  rw [third_is h, num_one h1 h0]
  exact ⟨fun hb => hb.2.2, fun hb => ⟨h, h1, hb⟩⟩
theorem kindIn_no {k : Nat} (h : k < 1 ∨ 4 < k) : kindIn k = false := by unfold kindIn; rw [Bool.and_eq_false_iff]; rcases h with h | h <;> simp <;> omega
theorem zero_at {l : List UInt8} (hz : l = [0]) (h : 0 < l.length) : ¬ (((l[0]'h).toNat : Nat) : Int) ≠ 0 := by subst hz; simp
theorem nz_at {l : List UInt8} (hz : l ≠ [0]) (hl : l.length = 1) (h : 0 < l.length) : (((l[0]'h).toNat : Nat) : Int) ≠ 0 := by
  match l, hl with
  | [b], _ =>
    intro e
    refine hz ?_
    have e : b.toNat = 0 := by have e : ((b.toNat : Nat) : Int) = 0 := e; omega
    rw [show b = 0 from UInt8.toNat.inj e]

theorem getPkt_w {S : List Snap} {H : List Chunk} {w : World} (ho : Own S H w) {p : Option Addr} {l : List UInt8} {c : Nat} (hA : Bytes (keys H) w p l c) : Calls Try.prog 81 #[.slice p l.length c] w (Ret fun v w' => ∃ q d p c, v = .tuple #[.agg (cat (pktV ((pktR l).getD pkt0) q d p c)).toArray, .int .i64 ((pktW l : Nat) : Int)] ∧ Own S H w' ∧ Arr 101 objectR' (keys H) w' q ((pktR l).getD pkt0).chain d ∧ Bytes (keys H) w' p ((pktR l).getD pkt0).body c) := by
  refine enter (G := Own (⟨w, keys H⟩ :: S) H) ho.keep Try.func81 rfl Try.ntmps81 rfl ?_
  refine VC.seq ?_
  refine VC.region ?_
  refine VL.alloc (L := pktL) (ps := (pktV (pkt0) none 0 none 0)) zero118 rfl rfl (fun g1 => ?_)
  refine VL.assign rfl ?_
  refine VL.nil ?_
  refine VX.next ?_
  refine VC.seq ?_
  refine VC.region ?_
  refine VL.move rfl ?_
  refine VL.call Try.func121 rfl (by decide) rfl (fun w' hw => open_R hw (hA.now (s := ⟨w, _⟩) Mono.byte hw (by repeat (first | exact List.mem_cons_self .. | apply List.mem_cons_of_mem)))) (fun v => ?_)
  refine VL.ex fun g2 => VL.fact fun e3 => ?_
  subst e3
  refine VL.assign rfl ?_
  refine VL.nil ?_
  refine VX.next ?_
  refine VC.seq ?_
  refine VC.join (X := Bool) (fun b => [(2, .pointer (some ⟨g1, 0, none⟩)), (4, .pointer (some ⟨g2, 0, none⟩)), (57, .bool b)]) (fun _ => Own (⟨w, keys H⟩ :: S) (rch g2 (openP (l)) (openW (l)) :: blk g1 118 pktL (pktV (pkt0) none 0 none 0) :: H)) (fun b => (b = true ↔ kindBad (openP l))) (fun hrest => ?_) (fun b hbk => ?_)
  · skip
    refine VC.region ?_
    refine VL.move rfl ?_
    refine VL.nilCheck rfl ?_
    refine VL.fieldAddr rfl fo196_1 rfl ?_
    refine loadWhy 0 rfl (fun _ h => h) rfl ?_
    refine VL.eql rfl rfl ?_
    refine VL.case (fun h2_4 => ?_) (fun h2_4 => ?_)
    · skip
      refine VL.move rfl ?_
      refine VL.go rfl rfl rfl ?_
      refine VL.move rfl ?_
      refine VL.go rfl rfl rfl ?_
      refine VL.nilCheck rfl ?_
      refine VL.go rfl rfl rfl ?_
      refine VL.fieldAddr rfl fo196_0 rfl ?_
      refine VL.go rfl rfl rfl ?_
      refine loadParts 0 rfl rfl (fun p4 c5 w6 hO7 hA8 => ?_)
      refine VL.go rfl rfl rfl ?_
      refine VL.len Try.underlying31 rfl rfl ?_
      refine VL.go rfl rfl rfl ?_
      refine VL.gtr rfl rfl ?_
      refine VL.case (fun h2_11 => ?_) (fun h2_11 => ?_)
      · have hlen : 2 < (openP (l)).length := by omega
        refine VL.pick_t rfl rfl ?_
        refine VL.move rfl ?_
        refine VL.go rfl rfl rfl ?_
        refine VL.move rfl ?_
        refine VL.go rfl rfl rfl ?_
        refine VL.nilCheck rfl ?_
        refine VL.go rfl rfl rfl ?_
        refine VL.fieldAddr rfl fo196_0 rfl ?_
        refine VL.go rfl rfl rfl ?_
        refine loadParts 0 rfl rfl (fun p9 c10 w11 hO12 hA13 => ?_)
        refine VL.go rfl rfl rfl ?_
        refine VL.index (xs := (openP (l))) rfl rfl Try.underlying31 sz31 hA13 (by omega) (by have hi := hlen; omega) ?_
        refine VL.go rfl rfl rfl ?_
        refine VL.elem (s := ⟨w11, _⟩) (2) 0 rfl kd24 (fun _ h => h) (by repeat (first | exact List.mem_cons_self .. | apply List.mem_cons_of_mem)) (Mono.slice Mono.byte) hA13 (List.getElem?_eq_getElem hlen) (by simp) (by decide) (fun vs v hl hr hv => ?_)
        obtain ⟨p16, c17, rfl, hA18⟩ := hr
        have ehy15 : v = .slice p16 ((openP (l))[2]'hlen).length c17 := Option.some.inj (hv.symm.trans rfl)
        subst ehy15
        refine VL.go rfl rfl rfl ?_
        refine VL.len Try.underlying24 rfl rfl ?_
        refine VL.go rfl rfl rfl ?_
        refine VL.eql rfl rfl ?_
        refine VL.case (fun h2_21 => ?_) (fun h2_21 => ?_)
        · have h1l : ((openP (l))[2]'hlen).length = 1 := by omega
          have h1p : 0 < ((openP (l))[2]'hlen).length := by omega
          refine VL.pick_t rfl rfl ?_
          refine VL.move rfl ?_
          refine VL.go rfl rfl rfl ?_
          refine VL.move rfl ?_
          refine VL.go rfl rfl rfl ?_
          refine VL.nilCheck rfl ?_
          refine VL.go rfl rfl rfl ?_
          refine VL.fieldAddr rfl fo196_0 rfl ?_
          refine VL.go rfl rfl rfl ?_
          refine loadParts 0 rfl rfl (fun p19 c20 w21 hO22 hA23 => ?_)
          refine VL.go rfl rfl rfl ?_
          refine VL.index (xs := (openP (l))) rfl rfl Try.underlying31 sz31 hA23 (by omega) (by have hi := hlen; omega) ?_
          refine VL.go rfl rfl rfl ?_
          refine VL.elem (s := ⟨w21, _⟩) (2) 0 rfl kd24 (fun _ h => h) (by repeat (first | exact List.mem_cons_self .. | apply List.mem_cons_of_mem)) (Mono.slice Mono.byte) hA23 (List.getElem?_eq_getElem hlen) (by simp) (by decide) (fun vs v hl hr hv => ?_)
          obtain ⟨p26, c27, rfl, hA28⟩ := hr
          have ehy25 : v = .slice p26 ((openP (l))[2]'hlen).length c27 := Option.some.inj (hv.symm.trans rfl)
          subst ehy25
          refine VL.go rfl rfl rfl ?_
          refine VL.index (xs := ((openP (l))[2]'hlen)) rfl rfl Try.underlying24 sz24 hA28 (by omega) (by have hi := h1p; omega) ?_
          refine VL.go rfl rfl rfl ?_
          refine VL.byte (s := ⟨w21, _⟩) (y := ((openP (l))[2]'hlen)[0]'h1p) rfl kd5 (fun _ h => h) (by repeat (first | exact List.mem_cons_self .. | apply List.mem_cons_of_mem)) hA28 (List.getElem?_eq_getElem h1p) ?_
          refine VL.go rfl rfl rfl ?_
          refine VL.lss rfl rfl ?_
          refine VL.case (fun h2_32 => ?_) (fun h2_32 => ?_)
          · have hb : kindBad (openP l) := (kb_iff hlen h1l h1p).2 (kindIn_no (.inl (by have h : ((((((openP (l))[2]'hlen)[0]'h1p).toNat : Nat)) : Int) < 1 := h2_32; omega)))
            refine VL.go rfl rfl rfl ?_
            refine VL.move rfl ?_
            refine VL.pass rfl rfl rfl rfl rfl ?_
            refine VL.pass rfl rfl rfl rfl rfl ?_
            refine VL.pass rfl rfl rfl rfl rfl ?_
            refine VL.pass rfl rfl rfl rfl rfl ?_
            refine VL.pass rfl rfl rfl rfl rfl ?_
            refine VL.pass rfl rfl rfl rfl rfl ?_
            refine VL.pass rfl rfl rfl rfl rfl ?_
            refine VL.pass rfl rfl rfl rfl rfl ?_
            refine VL.pass rfl rfl rfl rfl rfl ?_
            refine VL.go rfl rfl rfl ?_
            refine VL.pick_t rfl rfl ?_
            refine VL.pick_t rfl rfl ?_
            refine VL.nil ?_
            exact VX.join hrest true ⟨fun _ => hb, fun _ => rfl⟩ ⟨rfl, rfl, rfl, trivial⟩ (fun _ h => h.sub (fun _ hs => by repeat (first | exact hs | apply List.mem_cons_of_mem)))
          · skip
            refine VL.go rfl rfl rfl ?_
            refine VL.move rfl ?_
            refine VL.go rfl rfl rfl ?_
            refine VL.move rfl ?_
            refine VL.go rfl rfl rfl ?_
            refine VL.nilCheck rfl ?_
            refine VL.go rfl rfl rfl ?_
            refine VL.fieldAddr rfl fo196_0 rfl ?_
            refine VL.go rfl rfl rfl ?_
            refine loadParts 0 rfl rfl (fun p31 c32 w33 hO34 hA35 => ?_)
            refine VL.go rfl rfl rfl ?_
            refine VL.index (xs := (openP (l))) rfl rfl Try.underlying31 sz31 hA35 (by omega) (by have hi := hlen; omega) ?_
            refine VL.go rfl rfl rfl ?_
            refine VL.elem (s := ⟨w33, _⟩) (2) 0 rfl kd24 (fun _ h => h) (by repeat (first | exact List.mem_cons_self .. | apply List.mem_cons_of_mem)) (Mono.slice Mono.byte) hA35 (List.getElem?_eq_getElem hlen) (by simp) (by decide) (fun vs v hl hr hv => ?_)
            obtain ⟨p38, c39, rfl, hA40⟩ := hr
            have ehy37 : v = .slice p38 ((openP (l))[2]'hlen).length c39 := Option.some.inj (hv.symm.trans rfl)
            subst ehy37
            refine VL.go rfl rfl rfl ?_
            refine VL.index (xs := ((openP (l))[2]'hlen)) rfl rfl Try.underlying24 sz24 hA40 (by omega) (by have hi := h1p; omega) ?_
            refine VL.go rfl rfl rfl ?_
            refine VL.byte (s := ⟨w33, _⟩) (y := ((openP (l))[2]'hlen)[0]'h1p) rfl kd5 (fun _ h => h) (by repeat (first | exact List.mem_cons_self .. | apply List.mem_cons_of_mem)) hA40 (List.getElem?_eq_getElem h1p) ?_
            refine VL.go rfl rfl rfl ?_
            refine VL.gtr rfl rfl ?_
            refine VL.case (fun h2_42 => ?_) (fun h2_42 => ?_)
            · have hb : kindBad (openP l) := (kb_iff hlen h1l h1p).2 (kindIn_no (.inr (by have h : (4 : Int) < ((((((openP (l))[2]'hlen)[0]'h1p).toNat : Nat)) : Int) := h2_42; omega)))
              refine VL.go rfl rfl rfl ?_
              refine VL.pick_f rfl rfl ?_
              refine VL.pick_t rfl rfl ?_
              refine VL.nil ?_
              exact VX.join hrest true ⟨fun _ => hb, fun _ => rfl⟩ ⟨rfl, rfl, rfl, trivial⟩ (fun _ h => h.sub (fun _ hs => by repeat (first | exact hs | apply List.mem_cons_of_mem)))
            · have hnb : ¬ kindBad (openP l) := fun hb => by
                have h1 := (kb_iff hlen h1l h1p).1 hb
                rw [kindIn_of.2 ⟨by have h : ¬ ((((((openP (l))[2]'hlen)[0]'h1p).toNat : Nat)) : Int) < 1 := h2_32; omega, by have h : ¬ (4 : Int) < ((((((openP (l))[2]'hlen)[0]'h1p).toNat : Nat)) : Int) := h2_42; omega⟩] at h1
                cases h1
              refine VL.go rfl rfl rfl ?_
              refine VL.pick_f rfl rfl ?_
              refine VL.pick_t rfl rfl ?_
              refine VL.nil ?_
              exact VX.join hrest false ⟨fun h => absurd h (by decide), fun h => absurd h hnb⟩ ⟨rfl, rfl, rfl, trivial⟩ (fun _ h => h.sub (fun _ hs => by repeat (first | exact hs | apply List.mem_cons_of_mem)))
        · have hnb : ¬ kindBad (openP l) := kb_len hlen (by omega)
          refine VL.pick_t rfl rfl ?_
          refine VL.move rfl ?_
          refine VL.pass rfl rfl rfl rfl rfl ?_
          refine VL.pass rfl rfl rfl rfl rfl ?_
          refine VL.pass rfl rfl rfl rfl rfl ?_
          refine VL.pass rfl rfl rfl rfl rfl ?_
          refine VL.pass rfl rfl rfl rfl rfl ?_
          refine VL.pass rfl rfl rfl rfl rfl ?_
          refine VL.pass rfl rfl rfl rfl rfl ?_
          refine VL.pass rfl rfl rfl rfl rfl ?_
          refine VL.pass rfl rfl rfl rfl rfl ?_
          refine VL.pass rfl rfl rfl rfl rfl ?_
          refine VL.passu rfl rfl rfl rfl ?_
          refine VL.passu rfl rfl rfl rfl ?_
          refine VL.passu rfl rfl rfl rfl ?_
          refine VL.passu rfl rfl rfl rfl ?_
          refine VL.passu rfl rfl rfl rfl ?_
          refine VL.passu rfl rfl rfl rfl ?_
          refine VL.passu rfl rfl rfl rfl ?_
          refine VL.passu rfl rfl rfl rfl ?_
          refine VL.passu rfl rfl rfl rfl ?_
          refine VL.pass rfl rfl rfl rfl rfl ?_
          refine VL.pick_f rfl rfl ?_
          refine VL.nil ?_
          exact VX.join hrest false ⟨fun h => absurd h (by decide), fun h => absurd h hnb⟩ ⟨rfl, rfl, rfl, trivial⟩ (fun _ h => h.sub (fun _ hs => by repeat (first | exact hs | apply List.mem_cons_of_mem)))
      · have hnb : ¬ kindBad (openP l) := kb_short (by omega)
        refine VL.pick_t rfl rfl ?_
        refine VL.move rfl ?_
        refine VL.pass rfl rfl rfl rfl rfl ?_
        refine VL.pass rfl rfl rfl rfl rfl ?_
        refine VL.pass rfl rfl rfl rfl rfl ?_
        refine VL.pass rfl rfl rfl rfl rfl ?_
        refine VL.pass rfl rfl rfl rfl rfl ?_
        refine VL.pass rfl rfl rfl rfl rfl ?_
        refine VL.pass rfl rfl rfl rfl rfl ?_
        refine VL.pass rfl rfl rfl rfl rfl ?_
        refine VL.pick_f rfl rfl ?_
        refine VL.move rfl ?_
        refine VL.pass rfl rfl rfl rfl rfl ?_
        refine VL.pass rfl rfl rfl rfl rfl ?_
        refine VL.pass rfl rfl rfl rfl rfl ?_
        refine VL.pass rfl rfl rfl rfl rfl ?_
        refine VL.pass rfl rfl rfl rfl rfl ?_
        refine VL.pass rfl rfl rfl rfl rfl ?_
        refine VL.pass rfl rfl rfl rfl rfl ?_
        refine VL.pass rfl rfl rfl rfl rfl ?_
        refine VL.pass rfl rfl rfl rfl rfl ?_
        refine VL.pass rfl rfl rfl rfl rfl ?_
        refine VL.passu rfl rfl rfl rfl ?_
        refine VL.passu rfl rfl rfl rfl ?_
        refine VL.passu rfl rfl rfl rfl ?_
        refine VL.passu rfl rfl rfl rfl ?_
        refine VL.passu rfl rfl rfl rfl ?_
        refine VL.passu rfl rfl rfl rfl ?_
        refine VL.passu rfl rfl rfl rfl ?_
        refine VL.passu rfl rfl rfl rfl ?_
        refine VL.passu rfl rfl rfl rfl ?_
        refine VL.pass rfl rfl rfl rfl rfl ?_
        refine VL.pick_f rfl rfl ?_
        refine VL.nil ?_
        exact VX.join hrest false ⟨fun h => absurd h (by decide), fun h => absurd h hnb⟩ ⟨rfl, rfl, rfl, trivial⟩ (fun _ h => h.sub (fun _ hs => by repeat (first | exact hs | apply List.mem_cons_of_mem)))
    · have hnb : ¬ kindBad (openP l) := kb_why (by omega)
      refine VL.move rfl ?_
      refine VL.pass rfl rfl rfl rfl rfl ?_
      refine VL.pass rfl rfl rfl rfl rfl ?_
      refine VL.pass rfl rfl rfl rfl rfl ?_
      refine VL.pass rfl rfl rfl rfl rfl ?_
      refine VL.pass rfl rfl rfl rfl rfl ?_
      refine VL.pass rfl rfl rfl rfl rfl ?_
      refine VL.pick_f rfl rfl ?_
      refine VL.move rfl ?_
      refine VL.pass rfl rfl rfl rfl rfl ?_
      refine VL.pass rfl rfl rfl rfl rfl ?_
      refine VL.pass rfl rfl rfl rfl rfl ?_
      refine VL.pass rfl rfl rfl rfl rfl ?_
      refine VL.pass rfl rfl rfl rfl rfl ?_
      refine VL.pass rfl rfl rfl rfl rfl ?_
      refine VL.pass rfl rfl rfl rfl rfl ?_
      refine VL.pass rfl rfl rfl rfl rfl ?_
      refine VL.pick_f rfl rfl ?_
      refine VL.move rfl ?_
      refine VL.pass rfl rfl rfl rfl rfl ?_
      refine VL.pass rfl rfl rfl rfl rfl ?_
      refine VL.pass rfl rfl rfl rfl rfl ?_
      refine VL.pass rfl rfl rfl rfl rfl ?_
      refine VL.pass rfl rfl rfl rfl rfl ?_
      refine VL.pass rfl rfl rfl rfl rfl ?_
      refine VL.pass rfl rfl rfl rfl rfl ?_
      refine VL.pass rfl rfl rfl rfl rfl ?_
      refine VL.pass rfl rfl rfl rfl rfl ?_
      refine VL.pass rfl rfl rfl rfl rfl ?_
      refine VL.passu rfl rfl rfl rfl ?_
      refine VL.passu rfl rfl rfl rfl ?_
      refine VL.passu rfl rfl rfl rfl ?_
      refine VL.passu rfl rfl rfl rfl ?_
      refine VL.passu rfl rfl rfl rfl ?_
      refine VL.passu rfl rfl rfl rfl ?_
      refine VL.passu rfl rfl rfl rfl ?_
      refine VL.passu rfl rfl rfl rfl ?_
      refine VL.passu rfl rfl rfl rfl ?_
      refine VL.pass rfl rfl rfl rfl rfl ?_
      refine VL.pick_f rfl rfl ?_
      refine VL.nil ?_
      exact VX.join hrest false ⟨fun h => absurd h (by decide), fun h => absurd h hnb⟩ ⟨rfl, rfl, rfl, trivial⟩ (fun _ h => h.sub (fun _ hs => by repeat (first | exact hs | apply List.mem_cons_of_mem)))
  skip
  refine VC.split rfl (fun hc57 => ?_) (fun hc57 => ?_)
  · refine VC.seq ?_
    refine VC.region ?_
    refine VL.build0 (cs := cat (pktV (pkt0) none 0 none 0)) built118 ?_
    refine VL.store (L := pktL) (qs := (pktV (pkt0) none 0 none 0)) (ps' := (pktV (pkt0) none 0 none 0)) 1 0 6 rfl rfl rfl (.inl kd118) rfl rfl rfl (pktV_ok1 pkt0 none 0 none 0) rfl rfl ?_
    refine VL.turn (G' := Own _ (rch g2 (openP (l)) (openW (l)) :: blk g1 118 pktL (pktV (pkt0) none 0 none 0) :: H)) (fun _ h => h) ?_
    refine VL.assign rfl ?_
    refine VL.nil ?_
    refine VX.next ?_
    refine VC.ret ?_
    refine VX.then_ret ?_
    refine VX.ret_cell (cs := cat (pktV (pkt0) none 0 none 0)) 1 rfl rfl rfl kd118 (fun _ h => h) rfl rfl (fun we hw => ?_)
    obtain ⟨e1, e2⟩ := pktW_bad (hbk.1 hc57)
    exact ⟨none, 0, none, 0, by rw [e1]; exact congrArg (fun n : Nat => Value.tuple #[_, .int .i64 (n : Int)]) (e2).symm, hw.drop.drop.sub (fun _ hs => by repeat (first | exact hs | apply List.mem_cons_of_mem)), by rw [e1]; exact Arr.none, by rw [e1]; exact Arr.none⟩
  · refine VC.skip ?_
    refine VX.next ?_
    refine VC.seq ?_
    have hnb : ¬ kindBad (openP l) := mt hbk.2 (by rw [hc57]; decide)
    refine VC.region ?_
    refine VL.move rfl ?_
    refine VL.call Try.func122 rfl (by decide) rfl (fun w' hw => byte_R (i := 0) rfl hw) (fun v => ?_)
    refine VL.fact fun e43 => ?_
    subst e43
    refine VL.turn (G' := Own _ (rch g2 ((openP (l)).drop 1) (lenW (openP (l)) (openW (l)) 1) :: blk g1 118 pktL (pktV (pkt0) none 0 none 0) :: H)) (fun _ h => h) ?_
    refine VL.move rfl ?_
    refine VL.call Try.func122 rfl (by decide) rfl (fun w' hw => byte_R (i := 0) rfl hw) (fun v => ?_)
    refine VL.fact fun e44 => ?_
    subst e44
    refine VL.turn (G' := Own _ (rch g2 (((openP (l)).drop 1).drop 1) (lenW ((openP (l)).drop 1) (lenW (openP (l)) (openW (l)) 1) 1) :: blk g1 118 pktL (pktV (pkt0) none 0 none 0) :: H)) (fun _ h => h) ?_
    refine VL.move rfl ?_
    refine VL.call Try.func122 rfl (by decide) rfl (fun w' hw => byte_R (i := 0) rfl hw) (fun v => ?_)
    refine VL.fact fun e45 => ?_
    subst e45
    refine VL.turn (G' := Own _ (rch g2 ((((openP (l)).drop 1).drop 1).drop 1) (lenW (((openP (l)).drop 1).drop 1) (lenW ((openP (l)).drop 1) (lenW (openP (l)) (openW (l)) 1) 1) 1) :: blk g1 118 pktL (pktV (pkt0) none 0 none 0) :: H)) (fun _ h => h) ?_
    refine VL.build (zs := pktZ) (L := pktFL) [(0, [.int .u8 (takeN (openP (l)) 1)]), (1, [.int .u8 (takeN ((openP (l)).drop 1) 1)]), (2, [.int .u8 (takeN (((openP (l)).drop 1).drop 1) 1)])] plan118 rfl ⟨⟨rfl, ⟨_, rfl, rfl⟩, rfl⟩, ⟨⟨rfl, ⟨_, rfl, rfl⟩, rfl⟩, ⟨⟨rfl, ⟨_, rfl, rfl⟩, rfl⟩, trivial⟩⟩⟩ rfl ?_
    refine VL.newv (v' := .agg (cat (pktV ((Pkt.mk (takeN (openP l) 1) (takeN ((openP l).drop 1) 1) (takeN (((openP l).drop 1).drop 1) 1) [] [] (zeros 64))) none 0 none 0)).toArray) rfl ?_
    refine VL.alloc (L := pktL) (ps := (pktV (pkt0) none 0 none 0)) zero118 rfl rfl (fun g46 => ?_)
    refine VL.store (L := pktL) (qs := (pktV ((Pkt.mk (takeN (openP l) 1) (takeN ((openP l).drop 1) 1) (takeN (((openP l).drop 1).drop 1) 1) [] [] (zeros 64))) none 0 none 0)) (ps' := (pktV ((Pkt.mk (takeN (openP l) 1) (takeN ((openP l).drop 1) 1) (takeN (((openP l).drop 1).drop 1) 1) [] [] (zeros 64))) none 0 none 0)) 0 0 6 rfl rfl rfl (.inl kd118) rfl rfl (pktV_len ((⟨takeN_lt _ 1, takeN_lt _ 1, takeN_lt _ 1, (by simp), rfl⟩ : Pkt.ok (Pkt.mk (takeN (openP l) 1) (takeN ((openP l).drop 1) 1) (takeN (((openP l).drop 1).drop 1) 1) [] [] (zeros 64))))) (pktV_ok1 ((Pkt.mk (takeN (openP l) 1) (takeN ((openP l).drop 1) 1) (takeN (((openP l).drop 1).drop 1) 1) [] [] (zeros 64))) none 0 none 0) rfl rfl ?_
    refine VL.turn (G' := Own _ (blk g46 118 pktL (pktV ((Pkt.mk (takeN (openP l) 1) (takeN ((openP l).drop 1) 1) (takeN (((openP l).drop 1).drop 1) 1) [] [] (zeros 64))) none 0 none 0) :: rch g2 ((((openP (l)).drop 1).drop 1).drop 1) (lenW (((openP (l)).drop 1).drop 1) (lenW ((openP (l)).drop 1) (lenW (openP (l)) (openW (l)) 1) 1) 1) :: blk g1 118 pktL (pktV (pkt0) none 0 none 0) :: H)) (fun _ h => h) ?_
    refine VL.nil ?_
    refine VX.next ?_
    refine VC.seq ?_
    refine VC.region ?_
    refine VL.build (zs := [[.slice none 0 0], [.int .i64 0]]) [] plan196 rfl trivial rfl ?_
    refine VL.box (L := [1, 1]) (ps := [[.slice none 0 0], [.int .i64 0]]) rfl rfl rfl (fun g0 => ?_)
    refine VL.turn (fun w' hw => shutR (parts := []) (why := 0) (p := none) (c := 0) hw Arr.none) ?_
    refine VL.assign rfl ?_
    refine VL.nil ?_
    refine VX.next ?_
    refine VC.join (X := Nat × List (List UInt8) × Nat) (fun (gl, _, _) => [(2, .pointer (some ⟨g1, 0, none⟩)), (4, .pointer (some ⟨g2, 0, none⟩)), (5, .pointer (some ⟨g46, 0, none⟩)), (6, .pointer (some ⟨gl, 0, none⟩))]) (fun (gl, c0, y0) => Own (⟨w, keys H⟩ :: S) (rch gl c0 y0 :: blk g46 118 pktL (pktV ((Pkt.mk (takeN (openP l) 1) (takeN ((openP l).drop 1) 1) (takeN (((openP l).drop 1).drop 1) 1) [] [] (zeros 64))) none 0 none 0) :: rch g2 (((((openP (l)).drop 1).drop 1).drop 1).drop 1) (nextW ((((openP (l)).drop 1).drop 1).drop 1) (lenW (((openP (l)).drop 1).drop 1) (lenW ((openP (l)).drop 1) (lenW (openP (l)) (openW (l)) 1) 1) 1)) :: blk g1 118 pktL (pktV (pkt0) none 0 none 0) :: H)) (fun (_, c0, y0) => ((nextP ((((openP l).drop 1).drop 1).drop 1)) = [0] ∧ c0 = [] ∧ y0 = 0) ∨ ((nextP ((((openP l).drop 1).drop 1).drop 1)) ≠ [0] ∧ c0 = openP (nextP ((((openP l).drop 1).drop 1).drop 1)) ∧ y0 = openW (nextP ((((openP l).drop 1).drop 1).drop 1)))) (fun hrest => ?_) (fun (gl, c0, y0) hcz => ?_)
    · skip
      refine VC.seq ?_
      refine VC.region ?_
      refine VL.move rfl ?_
      refine VL.call Try.func124 rfl (by decide) rfl (fun w' hw => piece_R (i := 2) rfl hw) (fun v => ?_)
      refine VL.at (fun w47 h1w => ?_)
      obtain ⟨p48, c49, rfl, hO51, hA50⟩ := h1w
      replace hO51 : Own _ (rch g0 [] 0 :: blk g46 118 pktL (pktV ((Pkt.mk (takeN (openP l) 1) (takeN ((openP l).drop 1) 1) (takeN (((openP l).drop 1).drop 1) 1) [] [] (zeros 64))) none 0 none 0) :: rch g2 (((((openP (l)).drop 1).drop 1).drop 1).drop 1) (nextW ((((openP (l)).drop 1).drop 1).drop 1) (lenW (((openP (l)).drop 1).drop 1) (lenW ((openP (l)).drop 1) (lenW (openP (l)) (openW (l)) 1) 1) 1)) :: blk g1 118 pktL (pktV (pkt0) none 0 none 0) :: H) w47 := hO51
      replace hA50 : Bytes (keys (rch g0 [] 0 :: blk g46 118 pktL (pktV ((Pkt.mk (takeN (openP l) 1) (takeN ((openP l).drop 1) 1) (takeN (((openP l).drop 1).drop 1) 1) [] [] (zeros 64))) none 0 none 0) :: rch g2 (((((openP (l)).drop 1).drop 1).drop 1).drop 1) (nextW ((((openP (l)).drop 1).drop 1).drop 1) (lenW (((openP (l)).drop 1).drop 1) (lenW ((openP (l)).drop 1) (lenW (openP (l)) (openW (l)) 1) 1) 1)) :: blk g1 118 pktL (pktV (pkt0) none 0 none 0) :: H)) w47 p48 (nextP ((((openP (l)).drop 1).drop 1).drop 1)) c49 := hA50
      refine VL.toOwn hO51 ?_
      refine VL.assign rfl ?_
      refine VL.nil ?_
      refine VX.next ?_
      refine VC.join (X := Bool) (fun b => [(2, .pointer (some ⟨g1, 0, none⟩)), (4, .pointer (some ⟨g2, 0, none⟩)), (5, .pointer (some ⟨g46, 0, none⟩)), (6, .pointer (some ⟨g0, 0, none⟩)), (7, .slice p48 (nextP ((((openP l).drop 1).drop 1).drop 1)).length c49), (78, .bool b)]) (fun _ => Own (⟨w47, keys (rch g0 [] 0 :: blk g46 118 pktL (pktV ((Pkt.mk (takeN (openP l) 1) (takeN ((openP l).drop 1) 1) (takeN (((openP l).drop 1).drop 1) 1) [] [] (zeros 64))) none 0 none 0) :: rch g2 (((((openP (l)).drop 1).drop 1).drop 1).drop 1) (nextW ((((openP (l)).drop 1).drop 1).drop 1) (lenW (((openP (l)).drop 1).drop 1) (lenW ((openP (l)).drop 1) (lenW (openP (l)) (openW (l)) 1) 1) 1)) :: blk g1 118 pktL (pktV (pkt0) none 0 none 0) :: H)⟩ :: ⟨w, keys H⟩ :: S) (rch g0 [] 0 :: blk g46 118 pktL (pktV ((Pkt.mk (takeN (openP l) 1) (takeN ((openP l).drop 1) 1) (takeN (((openP l).drop 1).drop 1) 1) [] [] (zeros 64))) none 0 none 0) :: rch g2 (((((openP (l)).drop 1).drop 1).drop 1).drop 1) (nextW ((((openP (l)).drop 1).drop 1).drop 1) (lenW (((openP (l)).drop 1).drop 1) (lenW ((openP (l)).drop 1) (lenW (openP (l)) (openW (l)) 1) 1) 1)) :: blk g1 118 pktL (pktV (pkt0) none 0 none 0) :: H)) (fun b => (b = true ↔ ¬ (nextP ((((openP l).drop 1).drop 1).drop 1)) = [0])) (fun hrest => ?_) (fun b2 hbz => ?_)
      · skip
        by_cases hz : (nextP ((((openP l).drop 1).drop 1).drop 1)) = [0]
        · have h1p2 : 0 < (nextP ((((openP l).drop 1).drop 1).drop 1)).length := by rw [hz]; decide
          refine VC.region ?_
          refine VL.move rfl ?_
          refine VL.len Try.underlying24 rfl rfl ?_
          refine VL.neq rfl rfl ?_
          refine VL.no (by rw [hz]; decide) ?_
          refine VL.move rfl ?_
          refine VL.go rfl rfl rfl ?_
          refine VL.move rfl ?_
          refine VL.go rfl rfl rfl ?_
          refine VL.index (xs := nextP ((((openP (l)).drop 1).drop 1).drop 1)) rfl rfl Try.underlying24 sz24 hA50 (by omega) (by have hi := h1p2; omega) ?_
          refine VL.go rfl rfl rfl ?_
          refine VL.byte (s := ⟨w47, _⟩) (y := (nextP ((((openP (l)).drop 1).drop 1).drop 1))[0]'h1p2) rfl kd5 (fun _ h => h) (by repeat (first | exact List.mem_cons_self .. | apply List.mem_cons_of_mem)) hA50 (List.getElem?_eq_getElem h1p2) ?_
          refine VL.go rfl rfl rfl ?_
          refine VL.neq rfl rfl ?_
          refine VL.no (zero_at hz h1p2) ?_
          refine VL.pick_f rfl rfl ?_
          refine VL.nil ?_
          exact VX.join hrest false ⟨fun h => absurd h (by decide), fun h => absurd hz h⟩ ⟨rfl, rfl, rfl, rfl, rfl, rfl, trivial⟩ (fun _ h => h.sub (fun _ hs => by repeat (first | exact hs | apply List.mem_cons_of_mem)))
        · refine VC.region ?_
          refine VL.move rfl ?_
          refine VL.len Try.underlying24 rfl rfl ?_
          refine VL.neq rfl rfl ?_
          refine VL.case (fun h7_2 => ?_) (fun h7_2 => ?_)
          · skip
            refine VL.move rfl ?_
            refine VL.pass rfl rfl rfl rfl rfl ?_
            refine VL.pass rfl rfl rfl rfl rfl ?_
            refine VL.pass rfl rfl rfl rfl rfl ?_
            refine VL.pass rfl rfl rfl rfl rfl ?_
            refine VL.pick_t rfl rfl ?_
            refine VL.nil ?_
            exact VX.join hrest true ⟨fun _ => hz, fun _ => rfl⟩ ⟨rfl, rfl, rfl, rfl, rfl, rfl, trivial⟩ (fun _ h => h.sub (fun _ hs => by repeat (first | exact hs | apply List.mem_cons_of_mem)))
          · have h1l2 : (nextP ((((openP l).drop 1).drop 1).drop 1)).length = 1 := by omega
            have h1p2 : 0 < (nextP ((((openP l).drop 1).drop 1).drop 1)).length := by omega
            refine VL.move rfl ?_
            refine VL.go rfl rfl rfl ?_
            refine VL.move rfl ?_
            refine VL.go rfl rfl rfl ?_
            refine VL.index (xs := nextP ((((openP (l)).drop 1).drop 1).drop 1)) rfl rfl Try.underlying24 sz24 hA50 (by omega) (by have hi := h1p2; omega) ?_
            refine VL.go rfl rfl rfl ?_
            refine VL.byte (s := ⟨w47, _⟩) (y := (nextP ((((openP (l)).drop 1).drop 1).drop 1))[0]'h1p2) rfl kd5 (fun _ h => h) (by repeat (first | exact List.mem_cons_self .. | apply List.mem_cons_of_mem)) hA50 (List.getElem?_eq_getElem h1p2) ?_
            refine VL.go rfl rfl rfl ?_
            refine VL.neq rfl rfl ?_
            refine VL.yes (nz_at hz h1l2 h1p2) ?_
            refine VL.pick_f rfl rfl ?_
            refine VL.nil ?_
            exact VX.join hrest true ⟨fun _ => hz, fun _ => rfl⟩ ⟨rfl, rfl, rfl, rfl, rfl, rfl, trivial⟩ (fun _ h => h.sub (fun _ hs => by repeat (first | exact hs | apply List.mem_cons_of_mem)))
      skip
      refine VC.split rfl (fun hc78 => ?_) (fun hc78 => ?_)
      · refine VC.region ?_
        refine VL.move rfl ?_
        refine VL.call Try.func121 rfl (by decide) rfl (fun w' hw => open_R hw (hA50.now (s := ⟨w47, _⟩) Mono.byte hw (by repeat (first | exact List.mem_cons_self .. | apply List.mem_cons_of_mem)))) (fun v => ?_)
        refine VL.ex fun g56 => VL.fact fun e57 => ?_
        subst e57
        refine VL.assign rfl ?_
        refine VL.nil ?_
        exact VX.join hrest (g56, openP (nextP ((((openP l).drop 1).drop 1).drop 1)), openW (nextP ((((openP l).drop 1).drop 1).drop 1))) (.inr ⟨hbz.1 hc78, rfl, rfl⟩) ⟨rfl, rfl, rfl, rfl, trivial⟩ (fun _ h => (Own.drop2 h).sub (fun _ hs => by repeat (first | exact hs | apply List.mem_cons_of_mem)))
      · refine VC.skip ?_
        exact VX.join hrest (g0, [], 0) (.inl ⟨Classical.not_not.1 (mt hbz.2 (by rw [hc78]; decide)), rfl, rfl⟩) ⟨rfl, rfl, rfl, rfl, trivial⟩ (fun _ h => h.sub (fun _ hs => by repeat (first | exact hs | apply List.mem_cons_of_mem)))
    refine VC.turn (G' := Own (⟨w, keys H⟩ :: S) (rch gl c0 y0 :: blk g46 118 pktL (pktV ((Pkt.mk (takeN (openP l) 1) (takeN ((openP l).drop 1) 1) (takeN (((openP l).drop 1).drop 1) 1) [] [] (zeros 64))) none 0 none 0) :: rch g2 (((((openP (l)).drop 1).drop 1).drop 1).drop 1) (nextW ((((openP (l)).drop 1).drop 1).drop 1) (lenW (((openP (l)).drop 1).drop 1) (lenW ((openP (l)).drop 1) (lenW (openP (l)) (openW (l)) 1) 1) 1)) :: blk g1 118 pktL (pktV (pkt0) none 0 none 0) :: H)) (fun _ h => h) ?_
    refine VC.join (X := List Object × List (List UInt8) × Nat × Option Nat × Nat) (fun _ => [(2, .pointer (some ⟨g1, 0, none⟩)), (4, .pointer (some ⟨g2, 0, none⟩)), (5, .pointer (some ⟨g46, 0, none⟩)), (6, .pointer (some ⟨gl, 0, none⟩))]) (fun (xs, ps, er, gv, cv) => Own (⟨w, keys H⟩ :: S) (arow 85 101 objectR' Mono_object gv cv xs :: rch gl ps er :: blk g46 118 pktL (pktV ((Pkt.mk (takeN (openP l) 1) (takeN ((openP l).drop 1) 1) (takeN (((openP l).drop 1).drop 1) 1) xs [] (zeros 64))) (gv.map fun g => (⟨g, 0, none⟩ : Addr)) cv none 0) :: rch g2 (((((openP (l)).drop 1).drop 1).drop 1).drop 1) (nextW ((((openP (l)).drop 1).drop 1).drop 1) (lenW (((openP (l)).drop 1).drop 1) (lenW ((openP (l)).drop 1) (lenW (openP (l)) (openW (l)) 1) 1) 1)) :: blk g1 118 pktL (pktV (pkt0) none 0 none 0) :: H)) (fun (xs, ps, er, _, _) => OInv c0 y0 xs ps er ∧ (ps = [] ∨ 4 ≤ xs.length ∨ er ≠ 0)) (fun hrest => ?_) (fun (xs, ps, er, gv, cv) ⟨hinv, hx⟩ => ?_)
    · skip
      refine VC.block ?_
      refine VC.turn (G' := Own _ (arow 85 101 objectR' Mono_object none 0 ([] : List Object) :: rch gl c0 y0 :: blk g46 118 pktL (pktV ((Pkt.mk (takeN (openP l) 1) (takeN ((openP l).drop 1) 1) (takeN (((openP l).drop 1).drop 1) 1) [] [] (zeros 64))) none 0 none 0) :: rch g2 (((((openP (l)).drop 1).drop 1).drop 1).drop 1) (nextW ((((openP (l)).drop 1).drop 1).drop 1) (lenW (((openP (l)).drop 1).drop 1) (lenW ((openP (l)).drop 1) (lenW (openP (l)) (openW (l)) 1) 1) 1)) :: blk g1 118 pktL (pktV (pkt0) none 0 none 0) :: H)) (fun w' h => newRowO h) ?_
      refine VC.loop (X := List Object × List (List UInt8) × Nat × Option Nat × Nat) (fun _ => [(2, .pointer (some ⟨g1, 0, none⟩)), (4, .pointer (some ⟨g2, 0, none⟩)), (5, .pointer (some ⟨g46, 0, none⟩)), (6, .pointer (some ⟨gl, 0, none⟩))]) (fun (xs, ps, er, gv, cv) w' => OInv c0 y0 xs ps er ∧ Own (⟨w, keys H⟩ :: S) (arow 85 101 objectR' Mono_object gv cv xs :: rch gl ps er :: blk g46 118 pktL (pktV ((Pkt.mk (takeN (openP l) 1) (takeN ((openP l).drop 1) 1) (takeN (((openP l).drop 1).drop 1) 1) xs [] (zeros 64))) (gv.map fun g => (⟨g, 0, none⟩ : Addr)) cv none 0) :: rch g2 (((((openP (l)).drop 1).drop 1).drop 1).drop 1) (nextW ((((openP (l)).drop 1).drop 1).drop 1) (lenW (((openP (l)).drop 1).drop 1) (lenW ((openP (l)).drop 1) (lenW (openP (l)) (openW (l)) 1) 1) 1)) :: blk g1 118 pktL (pktV (pkt0) none 0 none 0) :: H) w') (fun (_, ps, _) => ps.length) ([], c0, y0, none, 0) ⟨rfl, rfl, rfl, rfl, trivial⟩ (fun w' h => ⟨OInv.start _ _, h.sub (fun _ hs => by repeat (first | exact hs | apply List.mem_cons_of_mem))⟩) (fun (xs, ps, er, gv, cv) => VC.fact fun hinv => ?_)
      · have hxs := hinv.1
        refine VC.seq ?_
        refine VC.seq ?_
        refine VC.region ?_
        refine VL.move rfl ?_
        refine VL.nilCheck rfl ?_
        refine VL.fieldAddr rfl fo196_0 rfl ?_
        refine loadParts 1 rfl rfl (fun p58 c59 w60 hO61 hA62 => ?_)
        refine VL.len Try.underlying31 rfl rfl ?_
        refine VL.gtr rfl rfl ?_
        refine VL.case (fun h9_5 => ?_) (fun h9_5 => ?_)
        · obtain ⟨pc, rest, rfl⟩ : ∃ pc rest, ps = pc :: rest := by
            cases ps with
            | nil => exact absurd h9_5 (by simp)
            | cons a b => exact ⟨a, b, rfl⟩
          refine VL.move rfl ?_
          refine VL.go rfl rfl rfl ?_
          refine VL.fieldAddr rfl fo118_3 rfl ?_
          refine VL.go rfl rfl rfl ?_
          refine VL.load (v := .slice (gv.map fun g => (⟨g, 0, none⟩ : Addr)) (xs).length cv) 2 3 rfl kd116 (fun _ h => h) rfl rfl rfl ?_
          refine VL.go rfl rfl rfl ?_
          refine VL.len Try.underlying116 rfl rfl ?_
          refine VL.go rfl rfl rfl ?_
          refine VL.lss rfl rfl ?_
          refine VL.case (fun h9_10 => ?_) (fun h9_10 => ?_)
          · have h9_10 : xs.length < 4 := by have h : ((xs.length : Nat) : Int) < 4 := h9_10; omega
            refine VL.pick_t rfl rfl ?_
            refine VL.move rfl ?_
            refine VL.go rfl rfl rfl ?_
            refine VL.move rfl ?_
            refine VL.go rfl rfl rfl ?_
            refine VL.nilCheck rfl ?_
            refine VL.go rfl rfl rfl ?_
            refine VL.fieldAddr rfl fo196_1 rfl ?_
            refine VL.go rfl rfl rfl ?_
            refine loadWhy 1 rfl (fun _ h => h) rfl ?_
            refine VL.go rfl rfl rfl ?_
            refine VL.eql rfl rfl ?_
            refine VL.case (fun h9_17 => ?_) (fun h9_17 => ?_)
            · have her : er = 0 := by omega
              refine VL.pick_t rfl rfl ?_
              refine VL.nil ?_
              refine VX.next ?_
              refine VC.yes rfl ?_
              refine VC.skip ?_
              refine VX.next ?_
              refine VC.block ?_
              refine VC.seq ?_
              refine VC.region ?_
              refine VL.move rfl ?_
              refine VL.call Try.func124 rfl (by decide) rfl (fun w' hw => piece_R (i := 1) rfl hw) (fun v => ?_)
              refine VL.at (fun w63 h1w => ?_)
              obtain ⟨p64, c65, rfl, hO67, hA66⟩ := h1w
              replace hO67 : Own _ (arow 85 101 objectR' Mono_object gv cv xs :: rch gl rest er :: blk g46 118 pktL (pktV ((Pkt.mk (takeN (openP l) 1) (takeN ((openP l).drop 1) 1) (takeN (((openP l).drop 1).drop 1) 1) xs [] (zeros 64))) (gv.map fun g => (⟨g, 0, none⟩ : Addr)) cv none 0) :: rch g2 (((((openP (l)).drop 1).drop 1).drop 1).drop 1) (nextW ((((openP (l)).drop 1).drop 1).drop 1) (lenW (((openP (l)).drop 1).drop 1) (lenW ((openP (l)).drop 1) (lenW (openP (l)) (openW (l)) 1) 1) 1)) :: blk g1 118 pktL (pktV (pkt0) none 0 none 0) :: H) w63 := hO67
              replace hA66 : Bytes (keys (arow 85 101 objectR' Mono_object gv cv xs :: rch gl rest er :: blk g46 118 pktL (pktV ((Pkt.mk (takeN (openP l) 1) (takeN ((openP l).drop 1) 1) (takeN (((openP l).drop 1).drop 1) 1) xs [] (zeros 64))) (gv.map fun g => (⟨g, 0, none⟩ : Addr)) cv none 0) :: rch g2 (((((openP (l)).drop 1).drop 1).drop 1).drop 1) (nextW ((((openP (l)).drop 1).drop 1).drop 1) (lenW (((openP (l)).drop 1).drop 1) (lenW ((openP (l)).drop 1) (lenW (openP (l)) (openW (l)) 1) 1) 1)) :: blk g1 118 pktL (pktV (pkt0) none 0 none 0) :: H)) w63 p64 (pc) c65 := hA66
              refine VL.toOwn hO67 ?_
              refine VL.call Try.func71 rfl (by decide) rfl (fun w' hw => getObject_w hw (hA66.now (s := ⟨w63, _⟩) Mono.byte hw (by repeat (first | exact List.mem_cons_self .. | apply List.mem_cons_of_mem)))) (fun v => ?_)
              refine VL.at (fun w68 h1w => ?_)
              obtain ⟨p70, c71, rfl, hO69, hA72⟩ := h1w
              refine VL.toOwn hO69 ?_
              refine VL.move rfl ?_
              refine VL.extract rfl rfl ?_
              refine VL.extract rfl rfl ?_
              refine VL.alloc (L := objectL) (ps := (objectV (object0) none 0)) zero85 rfl rfl (fun g73 => ?_)
              refine VL.store (L := objectL) (qs := (objectV (((objectR pc).getD object0)) p70 c71)) (ps' := (objectV (((objectR pc).getD object0)) p70 c71)) 0 0 7 rfl rfl rfl (.inl kd85) rfl rfl (objectV_len (objectR_ok pc)) (objectV_ok1 (((objectR pc).getD object0)) p70 c71) rfl rfl ?_
              refine VL.turn (G' := Own _ (blk g73 85 objectL (objectV (((objectR pc).getD object0)) p70 c71) :: arow 85 101 objectR' Mono_object gv cv xs :: rch gl rest er :: blk g46 118 pktL (pktV ((Pkt.mk (takeN (openP l) 1) (takeN ((openP l).drop 1) 1) (takeN (((openP l).drop 1).drop 1) 1) xs [] (zeros 64))) (gv.map fun g => (⟨g, 0, none⟩ : Addr)) cv none 0) :: rch g2 (((((openP (l)).drop 1).drop 1).drop 1).drop 1) (nextW ((((openP (l)).drop 1).drop 1).drop 1) (lenW (((openP (l)).drop 1).drop 1) (lenW ((openP (l)).drop 1) (lenW (openP (l)) (openW (l)) 1) 1) 1)) :: blk g1 118 pktL (pktV (pkt0) none 0 none 0) :: H)) (fun _ h => h) ?_
              refine VL.assign rfl ?_
              refine VL.nil ?_
              refine VX.next ?_
              refine VC.seq ?_
              refine VC.region ?_
              refine VL.move rfl ?_
              refine VL.move rfl ?_
              refine VL.call Try.func125 rfl (by decide) rfl (fun w' hw => fail_R (i := 2) rfl hw (if (objectR pc).isSome then 0 else 141)) (fun v => ?_)
              refine VL.fact fun e74 => ?_
              subst e74
              refine VL.turn (G' := Own _ (blk g73 85 objectL (objectV (((objectR pc).getD object0)) p70 c71) :: arow 85 101 objectR' Mono_object gv cv xs :: rch gl rest (failW er (if (objectR pc).isSome then 0 else 141)) :: blk g46 118 pktL (pktV ((Pkt.mk (takeN (openP l) 1) (takeN ((openP l).drop 1) 1) (takeN (((openP l).drop 1).drop 1) 1) xs [] (zeros 64))) (gv.map fun g => (⟨g, 0, none⟩ : Addr)) cv none 0) :: rch g2 (((((openP (l)).drop 1).drop 1).drop 1).drop 1) (nextW ((((openP (l)).drop 1).drop 1).drop 1) (lenW (((openP (l)).drop 1).drop 1) (lenW ((openP (l)).drop 1) (lenW (openP (l)) (openW (l)) 1) 1) 1)) :: blk g1 118 pktL (pktV (pkt0) none 0 none 0) :: H)) (fun _ h => h) ?_
              refine VL.nil ?_
              refine VX.next ?_
              have hxs2 : ∀ x ∈ xs ++ [((objectR pc).getD object0)], x.ok := fun x hx => (List.mem_append.1 hx).elim (hxs x) (fun h => by rw [List.mem_singleton] at h; subst h; exact objectR_ok pc)
              refine VC.region ?_
              refine VL.fieldAddr rfl fo118_3 rfl ?_
              refine VL.load (v := .slice (gv.map fun g => (⟨g, 0, none⟩ : Addr)) (xs).length cv) 3 3 rfl kd116 (fun _ h => h) rfl rfl rfl ?_
              refine VL.loads (cs := cat (objectV (((objectR pc).getD object0)) p70 c71)) 0 0 7 rfl kd85 (fun _ h => h) rfl rfl rfl rfl ?_
              refine VL.lit el116 rfl rfl rfl (by intro v hv; simp only [List.mem_singleton] at hv; subst hv; show (cat (objectV ((objectR pc).getD object0) p70 c71)).toArray.size = 101; rw [List.size_toArray, cat_size (objectV_len (objectR_ok pc))]; rfl) (by rw [show [Value.agg (cat (objectV ((objectR pc).getD object0) p70 c71)).toArray].flatMap (·.cells.toList) = (cat (objectV ((objectR pc).getD object0) p70 c71)) by simp [Value.cells]]; exact objectV_ok1 _ _ _) (fun gz => ?_)
              refine VL.letRow objectR' [((objectR pc).getD object0)] rfl (fun w' hw => one_object (objectR_ok pc) (hA72.now (s := ⟨w68, _⟩) Mono_vouch hw (by repeat (first | exact List.mem_cons_self .. | apply List.mem_cons_of_mem)))) (fun wl hOl hAl => ?_)
              refine VL.appends (R := objectR') (hR := Mono_object) (ys := xs) (zs := [((objectR pc).getD object0)]) 1 el116 rfl rfl rfl (fun _ h => h) rfl (fun _ hw => (hAl.now (s := ⟨wl, _⟩) Mono_object hw (by repeat (first | exact List.mem_cons_self .. | apply List.mem_cons_of_mem)))) objectR'_ok1 (by simp only [List.length_cons, List.length_nil]; omega) (fun gv2 cv2 => ?_) (by simp only [List.length_cons, List.length_nil]; omega)
              refine VL.turn (G' := Own _ (blk g73 85 objectL (objectV (((objectR pc).getD object0)) p70 c71) :: arow 85 101 objectR' Mono_object gv2 cv2 (xs ++ [((objectR pc).getD object0)]) :: rch gl rest (failW er (if (objectR pc).isSome then 0 else 141)) :: blk g46 118 pktL (pktV ((Pkt.mk (takeN (openP l) 1) (takeN ((openP l).drop 1) 1) (takeN (((openP l).drop 1).drop 1) 1) xs [] (zeros 64))) (gv.map fun g => (⟨g, 0, none⟩ : Addr)) cv none 0) :: rch g2 (((((openP (l)).drop 1).drop 1).drop 1).drop 1) (nextW ((((openP (l)).drop 1).drop 1).drop 1) (lenW (((openP (l)).drop 1).drop 1) (lenW ((openP (l)).drop 1) (lenW (openP (l)) (openW (l)) 1) 1) 1)) :: blk g1 118 pktL (pktV (pkt0) none 0 none 0) :: H)) (fun _ h => h) ?_
              refine VL.fieldAddr rfl fo118_3 rfl ?_
              refine VL.store (L := pktL) (qs := [[rowV gv2 (xs ++ [((objectR pc).getD object0)]).length cv2]]) (ps' := (pktV ((Pkt.mk (takeN (openP l) 1) (takeN ((openP l).drop 1) 1) (takeN (((openP l).drop 1).drop 1) 1) (xs ++ [((objectR pc).getD object0)]) [] (zeros 64))) (gv2.map fun g => (⟨g, 0, none⟩ : Addr)) cv2 none 0)) 3 3 1 rfl rfl rfl (.inr ⟨kd116, rfl⟩) rfl rfl rfl (by intro u hu; simp [cat] at hu; subst hu; rfl) rfl rfl ?_
              refine VL.turn (G' := Own _ (blk g73 85 objectL (objectV (((objectR pc).getD object0)) p70 c71) :: arow 85 101 objectR' Mono_object gv2 cv2 (xs ++ [((objectR pc).getD object0)]) :: rch gl rest (failW er (if (objectR pc).isSome then 0 else 141)) :: blk g46 118 pktL (pktV ((Pkt.mk (takeN (openP l) 1) (takeN ((openP l).drop 1) 1) (takeN (((openP l).drop 1).drop 1) 1) (xs ++ [((objectR pc).getD object0)]) [] (zeros 64))) (gv2.map fun g => (⟨g, 0, none⟩ : Addr)) cv2 none 0) :: rch g2 (((((openP (l)).drop 1).drop 1).drop 1).drop 1) (nextW ((((openP (l)).drop 1).drop 1).drop 1) (lenW (((openP (l)).drop 1).drop 1) (lenW ((openP (l)).drop 1) (lenW (openP (l)) (openW (l)) 1) 1) 1)) :: blk g1 118 pktL (pktV (pkt0) none 0 none 0) :: H)) (fun _ h => h) ?_
              refine VL.nil ?_
              refine VX.block_normal ?_
              subst her
              obtain rfl : y0 = 0 := by
                rcases hinv.2.2 with ⟨e, _⟩ | ⟨e, _⟩
                · exact e.symm
                · cases e
              refine VX.round (xs ++ [((objectR pc).getD object0)], rest, (if (objectR pc).isSome then 0 else 141), gv2, cv2) ⟨rfl, rfl, rfl, rfl, trivial⟩ (fun w' h => ⟨hinv.step h9_10, (h.drop).sub (fun _ hs => by repeat (first | exact hs | apply List.mem_cons_of_mem))⟩) (by show rest.length < (pc :: rest).length; simp)
            · have h9_17 : er ≠ 0 := by omega
              refine VL.pick_t rfl rfl ?_
              refine VL.nil ?_
              refine VX.next ?_
              refine VC.no rfl ?_
              refine VC.exit ?_
              refine VX.then_exit ?_
              refine VX.then_exit ?_
              refine VX.block_here ?_
              exact VX.join hrest (xs, (pc :: rest), er, gv, cv) ⟨hinv, .inr (.inr h9_17)⟩ ⟨rfl, rfl, rfl, rfl, trivial⟩ (fun _ h => h.sub (fun _ hs => by repeat (first | exact hs | apply List.mem_cons_of_mem)))
          · have h9_10 : 4 ≤ xs.length := by have h : ¬ ((xs.length : Nat) : Int) < 4 := h9_10; omega
            refine VL.pick_t rfl rfl ?_
            refine VL.move rfl ?_
            refine VL.pass rfl rfl rfl rfl rfl ?_
            refine VL.pass rfl rfl rfl rfl rfl ?_
            refine VL.pass rfl rfl rfl rfl rfl ?_
            refine VL.pass rfl rfl rfl rfl rfl ?_
            refine VL.pass rfl rfl rfl rfl rfl ?_
            refine VL.pick_f rfl rfl ?_
            refine VL.nil ?_
            refine VX.next ?_
            refine VC.no rfl ?_
            refine VC.exit ?_
            refine VX.then_exit ?_
            refine VX.then_exit ?_
            refine VX.block_here ?_
            exact VX.join hrest (xs, (pc :: rest), er, gv, cv) ⟨hinv, .inr (.inl h9_10)⟩ ⟨rfl, rfl, rfl, rfl, trivial⟩ (fun _ h => h.sub (fun _ hs => by repeat (first | exact hs | apply List.mem_cons_of_mem)))
        · obtain rfl : ps = [] := List.eq_nil_of_length_eq_zero (by omega)
          refine VL.move rfl ?_
          refine VL.pass rfl rfl rfl rfl rfl ?_
          refine VL.pass rfl rfl rfl rfl rfl ?_
          refine VL.pass rfl rfl rfl rfl rfl ?_
          refine VL.pass rfl rfl rfl rfl rfl ?_
          refine VL.pick_f rfl rfl ?_
          refine VL.move rfl ?_
          refine VL.pass rfl rfl rfl rfl rfl ?_
          refine VL.pass rfl rfl rfl rfl rfl ?_
          refine VL.pass rfl rfl rfl rfl rfl ?_
          refine VL.pass rfl rfl rfl rfl rfl ?_
          refine VL.pass rfl rfl rfl rfl rfl ?_
          refine VL.pick_f rfl rfl ?_
          refine VL.nil ?_
          refine VX.next ?_
          refine VC.no rfl ?_
          refine VC.exit ?_
          refine VX.then_exit ?_
          refine VX.then_exit ?_
          refine VX.block_here ?_
          exact VX.join hrest (xs, [], er, gv, cv) ⟨hinv, .inl rfl⟩ ⟨rfl, rfl, rfl, rfl, trivial⟩ (fun _ h => h.sub (fun _ hs => by repeat (first | exact hs | apply List.mem_cons_of_mem)))
    refine VC.turn (G' := Own (⟨w, keys H⟩ :: S) (arow 85 101 objectR' Mono_object gv cv xs :: rch gl ps er :: blk g46 118 pktL (pktV ((Pkt.mk (takeN (openP l) 1) (takeN ((openP l).drop 1) 1) (takeN (((openP l).drop 1).drop 1) 1) xs [] (zeros 64))) (gv.map fun g => (⟨g, 0, none⟩ : Addr)) cv none 0) :: rch g2 (((((openP (l)).drop 1).drop 1).drop 1).drop 1) (nextW ((((openP (l)).drop 1).drop 1).drop 1) (lenW (((openP (l)).drop 1).drop 1) (lenW ((openP (l)).drop 1) (lenW (openP (l)) (openW (l)) 1) 1) 1)) :: blk g1 118 pktL (pktV (pkt0) none 0 none 0) :: H)) (fun _ h => h) ?_
    have hxs := hinv.1
    refine VC.seq ?_
    refine VC.letArr (fun wr hOr hAr => ?_)
    refine VC.region ?_
    refine VL.move rfl ?_
    refine VL.move rfl ?_
    refine VL.call Try.func126 rfl (by decide) rfl (fun w' hw => end_R (i := 0) rfl hw) (fun v => ?_)
    refine VL.fact fun e75 => ?_
    subst e75
    refine VL.turn (G' := Own _ (rch gl ps (endW ps er) :: blk g46 118 pktL (pktV ((Pkt.mk (takeN (openP l) 1) (takeN ((openP l).drop 1) 1) (takeN (((openP l).drop 1).drop 1) 1) xs [] (zeros 64))) (gv.map fun g => (⟨g, 0, none⟩ : Addr)) cv none 0) :: rch g2 (((((openP (l)).drop 1).drop 1).drop 1).drop 1) (nextW ((((openP (l)).drop 1).drop 1).drop 1) (lenW (((openP (l)).drop 1).drop 1) (lenW ((openP (l)).drop 1) (lenW (openP (l)) (openW (l)) 1) 1) 1)) :: blk g1 118 pktL (pktV (pkt0) none 0 none 0) :: H)) (fun _ h => h) ?_
    refine VL.call Try.func125 rfl (by decide) rfl (fun w' hw => fail_R (i := 2) rfl hw (endW ps er)) (fun v => ?_)
    refine VL.fact fun e76 => ?_
    subst e76
    refine VL.turn (G' := Own _ (rch gl ps (endW ps er) :: blk g46 118 pktL (pktV ((Pkt.mk (takeN (openP l) 1) (takeN ((openP l).drop 1) 1) (takeN (((openP l).drop 1).drop 1) 1) xs [] (zeros 64))) (gv.map fun g => (⟨g, 0, none⟩ : Addr)) cv none 0) :: rch g2 (((((openP (l)).drop 1).drop 1).drop 1).drop 1) (failW (nextW ((((openP (l)).drop 1).drop 1).drop 1) (lenW (((openP (l)).drop 1).drop 1) (lenW ((openP (l)).drop 1) (lenW (openP (l)) (openW (l)) 1) 1) 1)) (endW ps er)) :: blk g1 118 pktL (pktV (pkt0) none 0 none 0) :: H)) (fun _ h => h) ?_
    refine VL.nil ?_
    refine VX.next ?_
    refine VC.seq ?_
    refine VC.region ?_
    refine VL.move rfl ?_
    refine VL.call Try.func124 rfl (by decide) rfl (fun w' hw => piece_R (i := 2) rfl hw) (fun v => ?_)
    refine VL.at (fun w77 h1w => ?_)
    obtain ⟨p78, c79, rfl, hO81, hA80⟩ := h1w
    replace hO81 : Own _ (rch gl ps (endW ps er) :: blk g46 118 pktL (pktV ((Pkt.mk (takeN (openP l) 1) (takeN ((openP l).drop 1) 1) (takeN (((openP l).drop 1).drop 1) 1) xs [] (zeros 64))) (gv.map fun g => (⟨g, 0, none⟩ : Addr)) cv none 0) :: rch g2 ((((((openP (l)).drop 1).drop 1).drop 1).drop 1).drop 1) (nextW (((((openP (l)).drop 1).drop 1).drop 1).drop 1) (failW (nextW ((((openP (l)).drop 1).drop 1).drop 1) (lenW (((openP (l)).drop 1).drop 1) (lenW ((openP (l)).drop 1) (lenW (openP (l)) (openW (l)) 1) 1) 1)) (endW ps er))) :: blk g1 118 pktL (pktV (pkt0) none 0 none 0) :: H) w77 := hO81
    replace hA80 : Bytes (keys (rch gl ps (endW ps er) :: blk g46 118 pktL (pktV ((Pkt.mk (takeN (openP l) 1) (takeN ((openP l).drop 1) 1) (takeN (((openP l).drop 1).drop 1) 1) xs [] (zeros 64))) (gv.map fun g => (⟨g, 0, none⟩ : Addr)) cv none 0) :: rch g2 ((((((openP (l)).drop 1).drop 1).drop 1).drop 1).drop 1) (nextW (((((openP (l)).drop 1).drop 1).drop 1).drop 1) (failW (nextW ((((openP (l)).drop 1).drop 1).drop 1) (lenW (((openP (l)).drop 1).drop 1) (lenW ((openP (l)).drop 1) (lenW (openP (l)) (openW (l)) 1) 1) 1)) (endW ps er))) :: blk g1 118 pktL (pktV (pkt0) none 0 none 0) :: H)) w77 p78 (nextP (((((openP (l)).drop 1).drop 1).drop 1).drop 1)) c79 := hA80
    refine VL.toOwn hO81 ?_
    refine VL.move rfl ?_
    refine VL.call Try.func131 rfl (by decide) rfl (fun w' hw => sig_R (i := 2) rfl hw) (fun v => ?_)
    refine VL.fact fun e82 => ?_
    subst e82
    refine VL.turn (G' := Own _ (rch gl ps (endW ps er) :: blk g46 118 pktL (pktV ((Pkt.mk (takeN (openP l) 1) (takeN ((openP l).drop 1) 1) (takeN (((openP l).drop 1).drop 1) 1) xs [] (zeros 64))) (gv.map fun g => (⟨g, 0, none⟩ : Addr)) cv none 0) :: rch g2 (((((((openP (l)).drop 1).drop 1).drop 1).drop 1).drop 1).drop 1) (lenW ((((((openP (l)).drop 1).drop 1).drop 1).drop 1).drop 1) (nextW (((((openP (l)).drop 1).drop 1).drop 1).drop 1) (failW (nextW ((((openP (l)).drop 1).drop 1).drop 1) (lenW (((openP (l)).drop 1).drop 1) (lenW ((openP (l)).drop 1) (lenW (openP (l)) (openW (l)) 1) 1) 1)) (endW ps er))) 64) :: blk g1 118 pktL (pktV (pkt0) none 0 none 0) :: H)) (fun _ h => h) ?_
    refine VL.fieldAddr rfl fo118_4 rfl ?_
    refine VL.store (L := pktL) (qs := [[.slice p78 (nextP (((((openP (l)).drop 1).drop 1).drop 1).drop 1)).length c79]]) (ps' := [[.int .u8 ((Pkt.mk (takeN (openP l) 1) (takeN ((openP l).drop 1) 1) (takeN (((openP l).drop 1).drop 1) 1) xs [] (zeros 64)).src)], [.int .u8 ((Pkt.mk (takeN (openP l) 1) (takeN ((openP l).drop 1) 1) (takeN (((openP l).drop 1).drop 1) 1) xs [] (zeros 64)).dst)], [.int .u8 ((Pkt.mk (takeN (openP l) 1) (takeN ((openP l).drop 1) 1) (takeN (((openP l).drop 1).drop 1) 1) xs [] (zeros 64)).kind)], [.slice (gv.map fun g => (⟨g, 0, none⟩ : Addr)) (xs).length cv], [.slice p78 (nextP (((((openP (l)).drop 1).drop 1).drop 1).drop 1)).length c79], ((Pkt.mk (takeN (openP l) 1) (takeN ((openP l).drop 1) 1) (takeN (((openP l).drop 1).drop 1) 1) xs [] (zeros 64)).sig).map bv]) 1 4 1 rfl rfl rfl (.inr ⟨kd24, rfl⟩) rfl rfl rfl (by intro u hu; simp [cat] at hu; subst hu; rfl) rfl rfl ?_
    refine VL.turn (G' := Own _ (rch gl ps (endW ps er) :: blk g46 118 pktL [[.int .u8 ((Pkt.mk (takeN (openP l) 1) (takeN ((openP l).drop 1) 1) (takeN (((openP l).drop 1).drop 1) 1) xs [] (zeros 64)).src)], [.int .u8 ((Pkt.mk (takeN (openP l) 1) (takeN ((openP l).drop 1) 1) (takeN (((openP l).drop 1).drop 1) 1) xs [] (zeros 64)).dst)], [.int .u8 ((Pkt.mk (takeN (openP l) 1) (takeN ((openP l).drop 1) 1) (takeN (((openP l).drop 1).drop 1) 1) xs [] (zeros 64)).kind)], [.slice (gv.map fun g => (⟨g, 0, none⟩ : Addr)) (xs).length cv], [.slice p78 (nextP (((((openP (l)).drop 1).drop 1).drop 1).drop 1)).length c79], ((Pkt.mk (takeN (openP l) 1) (takeN ((openP l).drop 1) 1) (takeN (((openP l).drop 1).drop 1) 1) xs [] (zeros 64)).sig).map bv] :: rch g2 (((((((openP (l)).drop 1).drop 1).drop 1).drop 1).drop 1).drop 1) (lenW ((((((openP (l)).drop 1).drop 1).drop 1).drop 1).drop 1) (nextW (((((openP (l)).drop 1).drop 1).drop 1).drop 1) (failW (nextW ((((openP (l)).drop 1).drop 1).drop 1) (lenW (((openP (l)).drop 1).drop 1) (lenW ((openP (l)).drop 1) (lenW (openP (l)) (openW (l)) 1) 1) 1)) (endW ps er))) 64) :: blk g1 118 pktL (pktV (pkt0) none 0 none 0) :: H)) (fun _ h => h) ?_
    refine VL.fieldAddr rfl fo118_5 rfl ?_
    refine VL.store (L := pktL) (qs := [(takeB 64 ((((((openP (l)).drop 1).drop 1).drop 1).drop 1).drop 1)).map bv]) (ps' := [[.int .u8 ((Pkt.mk (takeN (openP l) 1) (takeN ((openP l).drop 1) 1) (takeN (((openP l).drop 1).drop 1) 1) xs [] (zeros 64)).src)], [.int .u8 ((Pkt.mk (takeN (openP l) 1) (takeN ((openP l).drop 1) 1) (takeN (((openP l).drop 1).drop 1) 1) xs [] (zeros 64)).dst)], [.int .u8 ((Pkt.mk (takeN (openP l) 1) (takeN ((openP l).drop 1) 1) (takeN (((openP l).drop 1).drop 1) 1) xs [] (zeros 64)).kind)], [.slice (gv.map fun g => (⟨g, 0, none⟩ : Addr)) (xs).length cv], [.slice p78 (nextP (((((openP (l)).drop 1).drop 1).drop 1).drop 1)).length c79], (takeB 64 ((((((openP (l)).drop 1).drop 1).drop 1).drop 1).drop 1)).map bv]) 1 5 1 rfl rfl rfl (.inl kd80) rfl rfl (arr_len (takeB_length ((((((openP (l)).drop 1).drop 1).drop 1).drop 1).drop 1) 64)) (ok1_bytes _) rfl rfl ?_
    refine VL.turn (G' := Own _ (rch gl ps (endW ps er) :: blk g46 118 pktL [[.int .u8 ((Pkt.mk (takeN (openP l) 1) (takeN ((openP l).drop 1) 1) (takeN (((openP l).drop 1).drop 1) 1) xs [] (zeros 64)).src)], [.int .u8 ((Pkt.mk (takeN (openP l) 1) (takeN ((openP l).drop 1) 1) (takeN (((openP l).drop 1).drop 1) 1) xs [] (zeros 64)).dst)], [.int .u8 ((Pkt.mk (takeN (openP l) 1) (takeN ((openP l).drop 1) 1) (takeN (((openP l).drop 1).drop 1) 1) xs [] (zeros 64)).kind)], [.slice (gv.map fun g => (⟨g, 0, none⟩ : Addr)) (xs).length cv], [.slice p78 (nextP (((((openP (l)).drop 1).drop 1).drop 1).drop 1)).length c79], (takeB 64 ((((((openP (l)).drop 1).drop 1).drop 1).drop 1).drop 1)).map bv] :: rch g2 (((((((openP (l)).drop 1).drop 1).drop 1).drop 1).drop 1).drop 1) (lenW ((((((openP (l)).drop 1).drop 1).drop 1).drop 1).drop 1) (nextW (((((openP (l)).drop 1).drop 1).drop 1).drop 1) (failW (nextW ((((openP (l)).drop 1).drop 1).drop 1) (lenW (((openP (l)).drop 1).drop 1) (lenW ((openP (l)).drop 1) (lenW (openP (l)) (openW (l)) 1) 1) 1)) (endW ps er))) 64) :: blk g1 118 pktL (pktV (pkt0) none 0 none 0) :: H)) (fun _ h => h) ?_
    refine VL.nil ?_
    refine VX.next ?_
    refine VC.seq ?_
    refine VC.seq ?_
    refine VC.region ?_
    refine VL.move rfl ?_
    refine VL.call Try.func126 rfl (by decide) rfl (fun w' hw => end_R (i := 2) rfl hw) (fun v => ?_)
    refine VL.fact fun e83 => ?_
    subst e83
    refine VL.turn (G' := Own _ (rch gl ps (endW ps er) :: blk g46 118 pktL [[.int .u8 ((Pkt.mk (takeN (openP l) 1) (takeN ((openP l).drop 1) 1) (takeN (((openP l).drop 1).drop 1) 1) xs [] (zeros 64)).src)], [.int .u8 ((Pkt.mk (takeN (openP l) 1) (takeN ((openP l).drop 1) 1) (takeN (((openP l).drop 1).drop 1) 1) xs [] (zeros 64)).dst)], [.int .u8 ((Pkt.mk (takeN (openP l) 1) (takeN ((openP l).drop 1) 1) (takeN (((openP l).drop 1).drop 1) 1) xs [] (zeros 64)).kind)], [.slice (gv.map fun g => (⟨g, 0, none⟩ : Addr)) (xs).length cv], [.slice p78 (nextP (((((openP (l)).drop 1).drop 1).drop 1).drop 1)).length c79], (takeB 64 ((((((openP (l)).drop 1).drop 1).drop 1).drop 1).drop 1)).map bv] :: rch g2 (((((((openP (l)).drop 1).drop 1).drop 1).drop 1).drop 1).drop 1) (endW (((((((openP (l)).drop 1).drop 1).drop 1).drop 1).drop 1).drop 1) (lenW ((((((openP (l)).drop 1).drop 1).drop 1).drop 1).drop 1) (nextW (((((openP (l)).drop 1).drop 1).drop 1).drop 1) (failW (nextW ((((openP (l)).drop 1).drop 1).drop 1) (lenW (((openP (l)).drop 1).drop 1) (lenW ((openP (l)).drop 1) (lenW (openP (l)) (openW (l)) 1) 1) 1)) (endW ps er))) 64)) :: blk g1 118 pktL (pktV (pkt0) none 0 none 0) :: H)) (fun _ h => h) ?_
    refine VL.assign rfl ?_
    refine VL.nil ?_
    refine VX.next ?_
    refine VC.seq ?_
    refine VC.region ?_
    refine VL.move rfl ?_
    refine VL.neq rfl rfl ?_
    refine VL.case (fun h16_1 => ?_) (fun h16_1 => ?_)
    · skip
      refine VL.nil ?_
      refine VX.next ?_
      refine VC.yes rfl ?_
      refine VC.seq ?_
      refine VC.region ?_
      refine VL.build0 (cs := cat (pktV (pkt0) none 0 none 0)) built118 ?_
      refine VL.store (L := pktL) (qs := (pktV (pkt0) none 0 none 0)) (ps' := (pktV (pkt0) none 0 none 0)) 3 0 6 rfl rfl rfl (.inl kd118) rfl rfl rfl (pktV_ok1 pkt0 none 0 none 0) rfl rfl ?_
      refine VL.turn (G' := Own _ (rch gl ps (endW ps er) :: blk g46 118 pktL [[.int .u8 ((Pkt.mk (takeN (openP l) 1) (takeN ((openP l).drop 1) 1) (takeN (((openP l).drop 1).drop 1) 1) xs [] (zeros 64)).src)], [.int .u8 ((Pkt.mk (takeN (openP l) 1) (takeN ((openP l).drop 1) 1) (takeN (((openP l).drop 1).drop 1) 1) xs [] (zeros 64)).dst)], [.int .u8 ((Pkt.mk (takeN (openP l) 1) (takeN ((openP l).drop 1) 1) (takeN (((openP l).drop 1).drop 1) 1) xs [] (zeros 64)).kind)], [.slice (gv.map fun g => (⟨g, 0, none⟩ : Addr)) (xs).length cv], [.slice p78 (nextP (((((openP (l)).drop 1).drop 1).drop 1).drop 1)).length c79], (takeB 64 ((((((openP (l)).drop 1).drop 1).drop 1).drop 1).drop 1)).map bv] :: rch g2 (((((((openP (l)).drop 1).drop 1).drop 1).drop 1).drop 1).drop 1) (endW (((((((openP (l)).drop 1).drop 1).drop 1).drop 1).drop 1).drop 1) (lenW ((((((openP (l)).drop 1).drop 1).drop 1).drop 1).drop 1) (nextW (((((openP (l)).drop 1).drop 1).drop 1).drop 1) (failW (nextW ((((openP (l)).drop 1).drop 1).drop 1) (lenW (((openP (l)).drop 1).drop 1) (lenW ((openP (l)).drop 1) (lenW (openP (l)) (openW (l)) 1) 1) 1)) (endW ps er))) 64)) :: blk g1 118 pktL (pktV (pkt0) none 0 none 0) :: H)) (fun _ h => h) ?_
      refine VL.assign rfl ?_
      refine VL.nil ?_
      refine VX.next ?_
      refine VC.ret ?_
      refine VX.then_ret ?_
      refine VX.ret_cell (cs := cat (pktV (pkt0) none 0 none 0)) 3 rfl rfl rfl kd118 (fun _ h => h) rfl rfl (fun we hw => ?_)
      obtain ⟨hce, hci⟩ := chain_end hcz hinv hx
      have hpw := pkt_why l hnb
      rw [← hce] at hpw
      obtain ⟨e1, _⟩ := why_none h16_1 hpw
      have e2 : pktW l = 141 := by rw [pktW_good hnb, e1]; rfl
      exact ⟨none, 0, none, 0, by rw [e1]; exact congrArg (fun n : Nat => Value.tuple #[_, .int .i64 (n : Int)]) (e2).symm, hw.drop.drop.drop.drop.sub (fun _ hs => by repeat (first | exact hs | apply List.mem_cons_of_mem)), by rw [e1]; exact Arr.none, by rw [e1]; exact Arr.none⟩
    · skip
      refine VL.nil ?_
      refine VX.next ?_
      refine VC.no rfl ?_
      refine VC.skip ?_
      refine VX.next ?_
      refine VC.seq ?_
      refine VC.region ?_
      refine VL.loads (cs := cat (pktV ((pktOf (openP l) xs)) (gv.map fun g => (⟨g, 0, none⟩ : Addr)) cv p78 c79)) 1 0 6 rfl kd118 (fun _ h => h) rfl rfl rfl rfl ?_
      refine VL.store (L := pktL) (qs := (pktV ((pktOf (openP l) xs)) (gv.map fun g => (⟨g, 0, none⟩ : Addr)) cv p78 c79)) (ps' := (pktV ((pktOf (openP l) xs)) (gv.map fun g => (⟨g, 0, none⟩ : Addr)) cv p78 c79)) 3 0 6 rfl rfl rfl (.inl kd118) rfl rfl (pktV_len ((⟨takeN_lt _ 1, takeN_lt _ 1, takeN_lt _ 1, hxs, takeB_length _ _⟩ : Pkt.ok (pktOf (openP l) xs)))) (pktV_ok1 ((pktOf (openP l) xs)) (gv.map fun g => (⟨g, 0, none⟩ : Addr)) cv p78 c79) rfl rfl ?_
      refine VL.turn (G' := Own _ (rch gl ps (endW ps er) :: blk g46 118 pktL [[.int .u8 ((Pkt.mk (takeN (openP l) 1) (takeN ((openP l).drop 1) 1) (takeN (((openP l).drop 1).drop 1) 1) xs [] (zeros 64)).src)], [.int .u8 ((Pkt.mk (takeN (openP l) 1) (takeN ((openP l).drop 1) 1) (takeN (((openP l).drop 1).drop 1) 1) xs [] (zeros 64)).dst)], [.int .u8 ((Pkt.mk (takeN (openP l) 1) (takeN ((openP l).drop 1) 1) (takeN (((openP l).drop 1).drop 1) 1) xs [] (zeros 64)).kind)], [.slice (gv.map fun g => (⟨g, 0, none⟩ : Addr)) (xs).length cv], [.slice p78 (nextP (((((openP (l)).drop 1).drop 1).drop 1).drop 1)).length c79], (takeB 64 ((((((openP (l)).drop 1).drop 1).drop 1).drop 1).drop 1)).map bv] :: rch g2 (((((((openP (l)).drop 1).drop 1).drop 1).drop 1).drop 1).drop 1) (endW (((((((openP (l)).drop 1).drop 1).drop 1).drop 1).drop 1).drop 1) (lenW ((((((openP (l)).drop 1).drop 1).drop 1).drop 1).drop 1) (nextW (((((openP (l)).drop 1).drop 1).drop 1).drop 1) (failW (nextW ((((openP (l)).drop 1).drop 1).drop 1) (lenW (((openP (l)).drop 1).drop 1) (lenW ((openP (l)).drop 1) (lenW (openP (l)) (openW (l)) 1) 1) 1)) (endW ps er))) 64)) :: blk g1 118 pktL (pktV ((pktOf (openP l) xs)) (gv.map fun g => (⟨g, 0, none⟩ : Addr)) cv p78 c79) :: H)) (fun _ h => h) ?_
      refine VL.assign rfl ?_
      refine VL.nil ?_
      refine VX.next ?_
      refine VC.ret ?_
      refine VX.ret_cell (cs := cat (pktV ((pktOf (openP l) xs)) (gv.map fun g => (⟨g, 0, none⟩ : Addr)) cv p78 c79)) 3 rfl rfl rfl (by rw [cat_size (pktV_len ((⟨takeN_lt _ 1, takeN_lt _ 1, takeN_lt _ 1, hxs, takeB_length _ _⟩ : Pkt.ok (pktOf (openP l) xs))))]; exact kd118) (fun _ h => h) rfl rfl (fun we hw => ?_)
      obtain ⟨hce, hci⟩ := chain_end hcz hinv hx
      have hpw := pkt_why l hnb
      rw [← hce] at hpw
      obtain ⟨y, e1⟩ := why_some h16_1 hpw
      have e2 : pktW l = 0 := by rw [pktW_good hnb, e1]; rfl
      have e3 := pkt_is e1 hci
      rw [e1, e2, e3]
      exact ⟨_, _, _, _, rfl, hw.drop.drop.drop.drop.sub (fun _ hs => by repeat (first | exact hs | apply List.mem_cons_of_mem)), (hAr.now (s := ⟨wr, _⟩) Mono_object hw.drop.drop.drop.drop (by repeat (first | exact List.mem_cons_self .. | apply List.mem_cons_of_mem))), (hA80.now (s := ⟨w77, _⟩) Mono.byte hw.drop.drop.drop.drop (by repeat (first | exact List.mem_cons_self .. | apply List.mem_cons_of_mem)))⟩

end Go.Proofs.Ytcfecmoagfgnaaa

/- What the document's answer takes bytes for: pieces, whatever they are. -/
namespace Go.Pl

/-- Bytes copied to an array of k bytes. -/
def padB (k : Nat) (l : List UInt8) : List UInt8 := l.take k ++ zeros (k - l.length)
theorem padB_length (k : Nat) (l : List UInt8) : (padB k l).length = k := by
  unfold padB; rw [List.length_append, List.length_take, zeros_length]; omega
theorem padB_self {l : List UInt8} {k : Nat} (h : l.length = k) : padB k l = l := by
  unfold padB; rw [List.take_of_length_le (by omega), h, Nat.sub_self]; exact List.append_nil l
def refN (p : List UInt8) : Nat := num (p.take 4)
def tkN (k : Nat) (ps : List (List UInt8)) : Nat := refN (nextP ps) % 256 ^ k
def tkB (k : Nat) (ps : List (List UInt8)) : List UInt8 := padB k (nextP ps)
theorem tkN_lt (k : Nat) (ps : List (List UInt8)) : tkN k ps < 256 ^ k := Nat.mod_lt _ (Nat.pow_pos (by decide))
theorem tkB_length (k : Nat) (ps : List (List UInt8)) : (tkB k ps).length = k := padB_length _ _
theorem refN_be {k n : Nat} (hk : k ≤ 4) (h : n < 256 ^ k) : refN (be k n) = n := by
  unfold refN; rw [List.take_of_length_le (by rw [be_length]; exact hk), num_be' h]
theorem tkN_be {k n : Nat} {r : List (List UInt8)} (hk : k ≤ 4) (h : n < 256 ^ k) : tkN k (be k n :: r) = n := by
  show refN (be k n) % 256 ^ k = n
  rw [refN_be hk h, Nat.mod_eq_of_lt h]
theorem tkB_cons {p : List UInt8} {r : List (List UInt8)} {k : Nat} (h : p.length = k) : tkB k (p :: r) = p := padB_self h

/-- What is read is that whose bytes these are. -/
theorem readT {α : Type} {R : List UInt8 → Option α} {O : α → Option (List UInt8)} {okp : α → Prop} (hR : ∀ l x, R l = some x ↔ okp x ∧ O x = some l) {l : List UInt8} {x0 : α} (h0 : okp x0) (h : ∀ y, okp y → O y = some l → y = x0) : R l = if O x0 = some l then some x0 else none := by
  split
  · rename_i h1
    exact (hR l x0).2 ⟨h0, h1⟩
  · rename_i h1
    cases hr : R l with
    | none => rfl
    | some y =>
      obtain ⟨h2, h3⟩ := (hR l y).1 hr
      exact absurd (h y h2 h3 ▸ h3) h1

def vouchT' (p : List UInt8) : Vouch := if p = [] then vouch0 else ⟨(p.headD 0).toNat, padB 64 (p.drop 1)⟩
theorem vouchT'_ok (p : List UInt8) : (vouchT' p).ok := by
  unfold vouchT'; split
  · exact ⟨by decide, rfl⟩
  · exact ⟨UInt8.toNat_lt _, padB_length _ _⟩
theorem vouchT'_B {v : Vouch} (h : v.ok) : vouchT' (vouchB v) = v := by
  unfold vouchT'
  rw [if_neg (by simp [vouchB])]
  have h1 := h.notary
  obtain ⟨a, b⟩ := v
  simp only at h1
  show Vouch.mk (UInt8.ofNat a).toNat (padB 64 b) = _
  rw [padB_self h.sig, UInt8.toNat_ofNat_of_lt' (by simpa using h1)]
def objectT' (a : List (List UInt8)) (vs : List Vouch) : Object :=
  ⟨tkN 1 a, tkN 1 (a.drop 1), tkB 32 ((a.drop 1).drop 1), tkN 4 (((a.drop 1).drop 1).drop 1), tkN 4 ((((a.drop 1).drop 1).drop 1).drop 1), tkB 64 (((((a.drop 1).drop 1).drop 1).drop 1).drop 1), vs⟩
def objectV' (a : List (List UInt8)) : List Vouch := ((((((((a.drop 1).drop 1).drop 1).drop 1).drop 1).drop 1)).map vouchT')
theorem objectT'_ok (a : List (List UInt8)) {vs : List Vouch} (h : ∀ v ∈ vs, v.ok) : (objectT' a vs).ok := ⟨tkN_lt 1 _, tkN_lt 1 _, tkB_length _ _, tkN_lt 4 _, tkN_lt 4 _, tkB_length _ _, h⟩
theorem objectV'_ok (a : List (List UInt8)) : ∀ v ∈ objectV' a, v.ok := fun v hv => by
  obtain ⟨p, _, rfl⟩ := List.mem_map.1 hv
  exact vouchT'_ok p
theorem vouches_back {vs : List Vouch} (h : ∀ v ∈ vs, v.ok) : (vs.map vouchB).map vouchT' = vs := by
  rw [List.map_map]
  conv => rhs; rw [← List.map_id vs]
  exact List.map_congr_left fun v hv => vouchT'_B (h v hv)
theorem objectO_P {y : Object} (h : y.ok) {l : List UInt8} (e : objectO y = some l) : openP l = objectP y ∧ objectT' (openP l) (objectV' (openP l)) = y := by
  unfold objectO at e
  split at e
  · rename_i h4
    cases e
    have eo : openP (joinB (objectP y)) = objectP y := open_join (objectP_ok h h4)
    refine ⟨eo, ?_⟩
    rw [eo]
    obtain ⟨a, b, c, d, e, f, g⟩ := y
    have h1 := h.server; have h2 := h.n; have h3 := h.key; have h4 := h.since; have h5 := h.till; have h6 := h.sig
    simp only at h1 h2 h3 h4 h5 h6
    simp only [objectT', objectV', objectP, objectP0, List.cons_append, List.nil_append, List.drop_succ_cons, List.drop_zero]
    rw [tkN_be (by decide) (by omega), tkN_be (by decide) (by omega), tkB_cons h3, tkN_be (by decide) (by omega), tkN_be (by decide) (by omega), tkB_cons h6, vouches_back h.vouches]
  · cases e
theorem object_rd (l : List UInt8) : objectR l = if objectO (objectT' (openP l) (objectV' (openP l))) = some l then some (objectT' (openP l) (objectV' (openP l))) else none :=
  readT (okp := Object.ok) (fun _ _ => objectR_iff) (objectT'_ok (openP l) (objectV'_ok _)) (fun y hy e => ((objectO_P hy e).2).symm)
theorem object_open {l : List UInt8} {y : Object} (h : objectR l = some y) : openP l ≠ [] := by
  obtain ⟨h1, h2⟩ := objectR_iff.1 h
  rw [(objectO_P h1 h2).1]; simp [objectP, objectP0]

def chainT' (p : List UInt8) : List Object := (openP p).map fun q => (objectR q).getD object0
theorem chainT'_ok (p : List UInt8) : ∀ x ∈ chainT' p, x.ok := fun x hx => by
  obtain ⟨q, _, rfl⟩ := List.mem_map.1 hx
  exact objectR_ok q
def pktT' (a : List (List UInt8)) (xs : List Object) : Pkt := ⟨tkN 1 a, tkN 1 (at1 a), tkN 1 (at2 a), xs, nextP (at4 a), tkB 64 (at5 a)⟩
theorem pktT'_ok (a : List (List UInt8)) {xs : List Object} (h : ∀ x ∈ xs, x.ok) : (pktT' a xs).ok := ⟨tkN_lt 1 _, tkN_lt 1 _, tkN_lt 1 _, h, tkB_length _ _⟩
theorem pktO_P {y : Pkt} (h : y.ok) {l : List UInt8} (e : pktO y = some l) : openP l = pktP y ∧ pktT' (openP l) (chainT' (nextP (at3 (openP l)))) = y := by
  obtain ⟨h1, h2, rfl⟩ := joinO_eq e
  have eo := open_join h1
  refine ⟨eo, ?_⟩
  rw [eo]
  rw [Bool.and_eq_true] at h2
  obtain ⟨t, ht⟩ := Option.isSome_iff_exists.1 h2.1
  obtain ⟨h3, h4, h5⟩ := joinO_eq ht
  have e1 : chainT' t = y.chain := by
    unfold chainT'
    rw [h5, open_join h3]
    exact (objects_back h.chain (chainGood_iff.1 h4).2).2
  obtain ⟨a, b, c, d, m, f⟩ := y
  have h6 := h.src; have h7 := h.dst; have h8 := h.kind; have h9 := h.sig
  simp only at h6 h7 h8 h9 ht e1
  simp only [pktT', pktP, at1, at2, at3, at4, at5, List.drop_succ_cons, List.drop_zero]
  rw [tkN_be (by decide) (by omega), tkN_be (by decide) (by omega), tkN_be (by decide) (by omega), tkB_cons h9, show nextP [(chainO d).getD [], m, f] = t by show (chainO d).getD [] = t; rw [ht]; rfl, e1]
  rfl
theorem pkt_rd (l : List UInt8) : pktR l = if pktO (pktT' (openP l) (chainT' (nextP (at3 (openP l))))) = some l then some (pktT' (openP l) (chainT' (nextP (at3 (openP l))))) else none :=
  readT (okp := Pkt.ok) (fun _ _ => pktR_iff) (pktT'_ok (openP l) (chainT'_ok _)) (fun y hy e => ((pktO_P hy e).2).symm)
theorem pkt_open {l : List UInt8} {y : Pkt} (h : pktR l = some y) : openP l ≠ [] := by
  obtain ⟨h1, h2⟩ := pktR_iff.1 h
  rw [(pktO_P h1 h2).1]; simp [pktP]
end Go.Pl

/- The reference: what takes pieces. -/
namespace Go.Proofs.Ytcfecmoagfgnaaa
open Go.Vc Go.Pl

end Go.Proofs.Ytcfecmoagfgnaaa
namespace Go.Vc
open Go.Pl
section
variable {P : Program} {n : Nat} {Q : Exit → Act → World → Prop} {σ : Sl} {ops : Array Oper} {rest : List Oper} {d : Nat} {ty : TypeId} {pos : String} {aft : Array Edge} {S : List Snap} {H H' : List Chunk}
theorem padB_cells (m : Nat) (l : List UInt8) : (padB m l).map bv = (l.take m).map bv ++ ((zeros m).map bv).drop ((l.take m).map bv).length := by
  unfold padB
  rw [List.map_append, List.length_map, List.length_take]
  congr 1
  unfold zeros
  rw [List.map_replicate, List.map_replicate, List.drop_replicate]
  congr 1
  omega
/-- 'copy' to an array of zeros: as much as there is room for. -/
theorem VL.copyZ {x y : Operand} {t1 t2 e T : TypeId} {tys : Array TypeId} {g o m c : Nat} {p : Option Addr} {l : List UInt8} {L : List Nat} {ps ps' : List (List Value)} (i j : Nat) (htys : tys = #[t1, t2]) (hu : P.underlying t1 = some (.slice e)) (hs : (P.info? e).map (·.size) = some 1)
    (hx : ev σ x = some (.slice (some ⟨g, o, none⟩) m m)) (hy : ev σ y = some (.slice p l.length c)) (hi : H[i]? = some (blk g T L ps)) (hLj : L[j]? = some m) (ho : (L.take j).sum = o) (hz : ps[j]? = some ((zeros m).map bv)) (hA : ∀ w, Own S H w → ∃ K, Bytes K w p l c)
    (hp : ps.set j ((padB m l).map bv) = ps') (hH : H.set i (blk g T L ps') = H') (h : ∀ v, VL P n ops Q rest ((d, v) :: σ) (Own S H')) (hdn : Nat.blt d n = true := by rfl) : VL P n ops Q (⟨some d, .call ⟨.builtin .copy, #[x, y], tys⟩, ty, pos, aft, none⟩ :: rest) σ (Own S H) := by
  subst htys
  refine VL.act (K := fun _ w' => Own S H' w') rfl rfl hdn (fun a w ha hw => ?_) h
  obtain ⟨hg, hL⟩ := hw.holds _ (List.mem_of_getElem? hi)
  have hjl : j < ps.length := (List.getElem?_eq_some_iff.1 hz).1
  have hpj : ps[j] = (zeros m).map bv := (List.getElem?_eq_some_iff.1 hz).2
  have hpl : (ps[j]).length = m := by rw [hpj, List.length_map, zeros_length]
  have e0 := flatten_at ps j 1
  have h1 : (ps.drop j).take 1 = [ps[j]] := by
    rw [List.drop_eq_getElem_cons hjl, List.take_succ_cons, List.take_zero]
  rw [h1] at e0
  simp only [List.flatten_cons, List.flatten_nil, List.append_nil] at e0
  have hlen := sum_take_length ps j
  rw [hL, ho] at hlen
  obtain ⟨K, hB⟩ := hA w hw
  have hps' : ps'.map List.length = L := by
    rw [← hp, List.map_set, hL, List.length_map, padB_length, ← (List.getElem?_eq_some_iff.1 hLj).2]
    exact List.set_getElem_self _
  rcases hB.bytes with ⟨rfl, h0⟩ | ⟨a', rfl, hc⟩
  · have hl0 : l = [] := by simpa using h0
    subst hl0
    have hc0 := hB.nil rfl
    subst hc0
    have hr := run_copy_nil (P := P) w t1 t2 ty e ⟨g, o, none⟩ m m hu (by rw [hs]; rfl)
    have e1 : ps' = ps := by
      rw [← hp, show padB m [] = zeros m by unfold padB; simp, ← hpj]
      exact List.set_getElem_self _
    subst e1
    refine ⟨goInt 0, w, ?_, ?_⟩
    · have hy' := ha.ev hy
      rw [show (([] : List UInt8).length) = 0 from rfl] at hy'
      simp [execOp, resolve, invoke, builtin, ha.ev hx, hy', hr]
    · rw [← hH, show H.set i (blk g T L ps') = H from by
        rw [← (List.getElem?_eq_some_iff.1 hi).2]; exact List.set_getElem_self _]
      exact hw
  · have hcl : ((l.take m).map bv).length = min m l.length := by rw [List.length_map, List.length_take]
    have hr := run_copy_row (P := P) w t1 t2 ty e g o m m a' l.length c (cat ps).toArray T ((l.take m).map bv) hu hs hg (by rw [hcl]; exact Nat.min_comm _ _) (fun k v hk => hc k v (by
      rw [List.getElem?_map] at hk ⊢
      have hkl : k < (l.take m).length := by
        cases e2 : (l.take m)[k]? with
        | none => rw [e2] at hk; cases hk
        | some b => exact (List.getElem?_eq_some_iff.1 e2).1
      rw [List.getElem?_take_of_lt (by rw [List.length_take] at hkl; omega)] at hk
      exact hk)) (by
      rw [List.size_toArray, cat_eq, e0, List.length_append, List.length_append, hlen, hpl, hcl]
      omega) (ok1_bytes _)
    have e1 : (cat ps).toArray.toList.take o ++ (l.take m).map bv ++ (cat ps).toArray.toList.drop (o + ((l.take m).map bv).length) = cat ps' := by
      rw [← hp, cat_eq, cat_eq, List.set_eq_take_append_cons_drop, if_pos hjl, List.flatten_append, List.flatten_cons, padB_cells]
      show ps.flatten.take o ++ _ ++ ps.flatten.drop _ = _
      rw [e0, hpj]
      rw [← hlen, List.take_left, List.drop_append, List.drop_eq_nil_of_le (Nat.le_add_right _ _), List.nil_append, Nat.add_sub_cancel_left, List.drop_append, List.append_assoc, List.append_assoc]
      congr 3
      rw [Nat.sub_eq_zero_of_le (by simp only [List.length_map, zeros_length, List.length_take]; omega), List.drop_zero]
    rw [e1] at hr
    refine ⟨goInt ((l.take m).map bv).length, w.setRow g (cat ps').toArray, ?_, blk_set (ps' := ps') hw hi hps' hH⟩
    simp [execOp, resolve, invoke, builtin, ha.ev hx, ha.ev hy, hr]
end
end Go.Vc
namespace Go.Proofs.Ytcfecmoagfgnaaa
open Go.Vc Go.Pl
/-- The variable of what takes pieces: all of them, and how many are taken. -/
abbrev tblk (g : Nat) (p : Option Addr) (m c n : Nat) : Chunk := blk g 216 [1, 1] [[.slice p m c], [.int .i64 n]]
def tkR (z : Bool) (left : List (List UInt8)) : Rel (List (List Value)) := fun K w _ ps => ∃ ls p c, ∃ n : Nat, ps = [[.slice p ls.length c], [.int .i64 n]] ∧ left = ls.drop n ∧ n ≤ ls.length ∧ (z = true → n = 0) ∧ Arr 1 bytesR K w p ls c
theorem Mono_tk (z : Bool) (left : List (List UInt8)) : Mono (tkR z left) := fun _ _ _ _ _ ha ⟨ls, p, c, n, e, h1, h2, h3, h⟩ => ⟨ls, p, c, n, e, h1, h2, h3, h.after (Mono.slice Mono.byte) ha⟩
/-- What takes pieces: those that are left; is none taken yet? -/
def tch (g : Nat) (z : Bool) (left : List (List UInt8)) : Chunk := xblk g 216 [1, 1] (tkR z left) (Mono_tk z left)
theorem openTk {S : List Snap} {H : List Chunk} {w : World} {g : Nat} {z : Bool} {left : List (List UInt8)} (h : Own S (tch g z left :: H) w) : ∃ ls p c, ∃ n : Nat, left = ls.drop n ∧ n ≤ ls.length ∧ (z = true → n = 0) ∧ Own S (tblk g p ls.length c n :: H) w ∧ Arr 1 bytesR (g :: keys H) w p ls c := by
  obtain ⟨ps, h1, ls, p, c, n, rfl, h2, h3, h4, h5⟩ := h.openX
  exact ⟨ls, p, c, n, h2, h3, h4, h1, h5⟩
theorem shutTk {S : List Snap} {H : List Chunk} {w : World} {g : Nat} {z : Bool} {ls : List (List UInt8)} {p : Option Addr} {c n : Nat} (h : Own S (tblk g p ls.length c n :: H) w) (hn : n ≤ ls.length) (hz : z = true → n = 0) (hA : Arr 1 bytesR (g :: keys H) w p ls c) : Own S (tch g z (ls.drop n) :: H) w :=
  h.shutX (Mono_tk z (ls.drop n)) ⟨ls, p, c, n, rfl, rfl, hn, hz, hA⟩
theorem plan216 : planOf Try.prog 216 = some (placesL 0 [1, 1], (cat [[.slice none 0 0], [.int .i64 0]]).toArray) := by kernel_rfl
theorem next_is {ls : List (List UInt8)} {n : Nat} (h : n < ls.length) : nextP (ls.drop n) = ls[n]'h := by
  rw [List.drop_eq_getElem_cons h]; rfl
theorem next_none {ls : List (List UInt8)} {n : Nat} (h : ¬ n < ls.length) : ls.drop n = [] := List.drop_eq_nil_of_le (by omega)
theorem num_next {p : List UInt8} {i : Nat} (h : i < p.length) : num (p.take i) * 256 + (p[i]'h).toNat = num (p.take (i + 1)) := by
  rw [List.take_succ_eq_append_getElem h, num_snoc]
theorem num_small {p : List UInt8} {i : Nat} (h : i < 4) : num (p.take i) < 16777216 := by
  have h1 := num_lt (p.take i)
  have h2 : (p.take i).length ≤ i := List.length_take_le _ _
  have h3 : 256 ^ (p.take i).length ≤ 256 ^ 3 := Nat.pow_le_pow_right (by decide) (by omega)
  have : (256 : Nat) ^ 3 = 16777216 := by decide
  omega
theorem refN_end {p : List UInt8} {i : Nat} (h : i ≤ p.length) (h4 : i ≤ 4) (he : i = p.length ∨ i = 4) : num (p.take i) = refN p := by
  unfold refN
  rcases he with rfl | rfl
  · rw [List.take_of_length_le (Nat.le_refl _), List.take_of_length_le h4]
  · rfl

theorem next_t {S : List Snap} {H : List Chunk} {w : World} {g : Nat} {p : Option Addr} {ls : List (List UInt8)} {c n : Nat} (ho : Own S (tblk g p ls.length c n :: H) w) (hn : n ≤ ls.length) (hA : Arr 1 bytesR (g :: keys H) w p ls c) : Calls Try.prog 142 #[.pointer (some ⟨g, 0, none⟩)] w (Ret fun v w' => ∃ n' pb cb, v = .slice pb (nextP (ls.drop n)).length cb ∧ n' ≤ ls.length ∧ ls.drop n' = (ls.drop n).drop 1 ∧ Own S (tblk g p ls.length c n' :: H) w' ∧ Arr 1 bytesR (g :: keys H) w' p ls c ∧ Bytes (g :: keys H) w' pb (nextP (ls.drop n)) cb) := by
  have hsm := hA.small
  refine enter (G := Own (⟨w, keys (tblk g p ls.length c n :: H)⟩ :: S) (tblk g p ls.length c n :: H)) ho.keep Try.func142 rfl Try.ntmps142 rfl ?_
  refine VC.seq ?_
  refine VC.region ?_
  refine VL.assign rfl ?_
  refine VL.nil ?_
  refine VX.next ?_
  refine VC.seq ?_
  refine VC.seq ?_
  by_cases hln : n < ls.length
  · apply VC.anyTA 9 1010 (F := [eqF _, eqF _, eqF _, eqF _, eqF _, eqF _, eqF _, eqF _, eqF _]) [⟨[], [0]⟩, ⟨[(3, 0)], []⟩, ⟨[(4, 1)], []⟩, ⟨[(5, 2)], []⟩, ⟨[], [0]⟩, ⟨[(7, 4)], []⟩, ⟨[(8, 5)], []⟩, ⟨[(9, 6)], []⟩, ⟨[(10, 7)], []⟩] [(6, 3), (11, 8)] [0, 2, 12, 13, 14, 15, 16, 17, 18, 19, 20, 21, 22, 23, 24, 25, 26, 27, 28, 29, 30, 31] rfl (by kernel_rfl) (by kernel_rfl) rfl rfl (by kernel_rfl) (by kernel_rfl) (by kernel_rfl) rfl ?obs1 ?end1
    case obs1 =>
      refine Obs.cons ?_ ?_
      · refine obS (by kernel_rfl) rfl rfl (fun ph1 w1 hO1 => ?_)
        refine VL.move rfl ?_
        exact VL.finS hO1 rfl rfl
      refine Obs.cons ?_ ?_
      · refine obS (by kernel_rfl) rfl rfl (fun ph1 w1 hO1 => ?_)
        rintro _ rfl
        refine VL.nilCheck rfl ?_
        exact VL.finS hO1 rfl rfl
      refine Obs.cons ?_ ?_
      · refine obS (by kernel_rfl) rfl rfl (fun ph1 w1 hO1 => ?_)
        rintro _ rfl
        refine VL.fieldAddr rfl fo216_1 rfl ?_
        exact VL.finS hO1 rfl rfl
      refine Obs.cons ?_ ?_
      · refine ob (by kernel_rfl) rfl (by kernel_rfl) rfl (fun w1 hO1 => ?_)
        rintro _ rfl
        refine VL.load (v := .int .i64 (n)) 0 1 rfl kd3 (fun _ e => e ▸ hO1) rfl rfl rfl ?_
        exact VL.finS hO1 rfl rfl
      refine Obs.cons ?_ ?_
      · refine obS (by kernel_rfl) rfl rfl (fun ph1 w1 hO1 => ?_)
        refine VL.move rfl ?_
        exact VL.finS hO1 rfl rfl
      refine Obs.cons ?_ ?_
      · refine obS (by kernel_rfl) rfl rfl (fun ph1 w1 hO1 => ?_)
        rintro _ rfl
        refine VL.nilCheck rfl ?_
        exact VL.finS hO1 rfl rfl
      refine Obs.cons ?_ ?_
      · refine obS (by kernel_rfl) rfl rfl (fun ph1 w1 hO1 => ?_)
        rintro _ rfl
        refine VL.fieldAddr rfl fo216_0 rfl ?_
        exact VL.finS hO1 rfl rfl
      refine Obs.cons ?_ ?_
      · refine ob (by kernel_rfl) rfl (by kernel_rfl) rfl (fun w1 hO1 => ?_)
        rintro _ rfl
        refine VL.load (v := .slice p (ls).length c) 0 0 rfl kd31 (fun _ e => e ▸ hO1) rfl rfl rfl ?_
        exact VL.finS hO1 rfl rfl
      refine Obs.cons ?_ ?_
      · refine obS (by kernel_rfl) rfl rfl (fun ph1 w1 hO1 => ?_)
        rintro _ rfl
        refine VL.len Try.underlying31 rfl rfl ?_
        exact VL.finS hO1 rfl rfl
      exact Obs.nil
    case end1 =>
      intro w1 hO1
      rintro _ rfl _ rfl
      refine VL.toOwn hO1 ?_
      refine VL.geq rfl rfl ?_
      refine VL.no (by omega) ?_
      refine VL.nil ?_
      refine VX.next ?_
      refine VC.no rfl ?_
      refine VC.skip ?_
      refine VX.next ?_
      refine VC.seq ?_
      refine VC.region ?_
      refine VL.move rfl ?_
      refine VL.move rfl ?_
      refine VL.nilCheck rfl ?_
      refine VL.fieldAddr rfl fo216_1 rfl ?_
      refine VL.load (v := .int .i64 (n)) 0 1 rfl kd3 (fun _ h => h) rfl rfl rfl ?_
      refine VL.add rfl rfl (by simp only [InR]; omega) ?_
      refine VL.nilCheck rfl ?_
      refine VL.fieldAddr rfl fo216_1 rfl ?_
      refine VL.store (L := [1, 1]) (qs := [[.int .i64 (n + 1)]]) (ps' := [[.slice p (ls).length c], [.int .i64 (n + 1)]]) 0 1 1 rfl rfl rfl (.inr ⟨kd3, rfl⟩) rfl rfl rfl (by intro u hu; simp [cat] at hu; subst hu; rfl) rfl rfl ?_
      refine VL.turn (G' := Own _ (blk g 216 [1, 1] [[.slice p (ls).length c], [.int .i64 (n + 1)]] :: H)) (fun _ h => h) ?_
      refine VL.nil ?_
      refine VX.next ?_
      refine VC.seq ?_
      apply VC.anyTA 9 1012 (F := [eqF _, eqF _, eqF _, eqF _, eqF _, eqF _, eqF _, eqF _, eqF _]) [⟨[], [0]⟩, ⟨[(21, 0)], []⟩, ⟨[(22, 1)], []⟩, ⟨[(23, 2)], []⟩, ⟨[], [0]⟩, ⟨[(25, 4)], []⟩, ⟨[(26, 5)], []⟩, ⟨[(27, 6)], []⟩, ⟨[(28, 7)], []⟩] [(24, 3), (29, 8)] [0, 2, 3, 4, 5, 6, 7, 8, 9, 10, 11, 12, 13, 14, 15, 16, 17, 18, 19, 20, 30, 31] rfl (by kernel_rfl) (by kernel_rfl) rfl rfl (by kernel_rfl) (by kernel_rfl) (by kernel_rfl) rfl ?obs4 ?end4
      case obs4 =>
        refine Obs.cons ?_ ?_
        · refine obS (by kernel_rfl) rfl rfl (fun ph4 w4 hO4 => ?_)
          refine VL.move rfl ?_
          exact VL.finS hO4 rfl rfl
        refine Obs.cons ?_ ?_
        · refine obS (by kernel_rfl) rfl rfl (fun ph4 w4 hO4 => ?_)
          rintro _ rfl
          refine VL.nilCheck rfl ?_
          exact VL.finS hO4 rfl rfl
        refine Obs.cons ?_ ?_
        · refine obS (by kernel_rfl) rfl rfl (fun ph4 w4 hO4 => ?_)
          rintro _ rfl
          refine VL.fieldAddr rfl fo216_0 rfl ?_
          exact VL.finS hO4 rfl rfl
        refine Obs.cons ?_ ?_
        · refine ob (by kernel_rfl) rfl (by kernel_rfl) rfl (fun w4 hO4 => ?_)
          rintro _ rfl
          refine VL.load (v := .slice p (ls).length c) 0 0 rfl kd31 (fun _ e => e ▸ hO4) rfl rfl rfl ?_
          exact VL.finS hO4 rfl rfl
        refine Obs.cons ?_ ?_
        · refine obS (by kernel_rfl) rfl rfl (fun ph4 w4 hO4 => ?_)
          refine VL.move rfl ?_
          exact VL.finS hO4 rfl rfl
        refine Obs.cons ?_ ?_
        · refine obS (by kernel_rfl) rfl rfl (fun ph4 w4 hO4 => ?_)
          rintro _ rfl
          refine VL.nilCheck rfl ?_
          exact VL.finS hO4 rfl rfl
        refine Obs.cons ?_ ?_
        · refine obS (by kernel_rfl) rfl rfl (fun ph4 w4 hO4 => ?_)
          rintro _ rfl
          refine VL.fieldAddr rfl fo216_1 rfl ?_
          exact VL.finS hO4 rfl rfl
        refine Obs.cons ?_ ?_
        · refine ob (by kernel_rfl) rfl (by kernel_rfl) rfl (fun w4 hO4 => ?_)
          rintro _ rfl
          refine VL.load (v := .int .i64 (n + 1)) 0 1 rfl kd3 (fun _ e => e ▸ hO4) rfl rfl rfl ?_
          exact VL.finS hO4 rfl rfl
        refine Obs.cons ?_ ?_
        · refine obS (by kernel_rfl) rfl rfl (fun ph4 w4 hO4 => ?_)
          rintro _ rfl
          refine VL.sub rfl rfl (by simp only [InR]; omega) ?_
          refine VL.newv (v' := .int .i64 (n : Int)) (by rw [Int.add_sub_cancel]) ?_
          exact VL.finS hO4 rfl rfl
        exact Obs.nil
      case end4 =>
        intro w4 hO4
        rintro _ rfl _ rfl
        refine VL.toOwn hO4 ?_
        refine VL.index (xs := ls) rfl rfl Try.underlying31 sz31 hA (by omega) (by have hi := hln; omega) ?_
        refine VL.elem (s := ⟨w, _⟩) (n) 0 rfl kd24 (fun _ h => h) (by repeat (first | exact List.mem_cons_self .. | apply List.mem_cons_of_mem)) (Mono.slice Mono.byte) hA (List.getElem?_eq_getElem hln) (by simp) (by decide) (fun vs v hl hr hv => ?_)
        obtain ⟨p3, c4, rfl, hA5⟩ := hr
        have ehy2 : v = .slice p3 (ls[n]'hln).length c4 := Option.some.inj (hv.symm.trans rfl)
        subst ehy2
        refine VL.assign rfl ?_
        refine VL.nil ?_
        refine VX.next ?_
        refine VC.ret ?_
        refine VX.ret1 rfl rfl (fun we hw => ?_)
        rw [next_is hln]
        exact ⟨n + 1, _, _, rfl, by omega, by rw [List.drop_drop], hw.sub (fun _ hs => by repeat (first | exact hs | apply List.mem_cons_of_mem)), hA.now (s := ⟨w, _⟩) (Mono.slice Mono.byte) hw (by repeat (first | exact List.mem_cons_self .. | apply List.mem_cons_of_mem)), (hA5.now (s := ⟨w, _⟩) Mono.byte hw (by repeat (first | exact List.mem_cons_self .. | apply List.mem_cons_of_mem)))⟩
  · apply VC.anyTA 9 1010 (F := [eqF _, eqF _, eqF _, eqF _, eqF _, eqF _, eqF _, eqF _, eqF _]) [⟨[], [0]⟩, ⟨[(3, 0)], []⟩, ⟨[(4, 1)], []⟩, ⟨[(5, 2)], []⟩, ⟨[], [0]⟩, ⟨[(7, 4)], []⟩, ⟨[(8, 5)], []⟩, ⟨[(9, 6)], []⟩, ⟨[(10, 7)], []⟩] [(6, 3), (11, 8)] [0, 2, 12, 13, 14, 15, 16, 17, 18, 19, 20, 21, 22, 23, 24, 25, 26, 27, 28, 29, 30, 31] rfl (by kernel_rfl) (by kernel_rfl) rfl rfl (by kernel_rfl) (by kernel_rfl) (by kernel_rfl) rfl ?obs1 ?end1
    case obs1 =>
      refine Obs.cons ?_ ?_
      · refine obS (by kernel_rfl) rfl rfl (fun ph1 w1 hO1 => ?_)
        refine VL.move rfl ?_
        exact VL.finS hO1 rfl rfl
      refine Obs.cons ?_ ?_
      · refine obS (by kernel_rfl) rfl rfl (fun ph1 w1 hO1 => ?_)
        rintro _ rfl
        refine VL.nilCheck rfl ?_
        exact VL.finS hO1 rfl rfl
      refine Obs.cons ?_ ?_
      · refine obS (by kernel_rfl) rfl rfl (fun ph1 w1 hO1 => ?_)
        rintro _ rfl
        refine VL.fieldAddr rfl fo216_1 rfl ?_
        exact VL.finS hO1 rfl rfl
      refine Obs.cons ?_ ?_
      · refine ob (by kernel_rfl) rfl (by kernel_rfl) rfl (fun w1 hO1 => ?_)
        rintro _ rfl
        refine VL.load (v := .int .i64 (n)) 0 1 rfl kd3 (fun _ e => e ▸ hO1) rfl rfl rfl ?_
        exact VL.finS hO1 rfl rfl
      refine Obs.cons ?_ ?_
      · refine obS (by kernel_rfl) rfl rfl (fun ph1 w1 hO1 => ?_)
        refine VL.move rfl ?_
        exact VL.finS hO1 rfl rfl
      refine Obs.cons ?_ ?_
      · refine obS (by kernel_rfl) rfl rfl (fun ph1 w1 hO1 => ?_)
        rintro _ rfl
        refine VL.nilCheck rfl ?_
        exact VL.finS hO1 rfl rfl
      refine Obs.cons ?_ ?_
      · refine obS (by kernel_rfl) rfl rfl (fun ph1 w1 hO1 => ?_)
        rintro _ rfl
        refine VL.fieldAddr rfl fo216_0 rfl ?_
        exact VL.finS hO1 rfl rfl
      refine Obs.cons ?_ ?_
      · refine ob (by kernel_rfl) rfl (by kernel_rfl) rfl (fun w1 hO1 => ?_)
        rintro _ rfl
        refine VL.load (v := .slice p (ls).length c) 0 0 rfl kd31 (fun _ e => e ▸ hO1) rfl rfl rfl ?_
        exact VL.finS hO1 rfl rfl
      refine Obs.cons ?_ ?_
      · refine obS (by kernel_rfl) rfl rfl (fun ph1 w1 hO1 => ?_)
        rintro _ rfl
        refine VL.len Try.underlying31 rfl rfl ?_
        exact VL.finS hO1 rfl rfl
      exact Obs.nil
    case end1 =>
      intro w1 hO1
      rintro _ rfl _ rfl
      refine VL.toOwn hO1 ?_
      refine VL.geq rfl rfl ?_
      refine VL.yes (by omega) ?_
      refine VL.nil ?_
      refine VX.next ?_
      refine VC.yes rfl ?_
      refine VC.seq ?_
      refine VC.region ?_
      refine VL.assign rfl ?_
      refine VL.nil ?_
      refine VX.next ?_
      refine VC.ret ?_
      refine VX.then_ret ?_
      refine VX.ret1 rfl rfl (fun we hw => ?_)
      rw [next_none hln]
      exact ⟨n, none, 0, rfl, hn, next_none hln, hw.sub (fun _ hs => by repeat (first | exact hs | apply List.mem_cons_of_mem)), hA.now (s := ⟨w, _⟩) (Mono.slice Mono.byte) hw (by repeat (first | exact List.mem_cons_self .. | apply List.mem_cons_of_mem)), Arr.none⟩

theorem left_t {S : List Snap} {H : List Chunk} {w : World} {g : Nat} {p : Option Addr} {ls : List (List UInt8)} {c n : Nat} (ho : Own S (tblk g p ls.length c n :: H) w) (hn : n ≤ ls.length) (hA : Arr 1 bytesR (g :: keys H) w p ls c) : Calls Try.prog 143 #[.pointer (some ⟨g, 0, none⟩)] w (Ret fun v w' => v = .int .i64 ((ls.drop n).length : Nat) ∧ Own S (tblk g p ls.length c n :: H) w' ∧ Arr 1 bytesR (g :: keys H) w' p ls c) := by
  have hsm := hA.small
  refine enter (G := Own (⟨w, keys (tblk g p ls.length c n :: H)⟩ :: S) (tblk g p ls.length c n :: H)) ho.keep Try.func143 rfl Try.ntmps143 rfl ?_
  refine VC.seq ?_
  refine VC.region ?_
  refine VL.assign rfl ?_
  refine VL.nil ?_
  refine VX.next ?_
  refine VC.seq ?_
  apply VC.anyTA 9 1011 (F := [eqF _, eqF _, eqF _, eqF _, eqF _, eqF _, eqF _, eqF _, eqF _]) [⟨[], [0]⟩, ⟨[(3, 0)], []⟩, ⟨[(4, 1)], []⟩, ⟨[(5, 2)], []⟩, ⟨[(6, 3)], []⟩, ⟨[], [0]⟩, ⟨[(8, 5)], []⟩, ⟨[(9, 6)], []⟩, ⟨[(10, 7)], []⟩] [(7, 4), (11, 8)] [2, 12] rfl (by kernel_rfl) (by kernel_rfl) rfl rfl (by kernel_rfl) (by kernel_rfl) (by kernel_rfl) rfl ?obs1 ?end1
  case obs1 =>
    refine Obs.cons ?_ ?_
    · refine obS (by kernel_rfl) rfl rfl (fun ph1 w1 hO1 => ?_)
      refine VL.move rfl ?_
      exact VL.finS hO1 rfl rfl
    refine Obs.cons ?_ ?_
    · refine obS (by kernel_rfl) rfl rfl (fun ph1 w1 hO1 => ?_)
      rintro _ rfl
      refine VL.nilCheck rfl ?_
      exact VL.finS hO1 rfl rfl
    refine Obs.cons ?_ ?_
    · refine obS (by kernel_rfl) rfl rfl (fun ph1 w1 hO1 => ?_)
      rintro _ rfl
      refine VL.fieldAddr rfl fo216_0 rfl ?_
      exact VL.finS hO1 rfl rfl
    refine Obs.cons ?_ ?_
    · refine ob (by kernel_rfl) rfl (by kernel_rfl) rfl (fun w1 hO1 => ?_)
      rintro _ rfl
      refine VL.load (v := .slice p (ls).length c) 0 0 rfl kd31 (fun _ e => e ▸ hO1) rfl rfl rfl ?_
      exact VL.finS hO1 rfl rfl
    refine Obs.cons ?_ ?_
    · refine obS (by kernel_rfl) rfl rfl (fun ph1 w1 hO1 => ?_)
      rintro _ rfl
      refine VL.len Try.underlying31 rfl rfl ?_
      exact VL.finS hO1 rfl rfl
    refine Obs.cons ?_ ?_
    · refine obS (by kernel_rfl) rfl rfl (fun ph1 w1 hO1 => ?_)
      refine VL.move rfl ?_
      exact VL.finS hO1 rfl rfl
    refine Obs.cons ?_ ?_
    · refine obS (by kernel_rfl) rfl rfl (fun ph1 w1 hO1 => ?_)
      rintro _ rfl
      refine VL.nilCheck rfl ?_
      exact VL.finS hO1 rfl rfl
    refine Obs.cons ?_ ?_
    · refine obS (by kernel_rfl) rfl rfl (fun ph1 w1 hO1 => ?_)
      rintro _ rfl
      refine VL.fieldAddr rfl fo216_1 rfl ?_
      exact VL.finS hO1 rfl rfl
    refine Obs.cons ?_ ?_
    · refine ob (by kernel_rfl) rfl (by kernel_rfl) rfl (fun w1 hO1 => ?_)
      rintro _ rfl
      refine VL.load (v := .int .i64 (n)) 0 1 rfl kd3 (fun _ e => e ▸ hO1) rfl rfl rfl ?_
      exact VL.finS hO1 rfl rfl
    exact Obs.nil
  case end1 =>
    intro w1 hO1
    rintro _ rfl _ rfl
    refine VL.toOwn hO1 ?_
    refine VL.sub rfl rfl (by simp only [InR]; omega) ?_
    refine VL.assign rfl ?_
    refine VL.nil ?_
    refine VX.next ?_
    refine VC.ret ?_
    refine VX.ret1 rfl rfl (fun we hw => ?_)
    refine ⟨?_, hw.sub (fun _ hs => by repeat (first | exact hs | apply List.mem_cons_of_mem)), hA.now (s := ⟨w, _⟩) (Mono.slice Mono.byte) hw (by repeat (first | exact List.mem_cons_self .. | apply List.mem_cons_of_mem))⟩
    rw [List.length_drop]
    exact congrArg (Value.int .i64) (by omega)

theorem next_T {S : List Snap} {H : List Chunk} {w : World} {g : Nat} {z : Bool} {left : List (List UInt8)} {i : Nat} (hi : H[i]? = some (tch g z left)) (ho : Own S H w) : Calls Try.prog 142 #[.pointer (some ⟨g, 0, none⟩)] w (Ret fun v w' => ∃ pb cb, v = .slice pb (nextP left).length cb ∧ Own S (H.set i (tch g false (left.drop 1))) w' ∧ Bytes (keys (H.set i (tch g false (left.drop 1)))) w' pb (nextP left) cb) := by
  obtain ⟨ls, p, c, n, rfl, h1, _, h2, h3⟩ := openTk (ho.front hi)
  refine calls_mono (next_t h2 h1 h3) fun v w' ⟨n', pb, cb, e1, h4, h5, h6, h7, h8⟩ => ⟨pb, cb, e1, ?_, h8.keysTo Mono.byte fun k hk => ?_⟩
  · rw [← h5]
    exact (shutTk (z := false) h6 h4 (fun h => by cases h) h7).back hi
  · exact (keys_set hi k).1 hk
theorem left_T {S : List Snap} {H : List Chunk} {w : World} {g : Nat} {z : Bool} {left : List (List UInt8)} {i : Nat} (hi : H[i]? = some (tch g z left)) (ho : Own S H w) : Calls Try.prog 143 #[.pointer (some ⟨g, 0, none⟩)] w (Ret fun v w' => v = .int .i64 (left.length : Nat) ∧ Own S H w') := by
  obtain ⟨ls, p, c, n, rfl, h1, hz, h2, h3⟩ := openTk (ho.front hi)
  refine calls_mono (left_t h2 h1 h3) fun v w' ⟨e1, h4, h5⟩ => ⟨e1, ?_⟩
  have := (shutTk (z := z) h4 h1 hz h5).back hi
  rwa [show H.set i (tch g z (ls.drop n)) = H from by rw [← (List.getElem?_eq_some_iff.1 hi).2]; exact List.set_getElem_self _] at this

theorem num_t {S : List Snap} {H : List Chunk} {w : World} {g : Nat} {z : Bool} {left : List (List UInt8)} (ho : Own S (tch g z left :: H) w) : Calls Try.prog 141 #[.pointer (some ⟨g, 0, none⟩)] w (Ret fun v w' => v = .int .i64 (refN (nextP left) : Nat) ∧ Own S (tch g false (left.drop 1) :: H) w') := by
  refine enter (G := Own (⟨w, keys (tch g z left :: H)⟩ :: S) (tch g z left :: H)) ho.keep Try.func141 rfl Try.ntmps141 rfl ?_
  refine VC.seq ?_
  refine VC.region ?_
  refine VL.assign rfl ?_
  refine VL.nil ?_
  refine VX.next ?_
  refine VC.seq ?_
  refine VC.region ?_
  refine VL.move rfl ?_
  refine VL.call Try.func142 rfl (by decide) rfl (fun w' hw => next_T (i := 0) rfl hw) (fun v => ?_)
  refine VL.at (fun w1 h1w => ?_)
  obtain ⟨p2, c3, rfl, hO5, hA4⟩ := h1w
  replace hO5 : Own _ (tch g false (left.drop 1) :: H) w1 := hO5
  replace hA4 : Bytes (keys (tch g false (left.drop 1) :: H)) w1 p2 ((nextP left)) c3 := hA4
  refine VL.toOwn hO5 ?_
  refine VL.assign rfl ?_
  refine VL.nil ?_
  refine VX.next ?_
  refine VC.seq ?_
  refine VC.region ?_
  refine VL.assign rfl ?_
  refine VL.nil ?_
  refine VX.next ?_
  refine VC.seq ?_
  refine VC.seq ?_
  refine VC.region ?_
  refine VL.assign rfl ?_
  refine VL.nil ?_
  refine VX.next ?_
  refine VC.block ?_
  refine VC.loop (X := Nat) (fun i => [(3, .slice p2 (nextP left).length c3), (4, .int .i64 (num ((nextP left).take i) : Nat)), (5, .int .i64 (i : Int))]) (fun i w' => (i ≤ (nextP left).length ∧ i ≤ 4) ∧ Own (⟨w1, keys (tch g false (left.drop 1) :: H)⟩ :: ⟨w, keys (tch g z left :: H)⟩ :: S) (tch g false (left.drop 1) :: H) w') (fun i => 4 - i) 0 ⟨rfl, rfl, rfl, trivial⟩ (fun w' h => ⟨⟨Nat.zero_le _, by decide⟩, h⟩) (fun i => VC.fact fun ⟨hi, hi4⟩ => ?_)
  · skip
    refine VC.seq ?_
    refine VC.seq ?_
    refine VC.region ?_
    refine VL.move rfl ?_
    refine VL.move rfl ?_
    refine VL.len Try.underlying24 rfl rfl ?_
    refine VL.lss rfl rfl ?_
    refine VL.case (fun h4 => ?_) (fun h4 => ?_)
    · have hlt : i < (nextP left).length := by omega
      refine VL.move rfl ?_
      refine VL.go rfl rfl rfl ?_
      refine VL.move rfl ?_
      refine VL.go rfl rfl rfl ?_
      refine VL.lss rfl rfl ?_
      refine VL.case (fun h6 => ?_) (fun h6 => ?_)
      · have hi3 : i < 4 := by omega
        have hnm := num_small (p := (nextP left)) hi3
        refine VL.pick_t rfl rfl ?_
        refine VL.nil ?_
        refine VX.next ?_
        refine VC.yes rfl ?_
        refine VC.skip ?_
        refine VX.next ?_
        refine VC.seq ?_
        refine VC.block ?_
        refine VC.region ?_
        refine VL.move rfl ?_
        refine VL.mul rfl rfl (by simp only [InR]; omega) ?_
        refine VL.move rfl ?_
        refine VL.move rfl ?_
        refine VL.index (xs := (nextP left)) rfl rfl Try.underlying24 sz24 hA4 (by omega) (by have hi := hlt; omega) ?_
        refine VL.byte (s := ⟨w1, _⟩) (y := (nextP left)[i]'hlt) rfl kd5 (fun _ h => h) (by repeat (first | exact List.mem_cons_self .. | apply List.mem_cons_of_mem)) hA4 ((congrArg (fun k : Nat => (nextP left)[k]?) (show _ = i by simp)).trans (List.getElem?_eq_getElem hlt)) ?_
        refine VL.conv (by rw [Try.underlying5]; rfl) Try.underlying3 rfl (by have := UInt8.toNat_lt ((nextP left)[i]'hlt); simp only [InR]; omega) ?_
        refine VL.add rfl rfl (by have := UInt8.toNat_lt ((nextP left)[i]'hlt); simp only [InR]; omega) ?_
        refine VL.assign rfl ?_
        refine VL.nil ?_
        refine VX.block_normal ?_
        refine VX.next ?_
        refine VC.region ?_
        refine VL.move rfl ?_
        refine VL.add rfl rfl (by simp only [InR]; omega) ?_
        refine VL.assign rfl ?_
        refine VL.nil ?_
        refine VX.round (i + 1) ⟨rfl, by rw [← num_next hlt]; exact congrArg (fun z : Int => some (Value.int .i64 z)) (by omega), rfl, trivial⟩ (fun w' h => ⟨⟨by omega, by omega⟩, h⟩) (by show 4 - (i + 1) < 4 - i; omega)
      · have hie : i = (nextP left).length ∨ i = 4 := .inr (by omega)
        refine VL.pick_t rfl rfl ?_
        refine VL.nil ?_
        refine VX.next ?_
        refine VC.no rfl ?_
        refine VC.exit ?_
        refine VX.then_exit ?_
        refine VX.then_exit ?_
        refine VX.block_here ?_
        refine VX.next ?_
        refine VC.seq ?_
        refine VC.region ?_
        refine VL.move rfl ?_
        refine VL.assign rfl ?_
        refine VL.nil ?_
        refine VX.next ?_
        refine VC.ret ?_
        refine VX.ret1 rfl rfl (fun we hw => ?_)
        exact ⟨by rw [refN_end hi hi4 hie], hw.sub (fun _ hs => by repeat (first | exact hs | apply List.mem_cons_of_mem))⟩
    · have hie : i = (nextP left).length ∨ i = 4 := .inl (by omega)
      refine VL.move rfl ?_
      refine VL.pass rfl rfl rfl rfl rfl ?_
      refine VL.pass rfl rfl rfl rfl rfl ?_
      refine VL.pick_f rfl rfl ?_
      refine VL.nil ?_
      refine VX.next ?_
      refine VC.no rfl ?_
      refine VC.exit ?_
      refine VX.then_exit ?_
      refine VX.then_exit ?_
      refine VX.block_here ?_
      refine VX.next ?_
      refine VC.seq ?_
      refine VC.region ?_
      refine VL.move rfl ?_
      refine VL.assign rfl ?_
      refine VL.nil ?_
      refine VX.next ?_
      refine VC.ret ?_
      refine VX.ret1 rfl rfl (fun we hw => ?_)
      exact ⟨by rw [refN_end hi hi4 hie], hw.sub (fun _ hs => by repeat (first | exact hs | apply List.mem_cons_of_mem))⟩

theorem key_t {S : List Snap} {H : List Chunk} {w : World} {g : Nat} {z : Bool} {left : List (List UInt8)} (ho : Own S (tch g z left :: H) w) : Calls Try.prog 150 #[.pointer (some ⟨g, 0, none⟩)] w (Ret fun v w' => v = .agg ((tkB 32 left).map bv).toArray ∧ Own S (tch g false (left.drop 1) :: H) w') := by
  refine enter (G := Own (⟨w, keys (tch g z left :: H)⟩ :: S) (tch g z left :: H)) ho.keep Try.func150 rfl Try.ntmps150 rfl ?_
  refine VC.seq ?_
  refine VC.region ?_
  refine VL.alloc (L := [32]) (ps := [(zeros 32).map bv]) zero43 rfl rfl (fun g1 => ?_)
  refine VL.nil ?_
  refine VX.next ?_
  refine VC.seq ?_
  refine VC.region ?_
  refine VL.alloc (L := [32]) (ps := [(zeros 32).map bv]) zero43 rfl rfl (fun g2 => ?_)
  refine VL.nil ?_
  refine VX.next ?_
  refine VC.seq ?_
  apply VC.anyTA 3 2 (F := [eqF _, eqF _, lateE _]) [⟨[], [3]⟩, ⟨[], [0]⟩, ⟨[(5, 1)], []⟩] [(4, 0), (6, 2)] [2, 3, 8] rfl (by kernel_rfl) (by kernel_rfl) rfl rfl (by kernel_rfl) (by kernel_rfl) (by kernel_rfl) rfl ?obs2 ?end2
  case obs2 =>
    refine Obs.cons ?_ ?_
    · refine obS (by kernel_rfl) rfl rfl (fun ph2 w2 hO2 => ?_)
      refine VL.sliceArr Try.underlying43 (by kernel_rfl) rfl ?_
      exact VL.finS hO2 rfl rfl
    refine Obs.cons ?_ ?_
    · refine obS (by kernel_rfl) rfl rfl (fun ph2 w2 hO2 => ?_)
      refine VL.move rfl ?_
      exact VL.finS hO2 rfl rfl
    refine Obs.cons ?_ ?_
    · refine obK (by kernel_rfl) rfl (fun w2 hO2 => ?_)
      rintro _ rfl
      refine VL.toOwn hO2 ?_
      refine VL.call Try.func142 rfl (by decide) rfl (fun w' hw => next_T (i := 2) rfl hw) (fun v => ?_)
      exact VL.finC rfl (fun _ ⟨_, _, _, h, _⟩ => h) (fun _ h => ⟨w2, h⟩)
    exact Obs.nil
  case end2 =>
    intro w2 hO2
    rintro _ rfl _ ⟨wk2, p4, c5, rfl, hK8, hA6⟩
    replace hK8 : Own _ (blk g2 43 [32] [(zeros 32).map bv] :: blk g1 43 [32] [(zeros 32).map bv] :: tch g false (left.drop 1) :: H) w2 := hK8
    refine VL.toOwn hK8 ?_
    refine VL.copyZ (l := (nextP left)) (ps' := [(tkB 32 left).map bv]) 0 0 rfl Try.underlying24 (by kernel_rfl) rfl rfl rfl rfl rfl rfl (fun _ hw => ⟨_, (hA6.now (s := ⟨w2, _⟩) Mono.byte hw (by repeat (first | exact List.mem_cons_self .. | apply List.mem_cons_of_mem)))⟩) rfl rfl (fun _ => ?_)
    refine VL.turn (G' := Own _ (blk g2 43 [32] [((tkB 32 left)).map bv] :: blk g1 43 [32] [(zeros 32).map bv] :: tch g false (left.drop 1) :: H)) (fun _ h => h) ?_
    refine VL.nil ?_
    refine VX.next ?_
    refine VC.seq ?_
    refine VC.region ?_
    refine VL.loads (cs := ((tkB 32 left)).map bv) 0 0 1 rfl kd43 (fun _ h => h) rfl rfl rfl rfl ?_
    refine VL.store (L := [32]) (qs := [((tkB 32 left)).map bv]) (ps' := [((tkB 32 left)).map bv]) 1 0 1 rfl rfl rfl (.inl kd43) rfl rfl (arr_len (tkB_length _ _)) (ok1_bytes _) rfl rfl ?_
    refine VL.turn (G' := Own _ (blk g2 43 [32] [((tkB 32 left)).map bv] :: blk g1 43 [32] [((tkB 32 left)).map bv] :: tch g false (left.drop 1) :: H)) (fun _ h => h) ?_
    refine VL.nil ?_
    refine VX.next ?_
    refine VC.ret ?_
    refine VX.ret_cell1 (cs := (tkB 32 left).map bv) 1 rfl rfl (by rw [List.length_map, tkB_length]; exact kd43) (fun _ h => h) rfl rfl (fun we hw => ?_)
    exact ⟨rfl, hw.drop.drop.sub (fun _ hs => by repeat (first | exact hs | apply List.mem_cons_of_mem))⟩

theorem sig_t {S : List Snap} {H : List Chunk} {w : World} {g : Nat} {z : Bool} {left : List (List UInt8)} (ho : Own S (tch g z left :: H) w) : Calls Try.prog 144 #[.pointer (some ⟨g, 0, none⟩)] w (Ret fun v w' => v = .agg ((tkB 64 left).map bv).toArray ∧ Own S (tch g false (left.drop 1) :: H) w') := by
  refine enter (G := Own (⟨w, keys (tch g z left :: H)⟩ :: S) (tch g z left :: H)) ho.keep Try.func144 rfl Try.ntmps144 rfl ?_
  refine VC.seq ?_
  refine VC.region ?_
  refine VL.alloc (L := [64]) (ps := [(zeros 64).map bv]) zero79 rfl rfl (fun g1 => ?_)
  refine VL.nil ?_
  refine VX.next ?_
  refine VC.seq ?_
  refine VC.region ?_
  refine VL.alloc (L := [64]) (ps := [(zeros 64).map bv]) zero79 rfl rfl (fun g2 => ?_)
  refine VL.nil ?_
  refine VX.next ?_
  refine VC.seq ?_
  apply VC.anyTA 3 2 (F := [eqF _, eqF _, lateE _]) [⟨[], [3]⟩, ⟨[], [0]⟩, ⟨[(5, 1)], []⟩] [(4, 0), (6, 2)] [2, 3, 8] rfl (by kernel_rfl) (by kernel_rfl) rfl rfl (by kernel_rfl) (by kernel_rfl) (by kernel_rfl) rfl ?obs2 ?end2
  case obs2 =>
    refine Obs.cons ?_ ?_
    · refine obS (by kernel_rfl) rfl rfl (fun ph2 w2 hO2 => ?_)
      refine VL.sliceArr Try.underlying79 (by kernel_rfl) rfl ?_
      exact VL.finS hO2 rfl rfl
    refine Obs.cons ?_ ?_
    · refine obS (by kernel_rfl) rfl rfl (fun ph2 w2 hO2 => ?_)
      refine VL.move rfl ?_
      exact VL.finS hO2 rfl rfl
    refine Obs.cons ?_ ?_
    · refine obK (by kernel_rfl) rfl (fun w2 hO2 => ?_)
      rintro _ rfl
      refine VL.toOwn hO2 ?_
      refine VL.call Try.func142 rfl (by decide) rfl (fun w' hw => next_T (i := 2) rfl hw) (fun v => ?_)
      exact VL.finC rfl (fun _ ⟨_, _, _, h, _⟩ => h) (fun _ h => ⟨w2, h⟩)
    exact Obs.nil
  case end2 =>
    intro w2 hO2
    rintro _ rfl _ ⟨wk2, p4, c5, rfl, hK8, hA6⟩
    replace hK8 : Own _ (blk g2 79 [64] [(zeros 64).map bv] :: blk g1 79 [64] [(zeros 64).map bv] :: tch g false (left.drop 1) :: H) w2 := hK8
    refine VL.toOwn hK8 ?_
    refine VL.copyZ (l := (nextP left)) (ps' := [(tkB 64 left).map bv]) 0 0 rfl Try.underlying24 (by kernel_rfl) rfl rfl rfl rfl rfl rfl (fun _ hw => ⟨_, (hA6.now (s := ⟨w2, _⟩) Mono.byte hw (by repeat (first | exact List.mem_cons_self .. | apply List.mem_cons_of_mem)))⟩) rfl rfl (fun _ => ?_)
    refine VL.turn (G' := Own _ (blk g2 79 [64] [((tkB 64 left)).map bv] :: blk g1 79 [64] [(zeros 64).map bv] :: tch g false (left.drop 1) :: H)) (fun _ h => h) ?_
    refine VL.nil ?_
    refine VX.next ?_
    refine VC.seq ?_
    refine VC.region ?_
    refine VL.loads (cs := ((tkB 64 left)).map bv) 0 0 1 rfl kd79 (fun _ h => h) rfl rfl rfl rfl ?_
    refine VL.store (L := [64]) (qs := [((tkB 64 left)).map bv]) (ps' := [((tkB 64 left)).map bv]) 1 0 1 rfl rfl rfl (.inl kd79) rfl rfl (arr_len (tkB_length _ _)) (ok1_bytes _) rfl rfl ?_
    refine VL.turn (G' := Own _ (blk g2 79 [64] [((tkB 64 left)).map bv] :: blk g1 79 [64] [((tkB 64 left)).map bv] :: tch g false (left.drop 1) :: H)) (fun _ h => h) ?_
    refine VL.nil ?_
    refine VX.next ?_
    refine VC.ret ?_
    refine VX.ret_cell1 (cs := (tkB 64 left).map bv) 1 rfl rfl (by rw [List.length_map, tkB_length]; exact kd79) (fun _ h => h) rfl rfl (fun we hw => ?_)
    exact ⟨rfl, hw.drop.drop.sub (fun _ hs => by repeat (first | exact hs | apply List.mem_cons_of_mem))⟩

theorem num_T {S : List Snap} {H : List Chunk} {w : World} {g : Nat} {z : Bool} {left : List (List UInt8)} {i : Nat} (hi : H[i]? = some (tch g z left)) (ho : Own S H w) : Calls Try.prog 141 #[.pointer (some ⟨g, 0, none⟩)] w (Ret fun v w' => v = .int .i64 (refN (nextP left) : Nat) ∧ Own S (H.set i (tch g false (left.drop 1))) w') :=
  calls_mono (num_t (ho.front hi)) fun v w' ⟨e, h⟩ => ⟨e, h.back hi⟩
theorem key_T {S : List Snap} {H : List Chunk} {w : World} {g : Nat} {z : Bool} {left : List (List UInt8)} {i : Nat} (hi : H[i]? = some (tch g z left)) (ho : Own S H w) : Calls Try.prog 150 #[.pointer (some ⟨g, 0, none⟩)] w (Ret fun v w' => v = .agg ((tkB 32 left).map bv).toArray ∧ Own S (H.set i (tch g false (left.drop 1))) w') :=
  calls_mono (key_t (ho.front hi)) fun v w' ⟨e, h⟩ => ⟨e, h.back hi⟩
theorem sig_T {S : List Snap} {H : List Chunk} {w : World} {g : Nat} {z : Bool} {left : List (List UInt8)} {i : Nat} (hi : H[i]? = some (tch g z left)) (ho : Own S H w) : Calls Try.prog 144 #[.pointer (some ⟨g, 0, none⟩)] w (Ret fun v w' => v = .agg ((tkB 64 left).map bv).toArray ∧ Own S (H.set i (tch g false (left.drop 1))) w') :=
  calls_mono (sig_t (ho.front hi)) fun v w' ⟨e, h⟩ => ⟨e, h.back hi⟩
theorem open_T {S : List Snap} {H : List Chunk} {w : World} (ho : Own S H w) {p : Option Addr} {l : List UInt8} {c : Nat} (hA : Bytes (keys H) w p l c) : Calls Try.prog 140 #[.slice p l.length c] w (Ret fun v w' => ∃ g, v = .tuple #[.pointer (some ⟨g, 0, none⟩), .bool (decide (openP l ≠ []))] ∧ Own S (tch g true (openP l) :: H) w') := by
  refine enter (G := Own (⟨w, keys H⟩ :: S) H) ho.keep Try.func140 rfl Try.ntmps140 rfl ?_
  refine VC.seq ?_
  refine VC.region ?_
  refine VL.assign rfl ?_
  refine VL.assign rfl ?_
  refine VL.nil ?_
  refine VX.next ?_
  refine VC.seq ?_
  refine VC.region ?_
  refine VL.move rfl ?_
  refine VL.call Try.func34 rfl (by decide) rfl (fun w' hw => refSplit_any hw (hA.now (s := ⟨w, _⟩) Mono.byte hw (by repeat (first | exact List.mem_cons_self .. | apply List.mem_cons_of_mem)))) (fun v => ?_)
  refine VL.at (fun w1 h1w => ?_)
  obtain ⟨hO5, p2, c3, rfl, hA4⟩ := h1w
  refine VL.toOwn hO5 ?_
  refine VL.move rfl ?_
  refine VL.extract rfl rfl ?_
  refine VL.extract rfl rfl ?_
  refine VL.assign rfl ?_
  refine VL.assign rfl ?_
  refine VL.nil ?_
  refine VX.next ?_
  refine VC.seq ?_
  refine VC.region ?_
  refine VL.move rfl ?_
  refine VL.build (zs := [[.slice none 0 0], [.int .i64 0]]) [(0, [.slice p2 (splitB l).2.length c3]), (1, [.int .i64 0])] plan216 rfl ⟨⟨rfl, ⟨_, rfl, rfl⟩, rfl⟩, ⟨rfl, ⟨_, rfl, rfl⟩, rfl⟩, trivial⟩ rfl ?_
  refine VL.box (L := [1, 1]) (ps := [[.slice p2 (splitB l).2.length c3], [.int .i64 0]]) rfl rfl rfl (fun g => ?_)
  refine VL.turn (G' := Own _ (tch g true (openP l) :: H)) (fun w' hw => shutTk (z := true) (n := 0) hw (Nat.zero_le _) (fun _ => rfl) (hA4.now (s := ⟨w1, _⟩) (Mono.slice Mono.byte) hw (by repeat (first | exact List.mem_cons_self .. | apply List.mem_cons_of_mem)))) ?_
  refine VL.move rfl ?_
  refine VL.eql rfl rfl ?_
  refine VL.case (fun h4 => ?_) (fun h4 => ?_)
  · refine VL.move rfl ?_
    refine VL.go rfl rfl rfl ?_
    refine VL.move rfl ?_
    refine VL.go rfl rfl rfl ?_
    refine VL.len Try.underlying31 rfl rfl ?_
    refine VL.go rfl rfl rfl ?_
    refine VL.gtr rfl rfl ?_
    refine VL.case (fun h8 => ?_) (fun h8 => ?_)
    · refine VL.pick_t rfl rfl ?_
      refine VL.assign rfl ?_
      refine VL.assign rfl ?_
      refine VL.nil ?_
      refine VX.next ?_
      refine VC.ret ?_
      refine VX.ret2 rfl rfl rfl (fun we hw => ?_)
      have he : openP l ≠ [] := List.ne_nil_of_length_pos (show 0 < (splitB l).2.length by omega)
      exact ⟨_, by rw [decide_eq_true he], hw.sub (fun _ hs => by repeat (first | exact hs | apply List.mem_cons_of_mem))⟩
    · refine VL.pick_t rfl rfl ?_
      refine VL.assign rfl ?_
      refine VL.assign rfl ?_
      refine VL.nil ?_
      refine VX.next ?_
      refine VC.ret ?_
      refine VX.ret2 rfl rfl rfl (fun we hw => ?_)
      have he : openP l = [] := List.eq_nil_of_length_eq_zero (show (splitB l).2.length = 0 by omega)
      exact ⟨_, by rw [he]; rfl, hw.sub (fun _ hs => by repeat (first | exact hs | apply List.mem_cons_of_mem))⟩
  · refine VL.move rfl ?_
    refine VL.pass rfl rfl rfl rfl rfl ?_
    refine VL.pass rfl rfl rfl rfl rfl ?_
    refine VL.pass rfl rfl rfl rfl rfl ?_
    refine VL.pick_f rfl rfl ?_
    refine VL.assign rfl ?_
    refine VL.assign rfl ?_
    refine VL.nil ?_
    refine VX.next ?_
    refine VC.ret ?_
    refine VX.ret2 rfl rfl rfl (fun we hw => ?_)
    have he : openP l = [] := split_err l (by omega)
    exact ⟨_, by rw [he]; rfl, hw.sub (fun _ hs => by repeat (first | exact hs | apply List.mem_cons_of_mem))⟩

end Go.Proofs.Ytcfecmoagfgnaaa

/- The reference: what bytes are read as: bundles, letters, objects. -/
namespace Go.Proofs.Ytcfecmoagfgnaaa
open Go.Vc Go.Pl

theorem wrapT_u8 (p : List UInt8) : Value.int .u8 (IntKind.u8.wrap ((refN p : Nat) : Int)) = .int .u8 ((refN p % 256 ^ 1 : Nat) : Int) := by
  congr 1
theorem wrapT_u32 (p : List UInt8) : Value.int .u32 (IntKind.u32.wrap ((refN p : Nat) : Int)) = .int .u32 ((refN p % 256 ^ 4 : Nat) : Int) := by
  congr 1
theorem some_of {α : Type} {o : Option α} {d l : α} (h : o.isSome = true) (e : o.getD d = l) : o = some l := by
  cases o with
  | none => cases h
  | some x => rw [← e]; rfl
theorem not_some {α : Type} {o : Option α} {l : α} (h : o.isSome = false) : ¬ o = some l := by
  intro e; rw [e] at h; cases h
theorem not_getD {α : Type} {o : Option α} {d l : α} (e : ¬ o.getD d = l) : ¬ o = some l := by
  intro h; rw [h] at e; exact e rfl
theorem object_no {l : List UInt8} {vs : List Vouch} (hv : objectV' (openP l) = vs ++ ([] : List (List UInt8)).map vouchT') (h : ¬ openP l ≠ [] ∨ ¬ objectO (objectT' (openP l) vs) = some l) : objectR l = none := by
  rcases h with h | h
  · cases e : objectR l with
    | none => rfl
    | some y => exact absurd (object_open e) h
  · rw [List.map_nil, List.append_nil] at hv
    rw [object_rd, hv, if_neg h]
theorem object_yes {l : List UInt8} {vs : List Vouch} (hv : objectV' (openP l) = vs ++ ([] : List (List UInt8)).map vouchT') (h : objectO (objectT' (openP l) vs) = some l) : objectR l = some (objectT' (openP l) vs) := by
  rw [List.map_nil, List.append_nil] at hv
  rw [object_rd, hv, if_pos h]
theorem openP_len (l : List UInt8) : (openP l).length ≤ 64 := by
  by_cases h : openP l = []
  · rw [h]; decide
  · exact (join_open h).1.1
theorem vouch_ne {p : List UInt8} (h : 0 < p.length) : vouchT' p = ⟨(p.headD 0).toNat, padB 64 (p.drop 1)⟩ := if_neg (fun e => by rw [e] at h; exact absurd h (by decide))
theorem vouch_nil {p : List UInt8} (h : ¬ 0 < p.length) : vouchT' p = vouch0 := if_pos (List.eq_nil_of_length_eq_zero (by omega))
theorem objectV_step {l : List UInt8} {vs : List Vouch} {p : List UInt8} {r : List (List UInt8)} (h : objectV' (openP l) = vs ++ (p :: r).map vouchT') : objectV' (openP l) = (vs ++ [vouchT' p]) ++ r.map vouchT' := by
  rw [h, List.map_cons, List.append_assoc]; rfl

theorem readObject_w {S : List Snap} {H : List Chunk} {w : World} (ho : Own S H w) {p : Option Addr} {l : List UInt8} {c : Nat} (hA : Bytes (keys H) w p l c) : Calls Try.prog 96 #[.slice p l.length c] w (Ret fun v w' => ∃ q d, v = .tuple #[.agg (cat (objectV ((objectR l).getD object0) q d)).toArray, .bool (objectR l).isSome] ∧ Own S H w' ∧ Arr 65 vouchR (keys H) w' q ((objectR l).getD object0).vouches d) := by
  refine enter (G := Own (⟨w, keys H⟩ :: S) H) ho.keep Try.func96 rfl Try.ntmps96 rfl ?_
  refine VC.seq ?_
  refine VC.region ?_
  refine VL.alloc (L := objectL) (ps := (objectV (object0) none 0)) zero85 rfl rfl (fun g1 => ?_)
  refine VL.assign rfl ?_
  refine VL.nil ?_
  refine VX.next ?_
  refine VC.seq ?_
  refine VC.region ?_
  refine VL.move rfl ?_
  refine VL.call Try.func140 rfl (by decide) rfl (fun w' hw => open_T hw (hA.now (s := ⟨w, _⟩) Mono.byte hw (by repeat (first | exact List.mem_cons_self .. | apply List.mem_cons_of_mem)))) (fun v => ?_)
  refine VL.ex fun g2 => VL.fact fun e3 => ?_
  subst e3
  refine VL.move rfl ?_
  refine VL.extract rfl rfl ?_
  refine VL.extract rfl rfl ?_
  refine VL.assign rfl ?_
  refine VL.assign rfl ?_
  refine VL.nil ?_
  refine VX.next ?_
  refine VC.seq ?_
  refine VC.region ?_
  refine VL.move rfl ?_
  refine VL.call Try.func141 rfl (by decide) rfl (fun w' hw => num_T (i := 0) rfl hw) (fun v => ?_)
  refine VL.fact fun e4 => ?_
  subst e4
  refine VL.turn (G' := Own _ (tch g2 false ((openP l).drop 1) :: blk g1 85 objectL (objectV (object0) none 0) :: H)) (fun _ h => h) ?_
  refine VL.convw (by rw [Try.underlying3]; rfl) Try.underlying5 rfl ?_
  refine VL.newv (v' := .int .u8 (tkN 1 (openP l) : Nat)) (wrapT_u8 _) ?_
  refine VL.move rfl ?_
  refine VL.call Try.func141 rfl (by decide) rfl (fun w' hw => num_T (i := 0) rfl hw) (fun v => ?_)
  refine VL.fact fun e5 => ?_
  subst e5
  refine VL.turn (G' := Own _ (tch g2 false (((openP l).drop 1).drop 1) :: blk g1 85 objectL (objectV (object0) none 0) :: H)) (fun _ h => h) ?_
  refine VL.convw (by rw [Try.underlying3]; rfl) Try.underlying5 rfl ?_
  refine VL.newv (v' := .int .u8 (tkN 1 ((openP l).drop 1) : Nat)) (wrapT_u8 _) ?_
  refine VL.move rfl ?_
  refine VL.call Try.func150 rfl (by decide) rfl (fun w' hw => key_T (i := 0) rfl hw) (fun v => ?_)
  refine VL.fact fun e6 => ?_
  subst e6
  refine VL.turn (G' := Own _ (tch g2 false ((((openP l).drop 1).drop 1).drop 1) :: blk g1 85 objectL (objectV (object0) none 0) :: H)) (fun _ h => h) ?_
  refine VL.move rfl ?_
  refine VL.call Try.func141 rfl (by decide) rfl (fun w' hw => num_T (i := 0) rfl hw) (fun v => ?_)
  refine VL.fact fun e7 => ?_
  subst e7
  refine VL.turn (G' := Own _ (tch g2 false (((((openP l).drop 1).drop 1).drop 1).drop 1) :: blk g1 85 objectL (objectV (object0) none 0) :: H)) (fun _ h => h) ?_
  refine VL.convw (by rw [Try.underlying3]; rfl) Try.underlying48 rfl ?_
  refine VL.newv (v' := .int .u32 (tkN 4 ((((openP l).drop 1).drop 1).drop 1) : Nat)) (wrapT_u32 _) ?_
  refine VL.move rfl ?_
  refine VL.call Try.func141 rfl (by decide) rfl (fun w' hw => num_T (i := 0) rfl hw) (fun v => ?_)
  refine VL.fact fun e8 => ?_
  subst e8
  refine VL.turn (G' := Own _ (tch g2 false ((((((openP l).drop 1).drop 1).drop 1).drop 1).drop 1) :: blk g1 85 objectL (objectV (object0) none 0) :: H)) (fun _ h => h) ?_
  refine VL.convw (by rw [Try.underlying3]; rfl) Try.underlying48 rfl ?_
  refine VL.newv (v' := .int .u32 (tkN 4 (((((openP l).drop 1).drop 1).drop 1).drop 1) : Nat)) (wrapT_u32 _) ?_
  refine VL.move rfl ?_
  refine VL.call Try.func144 rfl (by decide) rfl (fun w' hw => sig_T (i := 0) rfl hw) (fun v => ?_)
  refine VL.fact fun e9 => ?_
  subst e9
  refine VL.turn (G' := Own _ (tch g2 false (((((((openP l).drop 1).drop 1).drop 1).drop 1).drop 1).drop 1) :: blk g1 85 objectL (objectV (object0) none 0) :: H)) (fun _ h => h) ?_
  refine VL.build (zs := objectZ) (L := objectFL) [(0, [.int .u8 (tkN 1 (openP l))]), (1, [.int .u8 (tkN 1 ((openP l).drop 1))]), (2, (tkB 32 (((openP l).drop 1).drop 1)).map bv), (3, [.int .u32 (tkN 4 ((((openP l).drop 1).drop 1).drop 1))]), (4, [.int .u32 (tkN 4 (((((openP l).drop 1).drop 1).drop 1).drop 1))]), (5, (tkB 64 ((((((openP l).drop 1).drop 1).drop 1).drop 1).drop 1)).map bv)] plan85 rfl ⟨⟨rfl, ⟨_, rfl, rfl⟩, rfl⟩, ⟨⟨rfl, ⟨_, rfl, rfl⟩, rfl⟩, ⟨⟨rfl, ⟨_, rfl, rfl⟩, (arr_q (tkB_length _ _))⟩, ⟨⟨rfl, ⟨_, rfl, rfl⟩, rfl⟩, ⟨⟨rfl, ⟨_, rfl, rfl⟩, rfl⟩, ⟨⟨rfl, ⟨_, rfl, rfl⟩, (arr_q (tkB_length _ _))⟩, trivial⟩⟩⟩⟩⟩⟩ rfl ?_
  refine VL.newv (v' := .agg (cat (objectV ((objectT' (openP l) [])) none 0)).toArray) rfl ?_
  refine VL.alloc (L := objectL) (ps := (objectV (object0) none 0)) zero85 rfl rfl (fun g10 => ?_)
  refine VL.store (L := objectL) (qs := (objectV ((objectT' (openP l) [])) none 0)) (ps' := (objectV ((objectT' (openP l) [])) none 0)) 0 0 7 rfl rfl rfl (.inl kd85) rfl rfl (objectV_len (objectT'_ok (openP l) (by simp))) (objectV_ok1 ((objectT' (openP l) [])) none 0) rfl rfl ?_
  refine VL.turn (G' := Own _ (blk g10 85 objectL (objectV ((objectT' (openP l) [])) none 0) :: tch g2 false (((((((openP l).drop 1).drop 1).drop 1).drop 1).drop 1).drop 1) :: blk g1 85 objectL (objectV (object0) none 0) :: H)) (fun _ h => h) ?_
  refine VL.nil ?_
  refine VX.next ?_
  refine VC.seq ?_
  refine VC.block ?_
  refine VC.turn (G' := Own _ (arow 202 65 vouchR Mono_vouch none 0 ([] : List Vouch) :: blk g10 85 objectL (objectV ((objectT' (openP l) [])) none 0) :: tch g2 false (((((((openP l).drop 1).drop 1).drop 1).drop 1).drop 1).drop 1) :: blk g1 85 objectL (objectV (object0) none 0) :: H)) (fun w' h => newRow h) ?_
  have hpl := openP_len l
  refine VC.loop (X := List Vouch × List (List UInt8) × Option Nat × Nat) (fun _ => [(2, .pointer (some ⟨g1, 0, none⟩)), (4, .pointer (some ⟨g2, 0, none⟩)), (6, .pointer (some ⟨g10, 0, none⟩)), (0, .slice p l.length c), (5, .bool (decide (openP l ≠ [])))]) (fun (vs, ps, gv, cv) w' => ((∀ v ∈ vs, v.ok) ∧ objectV' (openP l) = vs ++ ps.map vouchT' ∧ vs.length + ps.length ≤ 64) ∧ Own (⟨w, keys H⟩ :: S) (arow 202 65 vouchR Mono_vouch gv cv vs :: blk g10 85 objectL (objectV ((objectT' (openP l) vs)) (gv.map fun g => (⟨g, 0, none⟩ : Addr)) cv) :: tch g2 false ps :: blk g1 85 objectL (objectV (object0) none 0) :: H) w') (fun (_, ps, _) => ps.length) ([], (((((((openP l).drop 1).drop 1).drop 1).drop 1).drop 1).drop 1), none, 0) ⟨rfl, rfl, rfl, rfl, rfl, trivial⟩ (fun w' h => ⟨⟨by simp, rfl, by simp only [List.length_drop, List.length_nil]; omega⟩, h.sub (fun _ hs => by repeat (first | exact hs | apply List.mem_cons_of_mem))⟩) (fun (vs, ps, gv, cv) => VC.fact fun ⟨hvs, hveq, hvl⟩ => ?_)
  · skip
    refine VC.seq ?_
    refine VC.seq ?_
    refine VC.region ?_
    refine VL.move rfl ?_
    refine VL.call Try.func143 rfl (by decide) rfl (fun w' hw => left_T (i := 2) rfl hw) (fun v => ?_)
    refine VL.fact fun e11 => ?_
    subst e11
    refine VL.gtr rfl rfl ?_
    refine VL.case (fun h3 => ?_) (fun h3 => ?_)
    · obtain ⟨pc, rest, rfl⟩ : ∃ pc rest, ps = pc :: rest := by
        cases ps with
        | nil => exact absurd h3 (by simp)
        | cons a b => exact ⟨a, b, rfl⟩
      refine VL.nil ?_
      refine VX.next ?_
      refine VC.yes rfl ?_
      refine VC.skip ?_
      refine VX.next ?_
      refine VC.block ?_
      refine VC.seq ?_
      refine VC.region ?_
      refine VL.move rfl ?_
      refine VL.call Try.func142 rfl (by decide) rfl (fun w' hw => next_T (i := 2) rfl hw) (fun v => ?_)
      refine VL.at (fun w12 h1w => ?_)
      obtain ⟨p13, c14, rfl, hO16, hA15⟩ := h1w
      replace hO16 : Own _ (arow 202 65 vouchR Mono_vouch gv cv vs :: blk g10 85 objectL (objectV ((objectT' (openP l) vs)) (gv.map fun g => (⟨g, 0, none⟩ : Addr)) cv) :: tch g2 false rest :: blk g1 85 objectL (objectV (object0) none 0) :: H) w12 := hO16
      replace hA15 : Bytes (keys (arow 202 65 vouchR Mono_vouch gv cv vs :: blk g10 85 objectL (objectV ((objectT' (openP l) vs)) (gv.map fun g => (⟨g, 0, none⟩ : Addr)) cv) :: tch g2 false rest :: blk g1 85 objectL (objectV (object0) none 0) :: H)) w12 p13 pc c14 := hA15
      refine VL.toOwn hO16 ?_
      refine VL.assign rfl ?_
      refine VL.nil ?_
      refine VX.next ?_
      refine VC.seq ?_
      refine VC.region ?_
      refine VL.build0 (cs := cat (vouchV (vouch0))) built202 ?_
      refine VL.alloc (L := vouchL) (ps := (vouchV (vouch0))) zero202 rfl rfl (fun g17 => ?_)
      refine VL.store (L := vouchL) (qs := (vouchV (vouch0))) (ps' := (vouchV (vouch0))) 0 0 2 rfl rfl rfl (.inl kd202) rfl rfl rfl (vouchV_ok1 vouch0) rfl rfl ?_
      refine VL.turn (G' := Own _ (blk g17 202 vouchL (vouchV (vouch0)) :: arow 202 65 vouchR Mono_vouch gv cv vs :: blk g10 85 objectL (objectV ((objectT' (openP l) vs)) (gv.map fun g => (⟨g, 0, none⟩ : Addr)) cv) :: tch g2 false rest :: blk g1 85 objectL (objectV (object0) none 0) :: H)) (fun _ h => h) ?_
      refine VL.nil ?_
      refine VX.next ?_
      refine VC.join (X := Unit) (fun _ => [(2, .pointer (some ⟨g1, 0, none⟩)), (4, .pointer (some ⟨g2, 0, none⟩)), (6, .pointer (some ⟨g10, 0, none⟩)), (8, .pointer (some ⟨g17, 0, none⟩)), (0, .slice p l.length c), (5, .bool (decide (openP l ≠ [])))]) (fun _ => Own (⟨w, keys H⟩ :: S) (blk g17 202 vouchL (vouchV ((vouchT' pc))) :: arow 202 65 vouchR Mono_vouch gv cv vs :: blk g10 85 objectL (objectV ((objectT' (openP l) vs)) (gv.map fun g => (⟨g, 0, none⟩ : Addr)) cv) :: tch g2 false rest :: blk g1 85 objectL (objectV (object0) none 0) :: H)) (fun _ => True) (fun hrest => ?_) (fun _ _ => ?_)
      · skip
        refine VC.seq ?_
        refine VC.region ?_
        refine VL.move rfl ?_
        refine VL.len Try.underlying24 rfl rfl ?_
        refine VL.gtr rfl rfl ?_
        refine VL.case (fun h6 => ?_) (fun h6 => ?_)
        · have hpc : 0 < pc.length := by have h : (0 : Int) < ((pc.length : Nat) : Int) := h6; omega
          refine VL.nil ?_
          refine VX.next ?_
          refine VC.yes rfl ?_
          refine VC.seq ?_
          refine VC.region ?_
          refine VL.move rfl ?_
          refine VL.index (xs := pc) rfl rfl Try.underlying24 sz24 hA15 (by omega) (by omega) ?_
          refine VL.byte (s := ⟨w12, _⟩) rfl kd5 (fun _ h => h) (by repeat (first | exact List.mem_cons_self .. | apply List.mem_cons_of_mem)) hA15 (y := pc.headD 0) (by
            show pc[0]? = _
            cases pc with
            | nil => simp at hpc
            | cons a r => rfl) ?_
          refine VL.fieldAddr rfl fo202_0 rfl ?_
          refine VL.store (L := vouchL) (qs := [[.int .u8 ((pc.headD 0).toNat)]]) (ps' := [[.int .u8 ((pc.headD 0).toNat)], (vouch0.sig).map bv]) 0 0 1 rfl rfl rfl (.inr ⟨kd5, rfl⟩) rfl rfl rfl (by intro u hu; simp [cat] at hu; subst hu; rfl) rfl rfl ?_
          refine VL.turn (G' := Own _ (blk g17 202 vouchL [[.int .u8 ((pc.headD 0).toNat)], (vouch0.sig).map bv] :: arow 202 65 vouchR Mono_vouch gv cv vs :: blk g10 85 objectL (objectV ((objectT' (openP l) vs)) (gv.map fun g => (⟨g, 0, none⟩ : Addr)) cv) :: tch g2 false rest :: blk g1 85 objectL (objectV (object0) none 0) :: H)) (fun _ h => h) ?_
          refine VL.nil ?_
          refine VX.next ?_
          apply VC.anyTA 4 1005 (F := [eqF _, eqF _, eqF _, eqF _]) [⟨[], [8]⟩, ⟨[(46, 0)], []⟩, ⟨[], [7]⟩, ⟨[(48, 2)], []⟩] [(47, 1), (49, 3)] [0, 2, 3, 4, 5, 6, 7, 8, 9, 10, 11, 12, 13, 14, 15, 16, 17, 18, 19, 20, 21, 22, 23, 24, 25, 26, 27, 28, 29, 30, 31, 32, 33, 34, 35, 36, 37, 38, 39, 40, 41, 42, 43, 44, 45, 51, 52, 53, 54, 55, 56, 57, 58, 59, 60, 61, 62, 63, 64, 65, 66, 67, 68, 69, 70, 71, 72, 73, 74, 75] rfl (by kernel_rfl) (by kernel_rfl) rfl rfl (by kernel_rfl) (by kernel_rfl) (by kernel_rfl) rfl ?obs8 ?end8
          case obs8 =>
            refine Obs.cons ?_ ?_
            · refine obS (by kernel_rfl) rfl rfl (fun ph8 w8 hO8 => ?_)
              refine VL.fieldAddr rfl fo202_1 rfl ?_
              exact VL.finS hO8 rfl rfl
            refine Obs.cons ?_ ?_
            · refine obS (by kernel_rfl) rfl rfl (fun ph8 w8 hO8 => ?_)
              rintro _ rfl
              refine VL.sliceArrAt Try.underlying80 (by kernel_rfl) rfl ?_
              exact VL.finS hO8 rfl rfl
            refine Obs.cons ?_ ?_
            · refine obS (by kernel_rfl) rfl rfl (fun ph8 w8 hO8 => ?_)
              refine VL.move rfl ?_
              exact VL.finS hO8 rfl rfl
            refine Obs.cons ?_ ?_
            · refine obS (by kernel_rfl) rfl rfl (fun ph8 w8 hO8 => ?_)
              rintro _ rfl
              refine VL.dropE (l := pc) 1 rfl rfl Try.underlying24 sz24 (by omega) hA15.le ?_
              exact VL.finS hO8 rfl rfl
            exact Obs.nil
          case end8 =>
            intro w8 hO8
            rintro _ rfl _ rfl
            refine VL.toOwn hO8 ?_
            refine VL.copyZ (l := pc.drop 1) (ps' := vouchV (Vouch.mk (pc.headD 0).toNat (padB 64 (pc.drop 1)))) 0 1 rfl Try.underlying24 (by kernel_rfl) rfl rfl rfl rfl rfl rfl (fun _ hw => ⟨_, Arr.now (s := ⟨w12, _⟩) (hA15.drop 1 (Nat.le_trans (by omega) hA15.le)) Mono.byte hw (by repeat (first | exact List.mem_cons_self .. | apply List.mem_cons_of_mem))⟩) rfl rfl (fun _ => ?_)
            refine VL.turn (G' := Own _ (blk g17 202 vouchL (vouchV ((Vouch.mk (pc.headD 0).toNat (padB 64 (pc.drop 1))))) :: arow 202 65 vouchR Mono_vouch gv cv vs :: blk g10 85 objectL (objectV ((objectT' (openP l) vs)) (gv.map fun g => (⟨g, 0, none⟩ : Addr)) cv) :: tch g2 false rest :: blk g1 85 objectL (objectV (object0) none 0) :: H)) (fun _ h => h) ?_
            refine VL.nil ?_
            refine VX.join hrest () trivial ⟨rfl, rfl, rfl, rfl, rfl, rfl, trivial⟩ (fun _ h => ?_)
            rw [vouch_ne hpc]
            exact h.sub (fun _ hs => by repeat (first | exact hs | apply List.mem_cons_of_mem))
        · have hpc : ¬ 0 < pc.length := by have h : ¬ (0 : Int) < ((pc.length : Nat) : Int) := h6; omega
          refine VL.nil ?_
          refine VX.next ?_
          refine VC.no rfl ?_
          refine VC.skip ?_
          refine VX.join hrest () trivial ⟨rfl, rfl, rfl, rfl, rfl, rfl, trivial⟩ (fun _ h => ?_)
          rw [vouch_nil hpc]
          exact h.sub (fun _ hs => by repeat (first | exact hs | apply List.mem_cons_of_mem))
      skip
      have hvs2 : ∀ v ∈ vs ++ [(vouchT' pc)], v.ok := fun v hv => (List.mem_append.1 hv).elim (hvs v) (fun h => by rw [List.mem_singleton] at h; subst h; exact vouchT'_ok pc)
      refine VC.region ?_
      refine VL.fieldAddr rfl fo85_6 rfl ?_
      refine VL.load (v := .slice (gv.map fun g => (⟨g, 0, none⟩ : Addr)) ((objectT' (openP l) vs).vouches).length cv) 2 6 rfl kd83 (fun _ h => h) rfl rfl rfl ?_
      refine VL.loads (cs := cat (vouchV ((vouchT' pc)))) 0 0 2 rfl kd202 (fun _ h => h) rfl rfl rfl rfl ?_
      refine VL.lit el83 rfl rfl rfl (by intro v hv; simp only [List.mem_singleton] at hv; subst hv; show (cat (vouchV (vouchT' pc))).toArray.size = 65; rw [List.size_toArray, cat_size (vouchV_len (vouchT'_ok pc))]; rfl) (by rw [show [Value.agg (cat (vouchV (vouchT' pc))).toArray].flatMap (·.cells.toList) = cat (vouchV (vouchT' pc)) by simp [Value.cells]]; exact vouchV_ok1 _) (fun gl => ?_)
      refine VL.letRow vouchR [(vouchT' pc)] rfl (fun w' hw => one_vouch (vouchT'_ok pc)) (fun wl hOl hAl => ?_)
      refine VL.appends (R := vouchR) (hR := Mono_vouch) (ys := vs) (zs := [(vouchT' pc)]) 1 el83 rfl rfl rfl (fun _ h => h) rfl (fun _ hw => (hAl.now (s := ⟨wl, _⟩) Mono_vouch hw (by repeat (first | exact List.mem_cons_self .. | apply List.mem_cons_of_mem)))) (fun _ _ _ _ h => by obtain ⟨_, rfl⟩ := h; exact vouchV_ok1 _) (by simp only [List.length_cons, List.length_nil] at hvl ⊢; omega) (fun gv2 cv2 => ?_) (by simp only [List.length_cons, List.length_nil] at hvl ⊢; omega)
      refine VL.turn (G' := Own _ (blk g17 202 vouchL (vouchV ((vouchT' pc))) :: arow 202 65 vouchR Mono_vouch gv2 cv2 (vs ++ [(vouchT' pc)]) :: blk g10 85 objectL (objectV ((objectT' (openP l) vs)) (gv.map fun g => (⟨g, 0, none⟩ : Addr)) cv) :: tch g2 false rest :: blk g1 85 objectL (objectV (object0) none 0) :: H)) (fun _ h => h) ?_
      refine VL.fieldAddr rfl fo85_6 rfl ?_
      refine VL.store (L := objectL) (qs := [[rowV gv2 (vs ++ [(vouchT' pc)]).length cv2]]) (ps' := (objectV ((objectT' (openP l) (vs ++ [(vouchT' pc)]))) (gv2.map fun g => (⟨g, 0, none⟩ : Addr)) cv2)) 2 6 1 rfl rfl rfl (.inr ⟨kd83, rfl⟩) rfl rfl rfl (by intro u hu; simp [cat] at hu; subst hu; rfl) rfl rfl ?_
      refine VL.turn (G' := Own _ (blk g17 202 vouchL (vouchV ((vouchT' pc))) :: arow 202 65 vouchR Mono_vouch gv2 cv2 (vs ++ [(vouchT' pc)]) :: blk g10 85 objectL (objectV ((objectT' (openP l) (vs ++ [(vouchT' pc)]))) (gv2.map fun g => (⟨g, 0, none⟩ : Addr)) cv2) :: tch g2 false rest :: blk g1 85 objectL (objectV (object0) none 0) :: H)) (fun _ h => h) ?_
      refine VL.nil ?_
      refine VX.block_normal ?_
      refine VX.round (vs ++ [(vouchT' pc)], rest, gv2, cv2) ⟨rfl, rfl, rfl, rfl, rfl, trivial⟩ (fun w' h => ⟨⟨hvs2, objectV_step hveq, by simp only [List.length_append, List.length_cons, List.length_nil] at hvl ⊢; omega⟩, (h.drop).sub (fun _ hs => by repeat (first | exact hs | apply List.mem_cons_of_mem))⟩) (by show rest.length < (pc :: rest).length; simp)
    · obtain rfl : ps = [] := List.eq_nil_of_length_eq_zero (by omega)
      refine VL.nil ?_
      refine VX.next ?_
      refine VC.no rfl ?_
      refine VC.exit ?_
      refine VX.then_exit ?_
      refine VX.then_exit ?_
      refine VX.block_here ?_
      refine VX.next ?_
      refine VC.seq ?_
      refine VC.letArr (fun wr hOr hAr => ?_)
      refine VC.region ?_
      refine VL.loads (cs := cat (objectV ((objectT' (openP l) vs)) (gv.map fun g => (⟨g, 0, none⟩ : Addr)) cv)) 0 0 7 rfl kd85 (fun _ h => h) rfl rfl rfl rfl ?_
      refine VL.call Try.func66 rfl (by decide) rfl (fun w' hw => refObject_w hw (x := (objectT' (openP l) vs)) (objectT'_ok (openP l) hvs) (hAr.now (s := ⟨wr, _⟩) Mono_vouch hw (by repeat (first | exact List.mem_cons_self .. | apply List.mem_cons_of_mem)))) (fun v => ?_)
      refine VL.at (fun w18 h1w => ?_)
      obtain ⟨p19, c20, rfl, hO22, hA21⟩ := h1w
      refine VL.toOwn hO22 ?_
      refine VL.move rfl ?_
      refine VL.extract rfl rfl ?_
      refine VL.extract rfl rfl ?_
      refine VL.assign rfl ?_
      refine VL.assign rfl ?_
      refine VL.nil ?_
      refine VX.next ?_
      refine VC.seq ?_
      refine VC.seq ?_
      refine VC.region ?_
      refine VL.move rfl ?_
      refine VL.case (fun ho => ?_) (fun ho => ?_)
      · refine VL.not rfl ?_
        refine VL.move rfl ?_
        refine VL.go rfl rfl rfl ?_
        refine VL.move rfl ?_
        cases hs : (objectO (objectT' (openP l) vs)).isSome
        · refine VL.go rfl rfl rfl ?_
          refine VL.not rfl ?_
          refine VL.pick_f rfl rfl ?_
          refine VL.move rfl ?_
          refine VL.pass rfl rfl rfl rfl rfl ?_
          refine VL.pass rfl rfl rfl rfl rfl ?_
          refine VL.pass rfl rfl rfl rfl rfl ?_
          refine VL.pass rfl rfl rfl rfl rfl ?_
          refine VL.pick_t rfl rfl ?_
          refine VL.nil ?_
          refine VX.next ?_
          refine VC.yes rfl ?_
          refine VC.seq ?_
          refine VC.region ?_
          refine VL.build0 (cs := cat (objectV (object0) none 0)) built85 ?_
          refine VL.store (L := objectL) (qs := (objectV (object0) none 0)) (ps' := (objectV (object0) none 0)) 2 0 7 rfl rfl rfl (.inl kd85) rfl rfl rfl (objectV_ok1 object0 none 0) rfl rfl ?_
          refine VL.turn (G' := Own _ (blk g10 85 objectL (objectV ((objectT' (openP l) vs)) (gv.map fun g => (⟨g, 0, none⟩ : Addr)) cv) :: tch g2 false ([] : List (List UInt8)) :: blk g1 85 objectL (objectV (object0) none 0) :: H)) (fun _ h => h) ?_
          refine VL.assign rfl ?_
          refine VL.nil ?_
          refine VX.next ?_
          refine VC.ret ?_
          refine VX.then_ret ?_
          refine VX.ret_cell (cs := cat (objectV (object0) none 0)) 2 rfl rfl rfl kd85 (fun _ h => h) rfl rfl (fun we hw => ?_)
          have e1 := object_no hveq (.inr (not_some hs))
          exact ⟨none, 0, by rw [e1]; rfl, hw.drop.drop.drop.sub (fun _ hs => by repeat (first | exact hs | apply List.mem_cons_of_mem)), by rw [e1]; exact Arr.none⟩
        · refine VL.go rfl rfl rfl ?_
          refine VL.not rfl ?_
          refine VL.pick_f rfl rfl ?_
          refine VL.move rfl ?_
          refine VL.go rfl rfl rfl ?_
          refine VL.move rfl ?_
          refine VL.go rfl rfl rfl ?_
          refine VL.move rfl ?_
          refine VL.go rfl rfl rfl ?_
          refine VL.call Try.func27 rfl (by decide) rfl (fun w' hw => bytes_B hw (hA21.now (s := ⟨w18, _⟩) Mono.byte hw (by repeat (first | exact List.mem_cons_self .. | apply List.mem_cons_of_mem))) (hA.now (s := ⟨w, _⟩) Mono.byte hw (by repeat (first | exact List.mem_cons_self .. | apply List.mem_cons_of_mem)))) (fun v => ?_)
          refine VL.ex fun b => VL.fact fun e => VL.fact fun h11_9 => ?_
          subst e
          cases b
          · have h11_9 := mt h11_9.2 (by decide)
            refine VL.go rfl rfl rfl ?_
            refine VL.not rfl ?_
            refine VL.pick_f rfl rfl ?_
            refine VL.nil ?_
            refine VX.next ?_
            refine VC.yes rfl ?_
            refine VC.seq ?_
            refine VC.region ?_
            refine VL.build0 (cs := cat (objectV (object0) none 0)) built85 ?_
            refine VL.store (L := objectL) (qs := (objectV (object0) none 0)) (ps' := (objectV (object0) none 0)) 2 0 7 rfl rfl rfl (.inl kd85) rfl rfl rfl (objectV_ok1 object0 none 0) rfl rfl ?_
            refine VL.turn (G' := Own _ (blk g10 85 objectL (objectV ((objectT' (openP l) vs)) (gv.map fun g => (⟨g, 0, none⟩ : Addr)) cv) :: tch g2 false ([] : List (List UInt8)) :: blk g1 85 objectL (objectV (object0) none 0) :: H)) (fun _ h => h) ?_
            refine VL.assign rfl ?_
            refine VL.nil ?_
            refine VX.next ?_
            refine VC.ret ?_
            refine VX.then_ret ?_
            refine VX.ret_cell (cs := cat (objectV (object0) none 0)) 2 rfl rfl rfl kd85 (fun _ h => h) rfl rfl (fun we hw => ?_)
            have e1 := object_no hveq (.inr (not_getD h11_9))
            exact ⟨none, 0, by rw [e1]; rfl, hw.drop.drop.drop.sub (fun _ hs => by repeat (first | exact hs | apply List.mem_cons_of_mem)), by rw [e1]; exact Arr.none⟩
          · have h11_9 := h11_9.1 rfl
            refine VL.go rfl rfl rfl ?_
            refine VL.not rfl ?_
            refine VL.pick_f rfl rfl ?_
            refine VL.nil ?_
            refine VX.next ?_
            refine VC.no rfl ?_
            refine VC.skip ?_
            refine VX.next ?_
            refine VC.seq ?_
            refine VC.region ?_
            refine VL.loads (cs := cat (objectV ((objectT' (openP l) vs)) (gv.map fun g => (⟨g, 0, none⟩ : Addr)) cv)) 0 0 7 rfl kd85 (fun _ h => h) rfl rfl rfl rfl ?_
            refine VL.store (L := objectL) (qs := (objectV ((objectT' (openP l) vs)) (gv.map fun g => (⟨g, 0, none⟩ : Addr)) cv)) (ps' := (objectV ((objectT' (openP l) vs)) (gv.map fun g => (⟨g, 0, none⟩ : Addr)) cv)) 2 0 7 rfl rfl rfl (.inl kd85) rfl rfl (objectV_len (objectT'_ok (openP l) hvs)) (objectV_ok1 ((objectT' (openP l) vs)) (gv.map fun g => (⟨g, 0, none⟩ : Addr)) cv) rfl rfl ?_
            refine VL.turn (G' := Own _ (blk g10 85 objectL (objectV ((objectT' (openP l) vs)) (gv.map fun g => (⟨g, 0, none⟩ : Addr)) cv) :: tch g2 false ([] : List (List UInt8)) :: blk g1 85 objectL (objectV ((objectT' (openP l) vs)) (gv.map fun g => (⟨g, 0, none⟩ : Addr)) cv) :: H)) (fun _ h => h) ?_
            refine VL.assign rfl ?_
            refine VL.nil ?_
            refine VX.next ?_
            refine VC.ret ?_
            refine VX.ret_cell (cs := cat (objectV ((objectT' (openP l) vs)) (gv.map fun g => (⟨g, 0, none⟩ : Addr)) cv)) 2 rfl rfl rfl (by rw [cat_size (objectV_len (objectT'_ok (openP l) hvs))]; exact kd85) (fun _ h => h) rfl rfl (fun we hw => ?_)
            have e1 := object_yes hveq (some_of hs h11_9)
            exact ⟨_, _, by rw [e1]; rfl, hw.drop.drop.drop.sub (fun _ hs => by repeat (first | exact hs | apply List.mem_cons_of_mem)), by rw [e1]; exact hAr.now (s := ⟨wr, _⟩) Mono_vouch hw.drop.drop.drop (by repeat (first | exact List.mem_cons_self .. | apply List.mem_cons_of_mem))⟩
      · refine VL.not rfl ?_
        refine VL.move rfl ?_
        refine VL.pass rfl rfl rfl rfl rfl ?_
        refine VL.pass rfl rfl rfl rfl rfl ?_
        refine VL.pick_t rfl rfl ?_
        refine VL.move rfl ?_
        refine VL.pass rfl rfl rfl rfl rfl ?_
        refine VL.pass rfl rfl rfl rfl rfl ?_
        refine VL.pass rfl rfl rfl rfl rfl ?_
        refine VL.pass rfl rfl rfl rfl rfl ?_
        refine VL.pick_t rfl rfl ?_
        refine VL.nil ?_
        refine VX.next ?_
        refine VC.yes rfl ?_
        refine VC.seq ?_
        refine VC.region ?_
        refine VL.build0 (cs := cat (objectV (object0) none 0)) built85 ?_
        refine VL.store (L := objectL) (qs := (objectV (object0) none 0)) (ps' := (objectV (object0) none 0)) 2 0 7 rfl rfl rfl (.inl kd85) rfl rfl rfl (objectV_ok1 object0 none 0) rfl rfl ?_
        refine VL.turn (G' := Own _ (blk g10 85 objectL (objectV ((objectT' (openP l) vs)) (gv.map fun g => (⟨g, 0, none⟩ : Addr)) cv) :: tch g2 false ([] : List (List UInt8)) :: blk g1 85 objectL (objectV (object0) none 0) :: H)) (fun _ h => h) ?_
        refine VL.assign rfl ?_
        refine VL.nil ?_
        refine VX.next ?_
        refine VC.ret ?_
        refine VX.then_ret ?_
        refine VX.ret_cell (cs := cat (objectV (object0) none 0)) 2 rfl rfl rfl kd85 (fun _ h => h) rfl rfl (fun we hw => ?_)
        have e1 := object_no hveq (.inl ho)
        exact ⟨none, 0, by rw [e1]; rfl, hw.drop.drop.drop.sub (fun _ hs => by repeat (first | exact hs | apply List.mem_cons_of_mem)), by rw [e1]; exact Arr.none⟩

end Go.Proofs.Ytcfecmoagfgnaaa

/- wire: bytes of packets. -/
namespace Go.Proofs.Ytcfecmoagfgnaaa
open Go.Vc Go.Pl

theorem chain_next {xs : List Object} {i : Nat} (h : i < xs.length) : chainP (xs.take i) ++ [(objectO (xs[i]'h)).getD []] = chainP (xs.take (i + 1)) := by
  unfold chainP; rw [List.take_succ_eq_append_getElem h, List.map_append]; rfl
theorem ochain_next {xs : List Object} {i : Nat} (h : i < xs.length) (b : Bool) : ((b || !((xs.take i).all fun x => (objectO x).isSome)) || !(objectO (xs[i]'h)).isSome) = (b || !((xs.take (i + 1)).all fun x => (objectO x).isSome)) := by
  rw [List.take_succ_eq_append_getElem h, List.all_append]
  simp only [List.all_cons, List.all_nil, Bool.and_true]
  cases b <;> cases ((xs.take i).all fun x => (objectO x).isSome) <;> rfl
theorem chainP_length (xs : List Object) : (chainP xs).length = xs.length := by unfold chainP; rw [List.length_map]
theorem chainO_none {xs : List Object} (h : ¬ xs.length ≤ 4) : none = chainO xs := by
  unfold chainO chainGood; rw [decide_eq_false h, Bool.false_and]; exact none_joinO _
theorem chainO_done {xs : List Object} {i : Nat} (h0 : xs.length ≤ 4) (hie : i = xs.length) : joinO (chainP (xs.take i)) (!(false || !((xs.take i).all fun x => (objectO x).isSome))) = chainO xs := by
  unfold chainO chainGood; rw [hie, List.take_length, decide_eq_true h0, Bool.true_and, Bool.false_or, Bool.not_not]
theorem pktO_none {x : Pkt} (h : kindIn x.kind = false) : none = pktO x := by
  unfold pktO; rw [h, Bool.and_false]; exact none_joinO _
theorem pktO_is {x : Pkt} (h : kindIn x.kind = true) : joinO (pktP x) (!((false || !(chainO x.chain).isSome) || !true)) = pktO x := by
  unfold pktO; rw [h]; cases (chainO x.chain).isSome <;> rfl
theorem chain_w {S : List Snap} {H : List Chunk} {w : World} (ho : Own S H w) {xs : List Object} (hxs : ∀ x ∈ xs, x.ok) {p : Option Addr} {c : Nat} (hX : Arr 101 objectR' (keys H) w p xs c) : Calls Try.prog 139 #[.slice p xs.length c] w (RetO S H (chainO xs)) := by
  have hsm := hX.small
  refine enter (G := Own (⟨w, keys H⟩ :: S) H) ho.keep Try.func139 rfl Try.ntmps139 rfl ?_
  refine VC.seq ?_
  refine VC.region ?_
  refine VL.assign rfl ?_
  refine VL.assign rfl ?_
  refine VL.nil ?_
  refine VX.next ?_
  refine VC.seq ?_
  refine VC.region ?_
  refine VL.build (zs := [[.slice none 0 0], [.bool false]]) [] plan181 rfl trivial rfl ?_
  refine VL.box (L := [1, 1]) (ps := [[rowV none 0 0], [.bool false]]) rfl rfl rfl (fun g1 => ?_)
  refine VL.turn (fun w' hw => Own.newW hw) ?_
  refine VL.assign rfl ?_
  refine VL.nil ?_
  refine VX.next ?_
  refine VC.seq ?_
  refine VC.seq ?_
  refine VC.region ?_
  refine VL.move rfl ?_
  refine VL.len Try.underlying116 rfl rfl ?_
  refine VL.gtr rfl rfl ?_
  refine VL.case (fun h2 => ?_) (fun h2 => ?_)
  · have h2 : ¬ xs.length ≤ 4 := by omega
    refine VL.nil ?_
    refine VX.next ?_
    refine VC.yes rfl ?_
    refine VC.seq ?_
    refine VC.region ?_
    refine VL.assign rfl ?_
    refine VL.assign rfl ?_
    refine VL.nil ?_
    refine VX.next ?_
    refine VC.ret ?_
    refine VX.then_ret ?_
    refine VX.ret2 rfl rfl rfl (fun we hw => ?_)
    exact postO ((chainO_none h2)) ⟨none, 0, rfl, hw.drop.drop.sub (fun _ hs => by repeat (first | exact hs | apply List.mem_cons_of_mem)), Arr.none⟩
  · have h2 : xs.length ≤ 4 := by omega
    refine VL.nil ?_
    refine VX.next ?_
    refine VC.no rfl ?_
    refine VC.skip ?_
    refine VX.next ?_
    refine VC.seq ?_
    refine VC.seq ?_
    refine VC.region ?_
    refine VL.move rfl ?_
    refine VL.len Try.underlying116 rfl rfl ?_
    refine VL.move rfl ?_
    refine VL.nil ?_
    refine VX.next ?_
    refine VC.block ?_
    refine VC.loop (X := Nat × Option Nat × Nat) (fun (i, gq, cq) => [(4, .pointer (some ⟨g1, 0, none⟩)), (12, .slice p xs.length c), (13, .int .i64 xs.length), (14, .int .i64 (i : Int))]) (fun (i, gq, cq) w' => i ≤ xs.length ∧ Own (⟨w, keys H⟩ :: S) (wblk g1 gq cq ((chainP (xs.take i))).length (false || !((xs.take i).all fun x => (objectO x).isSome)) :: brow gq cq ((chainP (xs.take i))) :: H) w') (fun (i, _) => xs.length - i) (0, none, 0) ⟨rfl, rfl, rfl, rfl, trivial⟩ (fun w' h => ⟨Nat.zero_le _, by have e1 : chainP (xs.take 0) = [] := rfl; have e2 : (false || !((xs.take 0).all fun x => (objectO x).isSome)) = false := rfl; rw [e1, e2]; exact h.sub (fun _ hs => by repeat (first | exact hs | apply List.mem_cons_of_mem))⟩) (fun (i, gq, cq) => VC.fact fun hi => ?_)
    · have htk : (chainP (List.take i xs)).length ≤ i := by rw [chainP_length]; exact List.length_take_le _ _
      refine VC.seq ?_
      refine VC.region ?_
      refine VL.lss rfl rfl ?_
      refine VL.case (fun h5 => ?_) (fun h5 => ?_)
      · have hlt : i < xs.length := by omega
        refine VL.nil ?_
        refine VX.next ?_
        refine VC.seq ?_
        refine VC.yes rfl ?_
        refine VC.skip ?_
        refine VX.next ?_
        refine VC.seq ?_
        refine VC.block ?_
        refine VC.seq ?_
        refine VC.region ?_
        refine VL.index (xs := xs) rfl rfl Try.underlying116 sz116 hX (by omega) (by have hi := hlt; omega) ?_
        refine VL.elems (s := ⟨w, _⟩) (m := 101) (i) 0 rfl kd85 (fun _ h => h) (by repeat (first | exact List.mem_cons_self .. | apply List.mem_cons_of_mem)) hX (List.getElem?_eq_getElem hlt) (by simp) (by decide) (fun vs hl hr => ?_)
        obtain ⟨q4, d5, hy3, rfl, hV6⟩ := hr
        refine VL.newv (v' := .agg (cat (objectV (xs[i]'hlt) q4 d5)).toArray) (by rw [List.drop_zero, List.take_of_length_le (by rw [hl]; decide)]) ?_
        refine VL.alloc (L := objectL) (ps := (objectV (object0) none 0)) zero85 rfl rfl (fun g7 => ?_)
        refine VL.store (L := objectL) (qs := (objectV ((xs[i]'hlt)) q4 d5)) (ps' := (objectV ((xs[i]'hlt)) q4 d5)) 0 0 7 rfl rfl rfl (.inl kd85) rfl rfl (objectV_len (hxs _ (List.getElem_mem hlt))) (objectV_ok1 ((xs[i]'hlt)) q4 d5) rfl rfl ?_
        refine VL.turn (G' := Own _ (blk g7 85 objectL (objectV ((xs[i]'hlt)) q4 d5) :: wblk g1 gq cq ((chainP (xs.take i))).length (false || !((xs.take i).all fun x => (objectO x).isSome)) :: brow gq cq ((chainP (xs.take i))) :: H)) (fun _ h => h) ?_
        refine VL.nil ?_
        refine VX.next ?_
        refine VC.turn (G' := Own _ (wblk g1 gq cq ((chainP (xs.take i))).length (false || !((xs.take i).all fun x => (objectO x).isSome)) :: brow gq cq ((chainP (xs.take i))) :: blk g7 85 objectL (objectV ((xs[i]'hlt)) q4 d5) :: H)) (fun w' h => Own.rot3 h) ?_
        refine VC.region ?_
        refine VL.move rfl ?_
        refine VL.loads (cs := cat (objectV ((xs[i]'hlt)) q4 d5)) 2 0 7 rfl kd85 (fun _ h => h) rfl rfl rfl rfl ?_
        refine VL.call Try.func65 rfl (by decide) rfl (fun w' hw => putObject_w hw (x := (xs[i]'hlt)) (hxs _ (List.getElem_mem hlt)) (hV6.now (s := ⟨w, _⟩) Mono_vouch hw (by repeat (first | exact List.mem_cons_self .. | apply List.mem_cons_of_mem)))) (fun v => ?_)
        refine VL.at (fun w8 h1w => ?_)
        obtain ⟨p9, c10, rfl, hO12, hA11⟩ := h1w
        refine VL.toOwn hO12 ?_
        refine VL.extract rfl rfl ?_
        refine VL.extract rfl rfl ?_
        refine VL.call Try.func117 rfl (by decide) rfl (fun w' hw => by have h := piece_w hw (by omega) (hA11.now (s := ⟨w8, _⟩) Mono.byte hw (by repeat (first | exact List.mem_cons_self .. | apply List.mem_cons_of_mem))) (((objectO ((xs[i]'hlt))).isSome)); exact h) (fun v => ?_)
        refine VL.fact fun e15 => ?_
        subst e15
        refine VL.ex fun gp13 => VL.ex fun c14 => ?_
        refine VL.nil ?_
        refine VX.block_normal ?_
        refine VX.next ?_
        refine VC.region ?_
        refine VL.add rfl rfl (by simp only [InR]; omega) ?_
        refine VL.move rfl ?_
        refine VL.nil ?_
        refine VX.round (i + 1, gp13, c14) ⟨rfl, rfl, rfl, rfl, trivial⟩ (fun w' h => ⟨by omega, ?_⟩) (by show xs.length - (i + 1) < xs.length - i; omega)
        rw [← chain_next hlt, ← ochain_next hlt]
        exact (Own.drop3 h).sub (fun _ hs => by repeat (first | exact hs | apply List.mem_cons_of_mem))
      · have hie : i = xs.length := by omega
        refine VL.nil ?_
        refine VX.next ?_
        refine VC.seq ?_
        refine VC.no rfl ?_
        refine VC.exit ?_
        refine VX.then_exit ?_
        refine VX.then_exit ?_
        refine VX.block_here ?_
        refine VX.next ?_
        refine VC.seq ?_
        refine VC.region ?_
        refine VL.move rfl ?_
        refine VL.call Try.func118 rfl (by decide) rfl (fun w' hw => done_O hw) (fun v => ?_)
        refine VL.at (fun w16 h1w => ?_)
        obtain ⟨p17, c18, rfl, hO20, hA19⟩ := h1w
        refine VL.toOwn hO20 ?_
        refine VL.extract rfl rfl ?_
        refine VL.extract rfl rfl ?_
        refine VL.assign rfl ?_
        refine VL.assign rfl ?_
        refine VL.nil ?_
        refine VX.next ?_
        refine VC.ret ?_
        refine VX.ret2 rfl rfl rfl (fun we hw => ?_)
        exact postO ((chainO_done h2 hie)) ⟨p17, c18, rfl, hw.sub (fun _ hs => by repeat (first | exact hs | apply List.mem_cons_of_mem)), (hA19.now (s := ⟨w16, _⟩) Mono.byte hw (by repeat (first | exact List.mem_cons_self .. | apply List.mem_cons_of_mem)))⟩

end Go.Proofs.Ytcfecmoagfgnaaa

/- A region whose order is open, in which a text's bytes are marked. -/
namespace Go.Vc
open Go.Proofs.Ytcfecmoagfgnaaa
section
variable {P : Program} {n : Nat} {Q : Exit → Act → World → Prop} {ops : Array Oper} {S : List Snap} {H : List Chunk}

/-- Memory that nobody owns stays, but for what is marked behind a row. -/
def Marked (K : List Nat) (w w' : World) : Prop :=
  w'.os = w.os ∧ w'.tape = w.tape ∧ w'.output = w.output ∧ w.heap.size ≤ w'.heap.size ∧ ∀ k, k < w.heap.size → k ∉ K → w'.heap[k]? = w.heap[k]? ∨ ∃ cs e fr fr', w.heap[k]? = some (.cells cs e fr) ∧ w'.heap[k]? = some (.cells cs e fr')
theorem Marked.of {K : List Nat} {w w' : World} (h : Snap.ok ⟨w, K⟩ w') : Marked K w w' := ⟨h.os, h.tape, h.output, h.size, fun k a b => .inl (h.block k a b)⟩
theorem Arr.marked {X : Type} {R : Rel X} {sz : Nat} {K : List Nat} {w w' : World} {p : Option Addr} {xs : List X} {c : Nat} (h : Arr sz R K w p xs c) (hm : Marked K w w') (hR : ∀ vs x, R K w vs x → R K w' vs x) : Arr sz R K w' p xs c :=
  ⟨h.le, h.cap, h.nil, fun a ea hc => by
    obtain ⟨h1, h2, h3, cs, el, fr, hg, hx⟩ := h.at_ a ea hc
    obtain ⟨_, _, _, hsz, hb⟩ := hm
    rcases hb a.block h3 h2 with e | ⟨cs', e', fr', fr'', e1, e2⟩
    · exact ⟨h1, h2, by omega, cs, el, fr, by rw [e]; exact hg, fun j x hj => (hx j x hj).elim fun vs ⟨a1, a2, a3⟩ => ⟨vs, a1, hR vs x a2, a3⟩⟩
    · rw [hg] at e1
      cases e1
      exact ⟨h1, h2, by omega, cs, el, fr'', e2, fun j x hj => (hx j x hj).elim fun vs ⟨a1, a2, a3⟩ => ⟨vs, a1, hR vs x a2, a3⟩⟩⟩
def Lasts {K : List Nat} (f : SFact K) : Prop := ∀ v w w', Marked K w w' → f.f v w → f.f v w'
def AllLast {K : List Nat} : List (SFact K) → Prop
  | [] => True
  | f :: r => Lasts f ∧ AllLast r
theorem AllLast.get {K : List Nat} : ∀ {F : List (SFact K)}, AllLast F → ∀ (i : Nat) (f : SFact K), F[i]? = some f → Lasts f
  | [], _, i, f, h => by simp at h
  | g :: r, ⟨h1, h2⟩, i, f, h => by
    cases i with
    | zero => simp at h; subst h; exact h1
    | succ i => exact AllLast.get h2 i f (by simpa using h)

/-- A chunk that says nothing of other memory. -/
def Solid (c : Chunk) : Prop := ∀ K w w', (∀ k ∈ c.ks, w'.heap[k]? = w.heap[k]?) → c.φ K w → c.φ K w'
theorem Own.mark {w w' : World} {g : Nat} (h : Own S H w) (hs : ∀ c ∈ H, Solid c) (hgk : g ∉ keys H) (hn : ∀ s ∈ S, g ∈ s.K ∨ s.w.heap.size ≤ g) (h1 : w'.os = w.os) (h2 : w'.tape = w.tape) (h3 : w'.output = w.output) (h4 : w'.heap.size = w.heap.size) (h5 : ∀ k, k ≠ g → w'.heap[k]? = w.heap[k]?) : Own S H w' := by
  refine ⟨h.nodup, fun k hk => by rw [h4]; exact h.lt k hk, fun c hc => hs c hc _ w w' (fun k hk => h5 k fun e => hgk (by subst e; exact List.mem_flatMap.2 ⟨c, hc, hk⟩)) (h.holds c hc), fun s hsm => ?_⟩
  obtain ⟨a, b⟩ := h.snap s hsm
  refine ⟨⟨h1.trans a.os, h2.trans a.tape, h3.trans a.output, by rw [h4]; exact a.size, fun k hk hk2 => ?_⟩, b⟩
  rw [h5 k ?_]
  · exact a.block k hk hk2
  · rintro rfl
    rcases hn s hsm with e | e
    · exact hk2 e
    · omega
end
end Go.Vc

/- The reference: bytes of packets; one against the other. -/
namespace Go.Proofs.Ytcfecmoagfgnaaa
open Go.Vc Go.Pl

theorem brow0 {S : List Snap} {H : List Chunk} {w : World} (h : Own S H w) : Own S (brow none 0 ([] : List (List UInt8)) :: H) w := Own.arow_nil (Mono.slice Mono.byte) 24 1 h
theorem oall_some {xs : List Object} {i : Nat} (h : i < xs.length) (h1 : ((xs.take i).all fun x => (objectO x).isSome) = true) (h2 : (objectO (xs[i]'h)).isSome = true) : ((xs.take (i + 1)).all fun x => (objectO x).isSome) = true := by
  rw [List.take_succ_eq_append_getElem h, List.all_append, h1]
  simp [h2]
theorem ochain_good {xs : List Object} {i : Nat} (h0 : xs.length ≤ 4) (hie : i = xs.length) (hall : ((xs.take i).all fun x => (objectO x).isSome) = true) : joinO (chainP (xs.take i)) true = chainO xs := by
  rw [hie, List.take_length] at hall ⊢
  have hg : chainGood xs = true := by unfold chainGood; rw [decide_eq_true h0, Bool.true_and]; exact hall
  unfold chainO; rw [hg]
theorem ochain_bad {xs : List Object} {i : Nat} (h : i < xs.length) (h2 : (objectO (xs[i]'h)).isSome = false) : none = chainO xs := by
  have hg : chainGood xs = false := by
    unfold chainGood
    rw [Bool.and_eq_false_iff]
    right
    rw [List.all_eq_false]
    exact ⟨xs[i]'h, List.getElem_mem h, by rw [h2]; decide⟩
  unfold chainO; rw [hg]; exact none_joinO _
theorem pktO_bad {x : Pkt} (h : (chainO x.chain).isSome = false) : none = pktO x := by unfold pktO; rw [h]; exact none_joinO _
theorem pktO_good {x : Pkt} (h : (chainO x.chain).isSome = true) (hk : kindIn x.kind = true) : joinO (pktP x) true = pktO x := by unfold pktO; rw [h, hk]; rfl
theorem pkt_iff {x y : Pkt} : y = x ↔ x.src = y.src ∧ x.dst = y.dst ∧ x.kind = y.kind ∧ x.chain = y.chain ∧ x.body = y.body ∧ x.sig = y.sig := by
  constructor
  · rintro rfl; exact ⟨rfl, rfl, rfl, rfl, rfl, rfl⟩
  · rintro ⟨h1, h2, h3, h4, h5, h6⟩
    cases x; cases y
    simp only at h1 h2 h3 h4 h5 h6
    subst h1 h2 h3 h4 h5 h6; rfl
/-- An object's value, with its slice. -/
def objF {K : List Nat} (y : Object) : SFact K :=
  ⟨fun v w => ∃ q d, v = .agg (cat (objectV y q d)).toArray ∧ Arr 65 vouchR K w q y.vouches d, false,
   fun _ _ w _ hs ⟨q, d, e, h⟩ => ⟨q, d, e, Arr.after (s := ⟨w, K⟩) h Mono_vouch ⟨hs, fun _ hk => .inl hk⟩⟩⟩

theorem refChain_w {S : List Snap} {H : List Chunk} {w : World} (ho : Own S H w) {xs : List Object} (hxs : ∀ x ∈ xs, x.ok) {p : Option Addr} {c : Nat} (hX : Arr 101 objectR' (keys H) w p xs c) : Calls Try.prog 149 #[.slice p xs.length c] w (RetO S H (chainO xs)) := by
  have hsm := hX.small
  refine enter (G := Own (⟨w, keys H⟩ :: S) H) ho.keep Try.func149 rfl Try.ntmps149 rfl ?_
  refine VC.seq ?_
  refine VC.region ?_
  refine VL.assign rfl ?_
  refine VL.assign rfl ?_
  refine VL.nil ?_
  refine VX.next ?_
  refine VC.seq ?_
  refine VC.seq ?_
  refine VC.region ?_
  refine VL.move rfl ?_
  refine VL.len Try.underlying116 rfl rfl ?_
  refine VL.gtr rfl rfl ?_
  refine VL.case (fun h0 => ?_) (fun h0 => ?_)
  · have h0 : ¬ xs.length ≤ 4 := by omega
    refine VL.nil ?_
    refine VX.next ?_
    refine VC.yes rfl ?_
    refine VC.seq ?_
    refine VC.region ?_
    refine VL.assign rfl ?_
    refine VL.assign rfl ?_
    refine VL.nil ?_
    refine VX.next ?_
    refine VC.ret ?_
    refine VX.then_ret ?_
    refine VX.ret2 rfl rfl rfl (fun we hw => ?_)
    exact postO ((chainO_none h0)) ⟨none, 0, rfl, hw.sub (fun _ hs => by repeat (first | exact hs | apply List.mem_cons_of_mem)), Arr.none⟩
  · have h0 : xs.length ≤ 4 := by omega
    refine VL.nil ?_
    refine VX.next ?_
    refine VC.no rfl ?_
    refine VC.skip ?_
    refine VX.next ?_
    refine VC.seq ?_
    refine VC.region ?_
    refine VL.assign rfl ?_
    refine VL.nil ?_
    refine VX.next ?_
    refine VC.seq ?_
    refine VC.seq ?_
    refine VC.region ?_
    refine VL.assign rfl ?_
    refine VL.nil ?_
    refine VX.next ?_
    refine VC.block ?_
    refine VC.turn (G' := Own _ (brow none 0 (([] : List (List UInt8))) :: H)) (fun w' h => brow0 h) ?_
    refine VC.loop (X := Nat × Option Nat × Nat) (fun (i, gq, cq) => [(0, .slice p xs.length c), (4, rowV gq (chainP (xs.take i)).length cq), (5, .int .i64 (i : Int))]) (fun (i, gq, cq) w' => (i ≤ xs.length ∧ ((xs.take i).all fun x => (objectO x).isSome) = true) ∧ Own (⟨w, keys H⟩ :: S) (brow gq cq ((chainP (xs.take i))) :: H) w') (fun (i, _) => xs.length - i) (0, none, 0) ⟨rfl, rfl, rfl, trivial⟩ (fun w' h => ⟨⟨Nat.zero_le _, rfl⟩, by have e1 : chainP (xs.take 0) = [] := rfl; rw [e1]; exact h.sub (fun _ hs => by repeat (first | exact hs | apply List.mem_cons_of_mem))⟩) (fun (i, gq, cq) => VC.fact fun ⟨hi, hall⟩ => ?_)
    · have htk : (chainP (List.take i xs)).length ≤ i := by rw [chainP_length]; exact List.length_take_le _ _
      refine VC.seq ?_
      refine VC.seq ?_
      refine VC.region ?_
      refine VL.move rfl ?_
      refine VL.move rfl ?_
      refine VL.len Try.underlying116 rfl rfl ?_
      refine VL.lss rfl rfl ?_
      refine VL.case (fun h5 => ?_) (fun h5 => ?_)
      · have hlt : i < xs.length := by omega
        refine VL.nil ?_
        refine VX.next ?_
        refine VC.yes rfl ?_
        refine VC.skip ?_
        refine VX.next ?_
        refine VC.seq ?_
        refine VC.block ?_
        refine VC.seq ?_
        refine VC.region ?_
        refine VL.move rfl ?_
        refine VL.move rfl ?_
        refine VL.index (xs := xs) rfl rfl Try.underlying116 sz116 hX (by omega) (by have hi := hlt; omega) ?_
        refine VL.elems (s := ⟨w, _⟩) (m := 101) (i) 0 rfl kd85 (fun _ h => h) (by repeat (first | exact List.mem_cons_self .. | apply List.mem_cons_of_mem)) hX (List.getElem?_eq_getElem hlt) (by simp) (by decide) (fun vs hl hr => ?_)
        obtain ⟨q3, d4, hy2, rfl, hV5⟩ := hr
        refine VL.newv (v' := .agg (cat (objectV (xs[i]'hlt) q3 d4)).toArray) (by rw [List.drop_zero, List.take_of_length_le (by rw [hl]; decide)]) ?_
        refine VL.call Try.func66 rfl (by decide) rfl (fun w' hw => refObject_w hw (x := (xs[i]'hlt)) (hxs _ (List.getElem_mem hlt)) (hV5.now (s := ⟨w, _⟩) Mono_vouch hw (by repeat (first | exact List.mem_cons_self .. | apply List.mem_cons_of_mem)))) (fun v => ?_)
        refine VL.at (fun w6 h1w => ?_)
        obtain ⟨p7, c8, rfl, hO10, hA9⟩ := h1w
        refine VL.toOwn hO10 ?_
        refine VL.move rfl ?_
        refine VL.extract rfl rfl ?_
        refine VL.extract rfl rfl ?_
        refine VL.assign rfl ?_
        refine VL.assign rfl ?_
        refine VL.nil ?_
        refine VX.next ?_
        refine VC.seq ?_
        refine VC.seq ?_
        refine VC.region ?_
        refine VL.move rfl ?_
        cases hs : (objectO (xs[i]'hlt)).isSome
        · refine VL.not rfl ?_
          refine VL.nil ?_
          refine VX.next ?_
          refine VC.yes rfl ?_
          refine VC.seq ?_
          refine VC.region ?_
          refine VL.assign rfl ?_
          refine VL.assign rfl ?_
          refine VL.nil ?_
          refine VX.next ?_
          refine VC.ret ?_
          refine VX.then_ret ?_
          refine VX.block_ret ?_
          refine VX.then_ret ?_
          refine VX.then_ret ?_
          refine VX.block_ret ?_
          refine VX.then_ret ?_
          refine VX.ret2 rfl rfl rfl (fun we hw => ?_)
          exact postO ((ochain_bad hlt hs)) ⟨none, 0, rfl, hw.drop.sub (fun _ hs => by repeat (first | exact hs | apply List.mem_cons_of_mem)), Arr.none⟩
        · refine VL.not rfl ?_
          refine VL.nil ?_
          refine VX.next ?_
          refine VC.no rfl ?_
          refine VC.skip ?_
          refine VX.next ?_
          refine VC.region ?_
          refine VL.move rfl ?_
          refine VL.move rfl ?_
          refine VL.lit el31 rfl rfl rfl (by simp [Value.cells]) (by intro u hu; simp [Value.cells] at hu; rcases hu with rfl <;> rfl) (fun g11 => ?_)
          refine VL.letRowS [((objectO ((xs[i]'hlt))).getD [])] rfl (fun w' hw => ⟨⟨_, _, rfl, (hA9.now (s := ⟨w6, _⟩) Mono.byte hw (by repeat (first | exact List.mem_cons_self .. | apply List.mem_cons_of_mem)))⟩, trivial⟩) (fun w12 hO13 hA14 => ?_)
          refine VL.appends (R := bytesR) (hR := Mono.slice Mono.byte) (ys := (chainP (xs.take i))) (zs := [((objectO ((xs[i]'hlt))).getD [])]) 0 el31 rfl rfl rfl (fun _ h => h) rfl (fun _ hw => (hA14.now (s := ⟨w12, _⟩) (Mono.slice Mono.byte) hw (by repeat (first | exact List.mem_cons_self .. | apply List.mem_cons_of_mem)))) bytesR_ok1 (by simp only [List.length_append, List.length_cons, List.length_nil, List.length_map]; omega) (fun g15 c16 => ?_) (by simp only [List.length_append, List.length_cons, List.length_nil, List.length_map]; omega)
          refine VL.turn (G' := Own _ (brow g15 c16 (((chainP (xs.take i)) ++ [((objectO ((xs[i]'hlt))).getD [])])) :: H)) (fun _ h => h) ?_
          refine VL.assign rfl ?_
          refine VL.nil ?_
          refine VX.block_normal ?_
          refine VX.next ?_
          refine VC.region ?_
          refine VL.move rfl ?_
          refine VL.add rfl rfl (by simp only [InR]; omega) ?_
          refine VL.assign rfl ?_
          refine VL.nil ?_
          have el : chainP (xs.take i) ++ [(objectO (xs[i]'hlt)).getD []] = chainP (xs.take (i + 1)) := chain_next hlt
          refine VX.round (i + 1, g15, c16) ⟨rfl, congrArg (fun l : List (List UInt8) => some (rowV g15 l.length c16)) el, rfl, trivial⟩ (fun w' h => ⟨⟨by omega, oall_some hlt hall hs⟩, ?_⟩) (by show xs.length - (i + 1) < xs.length - i; omega)
          rw [← el]
          exact h.sub (fun _ hs => by repeat (first | exact hs | apply List.mem_cons_of_mem))
      · have hie : i = xs.length := by omega
        refine VL.nil ?_
        refine VX.next ?_
        refine VC.no rfl ?_
        refine VC.exit ?_
        refine VX.then_exit ?_
        refine VX.then_exit ?_
        refine VX.block_here ?_
        refine VX.next ?_
        refine VC.seq ?_
        refine VC.letArr (fun wr hOr hAr => ?_)
        refine VC.region ?_
        refine VL.move rfl ?_
        refine VL.call Try.func31 rfl (by decide) rfl (fun w' hw => join_O (ls := (chainP (xs.take i))) hw (hAr.now (s := ⟨wr, _⟩) (Mono.slice Mono.byte) hw (by repeat (first | exact List.mem_cons_self .. | apply List.mem_cons_of_mem)))) (fun v => ?_)
        refine VL.at (fun w17 h1w => ?_)
        obtain ⟨p18, c19, rfl, hO21, hA20⟩ := h1w
        refine VL.toOwn hO21 ?_
        refine VL.extract rfl rfl ?_
        refine VL.extract rfl rfl ?_
        refine VL.assign rfl ?_
        refine VL.assign rfl ?_
        refine VL.nil ?_
        refine VX.next ?_
        refine VC.ret ?_
        refine VX.ret2 rfl rfl rfl (fun we hw => ?_)
        exact postO ((ochain_good h0 hie hall)) ⟨p18, c19, rfl, hw.sub (fun _ hs => by repeat (first | exact hs | apply List.mem_cons_of_mem)), (hA20.now (s := ⟨w17, _⟩) Mono.byte hw (by repeat (first | exact List.mem_cons_self .. | apply List.mem_cons_of_mem)))⟩

theorem refPkt_w {S : List Snap} {H : List Chunk} {w : World} (ho : Own S H w) {x : Pkt} (hx : x.ok) {q : Option Addr} {d : Nat} (hV : Arr 101 objectR' (keys H) w q x.chain d) {p : Option Addr} {c : Nat} (hA : Bytes (keys H) w p x.body c) : Calls Try.prog 91 #[.agg (cat (pktV x q d p c)).toArray] w (RetO S H (pktO x)) := by
  have hx1 := hx.src
  have hx2 := hx.dst
  have hx3 := hx.kind
  refine enter (G := Own (⟨w, keys H⟩ :: S) H) ho.keep Try.func91 rfl Try.ntmps91 rfl ?_
  refine VC.seq ?_
  refine VC.region ?_
  refine VL.box (L := pktL) (ps := (pktV (x) q d p c)) rfl rfl (pktV_len hx) (fun g1 => ?_)
  refine VL.assign rfl ?_
  refine VL.assign rfl ?_
  refine VL.nil ?_
  refine VX.next ?_
  refine VC.seq ?_
  refine VC.region ?_
  refine VL.fieldAddr rfl fo118_3 rfl ?_
  refine VL.load (v := .slice q (x.chain).length d) 0 3 rfl kd116 (fun _ h => h) rfl rfl rfl ?_
  refine VL.call Try.func149 rfl (by decide) rfl (fun w' hw => refChain_w hw hx.chain (hV.now (s := ⟨w, _⟩) Mono_object hw (by repeat (first | exact List.mem_cons_self .. | apply List.mem_cons_of_mem)))) (fun v => ?_)
  refine VL.at (fun w2 h1w => ?_)
  obtain ⟨p3, c4, rfl, hO6, hA5⟩ := h1w
  refine VL.toOwn hO6 ?_
  refine VL.move rfl ?_
  refine VL.extract rfl rfl ?_
  refine VL.extract rfl rfl ?_
  refine VL.assign rfl ?_
  refine VL.assign rfl ?_
  refine VL.nil ?_
  refine VX.next ?_
  refine VC.seq ?_
  refine VC.seq ?_
  refine VC.region ?_
  refine VL.move rfl ?_
  cases hs : (chainO x.chain).isSome
  · refine VL.not rfl ?_
    refine VL.move rfl ?_
    refine VL.pass rfl rfl rfl rfl rfl ?_
    refine VL.pass rfl rfl rfl rfl rfl ?_
    refine VL.pass rfl rfl rfl rfl rfl ?_
    refine VL.pick_t rfl rfl ?_
    refine VL.move rfl ?_
    refine VL.pass rfl rfl rfl rfl rfl ?_
    refine VL.pass rfl rfl rfl rfl rfl ?_
    refine VL.pass rfl rfl rfl rfl rfl ?_
    refine VL.pick_t rfl rfl ?_
    refine VL.nil ?_
    refine VX.next ?_
    refine VC.yes rfl ?_
    refine VC.seq ?_
    refine VC.region ?_
    refine VL.assign rfl ?_
    refine VL.assign rfl ?_
    refine VL.nil ?_
    refine VX.next ?_
    refine VC.ret ?_
    refine VX.then_ret ?_
    refine VX.ret2 rfl rfl rfl (fun we hw => ?_)
    exact postO ((pktO_bad hs)) ⟨none, 0, rfl, hw.drop.sub (fun _ hs => by repeat (first | exact hs | apply List.mem_cons_of_mem)), Arr.none⟩
  · refine VL.not rfl ?_
    refine VL.move rfl ?_
    refine VL.go rfl rfl rfl ?_
    refine VL.fieldAddr rfl fo118_2 rfl ?_
    refine VL.go rfl rfl rfl ?_
    refine VL.load (v := .int .u8 (x.kind)) 0 2 rfl kd5 (fun _ h => h) rfl rfl rfl ?_
    refine VL.go rfl rfl rfl ?_
    refine VL.lss rfl rfl ?_
    refine VL.case (fun h2_5 => ?_) (fun h2_5 => ?_)
    · have h2_5 : x.kind < 1 := by have h : ((x.kind : Nat) : Int) < 1 := h2_5; omega
      have hkin : kindIn x.kind = false := by unfold kindIn; simp; omega
      refine VL.pick_f rfl rfl ?_
      refine VL.move rfl ?_
      refine VL.pass rfl rfl rfl rfl rfl ?_
      refine VL.pass rfl rfl rfl rfl rfl ?_
      refine VL.pass rfl rfl rfl rfl rfl ?_
      refine VL.pick_t rfl rfl ?_
      refine VL.nil ?_
      refine VX.next ?_
      refine VC.yes rfl ?_
      refine VC.seq ?_
      refine VC.region ?_
      refine VL.assign rfl ?_
      refine VL.assign rfl ?_
      refine VL.nil ?_
      refine VX.next ?_
      refine VC.ret ?_
      refine VX.then_ret ?_
      refine VX.ret2 rfl rfl rfl (fun we hw => ?_)
      exact postO ((pktO_none hkin)) ⟨none, 0, rfl, hw.drop.sub (fun _ hs => by repeat (first | exact hs | apply List.mem_cons_of_mem)), Arr.none⟩
    · have h2_5 : 1 ≤ x.kind := by have h : ¬ ((x.kind : Nat) : Int) < 1 := h2_5; omega
      refine VL.pick_f rfl rfl ?_
      refine VL.move rfl ?_
      refine VL.go rfl rfl rfl ?_
      refine VL.fieldAddr rfl fo118_2 rfl ?_
      refine VL.go rfl rfl rfl ?_
      refine VL.load (v := .int .u8 (x.kind)) 0 2 rfl kd5 (fun _ h => h) rfl rfl rfl ?_
      refine VL.go rfl rfl rfl ?_
      refine VL.gtr rfl rfl ?_
      refine VL.case (fun h2_10 => ?_) (fun h2_10 => ?_)
      · have h2_10 : 4 < x.kind := by have h : (4 : Int) < ((x.kind : Nat) : Int) := h2_10; omega
        have hkin : kindIn x.kind = false := by unfold kindIn; simp; omega
        refine VL.pick_f rfl rfl ?_
        refine VL.nil ?_
        refine VX.next ?_
        refine VC.yes rfl ?_
        refine VC.seq ?_
        refine VC.region ?_
        refine VL.assign rfl ?_
        refine VL.assign rfl ?_
        refine VL.nil ?_
        refine VX.next ?_
        refine VC.ret ?_
        refine VX.then_ret ?_
        refine VX.ret2 rfl rfl rfl (fun we hw => ?_)
        exact postO ((pktO_none hkin)) ⟨none, 0, rfl, hw.drop.sub (fun _ hs => by repeat (first | exact hs | apply List.mem_cons_of_mem)), Arr.none⟩
      · have h2_10 : x.kind ≤ 4 := by have h : ¬ (4 : Int) < ((x.kind : Nat) : Int) := h2_10; omega
        refine VL.pick_f rfl rfl ?_
        refine VL.nil ?_
        refine VX.next ?_
        refine VC.no rfl ?_
        refine VC.skip ?_
        refine VX.next ?_
        refine VC.seq ?_
        refine VC.letCells 0 rfl (fun w7 hO9 hF8 => ?_)
        apply VC.anyTA 18 1020 (F := [eqF _, eqF _, capF (be 1 (x.src)) 1, eqF _, eqF _, capF (be 1 (x.dst)) 1, eqF _, eqF _, capF (be 1 (x.kind)) 1, eqF _, eqF _, eqF _, eqF _, eqF _, arrF 1 bytesR (Mono.slice Mono.byte) ([be 1 (x.src), be 1 (x.dst), be 1 (x.kind), ((chainO x.chain).getD []), x.body, x.sig]), outF (joinO [be 1 (x.src), be 1 (x.dst), be 1 (x.kind), ((chainO x.chain).getD []), x.body, x.sig] true), bytesF ((joinO [be 1 (x.src), be 1 (x.dst), be 1 (x.kind), ((chainO x.chain).getD []), x.body, x.sig] true).getD []), eqF _]) [⟨[], [1]⟩, ⟨[(24, 0)], []⟩, ⟨[(25, 1)], []⟩, ⟨[], [1]⟩, ⟨[(27, 3)], []⟩, ⟨[(28, 4)], []⟩, ⟨[], [1]⟩, ⟨[(30, 6)], []⟩, ⟨[(31, 7)], []⟩, ⟨[], [4]⟩, ⟨[], [1]⟩, ⟨[(34, 10)], []⟩, ⟨[], [1]⟩, ⟨[(36, 12)], []⟩, ⟨[(26, 2), (29, 5), (32, 8), (33, 9), (35, 11), (37, 13)], []⟩, ⟨[(38, 14)], []⟩, ⟨[(39, 15)], []⟩, ⟨[(39, 15)], []⟩] [(40, 16), (41, 17)] [0, 1, 2, 3, 5, 6, 7, 8, 9, 10, 11, 12, 13, 14, 15, 16, 17, 18, 19, 20, 21, 22, 23] rfl (by kernel_rfl) (by kernel_rfl) rfl rfl (by kernel_rfl) (by kernel_rfl) (by kernel_rfl) rfl ?obs4 ?end4
        case obs4 =>
          refine Obs.cons ?_ ?_
          · refine obS (by kernel_rfl) rfl rfl (fun ph4 w4 hO4 => ?_)
            refine VL.fieldAddr rfl fo118_0 rfl ?_
            exact VL.finS hO4 rfl rfl
          refine Obs.cons ?_ ?_
          · refine obS (by kernel_rfl) rfl rfl (fun ph4 w4 hO4 => ?_)
            rintro _ rfl
            refine VL.loadF (s := ⟨w7, _⟩) (v := .int .u8 (x.src)) 0 rfl kd5 hF8 (fun _ e => e ▸ Still.ok hO4 (by repeat (first | exact List.mem_cons_self .. | apply List.mem_cons_of_mem))) rfl rfl ?_
            exact VL.finS hO4 rfl rfl
          refine Obs.cons ?_ ?_
          · refine ob (by kernel_rfl) rfl (by kernel_rfl) rfl (fun w4 hO4 => ?_)
            rintro _ rfl
            refine VL.toOwn hO4 ?_
            refine VL.litByte (m := x.src) el24 rfl (by have hm := hx.src; omega) (fun g10 w11 hO12 hA13 => ?_)
            exact VL.finO rfl (fun _ h => h.sub (fun _ hs => by repeat (first | exact hs | apply List.mem_cons_of_mem))) (fun _ h => ⟨_, rfl, (hA13.now (s := ⟨w11, _⟩) Mono.byte h (by repeat (first | exact List.mem_cons_self .. | apply List.mem_cons_of_mem)))⟩)
          refine Obs.cons ?_ ?_
          · refine obS (by kernel_rfl) rfl rfl (fun ph4 w4 hO4 => ?_)
            refine VL.fieldAddr rfl fo118_1 rfl ?_
            exact VL.finS hO4 rfl rfl
          refine Obs.cons ?_ ?_
          · refine obS (by kernel_rfl) rfl rfl (fun ph4 w4 hO4 => ?_)
            rintro _ rfl
            refine VL.loadF (s := ⟨w7, _⟩) (v := .int .u8 (x.dst)) 1 rfl kd5 hF8 (fun _ e => e ▸ Still.ok hO4 (by repeat (first | exact List.mem_cons_self .. | apply List.mem_cons_of_mem))) rfl rfl ?_
            exact VL.finS hO4 rfl rfl
          refine Obs.cons ?_ ?_
          · refine ob (by kernel_rfl) rfl (by kernel_rfl) rfl (fun w4 hO4 => ?_)
            rintro _ rfl
            refine VL.toOwn hO4 ?_
            refine VL.litByte (m := x.dst) el24 rfl (by have hm := hx.dst; omega) (fun g14 w15 hO16 hA17 => ?_)
            exact VL.finO rfl (fun _ h => h.sub (fun _ hs => by repeat (first | exact hs | apply List.mem_cons_of_mem))) (fun _ h => ⟨_, rfl, (hA17.now (s := ⟨w15, _⟩) Mono.byte h (by repeat (first | exact List.mem_cons_self .. | apply List.mem_cons_of_mem)))⟩)
          refine Obs.cons ?_ ?_
          · refine obS (by kernel_rfl) rfl rfl (fun ph4 w4 hO4 => ?_)
            refine VL.fieldAddr rfl fo118_2 rfl ?_
            exact VL.finS hO4 rfl rfl
          refine Obs.cons ?_ ?_
          · refine obS (by kernel_rfl) rfl rfl (fun ph4 w4 hO4 => ?_)
            rintro _ rfl
            refine VL.loadF (s := ⟨w7, _⟩) (v := .int .u8 (x.kind)) 2 rfl kd5 hF8 (fun _ e => e ▸ Still.ok hO4 (by repeat (first | exact List.mem_cons_self .. | apply List.mem_cons_of_mem))) rfl rfl ?_
            exact VL.finS hO4 rfl rfl
          refine Obs.cons ?_ ?_
          · refine ob (by kernel_rfl) rfl (by kernel_rfl) rfl (fun w4 hO4 => ?_)
            rintro _ rfl
            refine VL.toOwn hO4 ?_
            refine VL.litByte (m := x.kind) el24 rfl (by have hm := hx.kind; omega) (fun g18 w19 hO20 hA21 => ?_)
            exact VL.finO rfl (fun _ h => h.sub (fun _ hs => by repeat (first | exact hs | apply List.mem_cons_of_mem))) (fun _ h => ⟨_, rfl, (hA21.now (s := ⟨w19, _⟩) Mono.byte h (by repeat (first | exact List.mem_cons_self .. | apply List.mem_cons_of_mem)))⟩)
          refine Obs.cons ?_ ?_
          · refine obS (by kernel_rfl) rfl rfl (fun ph4 w4 hO4 => ?_)
            refine VL.move rfl ?_
            exact VL.finS hO4 rfl rfl
          refine Obs.cons ?_ ?_
          · refine obS (by kernel_rfl) rfl rfl (fun ph4 w4 hO4 => ?_)
            refine VL.fieldAddr rfl fo118_4 rfl ?_
            exact VL.finS hO4 rfl rfl
          refine Obs.cons ?_ ?_
          · refine obS (by kernel_rfl) rfl rfl (fun ph4 w4 hO4 => ?_)
            rintro _ rfl
            refine VL.loadF (s := ⟨w7, _⟩) (v := .slice p (x.body).length c) 4 rfl kd24 hF8 (fun _ e => e ▸ Still.ok hO4 (by repeat (first | exact List.mem_cons_self .. | apply List.mem_cons_of_mem))) rfl rfl ?_
            exact VL.finS hO4 rfl rfl
          refine Obs.cons ?_ ?_
          · refine obS (by kernel_rfl) rfl rfl (fun ph4 w4 hO4 => ?_)
            refine VL.fieldAddr rfl fo118_5 rfl ?_
            exact VL.finS hO4 rfl rfl
          refine Obs.cons ?_ ?_
          · refine obS (by kernel_rfl) rfl rfl (fun ph4 w4 hO4 => ?_)
            rintro _ rfl
            refine VL.sliceArrAt Try.underlying80 (by kernel_rfl) rfl ?_
            refine VL.newv (v' := .slice (some ⟨g1, 5, none⟩) (x.sig).length 64) (by rw [hx.sig]) ?_
            exact VL.finS hO4 rfl rfl
          refine Obs.cons ?_ ?_
          · refine ob (by kernel_rfl) rfl (by kernel_rfl) rfl (fun w4 hO4 => ?_)
            rintro _ ⟨p4_2, rfl, hA4_2⟩ _ ⟨p4_5, rfl, hA4_5⟩ _ ⟨p4_8, rfl, hA4_8⟩ _ rfl _ rfl _ rfl
            refine VL.toOwn hO4 ?_
            refine VL.lit el31 rfl rfl rfl (by simp [Value.cells]) (by intro u hu; simp [Value.cells] at hu; rcases hu with rfl | rfl | rfl | rfl | rfl | rfl <;> rfl) (fun g22 => ?_)
            refine VL.letRowS [be 1 (x.src), be 1 (x.dst), be 1 (x.kind), ((chainO x.chain).getD []), x.body, x.sig] rfl (fun w' hw => ⟨⟨_, _, rfl, (hA4_2.now (s := ⟨w4, _⟩) Mono.byte hw (by repeat (first | exact List.mem_cons_self .. | apply List.mem_cons_of_mem)))⟩, ⟨⟨_, _, rfl, (hA4_5.now (s := ⟨w4, _⟩) Mono.byte hw (by repeat (first | exact List.mem_cons_self .. | apply List.mem_cons_of_mem)))⟩, ⟨⟨_, _, rfl, (hA4_8.now (s := ⟨w4, _⟩) Mono.byte hw (by repeat (first | exact List.mem_cons_self .. | apply List.mem_cons_of_mem)))⟩, ⟨⟨_, _, rfl, (hA5.now (s := ⟨w2, _⟩) Mono.byte hw (by repeat (first | exact List.mem_cons_self .. | apply List.mem_cons_of_mem)))⟩, ⟨⟨_, _, rfl, (hA.now (s := ⟨w, _⟩) Mono.byte hw (by repeat (first | exact List.mem_cons_self .. | apply List.mem_cons_of_mem)))⟩, ⟨⟨_, _, rfl, ((hF8.bytes 5 5 rfl rfl hx.sig rfl).now (s := ⟨w7, _⟩) Mono.byte hw (by repeat (first | exact List.mem_cons_self .. | apply List.mem_cons_of_mem)))⟩, trivial⟩⟩⟩⟩⟩⟩) (fun w23 hO24 hA25 => ?_)
            exact VL.finO rfl (fun _ h => h.sub (fun _ hs => by repeat (first | exact hs | apply List.mem_cons_of_mem))) (fun _ h => ⟨_, _, rfl, (hA25.now (s := ⟨w23, _⟩) (Mono.slice Mono.byte) h (by repeat (first | exact List.mem_cons_self .. | apply List.mem_cons_of_mem)))⟩)
          refine Obs.cons ?_ ?_
          · refine ob (by kernel_rfl) rfl (by kernel_rfl) rfl (fun w4 hO4 => ?_)
            rintro _ ⟨p4_14, c4_14, rfl, hA4_14⟩
            refine VL.toOwn hO4 ?_
            refine VL.call Try.func31 rfl (by decide) rfl (fun w' hw => join_O (ls := [be 1 (x.src), be 1 (x.dst), be 1 (x.kind), ((chainO x.chain).getD []), x.body, x.sig]) hw (hA4_14.now (s := ⟨w4, _⟩) (Mono.slice Mono.byte) hw (by repeat (first | exact List.mem_cons_self .. | apply List.mem_cons_of_mem)))) (fun v => ?_)
            refine VL.at (fun w26 h1w => ?_)
            obtain ⟨p27, c28, rfl, hO30, hA29⟩ := h1w
            refine VL.toOwn hO30 ?_
            exact VL.finO rfl (fun _ h => h.sub (fun _ hs => by repeat (first | exact hs | apply List.mem_cons_of_mem))) (fun _ h => ⟨_, _, rfl, (hA29.now (s := ⟨w26, _⟩) Mono.byte h (by repeat (first | exact List.mem_cons_self .. | apply List.mem_cons_of_mem)))⟩)
          refine Obs.cons ?_ ?_
          · refine obS (by kernel_rfl) rfl rfl (fun ph4 w4 hO4 => ?_)
            rintro _ ⟨p4_15, c4_15, rfl, hA4_15⟩
            refine VL.extract rfl rfl ?_
            exact VL.finS hO4 rfl ⟨_, _, rfl, hA4_15⟩
          refine Obs.cons ?_ ?_
          · refine obS (by kernel_rfl) rfl rfl (fun ph4 w4 hO4 => ?_)
            rintro _ ⟨p4_15, c4_15, rfl, hA4_15⟩
            refine VL.extract rfl rfl ?_
            exact VL.finS hO4 rfl rfl
          exact Obs.nil
        case end4 =>
          intro w4 hO4
          rintro _ ⟨pz, cz, rfl, hz⟩ _ rfl
          refine VL.toOwn hO4 ?_
          refine VL.assign rfl ?_
          refine VL.assign rfl ?_
          refine VL.nil ?_
          refine VX.next ?_
          refine VC.ret ?_
          refine VX.ret2 rfl rfl rfl (fun we hw => ?_)
          exact postO ((pktO_good hs (kindIn_of.2 ⟨h2_5, h2_10⟩))) ⟨pz, cz, rfl, hw.sub (fun _ hs => by repeat (first | exact hs | apply List.mem_cons_of_mem)), (hz.now (s := ⟨w4, _⟩) Mono.byte hw (by repeat (first | exact List.mem_cons_self .. | apply List.mem_cons_of_mem)))⟩

theorem sameChains_g {S : List Snap} {H : List Chunk} {w : World} (ho : Own S H w) {xs : List Object} (hxs : ∀ x ∈ xs, x.ok) {p : Option Addr} {c : Nat} (hX : Arr 101 objectR' (keys H) w p xs c) {ys : List Object} (hys : ∀ x ∈ ys, x.ok) {p2 : Option Addr} {c2 : Nat} (hY : Arr 101 objectR' (keys H) w p2 ys c2) : Calls Try.prog 145 #[.slice p xs.length c, .slice p2 ys.length c2] w (Ret fun v w' => ∃ b : Bool, v = .bool b ∧ (b = true ↔ ys = xs) ∧ Own S H w') := by
  have hsm := hX.small
  refine enter (G := Own (⟨w, keys H⟩ :: S) H) ho.keep Try.func145 rfl Try.ntmps145 rfl ?_
  refine VC.seq ?_
  refine VC.region ?_
  refine VL.assign rfl ?_
  refine VL.nil ?_
  refine VX.next ?_
  refine VC.seq ?_
  refine VC.seq ?_
  refine VC.region ?_
  refine VL.move rfl ?_
  refine VL.len Try.underlying116 rfl rfl ?_
  refine VL.move rfl ?_
  refine VL.len Try.underlying116 rfl rfl ?_
  refine VL.neq rfl rfl ?_
  refine VL.case (fun h1_4 => ?_) (fun h1_4 => ?_)
  · have h1_4 : ¬ xs.length = ys.length := by omega
    refine VL.nil ?_
    refine VX.next ?_
    refine VC.yes rfl ?_
    refine VC.seq ?_
    refine VC.region ?_
    refine VL.assign rfl ?_
    refine VL.nil ?_
    refine VX.next ?_
    refine VC.ret ?_
    refine VX.then_ret ?_
    refine VX.ret1 rfl rfl (fun we hw => ?_)
    exact ⟨false, rfl, ⟨fun h => absurd h (by decide), fun h => absurd (congrArg List.length h).symm h1_4⟩, hw.sub (fun _ hs => by repeat (first | exact hs | apply List.mem_cons_of_mem))⟩
  · have h1_4 : xs.length = ys.length := by omega
    refine VL.nil ?_
    refine VX.next ?_
    refine VC.no rfl ?_
    refine VC.skip ?_
    refine VX.next ?_
    refine VC.seq ?_
    refine VC.seq ?_
    refine VC.region ?_
    refine VL.assign rfl ?_
    refine VL.nil ?_
    refine VX.next ?_
    refine VC.block ?_
    refine VC.loop (X := Nat) (fun i => [(0, .slice p xs.length c), (1, .slice p2 ys.length c2), (5, .int .i64 (i : Int))]) (fun i w' => (i ≤ xs.length ∧ ∀ j, j < i → xs[j]? = ys[j]?) ∧ Own (⟨w, keys H⟩ :: S) H w') (fun i => xs.length - i) 0 ⟨rfl, rfl, rfl, trivial⟩ (fun w' h => ⟨⟨Nat.zero_le _, fun j hj => absurd hj (Nat.not_lt_zero _)⟩, h.sub (fun _ hs => by repeat (first | exact hs | apply List.mem_cons_of_mem))⟩) (fun i => VC.fact fun ⟨hi, hall⟩ => ?_)
    · skip
      refine VC.seq ?_
      refine VC.seq ?_
      refine VC.region ?_
      refine VL.move rfl ?_
      refine VL.move rfl ?_
      refine VL.len Try.underlying116 rfl rfl ?_
      refine VL.lss rfl rfl ?_
      refine VL.case (fun h4 => ?_) (fun h4 => ?_)
      · have hlt : i < xs.length := by omega
        have hlt2 : i < ys.length := by omega
        refine VL.nil ?_
        refine VX.next ?_
        refine VC.yes rfl ?_
        refine VC.skip ?_
        refine VX.next ?_
        refine VC.seq ?_
        refine VC.block ?_
        refine VC.seq ?_
        by_cases hv : xs[i]'hlt = ys[i]'hlt2
        · apply VC.anyTA 8 1010 (F := [eqF _, eqF _, eqF _, objF (xs[i]'hlt), eqF _, eqF _, eqF _, objF (ys[i]'hlt2)]) [⟨[], [0]⟩, ⟨[], [5]⟩, ⟨[(17, 0), (18, 1)], []⟩, ⟨[(19, 2)], []⟩, ⟨[], [1]⟩, ⟨[], [5]⟩, ⟨[(21, 4), (22, 5)], []⟩, ⟨[(23, 6)], []⟩] [(20, 3), (24, 7)] [0, 1, 4, 5, 6, 7, 8, 9, 10, 11, 12, 13, 14, 15, 16, 25, 26] rfl (by kernel_rfl) (by kernel_rfl) rfl rfl (by kernel_rfl) (by kernel_rfl) (by kernel_rfl) rfl ?obs6 ?end6
          case obs6 =>
            refine Obs.cons ?_ ?_
            · refine obS (by kernel_rfl) rfl rfl (fun ph6 w6 hO6 => ?_)
              refine VL.move rfl ?_
              exact VL.finS hO6 rfl rfl
            refine Obs.cons ?_ ?_
            · refine obS (by kernel_rfl) rfl rfl (fun ph6 w6 hO6 => ?_)
              refine VL.move rfl ?_
              exact VL.finS hO6 rfl rfl
            refine Obs.cons ?_ ?_
            · refine obS (by kernel_rfl) rfl rfl (fun ph6 w6 hO6 => ?_)
              rintro _ rfl _ rfl
              refine VL.index (xs := xs) rfl rfl Try.underlying116 sz116 hX (by omega) (by have hi := hlt; omega) ?_
              exact VL.finS hO6 rfl rfl
            refine Obs.cons ?_ ?_
            · refine ob (by kernel_rfl) rfl (by kernel_rfl) rfl (fun w6 hO6 => ?_)
              rintro _ rfl
              refine VL.elems (s := ⟨w, _⟩) (m := 101) (i) 0 rfl kd85 (fun _ e => e ▸ hO6) (by repeat (first | exact List.mem_cons_self .. | apply List.mem_cons_of_mem)) hX (List.getElem?_eq_getElem hlt) (by simp) (by decide) (fun vs hl hr => ?_)
              obtain ⟨q9, d9, hy9, rfl, hV9⟩ := hr
              refine VL.newv (v' := .agg (cat (objectV (xs[i]'hlt) q9 d9)).toArray) (by rw [List.drop_zero, List.take_of_length_le (by rw [hl]; decide)]) ?_
              exact VL.finS hO6 rfl ⟨_, _, rfl, hV9.now (s := ⟨w, _⟩) Mono_vouch hO6 (by repeat (first | exact List.mem_cons_self .. | apply List.mem_cons_of_mem))⟩
            refine Obs.cons ?_ ?_
            · refine obS (by kernel_rfl) rfl rfl (fun ph6 w6 hO6 => ?_)
              refine VL.move rfl ?_
              exact VL.finS hO6 rfl rfl
            refine Obs.cons ?_ ?_
            · refine obS (by kernel_rfl) rfl rfl (fun ph6 w6 hO6 => ?_)
              refine VL.move rfl ?_
              exact VL.finS hO6 rfl rfl
            refine Obs.cons ?_ ?_
            · refine obS (by kernel_rfl) rfl rfl (fun ph6 w6 hO6 => ?_)
              rintro _ rfl _ rfl
              refine VL.index (xs := ys) rfl rfl Try.underlying116 sz116 hY (by omega) (by have hi := hlt2; omega) ?_
              exact VL.finS hO6 rfl rfl
            refine Obs.cons ?_ ?_
            · refine ob (by kernel_rfl) rfl (by kernel_rfl) rfl (fun w6 hO6 => ?_)
              rintro _ rfl
              refine VL.elems (s := ⟨w, _⟩) (m := 101) (i) 0 rfl kd85 (fun _ e => e ▸ hO6) (by repeat (first | exact List.mem_cons_self .. | apply List.mem_cons_of_mem)) hY (List.getElem?_eq_getElem hlt2) (by simp) (by decide) (fun vs hl hr => ?_)
              obtain ⟨q9, d9, hy9, rfl, hV9⟩ := hr
              refine VL.newv (v' := .agg (cat (objectV (ys[i]'hlt2) q9 d9)).toArray) (by rw [List.drop_zero, List.take_of_length_le (by rw [hl]; decide)]) ?_
              exact VL.finS hO6 rfl ⟨_, _, rfl, hV9.now (s := ⟨w, _⟩) Mono_vouch hO6 (by repeat (first | exact List.mem_cons_self .. | apply List.mem_cons_of_mem))⟩
            exact Obs.nil
          case end6 =>
            intro w6 hO6
            rintro _ ⟨qa3, da3, rfl, hVa3⟩ _ ⟨qa7, da7, rfl, hVa7⟩
            refine VL.toOwn hO6 ?_
            refine VL.call Try.func72 rfl (by decide) rfl (fun w' hw => sameObjects_g hw (hxs _ (List.getElem_mem hlt)) (hVa3.now (s := ⟨w6, _⟩) Mono_vouch hw (by repeat (first | exact List.mem_cons_self .. | apply List.mem_cons_of_mem))) (hys _ (List.getElem_mem hlt2)) (hVa7.now (s := ⟨w6, _⟩) Mono_vouch hw (by repeat (first | exact List.mem_cons_self .. | apply List.mem_cons_of_mem)))) (fun v => ?_)
            refine VL.ex fun b => VL.fact fun e => VL.fact fun h2 => ?_
            subst e
            obtain rfl : b = true := h2.2 hv.symm
            refine VL.not rfl ?_
            refine VL.nil ?_
            refine VX.next ?_
            refine VC.no rfl ?_
            refine VC.skip ?_
            refine VX.block_normal ?_
            refine VX.next ?_
            refine VC.region ?_
            refine VL.move rfl ?_
            refine VL.add rfl rfl (by simp only [InR]; omega) ?_
            refine VL.assign rfl ?_
            refine VL.nil ?_
            refine VX.round (i + 1) ⟨rfl, rfl, rfl, trivial⟩ (fun w' h => ⟨⟨by omega, fun j hj => ?_⟩, h.sub (fun _ hs => by repeat (first | exact hs | apply List.mem_cons_of_mem))⟩) (by show xs.length - (i + 1) < xs.length - i; omega)
            by_cases hji : j < i
            · exact hall j hji
            · obtain rfl : j = i := by omega
              rw [List.getElem?_eq_getElem hlt, List.getElem?_eq_getElem hlt2, hv]
        · apply VC.anyTA 8 1010 (F := [eqF _, eqF _, eqF _, objF (xs[i]'hlt), eqF _, eqF _, eqF _, objF (ys[i]'hlt2)]) [⟨[], [0]⟩, ⟨[], [5]⟩, ⟨[(17, 0), (18, 1)], []⟩, ⟨[(19, 2)], []⟩, ⟨[], [1]⟩, ⟨[], [5]⟩, ⟨[(21, 4), (22, 5)], []⟩, ⟨[(23, 6)], []⟩] [(20, 3), (24, 7)] [0, 1, 4, 5, 6, 7, 8, 9, 10, 11, 12, 13, 14, 15, 16, 25, 26] rfl (by kernel_rfl) (by kernel_rfl) rfl rfl (by kernel_rfl) (by kernel_rfl) (by kernel_rfl) rfl ?obs6 ?end6
          case obs6 =>
            refine Obs.cons ?_ ?_
            · refine obS (by kernel_rfl) rfl rfl (fun ph6 w6 hO6 => ?_)
              refine VL.move rfl ?_
              exact VL.finS hO6 rfl rfl
            refine Obs.cons ?_ ?_
            · refine obS (by kernel_rfl) rfl rfl (fun ph6 w6 hO6 => ?_)
              refine VL.move rfl ?_
              exact VL.finS hO6 rfl rfl
            refine Obs.cons ?_ ?_
            · refine obS (by kernel_rfl) rfl rfl (fun ph6 w6 hO6 => ?_)
              rintro _ rfl _ rfl
              refine VL.index (xs := xs) rfl rfl Try.underlying116 sz116 hX (by omega) (by have hi := hlt; omega) ?_
              exact VL.finS hO6 rfl rfl
            refine Obs.cons ?_ ?_
            · refine ob (by kernel_rfl) rfl (by kernel_rfl) rfl (fun w6 hO6 => ?_)
              rintro _ rfl
              refine VL.elems (s := ⟨w, _⟩) (m := 101) (i) 0 rfl kd85 (fun _ e => e ▸ hO6) (by repeat (first | exact List.mem_cons_self .. | apply List.mem_cons_of_mem)) hX (List.getElem?_eq_getElem hlt) (by simp) (by decide) (fun vs hl hr => ?_)
              obtain ⟨q9, d9, hy9, rfl, hV9⟩ := hr
              refine VL.newv (v' := .agg (cat (objectV (xs[i]'hlt) q9 d9)).toArray) (by rw [List.drop_zero, List.take_of_length_le (by rw [hl]; decide)]) ?_
              exact VL.finS hO6 rfl ⟨_, _, rfl, hV9.now (s := ⟨w, _⟩) Mono_vouch hO6 (by repeat (first | exact List.mem_cons_self .. | apply List.mem_cons_of_mem))⟩
            refine Obs.cons ?_ ?_
            · refine obS (by kernel_rfl) rfl rfl (fun ph6 w6 hO6 => ?_)
              refine VL.move rfl ?_
              exact VL.finS hO6 rfl rfl
            refine Obs.cons ?_ ?_
            · refine obS (by kernel_rfl) rfl rfl (fun ph6 w6 hO6 => ?_)
              refine VL.move rfl ?_
              exact VL.finS hO6 rfl rfl
            refine Obs.cons ?_ ?_
            · refine obS (by kernel_rfl) rfl rfl (fun ph6 w6 hO6 => ?_)
              rintro _ rfl _ rfl
              refine VL.index (xs := ys) rfl rfl Try.underlying116 sz116 hY (by omega) (by have hi := hlt2; omega) ?_
              exact VL.finS hO6 rfl rfl
            refine Obs.cons ?_ ?_
            · refine ob (by kernel_rfl) rfl (by kernel_rfl) rfl (fun w6 hO6 => ?_)
              rintro _ rfl
              refine VL.elems (s := ⟨w, _⟩) (m := 101) (i) 0 rfl kd85 (fun _ e => e ▸ hO6) (by repeat (first | exact List.mem_cons_self .. | apply List.mem_cons_of_mem)) hY (List.getElem?_eq_getElem hlt2) (by simp) (by decide) (fun vs hl hr => ?_)
              obtain ⟨q9, d9, hy9, rfl, hV9⟩ := hr
              refine VL.newv (v' := .agg (cat (objectV (ys[i]'hlt2) q9 d9)).toArray) (by rw [List.drop_zero, List.take_of_length_le (by rw [hl]; decide)]) ?_
              exact VL.finS hO6 rfl ⟨_, _, rfl, hV9.now (s := ⟨w, _⟩) Mono_vouch hO6 (by repeat (first | exact List.mem_cons_self .. | apply List.mem_cons_of_mem))⟩
            exact Obs.nil
          case end6 =>
            intro w6 hO6
            rintro _ ⟨qa3, da3, rfl, hVa3⟩ _ ⟨qa7, da7, rfl, hVa7⟩
            refine VL.toOwn hO6 ?_
            refine VL.call Try.func72 rfl (by decide) rfl (fun w' hw => sameObjects_g hw (hxs _ (List.getElem_mem hlt)) (hVa3.now (s := ⟨w6, _⟩) Mono_vouch hw (by repeat (first | exact List.mem_cons_self .. | apply List.mem_cons_of_mem))) (hys _ (List.getElem_mem hlt2)) (hVa7.now (s := ⟨w6, _⟩) Mono_vouch hw (by repeat (first | exact List.mem_cons_self .. | apply List.mem_cons_of_mem)))) (fun v => ?_)
            refine VL.ex fun b => VL.fact fun e => VL.fact fun h2 => ?_
            subst e
            obtain rfl : b = false := (by cases b with
              | false => rfl
              | true => exact absurd (h2.1 rfl).symm hv)
            refine VL.not rfl ?_
            refine VL.nil ?_
            refine VX.next ?_
            refine VC.yes rfl ?_
            refine VC.seq ?_
            refine VC.region ?_
            refine VL.assign rfl ?_
            refine VL.nil ?_
            refine VX.next ?_
            refine VC.ret ?_
            refine VX.block_ret ?_
            refine VX.then_ret ?_
            refine VX.then_ret ?_
            refine VX.block_ret ?_
            refine VX.then_ret ?_
            refine VX.ret1 rfl rfl (fun we hw => ?_)
            refine ⟨false, rfl, ⟨fun h => absurd h (by decide), fun e => absurd ?_ hv⟩, hw.sub (fun _ hs => by repeat (first | exact hs | apply List.mem_cons_of_mem))⟩
            subst e; rfl
      · have hie : i = xs.length := by omega
        refine VL.nil ?_
        refine VX.next ?_
        refine VC.no rfl ?_
        refine VC.exit ?_
        refine VX.then_exit ?_
        refine VX.then_exit ?_
        refine VX.block_here ?_
        refine VX.next ?_
        refine VC.seq ?_
        refine VC.region ?_
        refine VL.assign rfl ?_
        refine VL.nil ?_
        refine VX.next ?_
        refine VC.ret ?_
        refine VX.ret1 rfl rfl (fun we hw => ?_)
        refine ⟨true, rfl, ⟨fun _ => (List.ext_getElem? fun k => ?_), fun _ => rfl⟩, hw.sub (fun _ hs => by repeat (first | exact hs | apply List.mem_cons_of_mem))⟩
        by_cases hk : k < xs.length
        · exact (hall k (by omega)).symm
        · rw [List.getElem?_eq_none (by omega), List.getElem?_eq_none (by omega)]

theorem samePkts_g {S : List Snap} {H : List Chunk} {w : World} (ho : Own S H w) {x : Pkt} (hx : x.ok) {q : Option Addr} {d : Nat} (hV : Arr 101 objectR' (keys H) w q x.chain d) {p : Option Addr} {c : Nat} (hA : Bytes (keys H) w p x.body c) {y : Pkt} (hy : y.ok) {q2 : Option Addr} {d2 : Nat} (hV2 : Arr 101 objectR' (keys H) w q2 y.chain d2) {p2 : Option Addr} {c2 : Nat} (hA2 : Bytes (keys H) w p2 y.body c2) : Calls Try.prog 83 #[.agg (cat (pktV x q d p c)).toArray, .agg (cat (pktV y q2 d2 p2 c2)).toArray] w (Ret fun v w' => ∃ b : Bool, v = .bool b ∧ (b = true ↔ y = x) ∧ Own S H w') := by
  refine enter (G := Own (⟨w, keys H⟩ :: S) H) ho.keep Try.func83 rfl Try.ntmps83 rfl ?_
  refine VC.seq ?_
  refine VC.region ?_
  refine VL.box (L := pktL) (ps := (pktV (x) q d p c)) rfl rfl (pktV_len hx) (fun g1 => ?_)
  refine VL.box (L := pktL) (ps := (pktV (y) q2 d2 p2 c2)) rfl rfl (pktV_len hy) (fun g2 => ?_)
  refine VL.assign rfl ?_
  refine VL.nil ?_
  refine VX.next ?_
  refine VC.seq ?_
  refine VC.region ?_
  refine VL.fieldAddr rfl fo118_0 rfl ?_
  refine VL.load (v := .int .u8 (x.src)) 1 0 rfl kd5 (fun _ h => h) rfl rfl rfl ?_
  refine VL.fieldAddr rfl fo118_0 rfl ?_
  refine VL.load (v := .int .u8 (y.src)) 0 0 rfl kd5 (fun _ h => h) rfl rfl rfl ?_
  refine VL.eql rfl rfl ?_
  refine VL.case (fun h1_4 => ?_) (fun h1_4 => ?_)
  · have h1_4 : x.src = y.src := by omega
    refine VL.move rfl ?_
    refine VL.go rfl rfl rfl ?_
    refine VL.fieldAddr rfl fo118_1 rfl ?_
    refine VL.go rfl rfl rfl ?_
    refine VL.load (v := .int .u8 (x.dst)) 1 1 rfl kd5 (fun _ h => h) rfl rfl rfl ?_
    refine VL.go rfl rfl rfl ?_
    refine VL.fieldAddr rfl fo118_1 rfl ?_
    refine VL.go rfl rfl rfl ?_
    refine VL.load (v := .int .u8 (y.dst)) 0 1 rfl kd5 (fun _ h => h) rfl rfl rfl ?_
    refine VL.go rfl rfl rfl ?_
    refine VL.eql rfl rfl ?_
    refine VL.case (fun h1_10 => ?_) (fun h1_10 => ?_)
    · have h1_10 : x.dst = y.dst := by omega
      refine VL.pick_t rfl rfl ?_
      refine VL.move rfl ?_
      refine VL.go rfl rfl rfl ?_
      refine VL.fieldAddr rfl fo118_2 rfl ?_
      refine VL.go rfl rfl rfl ?_
      refine VL.load (v := .int .u8 (x.kind)) 1 2 rfl kd5 (fun _ h => h) rfl rfl rfl ?_
      refine VL.go rfl rfl rfl ?_
      refine VL.fieldAddr rfl fo118_2 rfl ?_
      refine VL.go rfl rfl rfl ?_
      refine VL.load (v := .int .u8 (y.kind)) 0 2 rfl kd5 (fun _ h => h) rfl rfl rfl ?_
      refine VL.go rfl rfl rfl ?_
      refine VL.eql rfl rfl ?_
      refine VL.case (fun h1_17 => ?_) (fun h1_17 => ?_)
      · have h1_17 : x.kind = y.kind := by omega
        refine VL.pick_t rfl rfl ?_
        refine VL.move rfl ?_
        refine VL.go rfl rfl rfl ?_
        refine VL.fieldAddr rfl fo118_3 rfl ?_
        refine VL.go rfl rfl rfl ?_
        refine VL.load (v := .slice q (x.chain).length d) 1 3 rfl kd116 (fun _ h => h) rfl rfl rfl ?_
        refine VL.go rfl rfl rfl ?_
        refine VL.fieldAddr rfl fo118_3 rfl ?_
        refine VL.go rfl rfl rfl ?_
        refine VL.load (v := .slice q2 (y.chain).length d2) 0 3 rfl kd116 (fun _ h => h) rfl rfl rfl ?_
        refine VL.go rfl rfl rfl ?_
        refine VL.call Try.func145 rfl (by decide) rfl (fun w' hw => sameChains_g hw hx.chain (hV.now (s := ⟨w, _⟩) Mono_object hw (by repeat (first | exact List.mem_cons_self .. | apply List.mem_cons_of_mem))) hy.chain (hV2.now (s := ⟨w, _⟩) Mono_object hw (by repeat (first | exact List.mem_cons_self .. | apply List.mem_cons_of_mem)))) (fun v => ?_)
        refine VL.ex fun b => VL.fact fun e => VL.fact fun h1_24 => ?_
        subst e
        cases b
        · have h1_24 := mt h1_24.2 (by decide)
          refine VL.pick_t rfl rfl ?_
          refine VL.move rfl ?_
          refine VL.pass rfl rfl rfl rfl rfl ?_
          refine VL.pass rfl rfl rfl rfl rfl ?_
          refine VL.pass rfl rfl rfl rfl rfl ?_
          refine VL.pass rfl rfl rfl rfl rfl ?_
          refine VL.pass rfl rfl rfl rfl rfl ?_
          refine VL.pick_f rfl rfl ?_
          refine VL.move rfl ?_
          refine VL.pass rfl rfl rfl rfl rfl ?_
          refine VL.pass rfl rfl rfl rfl rfl ?_
          refine VL.pass rfl rfl rfl rfl rfl ?_
          refine VL.pass rfl rfl rfl rfl rfl ?_
          refine VL.pass rfl rfl rfl rfl rfl ?_
          refine VL.pick_f rfl rfl ?_
          refine VL.assign rfl ?_
          refine VL.nil ?_
          refine VX.next ?_
          refine VC.ret ?_
          refine VX.ret1 rfl rfl (fun we hw => ?_)
          exact ⟨false, rfl, ⟨fun h => absurd h (by decide), fun h => absurd (pkt_iff.1 h).2.2.2.1.symm h1_24⟩, hw.drop.drop.sub (fun _ hs => by repeat (first | exact hs | apply List.mem_cons_of_mem))⟩
        · have h1_24 := (h1_24.1 rfl).symm
          refine VL.pick_t rfl rfl ?_
          refine VL.move rfl ?_
          refine VL.go rfl rfl rfl ?_
          refine VL.fieldAddr rfl fo118_4 rfl ?_
          refine VL.go rfl rfl rfl ?_
          refine VL.load (v := .slice p (x.body).length c) 1 4 rfl kd24 (fun _ h => h) rfl rfl rfl ?_
          refine VL.go rfl rfl rfl ?_
          refine VL.fieldAddr rfl fo118_4 rfl ?_
          refine VL.go rfl rfl rfl ?_
          refine VL.load (v := .slice p2 (y.body).length c2) 0 4 rfl kd24 (fun _ h => h) rfl rfl rfl ?_
          refine VL.go rfl rfl rfl ?_
          refine VL.call Try.func27 rfl (by decide) rfl (fun w' hw => bytes_B hw (hA.now (s := ⟨w, _⟩) Mono.byte hw (by repeat (first | exact List.mem_cons_self .. | apply List.mem_cons_of_mem))) (hA2.now (s := ⟨w, _⟩) Mono.byte hw (by repeat (first | exact List.mem_cons_self .. | apply List.mem_cons_of_mem)))) (fun v => ?_)
          refine VL.ex fun b => VL.fact fun e => VL.fact fun h1_31 => ?_
          subst e
          cases b
          · have h1_31 := mt h1_31.2 (by decide)
            refine VL.pick_t rfl rfl ?_
            refine VL.move rfl ?_
            refine VL.pass rfl rfl rfl rfl rfl ?_
            refine VL.pass rfl rfl rfl rfl rfl ?_
            refine VL.pass rfl rfl rfl rfl rfl ?_
            refine VL.pass rfl rfl rfl rfl rfl ?_
            refine VL.pass rfl rfl rfl rfl rfl ?_
            refine VL.pick_f rfl rfl ?_
            refine VL.assign rfl ?_
            refine VL.nil ?_
            refine VX.next ?_
            refine VC.ret ?_
            refine VX.ret1 rfl rfl (fun we hw => ?_)
            exact ⟨false, rfl, ⟨fun h => absurd h (by decide), fun h => absurd (pkt_iff.1 h).2.2.2.2.1 h1_31⟩, hw.drop.drop.sub (fun _ hs => by repeat (first | exact hs | apply List.mem_cons_of_mem))⟩
          · have h1_31 := h1_31.1 rfl
            refine VL.pick_t rfl rfl ?_
            refine VL.move rfl ?_
            refine VL.go rfl rfl rfl ?_
            refine VL.fieldAddr rfl fo118_5 rfl ?_
            refine VL.go rfl rfl rfl ?_
            refine VL.loads (cs := (x.sig).map bv) 1 5 1 rfl kd80 (fun _ h => h) rfl rfl rfl rfl ?_
            refine VL.go rfl rfl rfl ?_
            refine VL.fieldAddr rfl fo118_5 rfl ?_
            refine VL.go rfl rfl rfl ?_
            refine VL.loads (cs := (y.sig).map bv) 0 5 1 rfl kd80 (fun _ h => h) rfl rfl rfl rfl ?_
            refine VL.go rfl rfl rfl ?_
            refine VL.eqT guard80 rfl rfl (eqSig 9998 hx.sig hy.sig) (fun b h1_38 => ?_)
            cases b
            · have h1_38 := mt h1_38.2 (by decide)
              refine VL.pick_t rfl rfl ?_
              refine VL.assign rfl ?_
              refine VL.nil ?_
              refine VX.next ?_
              refine VC.ret ?_
              refine VX.ret1 rfl rfl (fun we hw => ?_)
              exact ⟨false, rfl, ⟨fun h => absurd h (by decide), fun h => absurd (pkt_iff.1 h).2.2.2.2.2 h1_38⟩, hw.drop.drop.sub (fun _ hs => by repeat (first | exact hs | apply List.mem_cons_of_mem))⟩
            · have h1_38 := h1_38.1 rfl
              refine VL.pick_t rfl rfl ?_
              refine VL.assign rfl ?_
              refine VL.nil ?_
              refine VX.next ?_
              refine VC.ret ?_
              refine VX.ret1 rfl rfl (fun we hw => ?_)
              exact ⟨true, rfl, ⟨fun _ => pkt_iff.2 ⟨h1_4, h1_10, h1_17, h1_24, h1_31, h1_38⟩, fun _ => rfl⟩, hw.drop.drop.sub (fun _ hs => by repeat (first | exact hs | apply List.mem_cons_of_mem))⟩
      · have h1_17 : ¬ x.kind = y.kind := by omega
        refine VL.pick_t rfl rfl ?_
        refine VL.move rfl ?_
        refine VL.pass rfl rfl rfl rfl rfl ?_
        refine VL.pass rfl rfl rfl rfl rfl ?_
        refine VL.pass rfl rfl rfl rfl rfl ?_
        refine VL.pass rfl rfl rfl rfl rfl ?_
        refine VL.pass rfl rfl rfl rfl rfl ?_
        refine VL.pick_f rfl rfl ?_
        refine VL.move rfl ?_
        refine VL.pass rfl rfl rfl rfl rfl ?_
        refine VL.pass rfl rfl rfl rfl rfl ?_
        refine VL.pass rfl rfl rfl rfl rfl ?_
        refine VL.pass rfl rfl rfl rfl rfl ?_
        refine VL.pass rfl rfl rfl rfl rfl ?_
        refine VL.pick_f rfl rfl ?_
        refine VL.move rfl ?_
        refine VL.pass rfl rfl rfl rfl rfl ?_
        refine VL.pass rfl rfl rfl rfl rfl ?_
        refine VL.pass rfl rfl rfl rfl rfl ?_
        refine VL.pass rfl rfl rfl rfl rfl ?_
        refine VL.pass rfl rfl rfl rfl rfl ?_
        refine VL.pick_f rfl rfl ?_
        refine VL.assign rfl ?_
        refine VL.nil ?_
        refine VX.next ?_
        refine VC.ret ?_
        refine VX.ret1 rfl rfl (fun we hw => ?_)
        exact ⟨false, rfl, ⟨fun h => absurd h (by decide), fun h => absurd (pkt_iff.1 h).2.2.1 h1_17⟩, hw.drop.drop.sub (fun _ hs => by repeat (first | exact hs | apply List.mem_cons_of_mem))⟩
    · have h1_10 : ¬ x.dst = y.dst := by omega
      refine VL.pick_t rfl rfl ?_
      refine VL.move rfl ?_
      refine VL.pass rfl rfl rfl rfl rfl ?_
      refine VL.pass rfl rfl rfl rfl rfl ?_
      refine VL.pass rfl rfl rfl rfl rfl ?_
      refine VL.pass rfl rfl rfl rfl rfl ?_
      refine VL.pass rfl rfl rfl rfl rfl ?_
      refine VL.pick_f rfl rfl ?_
      refine VL.move rfl ?_
      refine VL.pass rfl rfl rfl rfl rfl ?_
      refine VL.pass rfl rfl rfl rfl rfl ?_
      refine VL.pass rfl rfl rfl rfl rfl ?_
      refine VL.pass rfl rfl rfl rfl rfl ?_
      refine VL.pass rfl rfl rfl rfl rfl ?_
      refine VL.pick_f rfl rfl ?_
      refine VL.move rfl ?_
      refine VL.pass rfl rfl rfl rfl rfl ?_
      refine VL.pass rfl rfl rfl rfl rfl ?_
      refine VL.pass rfl rfl rfl rfl rfl ?_
      refine VL.pass rfl rfl rfl rfl rfl ?_
      refine VL.pass rfl rfl rfl rfl rfl ?_
      refine VL.pick_f rfl rfl ?_
      refine VL.move rfl ?_
      refine VL.pass rfl rfl rfl rfl rfl ?_
      refine VL.pass rfl rfl rfl rfl rfl ?_
      refine VL.pass rfl rfl rfl rfl rfl ?_
      refine VL.pass rfl rfl rfl rfl rfl ?_
      refine VL.pass rfl rfl rfl rfl rfl ?_
      refine VL.pick_f rfl rfl ?_
      refine VL.assign rfl ?_
      refine VL.nil ?_
      refine VX.next ?_
      refine VC.ret ?_
      refine VX.ret1 rfl rfl (fun we hw => ?_)
      exact ⟨false, rfl, ⟨fun h => absurd h (by decide), fun h => absurd (pkt_iff.1 h).2.1 h1_10⟩, hw.drop.drop.sub (fun _ hs => by repeat (first | exact hs | apply List.mem_cons_of_mem))⟩
  · have h1_4 : ¬ x.src = y.src := by omega
    refine VL.move rfl ?_
    refine VL.pass rfl rfl rfl rfl rfl ?_
    refine VL.pass rfl rfl rfl rfl rfl ?_
    refine VL.pass rfl rfl rfl rfl rfl ?_
    refine VL.pass rfl rfl rfl rfl rfl ?_
    refine VL.pass rfl rfl rfl rfl rfl ?_
    refine VL.pick_f rfl rfl ?_
    refine VL.move rfl ?_
    refine VL.pass rfl rfl rfl rfl rfl ?_
    refine VL.pass rfl rfl rfl rfl rfl ?_
    refine VL.pass rfl rfl rfl rfl rfl ?_
    refine VL.pass rfl rfl rfl rfl rfl ?_
    refine VL.pass rfl rfl rfl rfl rfl ?_
    refine VL.pick_f rfl rfl ?_
    refine VL.move rfl ?_
    refine VL.pass rfl rfl rfl rfl rfl ?_
    refine VL.pass rfl rfl rfl rfl rfl ?_
    refine VL.pass rfl rfl rfl rfl rfl ?_
    refine VL.pass rfl rfl rfl rfl rfl ?_
    refine VL.pass rfl rfl rfl rfl rfl ?_
    refine VL.pick_f rfl rfl ?_
    refine VL.move rfl ?_
    refine VL.pass rfl rfl rfl rfl rfl ?_
    refine VL.pass rfl rfl rfl rfl rfl ?_
    refine VL.pass rfl rfl rfl rfl rfl ?_
    refine VL.pass rfl rfl rfl rfl rfl ?_
    refine VL.pass rfl rfl rfl rfl rfl ?_
    refine VL.pick_f rfl rfl ?_
    refine VL.move rfl ?_
    refine VL.pass rfl rfl rfl rfl rfl ?_
    refine VL.pass rfl rfl rfl rfl rfl ?_
    refine VL.pass rfl rfl rfl rfl rfl ?_
    refine VL.pass rfl rfl rfl rfl rfl ?_
    refine VL.pass rfl rfl rfl rfl rfl ?_
    refine VL.pick_f rfl rfl ?_
    refine VL.assign rfl ?_
    refine VL.nil ?_
    refine VX.next ?_
    refine VC.ret ?_
    refine VX.ret1 rfl rfl (fun we hw => ?_)
    exact ⟨false, rfl, ⟨fun h => absurd h (by decide), fun h => absurd (pkt_iff.1 h).1 h1_4⟩, hw.drop.drop.sub (fun _ hs => by repeat (first | exact hs | apply List.mem_cons_of_mem))⟩

theorem samePkts_e {S : List Snap} {H : List Chunk} {w : World} (ho : Own S H w) {x y : Pkt} (hx : x.ok) {q : Option Addr} {d : Nat} (hV : Arr 101 objectR' (keys H) w q x.chain d) {p : Option Addr} {c : Nat} (hA : Bytes (keys H) w p x.body c) {q2 : Option Addr} {d2 : Nat} (hV2 : Arr 101 objectR' (keys H) w q2 y.chain d2) {p2 : Option Addr} {c2 : Nat} (hA2 : Bytes (keys H) w p2 y.body c2) (e : y = x) : Calls Try.prog 83 #[.agg (cat (pktV x q d p c)).toArray, .agg (cat (pktV y q2 d2 p2 c2)).toArray] w (Ret fun v w' => v = .bool true ∧ Own S H w') :=
  calls_mono (samePkts_g ho hx hV hA (e ▸ hx) hV2 hA2) fun v w' ⟨b, h1, h2, h3⟩ => ⟨by rw [h1, h2.2 e], h3⟩

end Go.Proofs.Ytcfecmoagfgnaaa

/- The reference: what bytes are read as: packets. -/
namespace Go.Proofs.Ytcfecmoagfgnaaa
open Go.Vc Go.Pl

section
variable {n : Nat} {Q : Exit → Act → World → Prop} {σ : Sl} {G : World → Prop} {ops : Array Oper} {rest : List Oper}
variable {d : Nat} {ty : TypeId} {pos : String} {aft : Array Edge} {S : List Snap} {H : List Chunk}
theorem loadL {x : Operand} {g : Nat} {left : List (List UInt8)} (i : Nat) (hx : ev σ x = some (.pointer (some ⟨g, 0, none⟩))) (hi : H[i]? = some (tch g true left))
    (h : ∀ p c w1, Own S H w1 → Arr 1 bytesR (keys H) w1 p left c → VL Try.prog n ops Q rest ((d, .slice p left.length c) :: σ) (Own (⟨w1, keys H⟩ :: S) H)) (hdn : Nat.blt d n = true := by rfl) : VL Try.prog n ops Q (⟨some d, .load 31 x, ty, pos, aft, none⟩ :: rest) σ (Own S H) := by
  refine VL.at fun w hw => ?_
  obtain ⟨ps, h1, h2, ls, p, c, m, rfl, h3, _, h4, hA⟩ := hw.holds _ (List.mem_of_getElem? hi)
  obtain rfl : m = 0 := h4 rfl
  obtain rfl : left = ls := h3
  refine VL.val (v := .slice p left.length c) rfl rfl hdn (fun a w' ha e => ?_) (VL.turn (fun w' e => by subst e; exact hw.keep) (h p c w hw hA))
  subst e
  have hc : w'.cell? ⟨g, 0, none⟩ = some (.slice p left.length c) := by
    rw [cell_of_row w' g 0 _ 216 (0, 0) h1]
    rfl
  simp [execOp, ha.ev hx, run_load_cell kd31 hc]
end
theorem pkt_empty {l : List UInt8} (h : ¬ openP l ≠ []) : pktR l = none ∧ pktW l = 141 := by
  have h1 : pktR l = none := by
    cases e : pktR l with
    | none => rfl
    | some y => exact absurd (pkt_open e) h
  refine ⟨h1, ?_⟩
  rw [pktW_good (fun hb => by
    have h2 := hb.1
    rw [Classical.not_not.1 h] at h2
    exact absurd h2 (by decide)), h1]
  rfl
abbrev objsOf (ps : List (List UInt8)) : List Object := ps.map fun q => (objectR q).getD object0
theorem pkt_no {l : List UInt8} {xs : List Object} (hv : chainT' (nextP (at3 (openP l))) = xs ++ objsOf []) (h : ¬ pktO (pktT' (openP l) xs) = some l) : pktR l = none := by
  rw [show objsOf [] = [] from rfl, List.append_nil] at hv
  rw [pkt_rd, hv, if_neg h]
theorem pkt_yes {l : List UInt8} {xs : List Object} (hv : chainT' (nextP (at3 (openP l))) = xs ++ objsOf []) (h : pktO (pktT' (openP l) xs) = some l) : pktR l = some (pktT' (openP l) xs) := by
  rw [show objsOf [] = [] from rfl, List.append_nil] at hv
  rw [pkt_rd, hv, if_pos h]
theorem objs_step {A xs : List Object} {p : List UInt8} {r : List (List UInt8)} (h : A = xs ++ objsOf (p :: r)) : A = (xs ++ [(objectR p).getD object0]) ++ objsOf r := by
  rw [h, show objsOf (p :: r) = (objectR p).getD object0 :: objsOf r from rfl, List.append_assoc]; rfl

/-- It may have been taken from. -/
theorem tkFree {S : List Snap} {H : List Chunk} {w : World} {g : Nat} {z : Bool} {left : List (List UInt8)} (h : Own S (tch g z left :: H) w) : Own S (tch g false left :: H) w := by
  obtain ⟨ls, p, c, n, rfl, h1, _, h2, h3⟩ := openTk h
  exact shutTk h2 h1 (fun h => by cases h) h3
theorem tkFree1 {S : List Snap} {H : List Chunk} {a : Chunk} {w : World} {g : Nat} {z : Bool} {left : List (List UInt8)} (h : Own S (a :: tch g z left :: H) w) : Own S (a :: tch g false left :: H) w :=
  (tkFree (h.perm (List.Perm.swap _ _ _))).perm (List.Perm.swap _ _ _)

theorem readPkt_w {S : List Snap} {H : List Chunk} {w : World} (ho : Own S H w) {p : Option Addr} {l : List UInt8} {c : Nat} (hA : Bytes (keys H) w p l c) : Calls Try.prog 82 #[.slice p l.length c] w (Ret fun v w' => ∃ q d p c, v = .tuple #[.agg (cat (pktV ((pktR l).getD pkt0) q d p c)).toArray, .int .i64 ((pktW l : Nat) : Int)] ∧ Own S H w' ∧ Arr 101 objectR' (keys H) w' q ((pktR l).getD pkt0).chain d ∧ Bytes (keys H) w' p ((pktR l).getD pkt0).body c) := by
  refine enter (G := Own (⟨w, keys H⟩ :: S) H) ho.keep Try.func82 rfl Try.ntmps82 rfl ?_
  refine VC.seq ?_
  refine VC.region ?_
  refine VL.alloc (L := pktL) (ps := (pktV (pkt0) none 0 none 0)) zero118 rfl rfl (fun g1 => ?_)
  refine VL.assign rfl ?_
  refine VL.nil ?_
  refine VX.next ?_
  refine VC.seq ?_
  refine VC.region ?_
  refine VL.move rfl ?_
  refine VL.call Try.func140 rfl (by decide) rfl (fun w' hw => open_T hw (hA.now (s := ⟨w, _⟩) Mono.byte hw (by repeat (first | exact List.mem_cons_self .. | apply List.mem_cons_of_mem)))) (fun v => ?_)
  refine VL.ex fun g2 => VL.fact fun e3 => ?_
  subst e3
  refine VL.move rfl ?_
  refine VL.extract rfl rfl ?_
  refine VL.extract rfl rfl ?_
  refine VL.assign rfl ?_
  refine VL.assign rfl ?_
  refine VL.nil ?_
  refine VX.next ?_
  refine VC.seq ?_
  refine VC.seq ?_
  refine VC.region ?_
  refine VL.move rfl ?_
  refine VL.case (fun ho => ?_) (fun ho => ?_)
  · refine VL.not rfl ?_
    refine VL.nil ?_
    refine VX.next ?_
    refine VC.no rfl ?_
    refine VC.skip ?_
    refine VX.next ?_
    refine VC.seq ?_
    refine VC.join (X := Bool) (fun b => [(2, .pointer (some ⟨g1, 0, none⟩)), (4, .pointer (some ⟨g2, 0, none⟩)), (0, .slice p l.length c), (58, .bool b)]) (fun _ => Own (⟨w, keys H⟩ :: S) (tch g2 true (openP l) :: blk g1 118 pktL (pktV (pkt0) none 0 none 0) :: H)) (fun b => (b = true ↔ kindBad (openP l))) (fun hrest => ?_) (fun b hbk => ?_)
    · skip
      refine VC.region ?_
      refine VL.move rfl ?_
      refine VL.nilCheck rfl ?_
      refine VL.fieldAddr rfl fo216_0 rfl ?_
      refine loadL 0 rfl rfl (fun p4 c5 w6 hO7 hA8 => ?_)
      refine VL.len Try.underlying31 rfl rfl ?_
      refine VL.gtr rfl rfl ?_
      refine VL.case (fun h4_5 => ?_) (fun h4_5 => ?_)
      · have hlen : 2 < (openP l).length := by omega
        refine VL.move rfl ?_
        refine VL.go rfl rfl rfl ?_
        refine VL.move rfl ?_
        refine VL.go rfl rfl rfl ?_
        refine VL.nilCheck rfl ?_
        refine VL.go rfl rfl rfl ?_
        refine VL.fieldAddr rfl fo216_0 rfl ?_
        refine VL.go rfl rfl rfl ?_
        refine loadL 0 rfl rfl (fun p9 c10 w11 hO12 hA13 => ?_)
        refine VL.go rfl rfl rfl ?_
        refine VL.index (xs := (openP l)) rfl rfl Try.underlying31 sz31 hA13 (by omega) (by have hi := hlen; omega) ?_
        refine VL.go rfl rfl rfl ?_
        refine VL.elem (s := ⟨w11, _⟩) (2) 0 rfl kd24 (fun _ h => h) (by repeat (first | exact List.mem_cons_self .. | apply List.mem_cons_of_mem)) (Mono.slice Mono.byte) hA13 (List.getElem?_eq_getElem hlen) (by simp) (by decide) (fun vs v hl hr hv => ?_)
        obtain ⟨p16, c17, rfl, hA18⟩ := hr
        have ehy15 : v = .slice p16 ((openP l)[2]'hlen).length c17 := Option.some.inj (hv.symm.trans rfl)
        subst ehy15
        refine VL.go rfl rfl rfl ?_
        refine VL.len Try.underlying24 rfl rfl ?_
        refine VL.go rfl rfl rfl ?_
        refine VL.eql rfl rfl ?_
        refine VL.case (fun h4_14 => ?_) (fun h4_14 => ?_)
        · have h1l : ((openP (l))[2]'hlen).length = 1 := by omega
          have h1p : 0 < ((openP (l))[2]'hlen).length := by omega
          refine VL.pick_t rfl rfl ?_
          refine VL.move rfl ?_
          refine VL.go rfl rfl rfl ?_
          refine VL.move rfl ?_
          refine VL.go rfl rfl rfl ?_
          refine VL.nilCheck rfl ?_
          refine VL.go rfl rfl rfl ?_
          refine VL.fieldAddr rfl fo216_0 rfl ?_
          refine VL.go rfl rfl rfl ?_
          refine loadL 0 rfl rfl (fun p19 c20 w21 hO22 hA23 => ?_)
          refine VL.go rfl rfl rfl ?_
          refine VL.index (xs := (openP l)) rfl rfl Try.underlying31 sz31 hA23 (by omega) (by have hi := hlen; omega) ?_
          refine VL.go rfl rfl rfl ?_
          refine VL.elem (s := ⟨w21, _⟩) (2) 0 rfl kd24 (fun _ h => h) (by repeat (first | exact List.mem_cons_self .. | apply List.mem_cons_of_mem)) (Mono.slice Mono.byte) hA23 (List.getElem?_eq_getElem hlen) (by simp) (by decide) (fun vs v hl hr hv => ?_)
          obtain ⟨p26, c27, rfl, hA28⟩ := hr
          have ehy25 : v = .slice p26 ((openP l)[2]'hlen).length c27 := Option.some.inj (hv.symm.trans rfl)
          subst ehy25
          refine VL.go rfl rfl rfl ?_
          refine VL.index (xs := ((openP l)[2]'hlen)) rfl rfl Try.underlying24 sz24 hA28 (by omega) (by have hi := h1p; omega) ?_
          refine VL.go rfl rfl rfl ?_
          refine VL.byte (s := ⟨w21, _⟩) (y := ((openP l)[2]'hlen)[0]'h1p) rfl kd5 (fun _ h => h) (by repeat (first | exact List.mem_cons_self .. | apply List.mem_cons_of_mem)) hA28 ((congrArg (fun k : Nat => ((openP l)[2]'hlen)[k]?) (show _ = 0 by simp)).trans (List.getElem?_eq_getElem h1p)) ?_
          refine VL.go rfl rfl rfl ?_
          refine VL.lss rfl rfl ?_
          refine VL.case (fun h4_25 => ?_) (fun h4_25 => ?_)
          · have hb : kindBad (openP l) := (kb_iff hlen h1l h1p).2 (kindIn_no (.inl (by have h : ((((((openP (l))[2]'hlen)[0]'h1p).toNat : Nat)) : Int) < 1 := h4_25; omega)))
            refine VL.go rfl rfl rfl ?_
            refine VL.move rfl ?_
            refine VL.pass rfl rfl rfl rfl rfl ?_
            refine VL.pass rfl rfl rfl rfl rfl ?_
            refine VL.pass rfl rfl rfl rfl rfl ?_
            refine VL.pass rfl rfl rfl rfl rfl ?_
            refine VL.pass rfl rfl rfl rfl rfl ?_
            refine VL.pass rfl rfl rfl rfl rfl ?_
            refine VL.pass rfl rfl rfl rfl rfl ?_
            refine VL.pass rfl rfl rfl rfl rfl ?_
            refine VL.pass rfl rfl rfl rfl rfl ?_
            refine VL.go rfl rfl rfl ?_
            refine VL.pick_t rfl rfl ?_
            refine VL.pick_t rfl rfl ?_
            refine VL.nil ?_
            exact VX.join hrest true ⟨fun _ => hb, fun _ => rfl⟩ ⟨rfl, rfl, rfl, rfl, trivial⟩ (fun _ h => h.sub (fun _ hs => by repeat (first | exact hs | apply List.mem_cons_of_mem)))
          · skip
            refine VL.go rfl rfl rfl ?_
            refine VL.move rfl ?_
            refine VL.go rfl rfl rfl ?_
            refine VL.move rfl ?_
            refine VL.go rfl rfl rfl ?_
            refine VL.nilCheck rfl ?_
            refine VL.go rfl rfl rfl ?_
            refine VL.fieldAddr rfl fo216_0 rfl ?_
            refine VL.go rfl rfl rfl ?_
            refine loadL 0 rfl rfl (fun p31 c32 w33 hO34 hA35 => ?_)
            refine VL.go rfl rfl rfl ?_
            refine VL.index (xs := (openP l)) rfl rfl Try.underlying31 sz31 hA35 (by omega) (by have hi := hlen; omega) ?_
            refine VL.go rfl rfl rfl ?_
            refine VL.elem (s := ⟨w33, _⟩) (2) 0 rfl kd24 (fun _ h => h) (by repeat (first | exact List.mem_cons_self .. | apply List.mem_cons_of_mem)) (Mono.slice Mono.byte) hA35 (List.getElem?_eq_getElem hlen) (by simp) (by decide) (fun vs v hl hr hv => ?_)
            obtain ⟨p38, c39, rfl, hA40⟩ := hr
            have ehy37 : v = .slice p38 ((openP l)[2]'hlen).length c39 := Option.some.inj (hv.symm.trans rfl)
            subst ehy37
            refine VL.go rfl rfl rfl ?_
            refine VL.index (xs := ((openP l)[2]'hlen)) rfl rfl Try.underlying24 sz24 hA40 (by omega) (by have hi := h1p; omega) ?_
            refine VL.go rfl rfl rfl ?_
            refine VL.byte (s := ⟨w33, _⟩) (y := ((openP l)[2]'hlen)[0]'h1p) rfl kd5 (fun _ h => h) (by repeat (first | exact List.mem_cons_self .. | apply List.mem_cons_of_mem)) hA40 ((congrArg (fun k : Nat => ((openP l)[2]'hlen)[k]?) (show _ = 0 by simp)).trans (List.getElem?_eq_getElem h1p)) ?_
            refine VL.go rfl rfl rfl ?_
            refine VL.gtr rfl rfl ?_
            refine VL.case (fun h4_35 => ?_) (fun h4_35 => ?_)
            · have hb : kindBad (openP l) := (kb_iff hlen h1l h1p).2 (kindIn_no (.inr (by have h : (4 : Int) < ((((((openP (l))[2]'hlen)[0]'h1p).toNat : Nat)) : Int) := h4_35; omega)))
              refine VL.go rfl rfl rfl ?_
              refine VL.pick_f rfl rfl ?_
              refine VL.pick_t rfl rfl ?_
              refine VL.nil ?_
              exact VX.join hrest true ⟨fun _ => hb, fun _ => rfl⟩ ⟨rfl, rfl, rfl, rfl, trivial⟩ (fun _ h => h.sub (fun _ hs => by repeat (first | exact hs | apply List.mem_cons_of_mem)))
            · have hnb : ¬ kindBad (openP l) := fun hb => by
                have h1 := (kb_iff hlen h1l h1p).1 hb
                rw [kindIn_of.2 ⟨by have h : ¬ ((((((openP (l))[2]'hlen)[0]'h1p).toNat : Nat)) : Int) < 1 := h4_25; omega, by have h : ¬ (4 : Int) < ((((((openP (l))[2]'hlen)[0]'h1p).toNat : Nat)) : Int) := h4_35; omega⟩] at h1
                cases h1
              refine VL.go rfl rfl rfl ?_
              refine VL.pick_f rfl rfl ?_
              refine VL.pick_t rfl rfl ?_
              refine VL.nil ?_
              exact VX.join hrest false ⟨fun h => absurd h (by decide), fun h => absurd h hnb⟩ ⟨rfl, rfl, rfl, rfl, trivial⟩ (fun _ h => h.sub (fun _ hs => by repeat (first | exact hs | apply List.mem_cons_of_mem)))
        · have hnb : ¬ kindBad (openP l) := kb_len hlen (by omega)
          refine VL.pick_t rfl rfl ?_
          refine VL.move rfl ?_
          refine VL.pass rfl rfl rfl rfl rfl ?_
          refine VL.pass rfl rfl rfl rfl rfl ?_
          refine VL.pass rfl rfl rfl rfl rfl ?_
          refine VL.pass rfl rfl rfl rfl rfl ?_
          refine VL.pass rfl rfl rfl rfl rfl ?_
          refine VL.pass rfl rfl rfl rfl rfl ?_
          refine VL.pass rfl rfl rfl rfl rfl ?_
          refine VL.pass rfl rfl rfl rfl rfl ?_
          refine VL.pass rfl rfl rfl rfl rfl ?_
          refine VL.pass rfl rfl rfl rfl rfl ?_
          refine VL.passu rfl rfl rfl rfl ?_
          refine VL.passu rfl rfl rfl rfl ?_
          refine VL.passu rfl rfl rfl rfl ?_
          refine VL.passu rfl rfl rfl rfl ?_
          refine VL.passu rfl rfl rfl rfl ?_
          refine VL.passu rfl rfl rfl rfl ?_
          refine VL.passu rfl rfl rfl rfl ?_
          refine VL.passu rfl rfl rfl rfl ?_
          refine VL.passu rfl rfl rfl rfl ?_
          refine VL.pass rfl rfl rfl rfl rfl ?_
          refine VL.pick_f rfl rfl ?_
          refine VL.nil ?_
          exact VX.join hrest false ⟨fun h => absurd h (by decide), fun h => absurd h hnb⟩ ⟨rfl, rfl, rfl, rfl, trivial⟩ (fun _ h => h.sub (fun _ hs => by repeat (first | exact hs | apply List.mem_cons_of_mem)))
      · have hnb : ¬ kindBad (openP l) := kb_short (by omega)
        refine VL.move rfl ?_
        refine VL.pass rfl rfl rfl rfl rfl ?_
        refine VL.pass rfl rfl rfl rfl rfl ?_
        refine VL.pass rfl rfl rfl rfl rfl ?_
        refine VL.pass rfl rfl rfl rfl rfl ?_
        refine VL.pass rfl rfl rfl rfl rfl ?_
        refine VL.pass rfl rfl rfl rfl rfl ?_
        refine VL.pass rfl rfl rfl rfl rfl ?_
        refine VL.pass rfl rfl rfl rfl rfl ?_
        refine VL.pick_f rfl rfl ?_
        refine VL.move rfl ?_
        refine VL.pass rfl rfl rfl rfl rfl ?_
        refine VL.pass rfl rfl rfl rfl rfl ?_
        refine VL.pass rfl rfl rfl rfl rfl ?_
        refine VL.pass rfl rfl rfl rfl rfl ?_
        refine VL.pass rfl rfl rfl rfl rfl ?_
        refine VL.pass rfl rfl rfl rfl rfl ?_
        refine VL.pass rfl rfl rfl rfl rfl ?_
        refine VL.pass rfl rfl rfl rfl rfl ?_
        refine VL.pass rfl rfl rfl rfl rfl ?_
        refine VL.pass rfl rfl rfl rfl rfl ?_
        refine VL.passu rfl rfl rfl rfl ?_
        refine VL.passu rfl rfl rfl rfl ?_
        refine VL.passu rfl rfl rfl rfl ?_
        refine VL.passu rfl rfl rfl rfl ?_
        refine VL.passu rfl rfl rfl rfl ?_
        refine VL.passu rfl rfl rfl rfl ?_
        refine VL.passu rfl rfl rfl rfl ?_
        refine VL.passu rfl rfl rfl rfl ?_
        refine VL.passu rfl rfl rfl rfl ?_
        refine VL.pass rfl rfl rfl rfl rfl ?_
        refine VL.pick_f rfl rfl ?_
        refine VL.nil ?_
        exact VX.join hrest false ⟨fun h => absurd h (by decide), fun h => absurd h hnb⟩ ⟨rfl, rfl, rfl, rfl, trivial⟩ (fun _ h => h.sub (fun _ hs => by repeat (first | exact hs | apply List.mem_cons_of_mem)))
    skip
    refine VC.split rfl (fun hc58 => ?_) (fun hc58 => ?_)
    · refine VC.seq ?_
      refine VC.region ?_
      refine VL.build0 (cs := cat (pktV (pkt0) none 0 none 0)) built118 ?_
      refine VL.store (L := pktL) (qs := (pktV (pkt0) none 0 none 0)) (ps' := (pktV (pkt0) none 0 none 0)) 1 0 6 rfl rfl rfl (.inl kd118) rfl rfl rfl (pktV_ok1 pkt0 none 0 none 0) rfl rfl ?_
      refine VL.turn (G' := Own _ (tch g2 true (openP l) :: blk g1 118 pktL (pktV (pkt0) none 0 none 0) :: H)) (fun _ h => h) ?_
      refine VL.assign rfl ?_
      refine VL.nil ?_
      refine VX.next ?_
      refine VC.ret ?_
      refine VX.then_ret ?_
      refine VX.ret_cell (cs := cat (pktV (pkt0) none 0 none 0)) 1 rfl rfl rfl kd118 (fun _ h => h) rfl rfl (fun we hw => ?_)
      obtain ⟨e1, e2⟩ := pktW_bad (hbk.1 hc58)
      exact ⟨none, 0, none, 0, by rw [e1]; exact congrArg (fun n : Nat => Value.tuple #[_, .int .i64 (n : Int)]) (e2).symm, hw.drop.drop.sub (fun _ hs => by repeat (first | exact hs | apply List.mem_cons_of_mem)), by rw [e1]; exact Arr.none, by rw [e1]; exact Arr.none⟩
    · refine VC.skip ?_
      refine VX.next ?_
      refine VC.seq ?_
      have hnb : ¬ kindBad (openP l) := mt hbk.2 (by rw [hc58]; decide)
      refine VC.region ?_
      refine VL.move rfl ?_
      refine VL.call Try.func141 rfl (by decide) rfl (fun w' hw => num_T (i := 0) rfl hw) (fun v => ?_)
      refine VL.fact fun e43 => ?_
      subst e43
      refine VL.turn (G' := Own _ (tch g2 false ((openP l).drop 1) :: blk g1 118 pktL (pktV (pkt0) none 0 none 0) :: H)) (fun _ h => h) ?_
      refine VL.convw (by rw [Try.underlying3]; rfl) Try.underlying5 rfl ?_
      refine VL.newv (v' := .int .u8 (tkN 1 (openP l) : Nat)) (wrapT_u8 _) ?_
      refine VL.move rfl ?_
      refine VL.call Try.func141 rfl (by decide) rfl (fun w' hw => num_T (i := 0) rfl hw) (fun v => ?_)
      refine VL.fact fun e44 => ?_
      subst e44
      refine VL.turn (G' := Own _ (tch g2 false (((openP l).drop 1).drop 1) :: blk g1 118 pktL (pktV (pkt0) none 0 none 0) :: H)) (fun _ h => h) ?_
      refine VL.convw (by rw [Try.underlying3]; rfl) Try.underlying5 rfl ?_
      refine VL.newv (v' := .int .u8 (tkN 1 ((openP l).drop 1) : Nat)) (wrapT_u8 _) ?_
      refine VL.move rfl ?_
      refine VL.call Try.func141 rfl (by decide) rfl (fun w' hw => num_T (i := 0) rfl hw) (fun v => ?_)
      refine VL.fact fun e45 => ?_
      subst e45
      refine VL.turn (G' := Own _ (tch g2 false ((((openP l).drop 1).drop 1).drop 1) :: blk g1 118 pktL (pktV (pkt0) none 0 none 0) :: H)) (fun _ h => h) ?_
      refine VL.convw (by rw [Try.underlying3]; rfl) Try.underlying5 rfl ?_
      refine VL.newv (v' := .int .u8 (tkN 1 (((openP l).drop 1).drop 1) : Nat)) (wrapT_u8 _) ?_
      refine VL.build (zs := pktZ) (L := pktFL) [(0, [.int .u8 (tkN 1 (openP l))]), (1, [.int .u8 (tkN 1 ((openP l).drop 1))]), (2, [.int .u8 (tkN 1 (((openP l).drop 1).drop 1))])] plan118 rfl ⟨⟨rfl, ⟨_, rfl, rfl⟩, rfl⟩, ⟨⟨rfl, ⟨_, rfl, rfl⟩, rfl⟩, ⟨⟨rfl, ⟨_, rfl, rfl⟩, rfl⟩, trivial⟩⟩⟩ rfl ?_
      refine VL.newv (v' := .agg (cat (pktV ((Pkt.mk (tkN 1 (openP l)) (tkN 1 ((openP l).drop 1)) (tkN 1 (((openP l).drop 1).drop 1)) [] [] (zeros 64))) none 0 none 0)).toArray) rfl ?_
      refine VL.alloc (L := pktL) (ps := (pktV (pkt0) none 0 none 0)) zero118 rfl rfl (fun g46 => ?_)
      refine VL.store (L := pktL) (qs := (pktV ((Pkt.mk (tkN 1 (openP l)) (tkN 1 ((openP l).drop 1)) (tkN 1 (((openP l).drop 1).drop 1)) [] [] (zeros 64))) none 0 none 0)) (ps' := (pktV ((Pkt.mk (tkN 1 (openP l)) (tkN 1 ((openP l).drop 1)) (tkN 1 (((openP l).drop 1).drop 1)) [] [] (zeros 64))) none 0 none 0)) 0 0 6 rfl rfl rfl (.inl kd118) rfl rfl (pktV_len ((⟨tkN_lt 1 _, tkN_lt 1 _, tkN_lt 1 _, (by simp), rfl⟩ : Pkt.ok (Pkt.mk (tkN 1 (openP l)) (tkN 1 ((openP l).drop 1)) (tkN 1 (((openP l).drop 1).drop 1)) [] [] (zeros 64))))) (pktV_ok1 ((Pkt.mk (tkN 1 (openP l)) (tkN 1 ((openP l).drop 1)) (tkN 1 (((openP l).drop 1).drop 1)) [] [] (zeros 64))) none 0 none 0) rfl rfl ?_
      refine VL.turn (G' := Own _ (blk g46 118 pktL (pktV ((Pkt.mk (tkN 1 (openP l)) (tkN 1 ((openP l).drop 1)) (tkN 1 (((openP l).drop 1).drop 1)) [] [] (zeros 64))) none 0 none 0) :: tch g2 false ((((openP l).drop 1).drop 1).drop 1) :: blk g1 118 pktL (pktV (pkt0) none 0 none 0) :: H)) (fun _ h => h) ?_
      refine VL.nil ?_
      refine VX.next ?_
      refine VC.seq ?_
      refine VC.region ?_
      refine VL.move rfl ?_
      refine VL.call Try.func142 rfl (by decide) rfl (fun w' hw => next_T (i := 1) rfl hw) (fun v => ?_)
      refine VL.at (fun w47 h1w => ?_)
      obtain ⟨p48, c49, rfl, hO51, hA50⟩ := h1w
      replace hO51 : Own _ (blk g46 118 pktL (pktV ((Pkt.mk (tkN 1 (openP l)) (tkN 1 ((openP l).drop 1)) (tkN 1 (((openP l).drop 1).drop 1)) [] [] (zeros 64))) none 0 none 0) :: tch g2 false (((((openP l).drop 1).drop 1).drop 1).drop 1) :: blk g1 118 pktL (pktV (pkt0) none 0 none 0) :: H) w47 := hO51
      replace hA50 : Bytes (keys (blk g46 118 pktL (pktV ((Pkt.mk (tkN 1 (openP l)) (tkN 1 ((openP l).drop 1)) (tkN 1 (((openP l).drop 1).drop 1)) [] [] (zeros 64))) none 0 none 0) :: tch g2 false (((((openP l).drop 1).drop 1).drop 1).drop 1) :: blk g1 118 pktL (pktV (pkt0) none 0 none 0) :: H)) w47 p48 ((nextP ((((openP l).drop 1).drop 1).drop 1))) c49 := hA50
      refine VL.toOwn hO51 ?_
      refine VL.call Try.func140 rfl (by decide) rfl (fun w' hw => open_T hw (hA50.now (s := ⟨w47, _⟩) Mono.byte hw (by repeat (first | exact List.mem_cons_self .. | apply List.mem_cons_of_mem)))) (fun v => ?_)
      refine VL.ex fun g52 => VL.fact fun e53 => ?_
      subst e53
      refine VL.move rfl ?_
      refine VL.extract rfl rfl ?_
      refine VL.extract rfl rfl ?_
      refine VL.assign rfl ?_
      refine VL.assign rfl ?_
      refine VL.nil ?_
      refine VX.next ?_
      refine VC.seq ?_
      refine VC.block ?_
      refine VC.turn (G' := Own _ (arow 85 101 objectR' Mono_object none 0 ([] : List Object) :: tch g52 true (openP (nextP ((((openP l).drop 1).drop 1).drop 1))) :: blk g46 118 pktL (pktV ((Pkt.mk (tkN 1 (openP l)) (tkN 1 ((openP l).drop 1)) (tkN 1 (((openP l).drop 1).drop 1)) [] [] (zeros 64))) none 0 none 0) :: tch g2 false (((((openP l).drop 1).drop 1).drop 1).drop 1) :: blk g1 118 pktL (pktV (pkt0) none 0 none 0) :: H)) (fun w' h => newRowO h) ?_
      have hpl := openP_len (nextP ((((openP l).drop 1).drop 1).drop 1))
      refine VC.loop (X := List Object × List (List UInt8) × Option Nat × Nat) (fun _ => [(2, .pointer (some ⟨g1, 0, none⟩)), (4, .pointer (some ⟨g2, 0, none⟩)), (6, .pointer (some ⟨g46, 0, none⟩)), (7, .pointer (some ⟨g52, 0, none⟩)), (0, .slice p l.length c)]) (fun (xs, ps, gv, cv) w' => ((∀ x ∈ xs, x.ok) ∧ chainT' (nextP ((((openP l).drop 1).drop 1).drop 1)) = xs ++ objsOf ps ∧ xs.length + ps.length ≤ 64) ∧ Own (⟨w, keys H⟩ :: S) (arow 85 101 objectR' Mono_object gv cv xs :: tch g52 false ps :: blk g46 118 pktL (pktV ((Pkt.mk (tkN 1 (openP l)) (tkN 1 ((openP l).drop 1)) (tkN 1 (((openP l).drop 1).drop 1)) xs [] (zeros 64))) (gv.map fun g => (⟨g, 0, none⟩ : Addr)) cv none 0) :: tch g2 false (((((openP l).drop 1).drop 1).drop 1).drop 1) :: blk g1 118 pktL (pktV (pkt0) none 0 none 0) :: H) w') (fun (_, ps, _) => ps.length) ([], (openP (nextP ((((openP l).drop 1).drop 1).drop 1))), none, 0) ⟨rfl, rfl, rfl, rfl, rfl, trivial⟩ (fun w' h => ⟨⟨by simp, rfl, by simp only [List.length_nil]; omega⟩, (tkFree1 h).sub (fun _ hs => by repeat (first | exact hs | apply List.mem_cons_of_mem))⟩) (fun (xs, ps, gv, cv) => VC.fact fun ⟨hxs, hveq, hvl⟩ => ?_)
      · skip
        refine VC.seq ?_
        refine VC.seq ?_
        refine VC.region ?_
        refine VL.move rfl ?_
        refine VL.call Try.func143 rfl (by decide) rfl (fun w' hw => left_T (i := 1) rfl hw) (fun v => ?_)
        refine VL.fact fun e54 => ?_
        subst e54
        refine VL.gtr rfl rfl ?_
        refine VL.case (fun h8 => ?_) (fun h8 => ?_)
        · obtain ⟨pc, rest, rfl⟩ : ∃ pc rest, ps = pc :: rest := by
            cases ps with
            | nil => exact absurd h8 (by simp)
            | cons a b => exact ⟨a, b, rfl⟩
          refine VL.nil ?_
          refine VX.next ?_
          refine VC.yes rfl ?_
          refine VC.skip ?_
          refine VX.next ?_
          refine VC.block ?_
          refine VC.seq ?_
          refine VC.region ?_
          refine VL.move rfl ?_
          refine VL.call Try.func142 rfl (by decide) rfl (fun w' hw => next_T (i := 1) rfl hw) (fun v => ?_)
          refine VL.at (fun w55 h1w => ?_)
          obtain ⟨p56, c57, rfl, hO59, hA58⟩ := h1w
          replace hO59 : Own _ (arow 85 101 objectR' Mono_object gv cv xs :: tch g52 false rest :: blk g46 118 pktL (pktV ((Pkt.mk (tkN 1 (openP l)) (tkN 1 ((openP l).drop 1)) (tkN 1 (((openP l).drop 1).drop 1)) xs [] (zeros 64))) (gv.map fun g => (⟨g, 0, none⟩ : Addr)) cv none 0) :: tch g2 false (((((openP l).drop 1).drop 1).drop 1).drop 1) :: blk g1 118 pktL (pktV (pkt0) none 0 none 0) :: H) w55 := hO59
          replace hA58 : Bytes (keys (arow 85 101 objectR' Mono_object gv cv xs :: tch g52 false rest :: blk g46 118 pktL (pktV ((Pkt.mk (tkN 1 (openP l)) (tkN 1 ((openP l).drop 1)) (tkN 1 (((openP l).drop 1).drop 1)) xs [] (zeros 64))) (gv.map fun g => (⟨g, 0, none⟩ : Addr)) cv none 0) :: tch g2 false (((((openP l).drop 1).drop 1).drop 1).drop 1) :: blk g1 118 pktL (pktV (pkt0) none 0 none 0) :: H)) w55 p56 pc c57 := hA58
          refine VL.toOwn hO59 ?_
          refine VL.call Try.func96 rfl (by decide) rfl (fun w' hw => readObject_w hw (hA58.now (s := ⟨w55, _⟩) Mono.byte hw (by repeat (first | exact List.mem_cons_self .. | apply List.mem_cons_of_mem)))) (fun v => ?_)
          refine VL.at (fun w60 h1w => ?_)
          obtain ⟨p62, c63, rfl, hO61, hA64⟩ := h1w
          refine VL.toOwn hO61 ?_
          refine VL.move rfl ?_
          refine VL.extract rfl rfl ?_
          refine VL.extract rfl rfl ?_
          refine VL.alloc (L := objectL) (ps := (objectV (object0) none 0)) zero85 rfl rfl (fun g65 => ?_)
          refine VL.store (L := objectL) (qs := (objectV (((objectR pc).getD object0)) p62 c63)) (ps' := (objectV (((objectR pc).getD object0)) p62 c63)) 0 0 7 rfl rfl rfl (.inl kd85) rfl rfl (objectV_len (objectR_ok pc)) (objectV_ok1 (((objectR pc).getD object0)) p62 c63) rfl rfl ?_
          refine VL.turn (G' := Own _ (blk g65 85 objectL (objectV (((objectR pc).getD object0)) p62 c63) :: arow 85 101 objectR' Mono_object gv cv xs :: tch g52 false rest :: blk g46 118 pktL (pktV ((Pkt.mk (tkN 1 (openP l)) (tkN 1 ((openP l).drop 1)) (tkN 1 (((openP l).drop 1).drop 1)) xs [] (zeros 64))) (gv.map fun g => (⟨g, 0, none⟩ : Addr)) cv none 0) :: tch g2 false (((((openP l).drop 1).drop 1).drop 1).drop 1) :: blk g1 118 pktL (pktV (pkt0) none 0 none 0) :: H)) (fun _ h => h) ?_
          refine VL.assign rfl ?_
          refine VL.nil ?_
          refine VX.next ?_
          have hxs2 : ∀ x ∈ xs ++ [((objectR pc).getD object0)], x.ok := fun x hx => (List.mem_append.1 hx).elim (hxs x) (fun h => by rw [List.mem_singleton] at h; subst h; exact objectR_ok pc)
          refine VC.region ?_
          refine VL.fieldAddr rfl fo118_3 rfl ?_
          refine VL.load (v := .slice (gv.map fun g => (⟨g, 0, none⟩ : Addr)) (xs).length cv) 3 3 rfl kd116 (fun _ h => h) rfl rfl rfl ?_
          refine VL.loads (cs := cat (objectV (((objectR pc).getD object0)) p62 c63)) 0 0 7 rfl kd85 (fun _ h => h) rfl rfl rfl rfl ?_
          refine VL.lit el116 rfl rfl rfl (by intro v hv; simp only [List.mem_singleton] at hv; subst hv; show (cat (objectV ((objectR pc).getD object0) p62 c63)).toArray.size = 101; rw [List.size_toArray, cat_size (objectV_len (objectR_ok pc))]; rfl) (by rw [show [Value.agg (cat (objectV ((objectR pc).getD object0) p62 c63)).toArray].flatMap (·.cells.toList) = (cat (objectV ((objectR pc).getD object0) p62 c63)) by simp [Value.cells]]; exact objectV_ok1 _ _ _) (fun gz => ?_)
          refine VL.letRow objectR' [((objectR pc).getD object0)] rfl (fun w' hw => one_object (objectR_ok pc) (hA64.now (s := ⟨w60, _⟩) Mono_vouch hw (by repeat (first | exact List.mem_cons_self .. | apply List.mem_cons_of_mem)))) (fun wl hOl hAl => ?_)
          refine VL.appends (R := objectR') (hR := Mono_object) (ys := xs) (zs := [((objectR pc).getD object0)]) 1 el116 rfl rfl rfl (fun _ h => h) rfl (fun _ hw => (hAl.now (s := ⟨wl, _⟩) Mono_object hw (by repeat (first | exact List.mem_cons_self .. | apply List.mem_cons_of_mem)))) objectR'_ok1 (by simp only [List.length_cons, List.length_nil] at hvl ⊢; omega) (fun gv2 cv2 => ?_) (by simp only [List.length_cons, List.length_nil] at hvl ⊢; omega)
          refine VL.turn (G' := Own _ (blk g65 85 objectL (objectV (((objectR pc).getD object0)) p62 c63) :: arow 85 101 objectR' Mono_object gv2 cv2 (xs ++ [((objectR pc).getD object0)]) :: tch g52 false rest :: blk g46 118 pktL (pktV ((Pkt.mk (tkN 1 (openP l)) (tkN 1 ((openP l).drop 1)) (tkN 1 (((openP l).drop 1).drop 1)) xs [] (zeros 64))) (gv.map fun g => (⟨g, 0, none⟩ : Addr)) cv none 0) :: tch g2 false (((((openP l).drop 1).drop 1).drop 1).drop 1) :: blk g1 118 pktL (pktV (pkt0) none 0 none 0) :: H)) (fun _ h => h) ?_
          refine VL.fieldAddr rfl fo118_3 rfl ?_
          refine VL.store (L := pktL) (qs := [[rowV gv2 (xs ++ [((objectR pc).getD object0)]).length cv2]]) (ps' := (pktV ((Pkt.mk (tkN 1 (openP l)) (tkN 1 ((openP l).drop 1)) (tkN 1 (((openP l).drop 1).drop 1)) (xs ++ [((objectR pc).getD object0)]) [] (zeros 64))) (gv2.map fun g => (⟨g, 0, none⟩ : Addr)) cv2 none 0)) 3 3 1 rfl rfl rfl (.inr ⟨kd116, rfl⟩) rfl rfl rfl (by intro u hu; simp [cat] at hu; subst hu; rfl) rfl rfl ?_
          refine VL.turn (G' := Own _ (blk g65 85 objectL (objectV (((objectR pc).getD object0)) p62 c63) :: arow 85 101 objectR' Mono_object gv2 cv2 (xs ++ [((objectR pc).getD object0)]) :: tch g52 false rest :: blk g46 118 pktL (pktV ((Pkt.mk (tkN 1 (openP l)) (tkN 1 ((openP l).drop 1)) (tkN 1 (((openP l).drop 1).drop 1)) (xs ++ [((objectR pc).getD object0)]) [] (zeros 64))) (gv2.map fun g => (⟨g, 0, none⟩ : Addr)) cv2 none 0) :: tch g2 false (((((openP l).drop 1).drop 1).drop 1).drop 1) :: blk g1 118 pktL (pktV (pkt0) none 0 none 0) :: H)) (fun _ h => h) ?_
          refine VL.nil ?_
          refine VX.block_normal ?_
          refine VX.round (xs ++ [((objectR pc).getD object0)], rest, gv2, cv2) ⟨rfl, rfl, rfl, rfl, rfl, trivial⟩ (fun w' h => ⟨⟨hxs2, objs_step hveq, by simp only [List.length_append, List.length_cons, List.length_nil] at hvl ⊢; omega⟩, (h.drop).sub (fun _ hs => by repeat (first | exact hs | apply List.mem_cons_of_mem))⟩) (by show rest.length < (pc :: rest).length; simp)
        · obtain rfl : ps = [] := List.eq_nil_of_length_eq_zero (by omega)
          refine VL.nil ?_
          refine VX.next ?_
          refine VC.no rfl ?_
          refine VC.exit ?_
          refine VX.then_exit ?_
          refine VX.then_exit ?_
          refine VX.block_here ?_
          refine VX.next ?_
          refine VC.seq ?_
          refine VC.letArr (fun wr hOr hAr => ?_)
          refine VC.region ?_
          refine VL.move rfl ?_
          refine VL.call Try.func142 rfl (by decide) rfl (fun w' hw => next_T (i := 2) rfl hw) (fun v => ?_)
          refine VL.at (fun w66 h1w => ?_)
          obtain ⟨p67, c68, rfl, hO70, hA69⟩ := h1w
          replace hO70 : Own _ (tch g52 false ([] : List (List UInt8)) :: blk g46 118 pktL (pktV ((Pkt.mk (tkN 1 (openP l)) (tkN 1 ((openP l).drop 1)) (tkN 1 (((openP l).drop 1).drop 1)) xs [] (zeros 64))) (gv.map fun g => (⟨g, 0, none⟩ : Addr)) cv none 0) :: tch g2 false ((((((openP l).drop 1).drop 1).drop 1).drop 1).drop 1) :: blk g1 118 pktL (pktV (pkt0) none 0 none 0) :: H) w66 := hO70
          replace hA69 : Bytes (keys (tch g52 false ([] : List (List UInt8)) :: blk g46 118 pktL (pktV ((Pkt.mk (tkN 1 (openP l)) (tkN 1 ((openP l).drop 1)) (tkN 1 (((openP l).drop 1).drop 1)) xs [] (zeros 64))) (gv.map fun g => (⟨g, 0, none⟩ : Addr)) cv none 0) :: tch g2 false ((((((openP l).drop 1).drop 1).drop 1).drop 1).drop 1) :: blk g1 118 pktL (pktV (pkt0) none 0 none 0) :: H)) w66 p67 ((nextP (((((openP l).drop 1).drop 1).drop 1).drop 1))) c68 := hA69
          refine VL.toOwn hO70 ?_
          refine VL.fieldAddr rfl fo118_4 rfl ?_
          refine VL.store (L := pktL) (qs := [[.slice p67 ((nextP (((((openP l).drop 1).drop 1).drop 1).drop 1))).length c68]]) (ps' := [[.int .u8 ((Pkt.mk (tkN 1 (openP l)) (tkN 1 ((openP l).drop 1)) (tkN 1 (((openP l).drop 1).drop 1)) xs [] (zeros 64)).src)], [.int .u8 ((Pkt.mk (tkN 1 (openP l)) (tkN 1 ((openP l).drop 1)) (tkN 1 (((openP l).drop 1).drop 1)) xs [] (zeros 64)).dst)], [.int .u8 ((Pkt.mk (tkN 1 (openP l)) (tkN 1 ((openP l).drop 1)) (tkN 1 (((openP l).drop 1).drop 1)) xs [] (zeros 64)).kind)], [.slice (gv.map fun g => (⟨g, 0, none⟩ : Addr)) (xs).length cv], [.slice p67 ((nextP (((((openP l).drop 1).drop 1).drop 1).drop 1))).length c68], ((Pkt.mk (tkN 1 (openP l)) (tkN 1 ((openP l).drop 1)) (tkN 1 (((openP l).drop 1).drop 1)) xs [] (zeros 64)).sig).map bv]) 1 4 1 rfl rfl rfl (.inr ⟨kd24, rfl⟩) rfl rfl rfl (by intro u hu; simp [cat] at hu; subst hu; rfl) rfl rfl ?_
          refine VL.turn (G' := Own _ (tch g52 false ([] : List (List UInt8)) :: blk g46 118 pktL [[.int .u8 ((Pkt.mk (tkN 1 (openP l)) (tkN 1 ((openP l).drop 1)) (tkN 1 (((openP l).drop 1).drop 1)) xs [] (zeros 64)).src)], [.int .u8 ((Pkt.mk (tkN 1 (openP l)) (tkN 1 ((openP l).drop 1)) (tkN 1 (((openP l).drop 1).drop 1)) xs [] (zeros 64)).dst)], [.int .u8 ((Pkt.mk (tkN 1 (openP l)) (tkN 1 ((openP l).drop 1)) (tkN 1 (((openP l).drop 1).drop 1)) xs [] (zeros 64)).kind)], [.slice (gv.map fun g => (⟨g, 0, none⟩ : Addr)) (xs).length cv], [.slice p67 ((nextP (((((openP l).drop 1).drop 1).drop 1).drop 1))).length c68], ((Pkt.mk (tkN 1 (openP l)) (tkN 1 ((openP l).drop 1)) (tkN 1 (((openP l).drop 1).drop 1)) xs [] (zeros 64)).sig).map bv] :: tch g2 false ((((((openP l).drop 1).drop 1).drop 1).drop 1).drop 1) :: blk g1 118 pktL (pktV (pkt0) none 0 none 0) :: H)) (fun _ h => h) ?_
          refine VL.nil ?_
          refine VX.next ?_
          refine VC.seq ?_
          refine VC.region ?_
          refine VL.move rfl ?_
          refine VL.call Try.func144 rfl (by decide) rfl (fun w' hw => sig_T (i := 2) rfl hw) (fun v => ?_)
          refine VL.fact fun e71 => ?_
          subst e71
          refine VL.turn (G' := Own _ (tch g52 false ([] : List (List UInt8)) :: blk g46 118 pktL [[.int .u8 ((Pkt.mk (tkN 1 (openP l)) (tkN 1 ((openP l).drop 1)) (tkN 1 (((openP l).drop 1).drop 1)) xs [] (zeros 64)).src)], [.int .u8 ((Pkt.mk (tkN 1 (openP l)) (tkN 1 ((openP l).drop 1)) (tkN 1 (((openP l).drop 1).drop 1)) xs [] (zeros 64)).dst)], [.int .u8 ((Pkt.mk (tkN 1 (openP l)) (tkN 1 ((openP l).drop 1)) (tkN 1 (((openP l).drop 1).drop 1)) xs [] (zeros 64)).kind)], [.slice (gv.map fun g => (⟨g, 0, none⟩ : Addr)) (xs).length cv], [.slice p67 ((nextP (((((openP l).drop 1).drop 1).drop 1).drop 1))).length c68], ((Pkt.mk (tkN 1 (openP l)) (tkN 1 ((openP l).drop 1)) (tkN 1 (((openP l).drop 1).drop 1)) xs [] (zeros 64)).sig).map bv] :: tch g2 false (((((((openP l).drop 1).drop 1).drop 1).drop 1).drop 1).drop 1) :: blk g1 118 pktL (pktV (pkt0) none 0 none 0) :: H)) (fun _ h => h) ?_
          refine VL.fieldAddr rfl fo118_5 rfl ?_
          refine VL.store (L := pktL) (qs := [(tkB 64 ((((((openP l).drop 1).drop 1).drop 1).drop 1).drop 1)).map bv]) (ps' := [[.int .u8 ((Pkt.mk (tkN 1 (openP l)) (tkN 1 ((openP l).drop 1)) (tkN 1 (((openP l).drop 1).drop 1)) xs [] (zeros 64)).src)], [.int .u8 ((Pkt.mk (tkN 1 (openP l)) (tkN 1 ((openP l).drop 1)) (tkN 1 (((openP l).drop 1).drop 1)) xs [] (zeros 64)).dst)], [.int .u8 ((Pkt.mk (tkN 1 (openP l)) (tkN 1 ((openP l).drop 1)) (tkN 1 (((openP l).drop 1).drop 1)) xs [] (zeros 64)).kind)], [.slice (gv.map fun g => (⟨g, 0, none⟩ : Addr)) (xs).length cv], [.slice p67 ((nextP (((((openP l).drop 1).drop 1).drop 1).drop 1))).length c68], (tkB 64 ((((((openP l).drop 1).drop 1).drop 1).drop 1).drop 1)).map bv]) 1 5 1 rfl rfl rfl (.inl kd80) rfl rfl (arr_len (tkB_length _ _)) (ok1_bytes _) rfl rfl ?_
          refine VL.turn (G' := Own _ (tch g52 false ([] : List (List UInt8)) :: blk g46 118 pktL [[.int .u8 ((Pkt.mk (tkN 1 (openP l)) (tkN 1 ((openP l).drop 1)) (tkN 1 (((openP l).drop 1).drop 1)) xs [] (zeros 64)).src)], [.int .u8 ((Pkt.mk (tkN 1 (openP l)) (tkN 1 ((openP l).drop 1)) (tkN 1 (((openP l).drop 1).drop 1)) xs [] (zeros 64)).dst)], [.int .u8 ((Pkt.mk (tkN 1 (openP l)) (tkN 1 ((openP l).drop 1)) (tkN 1 (((openP l).drop 1).drop 1)) xs [] (zeros 64)).kind)], [.slice (gv.map fun g => (⟨g, 0, none⟩ : Addr)) (xs).length cv], [.slice p67 ((nextP (((((openP l).drop 1).drop 1).drop 1).drop 1))).length c68], (tkB 64 ((((((openP l).drop 1).drop 1).drop 1).drop 1).drop 1)).map bv] :: tch g2 false (((((((openP l).drop 1).drop 1).drop 1).drop 1).drop 1).drop 1) :: blk g1 118 pktL (pktV (pkt0) none 0 none 0) :: H)) (fun _ h => h) ?_
          refine VL.nil ?_
          refine VX.next ?_
          refine VC.seq ?_
          refine VC.region ?_
          refine VL.loads (cs := cat (pktV ((pktT' (openP l) xs)) (gv.map fun g => (⟨g, 0, none⟩ : Addr)) cv p67 c68)) 1 0 6 rfl kd118 (fun _ h => h) rfl rfl rfl rfl ?_
          refine VL.call Try.func91 rfl (by decide) rfl (fun w' hw => refPkt_w hw (x := (pktT' (openP l) xs)) (pktT'_ok (openP l) hxs) (hAr.now (s := ⟨wr, _⟩) Mono_object hw (by repeat (first | exact List.mem_cons_self .. | apply List.mem_cons_of_mem))) (hA69.now (s := ⟨w66, _⟩) Mono.byte hw (by repeat (first | exact List.mem_cons_self .. | apply List.mem_cons_of_mem)))) (fun v => ?_)
          refine VL.at (fun w72 h1w => ?_)
          obtain ⟨p73, c74, rfl, hO76, hA75⟩ := h1w
          refine VL.toOwn hO76 ?_
          refine VL.move rfl ?_
          refine VL.extract rfl rfl ?_
          refine VL.extract rfl rfl ?_
          refine VL.assign rfl ?_
          refine VL.assign rfl ?_
          refine VL.nil ?_
          refine VX.next ?_
          refine VC.seq ?_
          refine VC.seq ?_
          refine VC.region ?_
          refine VL.move rfl ?_
          cases hs : (pktO (pktT' (openP l) xs)).isSome
          · refine VL.not rfl ?_
            refine VL.move rfl ?_
            refine VL.pass rfl rfl rfl rfl rfl ?_
            refine VL.pass rfl rfl rfl rfl rfl ?_
            refine VL.pass rfl rfl rfl rfl rfl ?_
            refine VL.pass rfl rfl rfl rfl rfl ?_
            refine VL.pick_t rfl rfl ?_
            refine VL.nil ?_
            refine VX.next ?_
            refine VC.yes rfl ?_
            refine VC.seq ?_
            refine VC.region ?_
            refine VL.build0 (cs := cat (pktV (pkt0) none 0 none 0)) built118 ?_
            refine VL.store (L := pktL) (qs := (pktV (pkt0) none 0 none 0)) (ps' := (pktV (pkt0) none 0 none 0)) 3 0 6 rfl rfl rfl (.inl kd118) rfl rfl rfl (pktV_ok1 pkt0 none 0 none 0) rfl rfl ?_
            refine VL.turn (G' := Own _ (tch g52 false ([] : List (List UInt8)) :: blk g46 118 pktL [[.int .u8 ((Pkt.mk (tkN 1 (openP l)) (tkN 1 ((openP l).drop 1)) (tkN 1 (((openP l).drop 1).drop 1)) xs [] (zeros 64)).src)], [.int .u8 ((Pkt.mk (tkN 1 (openP l)) (tkN 1 ((openP l).drop 1)) (tkN 1 (((openP l).drop 1).drop 1)) xs [] (zeros 64)).dst)], [.int .u8 ((Pkt.mk (tkN 1 (openP l)) (tkN 1 ((openP l).drop 1)) (tkN 1 (((openP l).drop 1).drop 1)) xs [] (zeros 64)).kind)], [.slice (gv.map fun g => (⟨g, 0, none⟩ : Addr)) (xs).length cv], [.slice p67 ((nextP (((((openP l).drop 1).drop 1).drop 1).drop 1))).length c68], (tkB 64 ((((((openP l).drop 1).drop 1).drop 1).drop 1).drop 1)).map bv] :: tch g2 false (((((((openP l).drop 1).drop 1).drop 1).drop 1).drop 1).drop 1) :: blk g1 118 pktL (pktV (pkt0) none 0 none 0) :: H)) (fun _ h => h) ?_
            refine VL.assign rfl ?_
            refine VL.nil ?_
            refine VX.next ?_
            refine VC.ret ?_
            refine VX.then_ret ?_
            refine VX.ret_cell (cs := cat (pktV (pkt0) none 0 none 0)) 3 rfl rfl rfl kd118 (fun _ h => h) rfl rfl (fun we hw => ?_)
            have e1 := pkt_no hveq (not_some hs)
            have e2 : pktW l = 141 := by rw [pktW_good hnb, e1]; rfl
            exact ⟨none, 0, none, 0, by rw [e1]; exact congrArg (fun n : Nat => Value.tuple #[_, .int .i64 (n : Int)]) (e2).symm, hw.drop.drop.drop.drop.sub (fun _ hs => by repeat (first | exact hs | apply List.mem_cons_of_mem)), by rw [e1]; exact Arr.none, by rw [e1]; exact Arr.none⟩
          · refine VL.not rfl ?_
            refine VL.move rfl ?_
            refine VL.go rfl rfl rfl ?_
            refine VL.move rfl ?_
            refine VL.go rfl rfl rfl ?_
            refine VL.move rfl ?_
            refine VL.go rfl rfl rfl ?_
            refine VL.call Try.func27 rfl (by decide) rfl (fun w' hw => bytes_B hw (hA75.now (s := ⟨w72, _⟩) Mono.byte hw (by repeat (first | exact List.mem_cons_self .. | apply List.mem_cons_of_mem))) (hA.now (s := ⟨w, _⟩) Mono.byte hw (by repeat (first | exact List.mem_cons_self .. | apply List.mem_cons_of_mem)))) (fun v => ?_)
            refine VL.ex fun b => VL.fact fun e => VL.fact fun h14_5 => ?_
            subst e
            cases b
            · have h14_5 := mt h14_5.2 (by decide)
              refine VL.go rfl rfl rfl ?_
              refine VL.not rfl ?_
              refine VL.pick_f rfl rfl ?_
              refine VL.nil ?_
              refine VX.next ?_
              refine VC.yes rfl ?_
              refine VC.seq ?_
              refine VC.region ?_
              refine VL.build0 (cs := cat (pktV (pkt0) none 0 none 0)) built118 ?_
              refine VL.store (L := pktL) (qs := (pktV (pkt0) none 0 none 0)) (ps' := (pktV (pkt0) none 0 none 0)) 3 0 6 rfl rfl rfl (.inl kd118) rfl rfl rfl (pktV_ok1 pkt0 none 0 none 0) rfl rfl ?_
              refine VL.turn (G' := Own _ (tch g52 false ([] : List (List UInt8)) :: blk g46 118 pktL [[.int .u8 ((Pkt.mk (tkN 1 (openP l)) (tkN 1 ((openP l).drop 1)) (tkN 1 (((openP l).drop 1).drop 1)) xs [] (zeros 64)).src)], [.int .u8 ((Pkt.mk (tkN 1 (openP l)) (tkN 1 ((openP l).drop 1)) (tkN 1 (((openP l).drop 1).drop 1)) xs [] (zeros 64)).dst)], [.int .u8 ((Pkt.mk (tkN 1 (openP l)) (tkN 1 ((openP l).drop 1)) (tkN 1 (((openP l).drop 1).drop 1)) xs [] (zeros 64)).kind)], [.slice (gv.map fun g => (⟨g, 0, none⟩ : Addr)) (xs).length cv], [.slice p67 ((nextP (((((openP l).drop 1).drop 1).drop 1).drop 1))).length c68], (tkB 64 ((((((openP l).drop 1).drop 1).drop 1).drop 1).drop 1)).map bv] :: tch g2 false (((((((openP l).drop 1).drop 1).drop 1).drop 1).drop 1).drop 1) :: blk g1 118 pktL (pktV (pkt0) none 0 none 0) :: H)) (fun _ h => h) ?_
              refine VL.assign rfl ?_
              refine VL.nil ?_
              refine VX.next ?_
              refine VC.ret ?_
              refine VX.then_ret ?_
              refine VX.ret_cell (cs := cat (pktV (pkt0) none 0 none 0)) 3 rfl rfl rfl kd118 (fun _ h => h) rfl rfl (fun we hw => ?_)
              have e1 := pkt_no hveq (not_getD h14_5)
              have e2 : pktW l = 141 := by rw [pktW_good hnb, e1]; rfl
              exact ⟨none, 0, none, 0, by rw [e1]; exact congrArg (fun n : Nat => Value.tuple #[_, .int .i64 (n : Int)]) (e2).symm, hw.drop.drop.drop.drop.sub (fun _ hs => by repeat (first | exact hs | apply List.mem_cons_of_mem)), by rw [e1]; exact Arr.none, by rw [e1]; exact Arr.none⟩
            · have h14_5 := h14_5.1 rfl
              refine VL.go rfl rfl rfl ?_
              refine VL.not rfl ?_
              refine VL.pick_f rfl rfl ?_
              refine VL.nil ?_
              refine VX.next ?_
              refine VC.no rfl ?_
              refine VC.skip ?_
              refine VX.next ?_
              refine VC.seq ?_
              refine VC.region ?_
              refine VL.loads (cs := cat (pktV ((pktT' (openP l) xs)) (gv.map fun g => (⟨g, 0, none⟩ : Addr)) cv p67 c68)) 1 0 6 rfl kd118 (fun _ h => h) rfl rfl rfl rfl ?_
              refine VL.store (L := pktL) (qs := (pktV ((pktT' (openP l) xs)) (gv.map fun g => (⟨g, 0, none⟩ : Addr)) cv p67 c68)) (ps' := (pktV ((pktT' (openP l) xs)) (gv.map fun g => (⟨g, 0, none⟩ : Addr)) cv p67 c68)) 3 0 6 rfl rfl rfl (.inl kd118) rfl rfl (pktV_len (pktT'_ok (openP l) hxs)) (pktV_ok1 ((pktT' (openP l) xs)) (gv.map fun g => (⟨g, 0, none⟩ : Addr)) cv p67 c68) rfl rfl ?_
              refine VL.turn (G' := Own _ (tch g52 false ([] : List (List UInt8)) :: blk g46 118 pktL [[.int .u8 ((Pkt.mk (tkN 1 (openP l)) (tkN 1 ((openP l).drop 1)) (tkN 1 (((openP l).drop 1).drop 1)) xs [] (zeros 64)).src)], [.int .u8 ((Pkt.mk (tkN 1 (openP l)) (tkN 1 ((openP l).drop 1)) (tkN 1 (((openP l).drop 1).drop 1)) xs [] (zeros 64)).dst)], [.int .u8 ((Pkt.mk (tkN 1 (openP l)) (tkN 1 ((openP l).drop 1)) (tkN 1 (((openP l).drop 1).drop 1)) xs [] (zeros 64)).kind)], [.slice (gv.map fun g => (⟨g, 0, none⟩ : Addr)) (xs).length cv], [.slice p67 ((nextP (((((openP l).drop 1).drop 1).drop 1).drop 1))).length c68], (tkB 64 ((((((openP l).drop 1).drop 1).drop 1).drop 1).drop 1)).map bv] :: tch g2 false (((((((openP l).drop 1).drop 1).drop 1).drop 1).drop 1).drop 1) :: blk g1 118 pktL (pktV ((pktT' (openP l) xs)) (gv.map fun g => (⟨g, 0, none⟩ : Addr)) cv p67 c68) :: H)) (fun _ h => h) ?_
              refine VL.assign rfl ?_
              refine VL.nil ?_
              refine VX.next ?_
              refine VC.ret ?_
              refine VX.ret_cell (cs := cat (pktV ((pktT' (openP l) xs)) (gv.map fun g => (⟨g, 0, none⟩ : Addr)) cv p67 c68)) 3 rfl rfl rfl (by rw [cat_size (pktV_len (pktT'_ok (openP l) hxs))]; exact kd118) (fun _ h => h) rfl rfl (fun we hw => ?_)
              have e1 := pkt_yes hveq (some_of hs h14_5)
              have e2 : pktW l = 0 := by rw [pktW_good hnb, e1]; rfl
              rw [e1, e2]
              exact ⟨_, _, _, _, rfl, hw.drop.drop.drop.drop.sub (fun _ hs => by repeat (first | exact hs | apply List.mem_cons_of_mem)), (hAr.now (s := ⟨wr, _⟩) Mono_object hw.drop.drop.drop.drop (by repeat (first | exact List.mem_cons_self .. | apply List.mem_cons_of_mem))), (hA69.now (s := ⟨w66, _⟩) Mono.byte hw.drop.drop.drop.drop (by repeat (first | exact List.mem_cons_self .. | apply List.mem_cons_of_mem)))⟩
  · refine VL.not rfl ?_
    refine VL.nil ?_
    refine VX.next ?_
    refine VC.yes rfl ?_
    refine VC.seq ?_
    refine VC.region ?_
    refine VL.build0 (cs := cat (pktV (pkt0) none 0 none 0)) built118 ?_
    refine VL.store (L := pktL) (qs := (pktV (pkt0) none 0 none 0)) (ps' := (pktV (pkt0) none 0 none 0)) 1 0 6 rfl rfl rfl (.inl kd118) rfl rfl rfl (pktV_ok1 pkt0 none 0 none 0) rfl rfl ?_
    refine VL.turn (G' := Own _ (tch g2 true (openP l) :: blk g1 118 pktL (pktV (pkt0) none 0 none 0) :: H)) (fun _ h => h) ?_
    refine VL.assign rfl ?_
    refine VL.nil ?_
    refine VX.next ?_
    refine VC.ret ?_
    refine VX.then_ret ?_
    refine VX.ret_cell (cs := cat (pktV (pkt0) none 0 none 0)) 1 rfl rfl rfl kd118 (fun _ h => h) rfl rfl (fun we hw => ?_)
    obtain ⟨e1, e2⟩ := pkt_empty ho
    exact ⟨none, 0, none, 0, by rw [e1]; exact congrArg (fun n : Nat => Value.tuple #[_, .int .i64 (n : Int)]) (e2).symm, hw.drop.drop.sub (fun _ hs => by repeat (first | exact hs | apply List.mem_cons_of_mem)), by rw [e1]; exact Arr.none, by rw [e1]; exact Arr.none⟩

end Go.Proofs.Ytcfecmoagfgnaaa

