/- The statement WirePackets is proved, for every input: part 5 of 5 of the texts that it needs. -/
import Derived.Test.YtcfecmoagfgnaaaMpktD
import Derived.Test.YtcfecmoagfgnaaaRows
/- wire: bytes of packets. -/
namespace Go.Proofs.Ytcfecmoagfgnaaa
open Go.Vc Go.Pl

theorem chain_next {xs : List Object} {i : Nat} (h : i < xs.length) : chainP (xs.take i) ++ [(objectO (xs[i]'h)).getD []] = chainP (xs.take (i + 1)) := by
  unfold chainP; rw [List.take_succ_eq_append_getElem h, List.map_append]; rfl
theorem ochain_next {xs : List Object} {i : Nat} (h : i < xs.length) (b : Bool) : ((b || !((xs.take i).all fun x => (objectO x).isSome)) || !(objectO (xs[i]'h)).isSome) = (b || !((xs.take (i + 1)).all fun x => (objectO x).isSome)) := by
  rw [List.take_succ_eq_append_getElem h, List.all_append]
  simp only [List.all_cons, List.all_nil, Bool.and_true]
  cases b <;> cases ((xs.take i).all fun x => (objectO x).isSome) <;> rfl
theorem chainP_length (xs : List Object) : (chainP xs).length = xs.length := by unfold chainP; rw [List.length_map]
theorem chainO_none {xs : List Object} (h : ¬ xs.length ≤ 4) : none = chainO xs := by
  unfold chainO chainGood; rw [decide_eq_false h, Bool.false_and]; exact none_joinO _
theorem chainO_done {xs : List Object} {i : Nat} (h0 : xs.length ≤ 4) (hie : i = xs.length) : joinO (chainP (xs.take i)) (!(false || !((xs.take i).all fun x => (objectO x).isSome))) = chainO xs := by
  unfold chainO chainGood; rw [hie, List.take_length, decide_eq_true h0, Bool.true_and, Bool.false_or, Bool.not_not]
theorem pktO_none {x : Pkt} (h : kindIn x.kind = false) : none = pktO x := by
  unfold pktO; rw [h, Bool.and_false]; exact none_joinO _
theorem pktO_is {x : Pkt} (h : kindIn x.kind = true) : joinO (pktP x) (!((false || !(chainO x.chain).isSome) || !true)) = pktO x := by
  unfold pktO; rw [h]; cases (chainO x.chain).isSome <;> rfl
/-- The text that is signed: its pieces. -/
def pktTP (x : Pkt) : List (List UInt8) := [[112, 97, 99, 107], be 1 x.src, be 1 x.dst, be 1 x.kind, (chainO x.chain).getD [], x.body]
def pktT (x : Pkt) : List UInt8 := (joinO (pktTP x) (chainO x.chain).isSome).getD []
theorem pktT_is {x : Pkt} : (joinO (pktTP x) (!((false || !(chainO x.chain).isSome) || !true))).getD [] = pktT x := by
  unfold pktT; cases (chainO x.chain).isSome <;> rfl

theorem chain_w {S : List Snap} {H : List Chunk} {w : World} (ho : Own S H w) {xs : List Object} (hxs : ∀ x ∈ xs, x.ok) {p : Option Addr} {c : Nat} (hX : Arr 101 objectR' (keys H) w p xs c) : Calls Try.prog 139 #[.slice p xs.length c] w (RetO S H (chainO xs)) := by
  have hsm := hX.small
  refine enter (G := Own (⟨w, keys H⟩ :: S) H) ho.keep Try.func139 rfl Try.ntmps139 rfl ?_
  refine VC.seq ?_
  refine VC.region ?_
  refine VL.assign rfl ?_
  refine VL.assign rfl ?_
  refine VL.nil ?_
  refine VX.next ?_
  refine VC.seq ?_
  refine VC.region ?_
  refine VL.build (zs := [[.slice none 0 0], [.bool false]]) [] plan181 rfl trivial rfl ?_
  refine VL.box (L := [1, 1]) (ps := [[rowV none 0 0], [.bool false]]) rfl rfl rfl (fun g1 => ?_)
  refine VL.turn (fun w' hw => Own.newW hw) ?_
  refine VL.assign rfl ?_
  refine VL.nil ?_
  refine VX.next ?_
  refine VC.seq ?_
  refine VC.seq ?_
  refine VC.region ?_
  refine VL.move rfl ?_
  refine VL.len Try.underlying116 rfl rfl ?_
  refine VL.gtr rfl rfl ?_
  refine VL.case (fun h2 => ?_) (fun h2 => ?_)
  · have h2 : ¬ xs.length ≤ 4 := by omega
    refine VL.nil ?_
    refine VX.next ?_
    refine VC.yes rfl ?_
    refine VC.seq ?_
    refine VC.region ?_
    refine VL.assign rfl ?_
    refine VL.assign rfl ?_
    refine VL.nil ?_
    refine VX.next ?_
    refine VC.ret ?_
    refine VX.then_ret ?_
    refine VX.ret2 rfl rfl rfl (fun we hw => ?_)
    exact postO ((chainO_none h2)) ⟨none, 0, rfl, hw.drop.drop.sub (fun _ hs => by repeat (first | exact hs | apply List.mem_cons_of_mem)), Arr.none⟩
  · have h2 : xs.length ≤ 4 := by omega
    refine VL.nil ?_
    refine VX.next ?_
    refine VC.no rfl ?_
    refine VC.skip ?_
    refine VX.next ?_
    refine VC.seq ?_
    refine VC.seq ?_
    refine VC.region ?_
    refine VL.move rfl ?_
    refine VL.len Try.underlying116 rfl rfl ?_
    refine VL.move rfl ?_
    refine VL.nil ?_
    refine VX.next ?_
    refine VC.block ?_
    refine VC.loop (X := Nat × Option Nat × Nat) (fun (i, gq, cq) => [(4, .pointer (some ⟨g1, 0, none⟩)), (12, .slice p xs.length c), (13, .int .i64 xs.length), (14, .int .i64 (i : Int))]) (fun (i, gq, cq) w' => i ≤ xs.length ∧ Own (⟨w, keys H⟩ :: S) (wblk g1 gq cq ((chainP (xs.take i))).length (false || !((xs.take i).all fun x => (objectO x).isSome)) :: brow gq cq ((chainP (xs.take i))) :: H) w') (fun (i, _) => xs.length - i) (0, none, 0) ⟨rfl, rfl, rfl, rfl, trivial⟩ (fun w' h => ⟨Nat.zero_le _, by have e1 : chainP (xs.take 0) = [] := rfl; have e2 : (false || !((xs.take 0).all fun x => (objectO x).isSome)) = false := rfl; rw [e1, e2]; exact h.sub (fun _ hs => by repeat (first | exact hs | apply List.mem_cons_of_mem))⟩) (fun (i, gq, cq) => VC.fact fun hi => ?_)
    · have htk : (chainP (List.take i xs)).length ≤ i := by rw [chainP_length]; exact List.length_take_le _ _
      refine VC.seq ?_
      refine VC.region ?_
      refine VL.lss rfl rfl ?_
      refine VL.case (fun h5 => ?_) (fun h5 => ?_)
      · have hlt : i < xs.length := by omega
        refine VL.nil ?_
        refine VX.next ?_
        refine VC.seq ?_
        refine VC.yes rfl ?_
        refine VC.skip ?_
        refine VX.next ?_
        refine VC.seq ?_
        refine VC.block ?_
        refine VC.seq ?_
        refine VC.region ?_
        refine VL.index (xs := xs) rfl rfl Try.underlying116 sz116 hX (by omega) (by have hi := hlt; omega) ?_
        refine VL.elems (s := ⟨w, _⟩) (m := 101) (i) 0 rfl kd85 (fun _ h => h) (by repeat (first | exact List.mem_cons_self .. | apply List.mem_cons_of_mem)) hX (List.getElem?_eq_getElem hlt) (by simp) (by decide) (fun vs hl hr => ?_)
        obtain ⟨q4, d5, hy3, rfl, hV6⟩ := hr
        refine VL.newv (v' := .agg (cat (objectV (xs[i]'hlt) q4 d5)).toArray) (by rw [List.drop_zero, List.take_of_length_le (by rw [hl]; decide)]) ?_
        refine VL.alloc (L := objectL) (ps := (objectV (object0) none 0)) zero85 rfl rfl (fun g7 => ?_)
        refine VL.store (L := objectL) (qs := (objectV ((xs[i]'hlt)) q4 d5)) (ps' := (objectV ((xs[i]'hlt)) q4 d5)) 0 0 7 rfl rfl rfl (.inl kd85) rfl rfl (objectV_len (hxs _ (List.getElem_mem hlt))) (objectV_ok1 ((xs[i]'hlt)) q4 d5) rfl rfl ?_
        refine VL.turn (G' := Own _ (blk g7 85 objectL (objectV ((xs[i]'hlt)) q4 d5) :: wblk g1 gq cq ((chainP (xs.take i))).length (false || !((xs.take i).all fun x => (objectO x).isSome)) :: brow gq cq ((chainP (xs.take i))) :: H)) (fun _ h => h) ?_
        refine VL.nil ?_
        refine VX.next ?_
        refine VC.turn (G' := Own _ (wblk g1 gq cq ((chainP (xs.take i))).length (false || !((xs.take i).all fun x => (objectO x).isSome)) :: brow gq cq ((chainP (xs.take i))) :: blk g7 85 objectL (objectV ((xs[i]'hlt)) q4 d5) :: H)) (fun w' h => Own.rot3 h) ?_
        refine VC.region ?_
        refine VL.move rfl ?_
        refine VL.loads (cs := cat (objectV ((xs[i]'hlt)) q4 d5)) 2 0 7 rfl kd85 (fun _ h => h) rfl rfl rfl rfl ?_
        refine VL.call Try.func65 rfl (by decide) rfl (fun w' hw => putObject_w hw (x := (xs[i]'hlt)) (hxs _ (List.getElem_mem hlt)) (hV6.now (s := ⟨w, _⟩) Mono_vouch hw (by repeat (first | exact List.mem_cons_self .. | apply List.mem_cons_of_mem)))) (fun v => ?_)
        refine VL.at (fun w8 h1w => ?_)
        obtain ⟨p9, c10, rfl, hO12, hA11⟩ := h1w
        refine VL.toOwn hO12 ?_
        refine VL.extract rfl rfl ?_
        refine VL.extract rfl rfl ?_
        refine VL.call Try.func117 rfl (by decide) rfl (fun w' hw => by have h := piece_w hw (by omega) (hA11.now (s := ⟨w8, _⟩) Mono.byte hw (by repeat (first | exact List.mem_cons_self .. | apply List.mem_cons_of_mem))) (((objectO ((xs[i]'hlt))).isSome)); exact h) (fun v => ?_)
        refine VL.fact fun e15 => ?_
        subst e15
        refine VL.ex fun gp13 => VL.ex fun c14 => ?_
        refine VL.nil ?_
        refine VX.block_normal ?_
        refine VX.next ?_
        refine VC.region ?_
        refine VL.add rfl rfl (by simp only [InR]; omega) ?_
        refine VL.move rfl ?_
        refine VL.nil ?_
        refine VX.round (i + 1, gp13, c14) ⟨rfl, rfl, rfl, rfl, trivial⟩ (fun w' h => ⟨by omega, ?_⟩) (by show xs.length - (i + 1) < xs.length - i; omega)
        rw [← chain_next hlt, ← ochain_next hlt]
        exact (Own.drop3 h).sub (fun _ hs => by repeat (first | exact hs | apply List.mem_cons_of_mem))
      · have hie : i = xs.length := by omega
        refine VL.nil ?_
        refine VX.next ?_
        refine VC.seq ?_
        refine VC.no rfl ?_
        refine VC.exit ?_
        refine VX.then_exit ?_
        refine VX.then_exit ?_
        refine VX.block_here ?_
        refine VX.next ?_
        refine VC.seq ?_
        refine VC.region ?_
        refine VL.move rfl ?_
        refine VL.call Try.func118 rfl (by decide) rfl (fun w' hw => done_O hw) (fun v => ?_)
        refine VL.at (fun w16 h1w => ?_)
        obtain ⟨p17, c18, rfl, hO20, hA19⟩ := h1w
        refine VL.toOwn hO20 ?_
        refine VL.extract rfl rfl ?_
        refine VL.extract rfl rfl ?_
        refine VL.assign rfl ?_
        refine VL.assign rfl ?_
        refine VL.nil ?_
        refine VX.next ?_
        refine VC.ret ?_
        refine VX.ret2 rfl rfl rfl (fun we hw => ?_)
        exact postO ((chainO_done h2 hie)) ⟨p17, c18, rfl, hw.sub (fun _ hs => by repeat (first | exact hs | apply List.mem_cons_of_mem)), (hA19.now (s := ⟨w16, _⟩) Mono.byte hw (by repeat (first | exact List.mem_cons_self .. | apply List.mem_cons_of_mem)))⟩

theorem putPkt_w {S : List Snap} {H : List Chunk} {w : World} (ho : Own S H w) {x : Pkt} (hx : x.ok) {q : Option Addr} {d : Nat} (hV : Arr 101 objectR' (keys H) w q x.chain d) {p : Option Addr} {c : Nat} (hA : Bytes (keys H) w p x.body c) : Calls Try.prog 80 #[.agg (cat (pktV x q d p c)).toArray] w (RetO S H (pktO x)) := by
  have hx1 := hx.src
  have hx2 := hx.dst
  have hx3 := hx.kind
  refine enter (G := Own (⟨w, keys H⟩ :: S) H) ho.keep Try.func80 rfl Try.ntmps80 rfl ?_
  refine VC.seq ?_
  refine VC.region ?_
  refine VL.box (L := pktL) (ps := (pktV (x) q d p c)) rfl rfl (pktV_len hx) (fun g1 => ?_)
  refine VL.assign rfl ?_
  refine VL.assign rfl ?_
  refine VL.nil ?_
  refine VX.next ?_
  refine VC.seq ?_
  refine VC.seq ?_
  refine VC.region ?_
  refine VL.fieldAddr rfl fo118_2 rfl ?_
  refine VL.load (v := .int .u8 (x.kind)) 0 2 rfl kd5 (fun _ h => h) rfl rfl rfl ?_
  refine VL.lss rfl rfl ?_
  refine VL.case (fun h1_2 => ?_) (fun h1_2 => ?_)
  · have h1_2 : x.kind < 1 := by have h : ((x.kind : Nat) : Int) < 1 := h1_2; omega
    have hkin : kindIn x.kind = false := by unfold kindIn; simp; omega
    refine VL.move rfl ?_
    refine VL.pass rfl rfl rfl rfl rfl ?_
    refine VL.pass rfl rfl rfl rfl rfl ?_
    refine VL.pass rfl rfl rfl rfl rfl ?_
    refine VL.pick_t rfl rfl ?_
    refine VL.nil ?_
    refine VX.next ?_
    refine VC.yes rfl ?_
    refine VC.seq ?_
    refine VC.region ?_
    refine VL.assign rfl ?_
    refine VL.assign rfl ?_
    refine VL.nil ?_
    refine VX.next ?_
    refine VC.ret ?_
    refine VX.then_ret ?_
    refine VX.ret2 rfl rfl rfl (fun we hw => ?_)
    exact postO ((pktO_none hkin)) ⟨none, 0, rfl, hw.drop.sub (fun _ hs => by repeat (first | exact hs | apply List.mem_cons_of_mem)), Arr.none⟩
  · have h1_2 : 1 ≤ x.kind := by have h : ¬ ((x.kind : Nat) : Int) < 1 := h1_2; omega
    refine VL.move rfl ?_
    refine VL.go rfl rfl rfl ?_
    refine VL.fieldAddr rfl fo118_2 rfl ?_
    refine VL.go rfl rfl rfl ?_
    refine VL.load (v := .int .u8 (x.kind)) 0 2 rfl kd5 (fun _ h => h) rfl rfl rfl ?_
    refine VL.go rfl rfl rfl ?_
    refine VL.gtr rfl rfl ?_
    refine VL.case (fun h1_6 => ?_) (fun h1_6 => ?_)
    · have h1_6 : 4 < x.kind := by have h : (4 : Int) < ((x.kind : Nat) : Int) := h1_6; omega
      have hkin : kindIn x.kind = false := by unfold kindIn; simp; omega
      refine VL.pick_f rfl rfl ?_
      refine VL.nil ?_
      refine VX.next ?_
      refine VC.yes rfl ?_
      refine VC.seq ?_
      refine VC.region ?_
      refine VL.assign rfl ?_
      refine VL.assign rfl ?_
      refine VL.nil ?_
      refine VX.next ?_
      refine VC.ret ?_
      refine VX.then_ret ?_
      refine VX.ret2 rfl rfl rfl (fun we hw => ?_)
      exact postO ((pktO_none hkin)) ⟨none, 0, rfl, hw.drop.sub (fun _ hs => by repeat (first | exact hs | apply List.mem_cons_of_mem)), Arr.none⟩
    · have h1_6 : x.kind ≤ 4 := by have h : ¬ (4 : Int) < ((x.kind : Nat) : Int) := h1_6; omega
      refine VL.pick_f rfl rfl ?_
      refine VL.nil ?_
      refine VX.next ?_
      refine VC.no rfl ?_
      refine VC.skip ?_
      refine VX.next ?_
      refine VC.seq ?_
      refine VC.region ?_
      refine VL.build (zs := [[.slice none 0 0], [.bool false]]) [] plan181 rfl trivial rfl ?_
      refine VL.box (L := [1, 1]) (ps := [[rowV none 0 0], [.bool false]]) rfl rfl rfl (fun g2 => ?_)
      refine VL.turn (fun w' hw => Own.newW hw) ?_
      refine VL.assign rfl ?_
      refine VL.nil ?_
      refine VX.next ?_
      refine VC.seq ?_
      refine VC.region ?_
      refine VL.move rfl ?_
      refine VL.fieldAddr rfl fo118_0 rfl ?_
      refine VL.load (v := .int .u8 (x.src)) 2 0 rfl kd5 (fun _ h => h) rfl rfl rfl ?_
      refine VL.conv (by rw [Try.underlying5]; rfl) Try.underlying22 rfl (inr_u64 (by omega)) ?_
      refine VL.call Try.func116 rfl (by decide) rfl (fun w' hw => num_w hw (by simp only [List.length_append, List.length_cons, List.length_nil, List.length_map]; omega) (x.src) (fits_small (by omega)) 1 (by decide) (by decide) (fits1 (by omega))) (fun v => ?_)
      refine VL.fact fun e5 => ?_
      subst e5
      refine VL.ex fun gp3 => VL.ex fun c4 => ?_
      refine VL.nil ?_
      refine VX.next ?_
      refine VC.seq ?_
      refine VC.region ?_
      refine VL.move rfl ?_
      refine VL.fieldAddr rfl fo118_1 rfl ?_
      refine VL.load (v := .int .u8 (x.dst)) 2 1 rfl kd5 (fun _ h => h) rfl rfl rfl ?_
      refine VL.conv (by rw [Try.underlying5]; rfl) Try.underlying22 rfl (inr_u64 (by omega)) ?_
      refine VL.call Try.func116 rfl (by decide) rfl (fun w' hw => num_w hw (by simp only [List.length_append, List.length_cons, List.length_nil, List.length_map]; omega) (x.dst) (fits_small (by omega)) 1 (by decide) (by decide) (fits1 (by omega))) (fun v => ?_)
      refine VL.fact fun e8 => ?_
      subst e8
      refine VL.ex fun gp6 => VL.ex fun c7 => ?_
      refine VL.nil ?_
      refine VX.next ?_
      refine VC.seq ?_
      refine VC.region ?_
      refine VL.move rfl ?_
      refine VL.fieldAddr rfl fo118_2 rfl ?_
      refine VL.load (v := .int .u8 (x.kind)) 2 2 rfl kd5 (fun _ h => h) rfl rfl rfl ?_
      refine VL.conv (by rw [Try.underlying5]; rfl) Try.underlying22 rfl (inr_u64 (by omega)) ?_
      refine VL.call Try.func116 rfl (by decide) rfl (fun w' hw => num_w hw (by simp only [List.length_append, List.length_cons, List.length_nil, List.length_map]; omega) (x.kind) (fits_small (by omega)) 1 (by decide) (by decide) (fits1 (by omega))) (fun v => ?_)
      refine VL.fact fun e11 => ?_
      subst e11
      refine VL.ex fun gp9 => VL.ex fun c10 => ?_
      refine VL.nil ?_
      refine VX.next ?_
      refine VC.seq ?_
      refine VC.region ?_
      refine VL.move rfl ?_
      refine VL.fieldAddr rfl fo118_3 rfl ?_
      refine VL.load (v := .slice q (x.chain).length d) 2 3 rfl kd116 (fun _ h => h) rfl rfl rfl ?_
      refine VL.call Try.func139 rfl (by decide) rfl (fun w' hw => chain_w hw hx.chain (hV.now (s := ⟨w, _⟩) Mono_object hw (by repeat (first | exact List.mem_cons_self .. | apply List.mem_cons_of_mem)))) (fun v => ?_)
      refine VL.at (fun w12 h1w => ?_)
      obtain ⟨p13, c14, rfl, hO16, hA15⟩ := h1w
      refine VL.toOwn hO16 ?_
      refine VL.extract rfl rfl ?_
      refine VL.extract rfl rfl ?_
      refine VL.call Try.func117 rfl (by decide) rfl (fun w' hw => piece_w hw (by simp only [List.length_append, List.length_cons, List.length_nil, List.length_map]; omega) (hA15.now (s := ⟨w12, _⟩) Mono.byte hw (by repeat (first | exact List.mem_cons_self .. | apply List.mem_cons_of_mem))) (((chainO x.chain).isSome))) (fun v => ?_)
      refine VL.fact fun e19 => ?_
      subst e19
      refine VL.ex fun gp17 => VL.ex fun c18 => ?_
      refine VL.nil ?_
      refine VX.next ?_
      refine VC.seq ?_
      refine VC.region ?_
      refine VL.move rfl ?_
      refine VL.fieldAddr rfl fo118_4 rfl ?_
      refine VL.load (v := .slice p (x.body).length c) 2 4 rfl kd24 (fun _ h => h) rfl rfl rfl ?_
      refine VL.call Try.func117 rfl (by decide) rfl (fun w' hw => piece_w hw (by simp only [List.length_append, List.length_cons, List.length_nil, List.length_map]; omega) (hA.now (s := ⟨w, _⟩) Mono.byte hw (by repeat (first | exact List.mem_cons_self .. | apply List.mem_cons_of_mem))) true) (fun v => ?_)
      refine VL.fact fun e22 => ?_
      subst e22
      refine VL.ex fun gp20 => VL.ex fun c21 => ?_
      refine VL.nil ?_
      refine VX.next ?_
      refine VC.seq ?_
      refine VC.region ?_
      refine VL.move rfl ?_
      refine VL.fieldAddr rfl fo118_5 rfl ?_
      refine VL.loads (cs := (x.sig).map bv) 2 5 1 rfl kd80 (fun _ h => h) rfl rfl rfl rfl ?_
      refine VL.call Try.func128 rfl (by decide) rfl (fun w' hw => sig_w hw (by simp only [List.length_append, List.length_cons, List.length_nil, List.length_map]; omega) (l := x.sig) hx.sig) (fun v => ?_)
      refine VL.fact fun e25 => ?_
      subst e25
      refine VL.ex fun gp23 => VL.ex fun c24 => ?_
      refine VL.nil ?_
      refine VX.next ?_
      refine VC.seq ?_
      refine VC.region ?_
      refine VL.move rfl ?_
      refine VL.call Try.func118 rfl (by decide) rfl (fun w' hw => done_O hw) (fun v => ?_)
      refine VL.at (fun w26 h1w => ?_)
      obtain ⟨p27, c28, rfl, hO30, hA29⟩ := h1w
      refine VL.toOwn hO30 ?_
      refine VL.extract rfl rfl ?_
      refine VL.extract rfl rfl ?_
      refine VL.assign rfl ?_
      refine VL.assign rfl ?_
      refine VL.nil ?_
      refine VX.next ?_
      refine VC.ret ?_
      refine VX.ret2 rfl rfl rfl (fun we hw => ?_)
      exact postO ((pktO_is (kindIn_of.2 ⟨h1_2, h1_6⟩))) ⟨p27, c28, rfl, hw.drop.sub (fun _ hs => by repeat (first | exact hs | apply List.mem_cons_of_mem)), (hA29.now (s := ⟨w26, _⟩) Mono.byte hw.drop (by repeat (first | exact List.mem_cons_self .. | apply List.mem_cons_of_mem)))⟩

end Go.Proofs.Ytcfecmoagfgnaaa

/- A region whose order is open, in which a text's bytes are marked. -/
namespace Go.Vc
open Go.Proofs.Ytcfecmoagfgnaaa
section
variable {P : Program} {n : Nat} {Q : Exit → Act → World → Prop} {ops : Array Oper} {S : List Snap} {H : List Chunk}

/-- Memory that nobody owns stays, but for what is marked behind a row. -/
def Marked (K : List Nat) (w w' : World) : Prop :=
  w'.os = w.os ∧ w'.tape = w.tape ∧ w'.output = w.output ∧ w.heap.size ≤ w'.heap.size ∧ ∀ k, k < w.heap.size → k ∉ K → w'.heap[k]? = w.heap[k]? ∨ ∃ cs e fr fr', w.heap[k]? = some (.cells cs e fr) ∧ w'.heap[k]? = some (.cells cs e fr')
theorem Marked.of {K : List Nat} {w w' : World} (h : Snap.ok ⟨w, K⟩ w') : Marked K w w' := ⟨h.os, h.tape, h.output, h.size, fun k a b => .inl (h.block k a b)⟩
theorem Arr.marked {X : Type} {R : Rel X} {sz : Nat} {K : List Nat} {w w' : World} {p : Option Addr} {xs : List X} {c : Nat} (h : Arr sz R K w p xs c) (hm : Marked K w w') (hR : ∀ vs x, R K w vs x → R K w' vs x) : Arr sz R K w' p xs c :=
  ⟨h.le, h.cap, h.nil, fun a ea hc => by
    obtain ⟨h1, h2, h3, cs, el, fr, hg, hx⟩ := h.at_ a ea hc
    obtain ⟨_, _, _, hsz, hb⟩ := hm
    rcases hb a.block h3 h2 with e | ⟨cs', e', fr', fr'', e1, e2⟩
    · exact ⟨h1, h2, by omega, cs, el, fr, by rw [e]; exact hg, fun j x hj => (hx j x hj).elim fun vs ⟨a1, a2, a3⟩ => ⟨vs, a1, hR vs x a2, a3⟩⟩
    · rw [hg] at e1
      cases e1
      exact ⟨h1, h2, by omega, cs, el, fr'', e2, fun j x hj => (hx j x hj).elim fun vs ⟨a1, a2, a3⟩ => ⟨vs, a1, hR vs x a2, a3⟩⟩⟩
def Lasts {K : List Nat} (f : SFact K) : Prop := ∀ v w w', Marked K w w' → f.f v w → f.f v w'
def AllLast {K : List Nat} : List (SFact K) → Prop
  | [] => True
  | f :: r => Lasts f ∧ AllLast r
theorem AllLast.get {K : List Nat} : ∀ {F : List (SFact K)}, AllLast F → ∀ (i : Nat) (f : SFact K), F[i]? = some f → Lasts f
  | [], _, i, f, h => by simp at h
  | g :: r, ⟨h1, h2⟩, i, f, h => by
    cases i with
    | zero => simp at h; subst h; exact h1
    | succ i => exact AllLast.get h2 i f (by simpa using h)

/-- A chunk that says nothing of other memory. -/
def Solid (c : Chunk) : Prop := ∀ K w w', (∀ k ∈ c.ks, w'.heap[k]? = w.heap[k]?) → c.φ K w → c.φ K w'
theorem Own.mark {w w' : World} {g : Nat} (h : Own S H w) (hs : ∀ c ∈ H, Solid c) (hgk : g ∉ keys H) (hn : ∀ s ∈ S, g ∈ s.K ∨ s.w.heap.size ≤ g) (h1 : w'.os = w.os) (h2 : w'.tape = w.tape) (h3 : w'.output = w.output) (h4 : w'.heap.size = w.heap.size) (h5 : ∀ k, k ≠ g → w'.heap[k]? = w.heap[k]?) : Own S H w' := by
  refine ⟨h.nodup, fun k hk => by rw [h4]; exact h.lt k hk, fun c hc => hs c hc _ w w' (fun k hk => h5 k fun e => hgk (by subst e; exact List.mem_flatMap.2 ⟨c, hc, hk⟩)) (h.holds c hc), fun s hsm => ?_⟩
  obtain ⟨a, b⟩ := h.snap s hsm
  refine ⟨⟨h1.trans a.os, h2.trans a.tape, h3.trans a.output, by rw [h4]; exact a.size, fun k hk hk2 => ?_⟩, b⟩
  rw [h5 k ?_]
  · exact a.block k hk hk2
  · rintro rfl
    rcases hn s hsm with e | e
    · exact hk2 e
    · omega
end
end Go.Vc

/- The laws on bundles and objects. -/
namespace Go.Proofs.Ytcfecmoagfgnaaa
open Go.Vc Go.Pl

theorem postS {S : List Snap} {H : List Chunk} {l l' : List UInt8} (e : l' = l) {v : Value} {w' : World} (h : ∃ p c, v = .slice p l'.length c ∧ Own S H w' ∧ Bytes (keys H) w' p l' c) : ∃ p c, v = .slice p l.length c ∧ Own S H w' ∧ Bytes (keys H) w' p l c := by subst e; exact h
end Go.Proofs.Ytcfecmoagfgnaaa

/- The reference: bytes of packets; one against the other. -/
namespace Go.Proofs.Ytcfecmoagfgnaaa
open Go.Vc Go.Pl

theorem brow0 {S : List Snap} {H : List Chunk} {w : World} (h : Own S H w) : Own S (brow none 0 ([] : List (List UInt8)) :: H) w := Own.arow_nil (Mono.slice Mono.byte) 24 1 h
theorem oall_some {xs : List Object} {i : Nat} (h : i < xs.length) (h1 : ((xs.take i).all fun x => (objectO x).isSome) = true) (h2 : (objectO (xs[i]'h)).isSome = true) : ((xs.take (i + 1)).all fun x => (objectO x).isSome) = true := by
  rw [List.take_succ_eq_append_getElem h, List.all_append, h1]
  simp [h2]
theorem ochain_good {xs : List Object} {i : Nat} (h0 : xs.length ≤ 4) (hie : i = xs.length) (hall : ((xs.take i).all fun x => (objectO x).isSome) = true) : joinO (chainP (xs.take i)) true = chainO xs := by
  rw [hie, List.take_length] at hall ⊢
  have hg : chainGood xs = true := by unfold chainGood; rw [decide_eq_true h0, Bool.true_and]; exact hall
  unfold chainO; rw [hg]
theorem ochain_bad {xs : List Object} {i : Nat} (h : i < xs.length) (h2 : (objectO (xs[i]'h)).isSome = false) : none = chainO xs := by
  have hg : chainGood xs = false := by
    unfold chainGood
    rw [Bool.and_eq_false_iff]
    right
    rw [List.all_eq_false]
    exact ⟨xs[i]'h, List.getElem_mem h, by rw [h2]; decide⟩
  unfold chainO; rw [hg]; exact none_joinO _
theorem pktO_bad {x : Pkt} (h : (chainO x.chain).isSome = false) : none = pktO x := by unfold pktO; rw [h]; exact none_joinO _
theorem pktO_good {x : Pkt} (h : (chainO x.chain).isSome = true) (hk : kindIn x.kind = true) : joinO (pktP x) true = pktO x := by unfold pktO; rw [h, hk]; rfl
theorem pktT_bad {x : Pkt} (h : (chainO x.chain).isSome = false) : [] = pktT x := by unfold pktT; rw [h, ← none_joinO]; rfl
theorem pktT_long {x : Pkt} (h : 4096 < x.body.length) : [] = pktT x := by
  unfold pktT; rw [joinO_none]
  · rfl
  · intro h2
    have := h2.1.2 x.body (by simp [pktTP]); omega
theorem pktT_good {x : Pkt} (h : (chainO x.chain).isSome = true) (h2 : joinOk (pktTP x)) : joinB (pktTP x) = pktT x := by unfold pktT; rw [h, joinO_some h2 rfl]; rfl
theorem pkt_iff {x y : Pkt} : y = x ↔ x.src = y.src ∧ x.dst = y.dst ∧ x.kind = y.kind ∧ x.chain = y.chain ∧ x.body = y.body ∧ x.sig = y.sig := by
  constructor
  · rintro rfl; exact ⟨rfl, rfl, rfl, rfl, rfl, rfl⟩
  · rintro ⟨h1, h2, h3, h4, h5, h6⟩
    cases x; cases y
    simp only at h1 h2 h3 h4 h5 h6
    subst h1 h2 h3 h4 h5 h6; rfl
/-- An object's value, with its slice. -/
def objF {K : List Nat} (y : Object) : SFact K :=
  ⟨fun v w => ∃ q d, v = .agg (cat (objectV y q d)).toArray ∧ Arr 65 vouchR K w q y.vouches d, false,
   fun _ _ w _ hs ⟨q, d, e, h⟩ => ⟨q, d, e, Arr.after (s := ⟨w, K⟩) h Mono_vouch ⟨hs, fun _ hk => .inl hk⟩⟩⟩

theorem refChain_w {S : List Snap} {H : List Chunk} {w : World} (ho : Own S H w) {xs : List Object} (hxs : ∀ x ∈ xs, x.ok) {p : Option Addr} {c : Nat} (hX : Arr 101 objectR' (keys H) w p xs c) : Calls Try.prog 149 #[.slice p xs.length c] w (RetO S H (chainO xs)) := by
  have hsm := hX.small
  refine enter (G := Own (⟨w, keys H⟩ :: S) H) ho.keep Try.func149 rfl Try.ntmps149 rfl ?_
  refine VC.seq ?_
  refine VC.region ?_
  refine VL.assign rfl ?_
  refine VL.assign rfl ?_
  refine VL.nil ?_
  refine VX.next ?_
  refine VC.seq ?_
  refine VC.seq ?_
  refine VC.region ?_
  refine VL.move rfl ?_
  refine VL.len Try.underlying116 rfl rfl ?_
  refine VL.gtr rfl rfl ?_
  refine VL.case (fun h0 => ?_) (fun h0 => ?_)
  · have h0 : ¬ xs.length ≤ 4 := by omega
    refine VL.nil ?_
    refine VX.next ?_
    refine VC.yes rfl ?_
    refine VC.seq ?_
    refine VC.region ?_
    refine VL.assign rfl ?_
    refine VL.assign rfl ?_
    refine VL.nil ?_
    refine VX.next ?_
    refine VC.ret ?_
    refine VX.then_ret ?_
    refine VX.ret2 rfl rfl rfl (fun we hw => ?_)
    exact postO ((chainO_none h0)) ⟨none, 0, rfl, hw.sub (fun _ hs => by repeat (first | exact hs | apply List.mem_cons_of_mem)), Arr.none⟩
  · have h0 : xs.length ≤ 4 := by omega
    refine VL.nil ?_
    refine VX.next ?_
    refine VC.no rfl ?_
    refine VC.skip ?_
    refine VX.next ?_
    refine VC.seq ?_
    refine VC.region ?_
    refine VL.assign rfl ?_
    refine VL.nil ?_
    refine VX.next ?_
    refine VC.seq ?_
    refine VC.seq ?_
    refine VC.region ?_
    refine VL.assign rfl ?_
    refine VL.nil ?_
    refine VX.next ?_
    refine VC.block ?_
    refine VC.turn (G' := Own _ (brow none 0 (([] : List (List UInt8))) :: H)) (fun w' h => brow0 h) ?_
    refine VC.loop (X := Nat × Option Nat × Nat) (fun (i, gq, cq) => [(0, .slice p xs.length c), (4, rowV gq (chainP (xs.take i)).length cq), (5, .int .i64 (i : Int))]) (fun (i, gq, cq) w' => (i ≤ xs.length ∧ ((xs.take i).all fun x => (objectO x).isSome) = true) ∧ Own (⟨w, keys H⟩ :: S) (brow gq cq ((chainP (xs.take i))) :: H) w') (fun (i, _) => xs.length - i) (0, none, 0) ⟨rfl, rfl, rfl, trivial⟩ (fun w' h => ⟨⟨Nat.zero_le _, rfl⟩, by have e1 : chainP (xs.take 0) = [] := rfl; rw [e1]; exact h.sub (fun _ hs => by repeat (first | exact hs | apply List.mem_cons_of_mem))⟩) (fun (i, gq, cq) => VC.fact fun ⟨hi, hall⟩ => ?_)
    · have htk : (chainP (List.take i xs)).length ≤ i := by rw [chainP_length]; exact List.length_take_le _ _
      refine VC.seq ?_
      refine VC.seq ?_
      refine VC.region ?_
      refine VL.move rfl ?_
      refine VL.move rfl ?_
      refine VL.len Try.underlying116 rfl rfl ?_
      refine VL.lss rfl rfl ?_
      refine VL.case (fun h5 => ?_) (fun h5 => ?_)
      · have hlt : i < xs.length := by omega
        refine VL.nil ?_
        refine VX.next ?_
        refine VC.yes rfl ?_
        refine VC.skip ?_
        refine VX.next ?_
        refine VC.seq ?_
        refine VC.block ?_
        refine VC.seq ?_
        refine VC.region ?_
        refine VL.move rfl ?_
        refine VL.move rfl ?_
        refine VL.index (xs := xs) rfl rfl Try.underlying116 sz116 hX (by omega) (by have hi := hlt; omega) ?_
        refine VL.elems (s := ⟨w, _⟩) (m := 101) (i) 0 rfl kd85 (fun _ h => h) (by repeat (first | exact List.mem_cons_self .. | apply List.mem_cons_of_mem)) hX (List.getElem?_eq_getElem hlt) (by simp) (by decide) (fun vs hl hr => ?_)
        obtain ⟨q3, d4, hy2, rfl, hV5⟩ := hr
        refine VL.newv (v' := .agg (cat (objectV (xs[i]'hlt) q3 d4)).toArray) (by rw [List.drop_zero, List.take_of_length_le (by rw [hl]; decide)]) ?_
        refine VL.call Try.func66 rfl (by decide) rfl (fun w' hw => refObject_w hw (x := (xs[i]'hlt)) (hxs _ (List.getElem_mem hlt)) (hV5.now (s := ⟨w, _⟩) Mono_vouch hw (by repeat (first | exact List.mem_cons_self .. | apply List.mem_cons_of_mem)))) (fun v => ?_)
        refine VL.at (fun w6 h1w => ?_)
        obtain ⟨p7, c8, rfl, hO10, hA9⟩ := h1w
        refine VL.toOwn hO10 ?_
        refine VL.move rfl ?_
        refine VL.extract rfl rfl ?_
        refine VL.extract rfl rfl ?_
        refine VL.assign rfl ?_
        refine VL.assign rfl ?_
        refine VL.nil ?_
        refine VX.next ?_
        refine VC.seq ?_
        refine VC.seq ?_
        refine VC.region ?_
        refine VL.move rfl ?_
        cases hs : (objectO (xs[i]'hlt)).isSome
        · refine VL.not rfl ?_
          refine VL.nil ?_
          refine VX.next ?_
          refine VC.yes rfl ?_
          refine VC.seq ?_
          refine VC.region ?_
          refine VL.assign rfl ?_
          refine VL.assign rfl ?_
          refine VL.nil ?_
          refine VX.next ?_
          refine VC.ret ?_
          refine VX.then_ret ?_
          refine VX.block_ret ?_
          refine VX.then_ret ?_
          refine VX.then_ret ?_
          refine VX.block_ret ?_
          refine VX.then_ret ?_
          refine VX.ret2 rfl rfl rfl (fun we hw => ?_)
          exact postO ((ochain_bad hlt hs)) ⟨none, 0, rfl, hw.drop.sub (fun _ hs => by repeat (first | exact hs | apply List.mem_cons_of_mem)), Arr.none⟩
        · refine VL.not rfl ?_
          refine VL.nil ?_
          refine VX.next ?_
          refine VC.no rfl ?_
          refine VC.skip ?_
          refine VX.next ?_
          refine VC.region ?_
          refine VL.move rfl ?_
          refine VL.move rfl ?_
          refine VL.lit el31 rfl rfl rfl (by simp [Value.cells]) (by intro u hu; simp [Value.cells] at hu; rcases hu with rfl <;> rfl) (fun g11 => ?_)
          refine VL.letRowS [((objectO ((xs[i]'hlt))).getD [])] rfl (fun w' hw => ⟨⟨_, _, rfl, (hA9.now (s := ⟨w6, _⟩) Mono.byte hw (by repeat (first | exact List.mem_cons_self .. | apply List.mem_cons_of_mem)))⟩, trivial⟩) (fun w12 hO13 hA14 => ?_)
          refine VL.appends (R := bytesR) (hR := Mono.slice Mono.byte) (ys := (chainP (xs.take i))) (zs := [((objectO ((xs[i]'hlt))).getD [])]) 0 el31 rfl rfl rfl (fun _ h => h) rfl (fun _ hw => (hA14.now (s := ⟨w12, _⟩) (Mono.slice Mono.byte) hw (by repeat (first | exact List.mem_cons_self .. | apply List.mem_cons_of_mem)))) bytesR_ok1 (by simp only [List.length_append, List.length_cons, List.length_nil, List.length_map]; omega) (fun g15 c16 => ?_) (by simp only [List.length_append, List.length_cons, List.length_nil, List.length_map]; omega)
          refine VL.turn (G' := Own _ (brow g15 c16 (((chainP (xs.take i)) ++ [((objectO ((xs[i]'hlt))).getD [])])) :: H)) (fun _ h => h) ?_
          refine VL.assign rfl ?_
          refine VL.nil ?_
          refine VX.block_normal ?_
          refine VX.next ?_
          refine VC.region ?_
          refine VL.move rfl ?_
          refine VL.add rfl rfl (by simp only [InR]; omega) ?_
          refine VL.assign rfl ?_
          refine VL.nil ?_
          have el : chainP (xs.take i) ++ [(objectO (xs[i]'hlt)).getD []] = chainP (xs.take (i + 1)) := chain_next hlt
          refine VX.round (i + 1, g15, c16) ⟨rfl, congrArg (fun l : List (List UInt8) => some (rowV g15 l.length c16)) el, rfl, trivial⟩ (fun w' h => ⟨⟨by omega, oall_some hlt hall hs⟩, ?_⟩) (by show xs.length - (i + 1) < xs.length - i; omega)
          rw [← el]
          exact h.sub (fun _ hs => by repeat (first | exact hs | apply List.mem_cons_of_mem))
      · have hie : i = xs.length := by omega
        refine VL.nil ?_
        refine VX.next ?_
        refine VC.no rfl ?_
        refine VC.exit ?_
        refine VX.then_exit ?_
        refine VX.then_exit ?_
        refine VX.block_here ?_
        refine VX.next ?_
        refine VC.seq ?_
        refine VC.letArr (fun wr hOr hAr => ?_)
        refine VC.region ?_
        refine VL.move rfl ?_
        refine VL.call Try.func31 rfl (by decide) rfl (fun w' hw => join_O (ls := (chainP (xs.take i))) hw (hAr.now (s := ⟨wr, _⟩) (Mono.slice Mono.byte) hw (by repeat (first | exact List.mem_cons_self .. | apply List.mem_cons_of_mem)))) (fun v => ?_)
        refine VL.at (fun w17 h1w => ?_)
        obtain ⟨p18, c19, rfl, hO21, hA20⟩ := h1w
        refine VL.toOwn hO21 ?_
        refine VL.extract rfl rfl ?_
        refine VL.extract rfl rfl ?_
        refine VL.assign rfl ?_
        refine VL.assign rfl ?_
        refine VL.nil ?_
        refine VX.next ?_
        refine VC.ret ?_
        refine VX.ret2 rfl rfl rfl (fun we hw => ?_)
        exact postO ((ochain_good h0 hie hall)) ⟨p18, c19, rfl, hw.sub (fun _ hs => by repeat (first | exact hs | apply List.mem_cons_of_mem)), (hA20.now (s := ⟨w17, _⟩) Mono.byte hw (by repeat (first | exact List.mem_cons_self .. | apply List.mem_cons_of_mem)))⟩

theorem refPkt_w {S : List Snap} {H : List Chunk} {w : World} (ho : Own S H w) {x : Pkt} (hx : x.ok) {q : Option Addr} {d : Nat} (hV : Arr 101 objectR' (keys H) w q x.chain d) {p : Option Addr} {c : Nat} (hA : Bytes (keys H) w p x.body c) : Calls Try.prog 91 #[.agg (cat (pktV x q d p c)).toArray] w (RetO S H (pktO x)) := by
  have hx1 := hx.src
  have hx2 := hx.dst
  have hx3 := hx.kind
  refine enter (G := Own (⟨w, keys H⟩ :: S) H) ho.keep Try.func91 rfl Try.ntmps91 rfl ?_
  refine VC.seq ?_
  refine VC.region ?_
  refine VL.box (L := pktL) (ps := (pktV (x) q d p c)) rfl rfl (pktV_len hx) (fun g1 => ?_)
  refine VL.assign rfl ?_
  refine VL.assign rfl ?_
  refine VL.nil ?_
  refine VX.next ?_
  refine VC.seq ?_
  refine VC.region ?_
  refine VL.fieldAddr rfl fo118_3 rfl ?_
  refine VL.load (v := .slice q (x.chain).length d) 0 3 rfl kd116 (fun _ h => h) rfl rfl rfl ?_
  refine VL.call Try.func149 rfl (by decide) rfl (fun w' hw => refChain_w hw hx.chain (hV.now (s := ⟨w, _⟩) Mono_object hw (by repeat (first | exact List.mem_cons_self .. | apply List.mem_cons_of_mem)))) (fun v => ?_)
  refine VL.at (fun w2 h1w => ?_)
  obtain ⟨p3, c4, rfl, hO6, hA5⟩ := h1w
  refine VL.toOwn hO6 ?_
  refine VL.move rfl ?_
  refine VL.extract rfl rfl ?_
  refine VL.extract rfl rfl ?_
  refine VL.assign rfl ?_
  refine VL.assign rfl ?_
  refine VL.nil ?_
  refine VX.next ?_
  refine VC.seq ?_
  refine VC.seq ?_
  refine VC.region ?_
  refine VL.move rfl ?_
  cases hs : (chainO x.chain).isSome
  · refine VL.not rfl ?_
    refine VL.move rfl ?_
    refine VL.pass rfl rfl rfl rfl rfl ?_
    refine VL.pass rfl rfl rfl rfl rfl ?_
    refine VL.pass rfl rfl rfl rfl rfl ?_
    refine VL.pick_t rfl rfl ?_
    refine VL.move rfl ?_
    refine VL.pass rfl rfl rfl rfl rfl ?_
    refine VL.pass rfl rfl rfl rfl rfl ?_
    refine VL.pass rfl rfl rfl rfl rfl ?_
    refine VL.pick_t rfl rfl ?_
    refine VL.nil ?_
    refine VX.next ?_
    refine VC.yes rfl ?_
    refine VC.seq ?_
    refine VC.region ?_
    refine VL.assign rfl ?_
    refine VL.assign rfl ?_
    refine VL.nil ?_
    refine VX.next ?_
    refine VC.ret ?_
    refine VX.then_ret ?_
    refine VX.ret2 rfl rfl rfl (fun we hw => ?_)
    exact postO ((pktO_bad hs)) ⟨none, 0, rfl, hw.drop.sub (fun _ hs => by repeat (first | exact hs | apply List.mem_cons_of_mem)), Arr.none⟩
  · refine VL.not rfl ?_
    refine VL.move rfl ?_
    refine VL.go rfl rfl rfl ?_
    refine VL.fieldAddr rfl fo118_2 rfl ?_
    refine VL.go rfl rfl rfl ?_
    refine VL.load (v := .int .u8 (x.kind)) 0 2 rfl kd5 (fun _ h => h) rfl rfl rfl ?_
    refine VL.go rfl rfl rfl ?_
    refine VL.lss rfl rfl ?_
    refine VL.case (fun h2_5 => ?_) (fun h2_5 => ?_)
    · have h2_5 : x.kind < 1 := by have h : ((x.kind : Nat) : Int) < 1 := h2_5; omega
      have hkin : kindIn x.kind = false := by unfold kindIn; simp; omega
      refine VL.pick_f rfl rfl ?_
      refine VL.move rfl ?_
      refine VL.pass rfl rfl rfl rfl rfl ?_
      refine VL.pass rfl rfl rfl rfl rfl ?_
      refine VL.pass rfl rfl rfl rfl rfl ?_
      refine VL.pick_t rfl rfl ?_
      refine VL.nil ?_
      refine VX.next ?_
      refine VC.yes rfl ?_
      refine VC.seq ?_
      refine VC.region ?_
      refine VL.assign rfl ?_
      refine VL.assign rfl ?_
      refine VL.nil ?_
      refine VX.next ?_
      refine VC.ret ?_
      refine VX.then_ret ?_
      refine VX.ret2 rfl rfl rfl (fun we hw => ?_)
      exact postO ((pktO_none hkin)) ⟨none, 0, rfl, hw.drop.sub (fun _ hs => by repeat (first | exact hs | apply List.mem_cons_of_mem)), Arr.none⟩
    · have h2_5 : 1 ≤ x.kind := by have h : ¬ ((x.kind : Nat) : Int) < 1 := h2_5; omega
      refine VL.pick_f rfl rfl ?_
      refine VL.move rfl ?_
      refine VL.go rfl rfl rfl ?_
      refine VL.fieldAddr rfl fo118_2 rfl ?_
      refine VL.go rfl rfl rfl ?_
      refine VL.load (v := .int .u8 (x.kind)) 0 2 rfl kd5 (fun _ h => h) rfl rfl rfl ?_
      refine VL.go rfl rfl rfl ?_
      refine VL.gtr rfl rfl ?_
      refine VL.case (fun h2_10 => ?_) (fun h2_10 => ?_)
      · have h2_10 : 4 < x.kind := by have h : (4 : Int) < ((x.kind : Nat) : Int) := h2_10; omega
        have hkin : kindIn x.kind = false := by unfold kindIn; simp; omega
        refine VL.pick_f rfl rfl ?_
        refine VL.nil ?_
        refine VX.next ?_
        refine VC.yes rfl ?_
        refine VC.seq ?_
        refine VC.region ?_
        refine VL.assign rfl ?_
        refine VL.assign rfl ?_
        refine VL.nil ?_
        refine VX.next ?_
        refine VC.ret ?_
        refine VX.then_ret ?_
        refine VX.ret2 rfl rfl rfl (fun we hw => ?_)
        exact postO ((pktO_none hkin)) ⟨none, 0, rfl, hw.drop.sub (fun _ hs => by repeat (first | exact hs | apply List.mem_cons_of_mem)), Arr.none⟩
      · have h2_10 : x.kind ≤ 4 := by have h : ¬ (4 : Int) < ((x.kind : Nat) : Int) := h2_10; omega
        refine VL.pick_f rfl rfl ?_
        refine VL.nil ?_
        refine VX.next ?_
        refine VC.no rfl ?_
        refine VC.skip ?_
        refine VX.next ?_
        refine VC.seq ?_
        refine VC.letCells 0 rfl (fun w7 hO9 hF8 => ?_)
        apply VC.anyTA 18 1020 (F := [eqF _, eqF _, capF (be 1 (x.src)) 1, eqF _, eqF _, capF (be 1 (x.dst)) 1, eqF _, eqF _, capF (be 1 (x.kind)) 1, eqF _, eqF _, eqF _, eqF _, eqF _, arrF 1 bytesR (Mono.slice Mono.byte) ([be 1 (x.src), be 1 (x.dst), be 1 (x.kind), ((chainO x.chain).getD []), x.body, x.sig]), outF (joinO [be 1 (x.src), be 1 (x.dst), be 1 (x.kind), ((chainO x.chain).getD []), x.body, x.sig] true), bytesF ((joinO [be 1 (x.src), be 1 (x.dst), be 1 (x.kind), ((chainO x.chain).getD []), x.body, x.sig] true).getD []), eqF _]) [⟨[], [1]⟩, ⟨[(24, 0)], []⟩, ⟨[(25, 1)], []⟩, ⟨[], [1]⟩, ⟨[(27, 3)], []⟩, ⟨[(28, 4)], []⟩, ⟨[], [1]⟩, ⟨[(30, 6)], []⟩, ⟨[(31, 7)], []⟩, ⟨[], [4]⟩, ⟨[], [1]⟩, ⟨[(34, 10)], []⟩, ⟨[], [1]⟩, ⟨[(36, 12)], []⟩, ⟨[(26, 2), (29, 5), (32, 8), (33, 9), (35, 11), (37, 13)], []⟩, ⟨[(38, 14)], []⟩, ⟨[(39, 15)], []⟩, ⟨[(39, 15)], []⟩] [(40, 16), (41, 17)] [0, 1, 2, 3, 5, 6, 7, 8, 9, 10, 11, 12, 13, 14, 15, 16, 17, 18, 19, 20, 21, 22, 23] rfl (by kernel_rfl) (by kernel_rfl) rfl rfl (by kernel_rfl) (by kernel_rfl) (by kernel_rfl) rfl ?obs4 ?end4
        case obs4 =>
          refine Obs.cons ?_ ?_
          · refine obS (by kernel_rfl) rfl rfl (fun ph4 w4 hO4 => ?_)
            refine VL.fieldAddr rfl fo118_0 rfl ?_
            exact VL.finS hO4 rfl rfl
          refine Obs.cons ?_ ?_
          · refine obS (by kernel_rfl) rfl rfl (fun ph4 w4 hO4 => ?_)
            rintro _ rfl
            refine VL.loadF (s := ⟨w7, _⟩) (v := .int .u8 (x.src)) 0 rfl kd5 hF8 (fun _ e => e ▸ Still.ok hO4 (by repeat (first | exact List.mem_cons_self .. | apply List.mem_cons_of_mem))) rfl rfl ?_
            exact VL.finS hO4 rfl rfl
          refine Obs.cons ?_ ?_
          · refine ob (by kernel_rfl) rfl (by kernel_rfl) rfl (fun w4 hO4 => ?_)
            rintro _ rfl
            refine VL.toOwn hO4 ?_
            refine VL.litByte (m := x.src) el24 rfl (by have hm := hx.src; omega) (fun g10 w11 hO12 hA13 => ?_)
            exact VL.finO rfl (fun _ h => h.sub (fun _ hs => by repeat (first | exact hs | apply List.mem_cons_of_mem))) (fun _ h => ⟨_, rfl, (hA13.now (s := ⟨w11, _⟩) Mono.byte h (by repeat (first | exact List.mem_cons_self .. | apply List.mem_cons_of_mem)))⟩)
          refine Obs.cons ?_ ?_
          · refine obS (by kernel_rfl) rfl rfl (fun ph4 w4 hO4 => ?_)
            refine VL.fieldAddr rfl fo118_1 rfl ?_
            exact VL.finS hO4 rfl rfl
          refine Obs.cons ?_ ?_
          · refine obS (by kernel_rfl) rfl rfl (fun ph4 w4 hO4 => ?_)
            rintro _ rfl
            refine VL.loadF (s := ⟨w7, _⟩) (v := .int .u8 (x.dst)) 1 rfl kd5 hF8 (fun _ e => e ▸ Still.ok hO4 (by repeat (first | exact List.mem_cons_self .. | apply List.mem_cons_of_mem))) rfl rfl ?_
            exact VL.finS hO4 rfl rfl
          refine Obs.cons ?_ ?_
          · refine ob (by kernel_rfl) rfl (by kernel_rfl) rfl (fun w4 hO4 => ?_)
            rintro _ rfl
            refine VL.toOwn hO4 ?_
            refine VL.litByte (m := x.dst) el24 rfl (by have hm := hx.dst; omega) (fun g14 w15 hO16 hA17 => ?_)
            exact VL.finO rfl (fun _ h => h.sub (fun _ hs => by repeat (first | exact hs | apply List.mem_cons_of_mem))) (fun _ h => ⟨_, rfl, (hA17.now (s := ⟨w15, _⟩) Mono.byte h (by repeat (first | exact List.mem_cons_self .. | apply List.mem_cons_of_mem)))⟩)
          refine Obs.cons ?_ ?_
          · refine obS (by kernel_rfl) rfl rfl (fun ph4 w4 hO4 => ?_)
            refine VL.fieldAddr rfl fo118_2 rfl ?_
            exact VL.finS hO4 rfl rfl
          refine Obs.cons ?_ ?_
          · refine obS (by kernel_rfl) rfl rfl (fun ph4 w4 hO4 => ?_)
            rintro _ rfl
            refine VL.loadF (s := ⟨w7, _⟩) (v := .int .u8 (x.kind)) 2 rfl kd5 hF8 (fun _ e => e ▸ Still.ok hO4 (by repeat (first | exact List.mem_cons_self .. | apply List.mem_cons_of_mem))) rfl rfl ?_
            exact VL.finS hO4 rfl rfl
          refine Obs.cons ?_ ?_
          · refine ob (by kernel_rfl) rfl (by kernel_rfl) rfl (fun w4 hO4 => ?_)
            rintro _ rfl
            refine VL.toOwn hO4 ?_
            refine VL.litByte (m := x.kind) el24 rfl (by have hm := hx.kind; omega) (fun g18 w19 hO20 hA21 => ?_)
            exact VL.finO rfl (fun _ h => h.sub (fun _ hs => by repeat (first | exact hs | apply List.mem_cons_of_mem))) (fun _ h => ⟨_, rfl, (hA21.now (s := ⟨w19, _⟩) Mono.byte h (by repeat (first | exact List.mem_cons_self .. | apply List.mem_cons_of_mem)))⟩)
          refine Obs.cons ?_ ?_
          · refine obS (by kernel_rfl) rfl rfl (fun ph4 w4 hO4 => ?_)
            refine VL.move rfl ?_
            exact VL.finS hO4 rfl rfl
          refine Obs.cons ?_ ?_
          · refine obS (by kernel_rfl) rfl rfl (fun ph4 w4 hO4 => ?_)
            refine VL.fieldAddr rfl fo118_4 rfl ?_
            exact VL.finS hO4 rfl rfl
          refine Obs.cons ?_ ?_
          · refine obS (by kernel_rfl) rfl rfl (fun ph4 w4 hO4 => ?_)
            rintro _ rfl
            refine VL.loadF (s := ⟨w7, _⟩) (v := .slice p (x.body).length c) 4 rfl kd24 hF8 (fun _ e => e ▸ Still.ok hO4 (by repeat (first | exact List.mem_cons_self .. | apply List.mem_cons_of_mem))) rfl rfl ?_
            exact VL.finS hO4 rfl rfl
          refine Obs.cons ?_ ?_
          · refine obS (by kernel_rfl) rfl rfl (fun ph4 w4 hO4 => ?_)
            refine VL.fieldAddr rfl fo118_5 rfl ?_
            exact VL.finS hO4 rfl rfl
          refine Obs.cons ?_ ?_
          · refine obS (by kernel_rfl) rfl rfl (fun ph4 w4 hO4 => ?_)
            rintro _ rfl
            refine VL.sliceArrAt Try.underlying80 (by kernel_rfl) rfl ?_
            refine VL.newv (v' := .slice (some ⟨g1, 5, none⟩) (x.sig).length 64) (by rw [hx.sig]) ?_
            exact VL.finS hO4 rfl rfl
          refine Obs.cons ?_ ?_
          · refine ob (by kernel_rfl) rfl (by kernel_rfl) rfl (fun w4 hO4 => ?_)
            rintro _ ⟨p4_2, rfl, hA4_2⟩ _ ⟨p4_5, rfl, hA4_5⟩ _ ⟨p4_8, rfl, hA4_8⟩ _ rfl _ rfl _ rfl
            refine VL.toOwn hO4 ?_
            refine VL.lit el31 rfl rfl rfl (by simp [Value.cells]) (by intro u hu; simp [Value.cells] at hu; rcases hu with rfl | rfl | rfl | rfl | rfl | rfl <;> rfl) (fun g22 => ?_)
            refine VL.letRowS [be 1 (x.src), be 1 (x.dst), be 1 (x.kind), ((chainO x.chain).getD []), x.body, x.sig] rfl (fun w' hw => ⟨⟨_, _, rfl, (hA4_2.now (s := ⟨w4, _⟩) Mono.byte hw (by repeat (first | exact List.mem_cons_self .. | apply List.mem_cons_of_mem)))⟩, ⟨⟨_, _, rfl, (hA4_5.now (s := ⟨w4, _⟩) Mono.byte hw (by repeat (first | exact List.mem_cons_self .. | apply List.mem_cons_of_mem)))⟩, ⟨⟨_, _, rfl, (hA4_8.now (s := ⟨w4, _⟩) Mono.byte hw (by repeat (first | exact List.mem_cons_self .. | apply List.mem_cons_of_mem)))⟩, ⟨⟨_, _, rfl, (hA5.now (s := ⟨w2, _⟩) Mono.byte hw (by repeat (first | exact List.mem_cons_self .. | apply List.mem_cons_of_mem)))⟩, ⟨⟨_, _, rfl, (hA.now (s := ⟨w, _⟩) Mono.byte hw (by repeat (first | exact List.mem_cons_self .. | apply List.mem_cons_of_mem)))⟩, ⟨⟨_, _, rfl, ((hF8.bytes 5 5 rfl rfl hx.sig rfl).now (s := ⟨w7, _⟩) Mono.byte hw (by repeat (first | exact List.mem_cons_self .. | apply List.mem_cons_of_mem)))⟩, trivial⟩⟩⟩⟩⟩⟩) (fun w23 hO24 hA25 => ?_)
            exact VL.finO rfl (fun _ h => h.sub (fun _ hs => by repeat (first | exact hs | apply List.mem_cons_of_mem))) (fun _ h => ⟨_, _, rfl, (hA25.now (s := ⟨w23, _⟩) (Mono.slice Mono.byte) h (by repeat (first | exact List.mem_cons_self .. | apply List.mem_cons_of_mem)))⟩)
          refine Obs.cons ?_ ?_
          · refine ob (by kernel_rfl) rfl (by kernel_rfl) rfl (fun w4 hO4 => ?_)
            rintro _ ⟨p4_14, c4_14, rfl, hA4_14⟩
            refine VL.toOwn hO4 ?_
            refine VL.call Try.func31 rfl (by decide) rfl (fun w' hw => join_O (ls := [be 1 (x.src), be 1 (x.dst), be 1 (x.kind), ((chainO x.chain).getD []), x.body, x.sig]) hw (hA4_14.now (s := ⟨w4, _⟩) (Mono.slice Mono.byte) hw (by repeat (first | exact List.mem_cons_self .. | apply List.mem_cons_of_mem)))) (fun v => ?_)
            refine VL.at (fun w26 h1w => ?_)
            obtain ⟨p27, c28, rfl, hO30, hA29⟩ := h1w
            refine VL.toOwn hO30 ?_
            exact VL.finO rfl (fun _ h => h.sub (fun _ hs => by repeat (first | exact hs | apply List.mem_cons_of_mem))) (fun _ h => ⟨_, _, rfl, (hA29.now (s := ⟨w26, _⟩) Mono.byte h (by repeat (first | exact List.mem_cons_self .. | apply List.mem_cons_of_mem)))⟩)
          refine Obs.cons ?_ ?_
          · refine obS (by kernel_rfl) rfl rfl (fun ph4 w4 hO4 => ?_)
            rintro _ ⟨p4_15, c4_15, rfl, hA4_15⟩
            refine VL.extract rfl rfl ?_
            exact VL.finS hO4 rfl ⟨_, _, rfl, hA4_15⟩
          refine Obs.cons ?_ ?_
          · refine obS (by kernel_rfl) rfl rfl (fun ph4 w4 hO4 => ?_)
            rintro _ ⟨p4_15, c4_15, rfl, hA4_15⟩
            refine VL.extract rfl rfl ?_
            exact VL.finS hO4 rfl rfl
          exact Obs.nil
        case end4 =>
          intro w4 hO4
          rintro _ ⟨pz, cz, rfl, hz⟩ _ rfl
          refine VL.toOwn hO4 ?_
          refine VL.assign rfl ?_
          refine VL.assign rfl ?_
          refine VL.nil ?_
          refine VX.next ?_
          refine VC.ret ?_
          refine VX.ret2 rfl rfl rfl (fun we hw => ?_)
          exact postO ((pktO_good hs (kindIn_of.2 ⟨h2_5, h2_10⟩))) ⟨pz, cz, rfl, hw.sub (fun _ hs => by repeat (first | exact hs | apply List.mem_cons_of_mem)), (hz.now (s := ⟨w4, _⟩) Mono.byte hw (by repeat (first | exact List.mem_cons_self .. | apply List.mem_cons_of_mem)))⟩

theorem pktText_w {S : List Snap} {H : List Chunk} {w : World} (ho : Own S H w) {x : Pkt} (hx : x.ok) {q : Option Addr} {d : Nat} (hV : Arr 101 objectR' (keys H) w q x.chain d) {p : Option Addr} {c : Nat} (hA : Bytes (keys H) w p x.body c) : Calls Try.prog 92 #[.agg (cat (pktV x q d p c)).toArray] w (Ret fun v w' => ∃ p c, v = .slice p (pktT x).length c ∧ Own S H w' ∧ Bytes (keys H) w' p (pktT x) c) := by
  have hx1 := hx.src
  have hx2 := hx.dst
  have hx3 := hx.kind
  refine enter (G := Own (⟨w, keys H⟩ :: S) H) ho.keep Try.func92 rfl Try.ntmps92 rfl ?_
  refine VC.seq ?_
  refine VC.region ?_
  refine VL.box (L := pktL) (ps := (pktV (x) q d p c)) rfl rfl (pktV_len hx) (fun g1 => ?_)
  refine VL.assign rfl ?_
  refine VL.nil ?_
  refine VX.next ?_
  refine VC.seq ?_
  refine VC.region ?_
  refine VL.lit el24 rfl rfl rfl (by simp [Value.cells]) (ok1_bytes ([112, 97, 99, 107] : List UInt8)) (fun g2 => ?_)
  refine VL.constBytes (l := ([112, 97, 99, 107] : List UInt8)) Try.underlying24 Try.underlying5 rfl rfl rfl (fun w3 hO4 hA5 => ?_)
  refine VL.litB [([112, 97, 99, 107] : List UInt8)] el31 rfl rfl rfl (by simp [Value.cells]) (by intro u hu; simp [Value.cells] at hu; rcases hu with rfl <;> rfl) rfl (fun _ w' hw => ⟨⟨_, _, rfl, (hA5.now (s := ⟨w3, _⟩) Mono.byte hw (by repeat (first | exact List.mem_cons_self .. | apply List.mem_cons_of_mem)))⟩, trivial⟩) (fun v => ?_)
  refine VL.ex fun g6 => VL.fact fun e7 => ?_
  subst e7
  refine VL.build (zs := [[.slice none 0 0], [.bool false]]) [(0, [rowV (some g6) 1 1])] plan181 rfl ⟨⟨rfl, ⟨_, rfl, rfl⟩, rfl⟩, trivial⟩ rfl ?_
  refine VL.box (L := [1, 1]) (ps := [[rowV (some g6) 1 1], [.bool false]]) rfl rfl rfl (fun g8 => ?_)
  refine VL.turn (G' := Own _ (wblk g8 (some g6) 1 ([([112, 97, 99, 107] : List UInt8)]).length false :: brow (some g6) 1 ([([112, 97, 99, 107] : List UInt8)]) :: blk g1 118 pktL (pktV (x) q d p c) :: H)) (fun _ h => h) ?_
  refine VL.assign rfl ?_
  refine VL.nil ?_
  refine VX.next ?_
  refine VC.seq ?_
  refine VC.region ?_
  refine VL.move rfl ?_
  refine VL.fieldAddr rfl fo118_0 rfl ?_
  refine VL.load (v := .int .u8 (x.src)) 2 0 rfl kd5 (fun _ h => h) rfl rfl rfl ?_
  refine VL.conv (by rw [Try.underlying5]; rfl) Try.underlying22 rfl (inr_u64 (by omega)) ?_
  refine VL.call Try.func116 rfl (by decide) rfl (fun w' hw => num_w hw (by simp only [List.length_append, List.length_cons, List.length_nil, List.length_map]; omega) (x.src) (fits_small (by omega)) 1 (by decide) (by decide) (fits1 (by omega))) (fun v => ?_)
  refine VL.fact fun e11 => ?_
  subst e11
  refine VL.ex fun gp9 => VL.ex fun c10 => ?_
  refine VL.nil ?_
  refine VX.next ?_
  refine VC.seq ?_
  refine VC.region ?_
  refine VL.move rfl ?_
  refine VL.fieldAddr rfl fo118_1 rfl ?_
  refine VL.load (v := .int .u8 (x.dst)) 2 1 rfl kd5 (fun _ h => h) rfl rfl rfl ?_
  refine VL.conv (by rw [Try.underlying5]; rfl) Try.underlying22 rfl (inr_u64 (by omega)) ?_
  refine VL.call Try.func116 rfl (by decide) rfl (fun w' hw => num_w hw (by simp only [List.length_append, List.length_cons, List.length_nil, List.length_map]; omega) (x.dst) (fits_small (by omega)) 1 (by decide) (by decide) (fits1 (by omega))) (fun v => ?_)
  refine VL.fact fun e14 => ?_
  subst e14
  refine VL.ex fun gp12 => VL.ex fun c13 => ?_
  refine VL.nil ?_
  refine VX.next ?_
  refine VC.seq ?_
  refine VC.region ?_
  refine VL.move rfl ?_
  refine VL.fieldAddr rfl fo118_2 rfl ?_
  refine VL.load (v := .int .u8 (x.kind)) 2 2 rfl kd5 (fun _ h => h) rfl rfl rfl ?_
  refine VL.conv (by rw [Try.underlying5]; rfl) Try.underlying22 rfl (inr_u64 (by omega)) ?_
  refine VL.call Try.func116 rfl (by decide) rfl (fun w' hw => num_w hw (by simp only [List.length_append, List.length_cons, List.length_nil, List.length_map]; omega) (x.kind) (fits_small (by omega)) 1 (by decide) (by decide) (fits1 (by omega))) (fun v => ?_)
  refine VL.fact fun e17 => ?_
  subst e17
  refine VL.ex fun gp15 => VL.ex fun c16 => ?_
  refine VL.nil ?_
  refine VX.next ?_
  refine VC.seq ?_
  refine VC.region ?_
  refine VL.move rfl ?_
  refine VL.fieldAddr rfl fo118_3 rfl ?_
  refine VL.load (v := .slice q (x.chain).length d) 2 3 rfl kd116 (fun _ h => h) rfl rfl rfl ?_
  refine VL.call Try.func139 rfl (by decide) rfl (fun w' hw => chain_w hw hx.chain (hV.now (s := ⟨w, _⟩) Mono_object hw (by repeat (first | exact List.mem_cons_self .. | apply List.mem_cons_of_mem)))) (fun v => ?_)
  refine VL.at (fun w18 h1w => ?_)
  obtain ⟨p19, c20, rfl, hO22, hA21⟩ := h1w
  refine VL.toOwn hO22 ?_
  refine VL.extract rfl rfl ?_
  refine VL.extract rfl rfl ?_
  refine VL.call Try.func117 rfl (by decide) rfl (fun w' hw => piece_w hw (by simp only [List.length_append, List.length_cons, List.length_nil, List.length_map]; omega) (hA21.now (s := ⟨w18, _⟩) Mono.byte hw (by repeat (first | exact List.mem_cons_self .. | apply List.mem_cons_of_mem))) (((chainO x.chain).isSome))) (fun v => ?_)
  refine VL.fact fun e25 => ?_
  subst e25
  refine VL.ex fun gp23 => VL.ex fun c24 => ?_
  refine VL.nil ?_
  refine VX.next ?_
  refine VC.seq ?_
  refine VC.region ?_
  refine VL.move rfl ?_
  refine VL.fieldAddr rfl fo118_4 rfl ?_
  refine VL.load (v := .slice p (x.body).length c) 2 4 rfl kd24 (fun _ h => h) rfl rfl rfl ?_
  refine VL.call Try.func117 rfl (by decide) rfl (fun w' hw => piece_w hw (by simp only [List.length_append, List.length_cons, List.length_nil, List.length_map]; omega) (hA.now (s := ⟨w, _⟩) Mono.byte hw (by repeat (first | exact List.mem_cons_self .. | apply List.mem_cons_of_mem))) true) (fun v => ?_)
  refine VL.fact fun e28 => ?_
  subst e28
  refine VL.ex fun gp26 => VL.ex fun c27 => ?_
  refine VL.nil ?_
  refine VX.next ?_
  refine VC.seq ?_
  refine VC.region ?_
  refine VL.move rfl ?_
  refine VL.call Try.func118 rfl (by decide) rfl (fun w' hw => done_O hw) (fun v => ?_)
  refine VL.at (fun w29 h1w => ?_)
  obtain ⟨p30, c31, rfl, hO33, hA32⟩ := h1w
  refine VL.toOwn hO33 ?_
  refine VL.move rfl ?_
  refine VL.extract rfl rfl ?_
  refine VL.extract rfl rfl ?_
  refine VL.assign rfl ?_
  refine VL.assign rfl ?_
  refine VL.nil ?_
  refine VX.next ?_
  refine VC.seq ?_
  refine VC.region ?_
  refine VL.move rfl ?_
  refine VL.assign rfl ?_
  refine VL.nil ?_
  refine VX.next ?_
  refine VC.ret ?_
  refine VX.ret1 rfl rfl (fun we hw => ?_)
  exact postS (show ((joinO (((((([([112, 97, 99, 107] : List UInt8)] ++ [be 1 (x.src)]) ++ [be 1 (x.dst)]) ++ [be 1 (x.kind)]) ++ [((chainO x.chain).getD [])]) ++ [x.body])) (!((false || !((chainO x.chain).isSome)) || !true))).getD []) = _ from pktT_is) ⟨p30, c31, rfl, hw.drop.sub (fun _ hs => by repeat (first | exact hs | apply List.mem_cons_of_mem)), (hA32.now (s := ⟨w29, _⟩) Mono.byte hw.drop (by repeat (first | exact List.mem_cons_self .. | apply List.mem_cons_of_mem)))⟩

theorem chainO_length {xs : List Object} {l : List UInt8} (h : chainO xs = some l) (hx : ∀ x ∈ xs, x.ok) : l.length ≤ 4096 := by
  obtain ⟨h1, h2, rfl⟩ := joinO_eq h
  obtain ⟨h3, h4⟩ := chainGood_iff.1 h2
  have hp : ∀ p ∈ chainP xs, p.length ≤ 900 := by
    intro p hp
    obtain ⟨x, hx', rfl⟩ := List.mem_map.1 hp
    obtain ⟨t, ht⟩ := Option.isSome_iff_exists.1 (h4 x hx')
    rw [ht]
    unfold objectO at ht
    split at ht
    · rename_i hv
      cases ht
      have hk := hx x hx'
      have e : ∀ vs : List Vouch, (∀ v ∈ vs, v.ok) → (body (vs.map vouchB)).length = 67 * vs.length := by
        intro vs
        induction vs with
        | nil => intro _; rfl
        | cons v r ih =>
          intro hv
          rw [List.map_cons, body_cons, List.length_append, List.length_append, be_length, vouchB_length (hv v (by simp)), ih (fun v hm => hv v (by simp [hm])), List.length_cons]
          omega
      show (joinB (objectP x)).length ≤ 900
      have e2 : (joinB (objectP x)).length = 1 + ((body (objectP0 x)).length + (body (x.vouches.map vouchB)).length) := by
        unfold joinB objectP body
        rw [List.flatMap_append, List.length_cons, List.length_append]; omega
      rw [e2, e _ hk.vouches]
      have e3 : (body (objectP0 x)).length = 118 := by simp [objectP0, body, be_length, hk.key, hk.sig]
      rw [e3]; omega
    · cases ht
  have hb : ∀ ps : List (List UInt8), (∀ p ∈ ps, p.length ≤ 900) → (body ps).length ≤ 902 * ps.length := by
    intro ps
    induction ps with
    | nil => intro _; exact Nat.le_refl _
    | cons p r ih =>
      intro h
      have h1 := h p (by simp)
      have h2 := ih (fun q hq => h q (by simp [hq]))
      rw [body_cons, List.length_append, List.length_append, be_length, List.length_cons]; omega
  have := hb _ hp
  have hl : (chainP xs).length = xs.length := chainP_length xs
  show (UInt8.ofNat _ :: body (chainP xs)).length ≤ 4096
  rw [List.length_cons]; omega
theorem pktTP_ok' {x : Pkt} (hx : ∀ y ∈ x.chain, y.ok) (h : (chainO x.chain).isSome = true) (h2 : x.body.length ≤ 4096) : joinOk (pktTP x) := by
  obtain ⟨t, ht⟩ := Option.isSome_iff_exists.1 h
  have := chainO_length ht hx
  refine ⟨by simp [pktTP], fun p hp => ?_⟩
  simp only [pktTP, List.mem_cons, List.not_mem_nil, or_false] at hp
  rcases hp with rfl | rfl | rfl | rfl | rfl | rfl
  · decide
  · rw [be_length]; decide
  · rw [be_length]; decide
  · rw [be_length]; decide
  · rw [ht]; exact this
  · exact h2

theorem refPktText_w {S : List Snap} {H : List Chunk} {w : World} (ho : Own S H w) {x : Pkt} (hx : x.ok) {q : Option Addr} {d : Nat} (hV : Arr 101 objectR' (keys H) w q x.chain d) {p : Option Addr} {c : Nat} (hA : Bytes (keys H) w p x.body c) : Calls Try.prog 93 #[.agg (cat (pktV x q d p c)).toArray] w (Ret fun v w' => ∃ p c, v = .slice p (pktT x).length c ∧ Own S H w' ∧ Bytes (keys H) w' p (pktT x) c) := by
  have hx1 := hx.src
  have hx2 := hx.dst
  have hx3 := hx.kind
  refine enter (G := Own (⟨w, keys H⟩ :: S) H) ho.keep Try.func93 rfl Try.ntmps93 rfl ?_
  refine VC.seq ?_
  refine VC.region ?_
  refine VL.box (L := pktL) (ps := (pktV (x) q d p c)) rfl rfl (pktV_len hx) (fun g1 => ?_)
  refine VL.assign rfl ?_
  refine VL.nil ?_
  refine VX.next ?_
  refine VC.seq ?_
  refine VC.region ?_
  refine VL.fieldAddr rfl fo118_3 rfl ?_
  refine VL.load (v := .slice q (x.chain).length d) 0 3 rfl kd116 (fun _ h => h) rfl rfl rfl ?_
  refine VL.call Try.func149 rfl (by decide) rfl (fun w' hw => refChain_w hw hx.chain (hV.now (s := ⟨w, _⟩) Mono_object hw (by repeat (first | exact List.mem_cons_self .. | apply List.mem_cons_of_mem)))) (fun v => ?_)
  refine VL.at (fun w2 h1w => ?_)
  obtain ⟨p3, c4, rfl, hO6, hA5⟩ := h1w
  refine VL.toOwn hO6 ?_
  refine VL.move rfl ?_
  refine VL.extract rfl rfl ?_
  refine VL.extract rfl rfl ?_
  refine VL.assign rfl ?_
  refine VL.assign rfl ?_
  refine VL.nil ?_
  refine VX.next ?_
  refine VC.seq ?_
  refine VC.seq ?_
  refine VC.region ?_
  refine VL.move rfl ?_
  cases hs : (chainO x.chain).isSome
  · refine VL.not rfl ?_
    refine VL.move rfl ?_
    refine VL.pass rfl rfl rfl rfl rfl ?_
    refine VL.pass rfl rfl rfl rfl rfl ?_
    refine VL.pass rfl rfl rfl rfl rfl ?_
    refine VL.pass rfl rfl rfl rfl rfl ?_
    refine VL.pick_t rfl rfl ?_
    refine VL.nil ?_
    refine VX.next ?_
    refine VC.yes rfl ?_
    refine VC.seq ?_
    refine VC.region ?_
    refine VL.assign rfl ?_
    refine VL.nil ?_
    refine VX.next ?_
    refine VC.ret ?_
    refine VX.then_ret ?_
    refine VX.ret1 rfl rfl (fun we hw => ?_)
    exact postS (show [] = _ from (pktT_bad hs)) ⟨none, 0, rfl, hw.drop.sub (fun _ hs => by repeat (first | exact hs | apply List.mem_cons_of_mem)), Arr.none⟩
  · refine VL.not rfl ?_
    refine VL.move rfl ?_
    refine VL.go rfl rfl rfl ?_
    refine VL.fieldAddr rfl fo118_4 rfl ?_
    refine VL.go rfl rfl rfl ?_
    refine VL.load (v := .slice p (x.body).length c) 0 4 rfl kd24 (fun _ h => h) rfl rfl rfl ?_
    refine VL.go rfl rfl rfl ?_
    refine VL.len Try.underlying24 rfl rfl ?_
    refine VL.go rfl rfl rfl ?_
    refine VL.gtr rfl rfl ?_
    refine VL.case (fun h2_6 => ?_) (fun h2_6 => ?_)
    · have h2_6 : 4096 < x.body.length := by have h : (4096 : Int) < ((x.body.length : Nat) : Int) := h2_6; omega
      refine VL.pick_f rfl rfl ?_
      refine VL.nil ?_
      refine VX.next ?_
      refine VC.yes rfl ?_
      refine VC.seq ?_
      refine VC.region ?_
      refine VL.assign rfl ?_
      refine VL.nil ?_
      refine VX.next ?_
      refine VC.ret ?_
      refine VX.then_ret ?_
      refine VX.ret1 rfl rfl (fun we hw => ?_)
      exact postS (show [] = _ from (pktT_long h2_6)) ⟨none, 0, rfl, hw.drop.sub (fun _ hs => by repeat (first | exact hs | apply List.mem_cons_of_mem)), Arr.none⟩
    · have h2_6 : x.body.length ≤ 4096 := by have h : ¬ (4096 : Int) < ((x.body.length : Nat) : Int) := h2_6; omega
      have hj : joinOk (pktTP x) := pktTP_ok' hx.chain hs h2_6
      refine VL.pick_f rfl rfl ?_
      refine VL.nil ?_
      refine VX.next ?_
      refine VC.no rfl ?_
      refine VC.skip ?_
      refine VX.next ?_
      refine VC.seq ?_
      refine VC.region ?_
      refine VL.lit el24 rfl rfl rfl (by simp [Value.cells]) (ok1_bytes ([112, 97, 99, 107] : List UInt8)) (fun g7 => ?_)
      refine VL.constBytes (l := ([112, 97, 99, 107] : List UInt8)) Try.underlying24 Try.underlying5 rfl rfl rfl (fun w8 hO9 hA10 => ?_)
      refine VL.fieldAddr rfl fo118_0 rfl ?_
      refine VL.load (v := .int .u8 (x.src)) 0 0 rfl kd5 (fun _ h => h) rfl rfl rfl ?_
      refine VL.litByte (m := x.src) el24 rfl (by have hm := hx.src; omega) (fun g11 w12 hO13 hA14 => ?_)
      refine VL.fieldAddr rfl fo118_1 rfl ?_
      refine VL.load (v := .int .u8 (x.dst)) 0 1 rfl kd5 (fun _ h => h) rfl rfl rfl ?_
      refine VL.litByte (m := x.dst) el24 rfl (by have hm := hx.dst; omega) (fun g15 w16 hO17 hA18 => ?_)
      refine VL.fieldAddr rfl fo118_2 rfl ?_
      refine VL.load (v := .int .u8 (x.kind)) 0 2 rfl kd5 (fun _ h => h) rfl rfl rfl ?_
      refine VL.litByte (m := x.kind) el24 rfl (by have hm := hx.kind; omega) (fun g19 w20 hO21 hA22 => ?_)
      refine VL.move rfl ?_
      refine VL.fieldAddr rfl fo118_4 rfl ?_
      refine VL.load (v := .slice p (x.body).length c) 0 4 rfl kd24 (fun _ h => h) rfl rfl rfl ?_
      refine VL.lit el31 rfl rfl rfl (by simp [Value.cells]) (by intro u hu; simp [Value.cells] at hu; rcases hu with rfl | rfl | rfl | rfl | rfl | rfl <;> rfl) (fun g23 => ?_)
      refine VL.letRowS [([112, 97, 99, 107] : List UInt8), be 1 (x.src), be 1 (x.dst), be 1 (x.kind), ((chainO x.chain).getD []), x.body] rfl (fun w' hw => ⟨⟨_, _, rfl, (hA10.now (s := ⟨w8, _⟩) Mono.byte hw (by repeat (first | exact List.mem_cons_self .. | apply List.mem_cons_of_mem)))⟩, ⟨⟨_, _, rfl, (hA14.now (s := ⟨w12, _⟩) Mono.byte hw (by repeat (first | exact List.mem_cons_self .. | apply List.mem_cons_of_mem)))⟩, ⟨⟨_, _, rfl, (hA18.now (s := ⟨w16, _⟩) Mono.byte hw (by repeat (first | exact List.mem_cons_self .. | apply List.mem_cons_of_mem)))⟩, ⟨⟨_, _, rfl, (hA22.now (s := ⟨w20, _⟩) Mono.byte hw (by repeat (first | exact List.mem_cons_self .. | apply List.mem_cons_of_mem)))⟩, ⟨⟨_, _, rfl, (hA5.now (s := ⟨w2, _⟩) Mono.byte hw (by repeat (first | exact List.mem_cons_self .. | apply List.mem_cons_of_mem)))⟩, ⟨⟨_, _, rfl, (hA.now (s := ⟨w, _⟩) Mono.byte hw (by repeat (first | exact List.mem_cons_self .. | apply List.mem_cons_of_mem)))⟩, trivial⟩⟩⟩⟩⟩⟩) (fun w24 hO25 hA26 => ?_)
      refine VL.call Try.func120 rfl (by decide) rfl (fun w' hw => all_S (ls := [([112, 97, 99, 107] : List UInt8), be 1 (x.src), be 1 (x.dst), be 1 (x.kind), ((chainO x.chain).getD []), x.body]) hw (hA26.now (s := ⟨w24, _⟩) (Mono.slice Mono.byte) hw (by repeat (first | exact List.mem_cons_self .. | apply List.mem_cons_of_mem))) hj) (fun v => ?_)
      refine VL.at (fun w27 h1w => ?_)
      obtain ⟨p28, c29, rfl, hO31, hA30⟩ := h1w
      refine VL.toOwn hO31 ?_
      refine VL.assign rfl ?_
      refine VL.nil ?_
      refine VX.next ?_
      refine VC.ret ?_
      refine VX.ret1 rfl rfl (fun we hw => ?_)
      exact postS (show (joinB [([112, 97, 99, 107] : List UInt8), be 1 (x.src), be 1 (x.dst), be 1 (x.kind), ((chainO x.chain).getD []), x.body]) = _ from (pktT_good hs hj)) ⟨p28, c29, rfl, hw.drop.sub (fun _ hs => by repeat (first | exact hs | apply List.mem_cons_of_mem)), (hA30.now (s := ⟨w27, _⟩) Mono.byte hw.drop (by repeat (first | exact List.mem_cons_self .. | apply List.mem_cons_of_mem)))⟩

theorem sameChains_g {S : List Snap} {H : List Chunk} {w : World} (ho : Own S H w) {xs : List Object} (hxs : ∀ x ∈ xs, x.ok) {p : Option Addr} {c : Nat} (hX : Arr 101 objectR' (keys H) w p xs c) {ys : List Object} (hys : ∀ x ∈ ys, x.ok) {p2 : Option Addr} {c2 : Nat} (hY : Arr 101 objectR' (keys H) w p2 ys c2) : Calls Try.prog 145 #[.slice p xs.length c, .slice p2 ys.length c2] w (Ret fun v w' => ∃ b : Bool, v = .bool b ∧ (b = true ↔ ys = xs) ∧ Own S H w') := by
  have hsm := hX.small
  refine enter (G := Own (⟨w, keys H⟩ :: S) H) ho.keep Try.func145 rfl Try.ntmps145 rfl ?_
  refine VC.seq ?_
  refine VC.region ?_
  refine VL.assign rfl ?_
  refine VL.nil ?_
  refine VX.next ?_
  refine VC.seq ?_
  refine VC.seq ?_
  refine VC.region ?_
  refine VL.move rfl ?_
  refine VL.len Try.underlying116 rfl rfl ?_
  refine VL.move rfl ?_
  refine VL.len Try.underlying116 rfl rfl ?_
  refine VL.neq rfl rfl ?_
  refine VL.case (fun h1_4 => ?_) (fun h1_4 => ?_)
  · have h1_4 : ¬ xs.length = ys.length := by omega
    refine VL.nil ?_
    refine VX.next ?_
    refine VC.yes rfl ?_
    refine VC.seq ?_
    refine VC.region ?_
    refine VL.assign rfl ?_
    refine VL.nil ?_
    refine VX.next ?_
    refine VC.ret ?_
    refine VX.then_ret ?_
    refine VX.ret1 rfl rfl (fun we hw => ?_)
    exact ⟨false, rfl, ⟨fun h => absurd h (by decide), fun h => absurd (congrArg List.length h).symm h1_4⟩, hw.sub (fun _ hs => by repeat (first | exact hs | apply List.mem_cons_of_mem))⟩
  · have h1_4 : xs.length = ys.length := by omega
    refine VL.nil ?_
    refine VX.next ?_
    refine VC.no rfl ?_
    refine VC.skip ?_
    refine VX.next ?_
    refine VC.seq ?_
    refine VC.seq ?_
    refine VC.region ?_
    refine VL.assign rfl ?_
    refine VL.nil ?_
    refine VX.next ?_
    refine VC.block ?_
    refine VC.loop (X := Nat) (fun i => [(0, .slice p xs.length c), (1, .slice p2 ys.length c2), (5, .int .i64 (i : Int))]) (fun i w' => (i ≤ xs.length ∧ ∀ j, j < i → xs[j]? = ys[j]?) ∧ Own (⟨w, keys H⟩ :: S) H w') (fun i => xs.length - i) 0 ⟨rfl, rfl, rfl, trivial⟩ (fun w' h => ⟨⟨Nat.zero_le _, fun j hj => absurd hj (Nat.not_lt_zero _)⟩, h.sub (fun _ hs => by repeat (first | exact hs | apply List.mem_cons_of_mem))⟩) (fun i => VC.fact fun ⟨hi, hall⟩ => ?_)
    · skip
      refine VC.seq ?_
      refine VC.seq ?_
      refine VC.region ?_
      refine VL.move rfl ?_
      refine VL.move rfl ?_
      refine VL.len Try.underlying116 rfl rfl ?_
      refine VL.lss rfl rfl ?_
      refine VL.case (fun h4 => ?_) (fun h4 => ?_)
      · have hlt : i < xs.length := by omega
        have hlt2 : i < ys.length := by omega
        refine VL.nil ?_
        refine VX.next ?_
        refine VC.yes rfl ?_
        refine VC.skip ?_
        refine VX.next ?_
        refine VC.seq ?_
        refine VC.block ?_
        refine VC.seq ?_
        by_cases hv : xs[i]'hlt = ys[i]'hlt2
        · apply VC.anyTA 8 1010 (F := [eqF _, eqF _, eqF _, objF (xs[i]'hlt), eqF _, eqF _, eqF _, objF (ys[i]'hlt2)]) [⟨[], [0]⟩, ⟨[], [5]⟩, ⟨[(17, 0), (18, 1)], []⟩, ⟨[(19, 2)], []⟩, ⟨[], [1]⟩, ⟨[], [5]⟩, ⟨[(21, 4), (22, 5)], []⟩, ⟨[(23, 6)], []⟩] [(20, 3), (24, 7)] [0, 1, 4, 5, 6, 7, 8, 9, 10, 11, 12, 13, 14, 15, 16, 25, 26] rfl (by kernel_rfl) (by kernel_rfl) rfl rfl (by kernel_rfl) (by kernel_rfl) (by kernel_rfl) rfl ?obs6 ?end6
          case obs6 =>
            refine Obs.cons ?_ ?_
            · refine obS (by kernel_rfl) rfl rfl (fun ph6 w6 hO6 => ?_)
              refine VL.move rfl ?_
              exact VL.finS hO6 rfl rfl
            refine Obs.cons ?_ ?_
            · refine obS (by kernel_rfl) rfl rfl (fun ph6 w6 hO6 => ?_)
              refine VL.move rfl ?_
              exact VL.finS hO6 rfl rfl
            refine Obs.cons ?_ ?_
            · refine obS (by kernel_rfl) rfl rfl (fun ph6 w6 hO6 => ?_)
              rintro _ rfl _ rfl
              refine VL.index (xs := xs) rfl rfl Try.underlying116 sz116 hX (by omega) (by have hi := hlt; omega) ?_
              exact VL.finS hO6 rfl rfl
            refine Obs.cons ?_ ?_
            · refine ob (by kernel_rfl) rfl (by kernel_rfl) rfl (fun w6 hO6 => ?_)
              rintro _ rfl
              refine VL.elems (s := ⟨w, _⟩) (m := 101) (i) 0 rfl kd85 (fun _ e => e ▸ hO6) (by repeat (first | exact List.mem_cons_self .. | apply List.mem_cons_of_mem)) hX (List.getElem?_eq_getElem hlt) (by simp) (by decide) (fun vs hl hr => ?_)
              obtain ⟨q9, d9, hy9, rfl, hV9⟩ := hr
              refine VL.newv (v' := .agg (cat (objectV (xs[i]'hlt) q9 d9)).toArray) (by rw [List.drop_zero, List.take_of_length_le (by rw [hl]; decide)]) ?_
              exact VL.finS hO6 rfl ⟨_, _, rfl, hV9.now (s := ⟨w, _⟩) Mono_vouch hO6 (by repeat (first | exact List.mem_cons_self .. | apply List.mem_cons_of_mem))⟩
            refine Obs.cons ?_ ?_
            · refine obS (by kernel_rfl) rfl rfl (fun ph6 w6 hO6 => ?_)
              refine VL.move rfl ?_
              exact VL.finS hO6 rfl rfl
            refine Obs.cons ?_ ?_
            · refine obS (by kernel_rfl) rfl rfl (fun ph6 w6 hO6 => ?_)
              refine VL.move rfl ?_
              exact VL.finS hO6 rfl rfl
            refine Obs.cons ?_ ?_
            · refine obS (by kernel_rfl) rfl rfl (fun ph6 w6 hO6 => ?_)
              rintro _ rfl _ rfl
              refine VL.index (xs := ys) rfl rfl Try.underlying116 sz116 hY (by omega) (by have hi := hlt2; omega) ?_
              exact VL.finS hO6 rfl rfl
            refine Obs.cons ?_ ?_
            · refine ob (by kernel_rfl) rfl (by kernel_rfl) rfl (fun w6 hO6 => ?_)
              rintro _ rfl
              refine VL.elems (s := ⟨w, _⟩) (m := 101) (i) 0 rfl kd85 (fun _ e => e ▸ hO6) (by repeat (first | exact List.mem_cons_self .. | apply List.mem_cons_of_mem)) hY (List.getElem?_eq_getElem hlt2) (by simp) (by decide) (fun vs hl hr => ?_)
              obtain ⟨q9, d9, hy9, rfl, hV9⟩ := hr
              refine VL.newv (v' := .agg (cat (objectV (ys[i]'hlt2) q9 d9)).toArray) (by rw [List.drop_zero, List.take_of_length_le (by rw [hl]; decide)]) ?_
              exact VL.finS hO6 rfl ⟨_, _, rfl, hV9.now (s := ⟨w, _⟩) Mono_vouch hO6 (by repeat (first | exact List.mem_cons_self .. | apply List.mem_cons_of_mem))⟩
            exact Obs.nil
          case end6 =>
            intro w6 hO6
            rintro _ ⟨qa3, da3, rfl, hVa3⟩ _ ⟨qa7, da7, rfl, hVa7⟩
            refine VL.toOwn hO6 ?_
            refine VL.call Try.func72 rfl (by decide) rfl (fun w' hw => sameObjects_g hw (hxs _ (List.getElem_mem hlt)) (hVa3.now (s := ⟨w6, _⟩) Mono_vouch hw (by repeat (first | exact List.mem_cons_self .. | apply List.mem_cons_of_mem))) (hys _ (List.getElem_mem hlt2)) (hVa7.now (s := ⟨w6, _⟩) Mono_vouch hw (by repeat (first | exact List.mem_cons_self .. | apply List.mem_cons_of_mem)))) (fun v => ?_)
            refine VL.ex fun b => VL.fact fun e => VL.fact fun h2 => ?_
            subst e
            obtain rfl : b = true := h2.2 hv.symm
            refine VL.not rfl ?_
            refine VL.nil ?_
            refine VX.next ?_
            refine VC.no rfl ?_
            refine VC.skip ?_
            refine VX.block_normal ?_
            refine VX.next ?_
            refine VC.region ?_
            refine VL.move rfl ?_
            refine VL.add rfl rfl (by simp only [InR]; omega) ?_
            refine VL.assign rfl ?_
            refine VL.nil ?_
            refine VX.round (i + 1) ⟨rfl, rfl, rfl, trivial⟩ (fun w' h => ⟨⟨by omega, fun j hj => ?_⟩, h.sub (fun _ hs => by repeat (first | exact hs | apply List.mem_cons_of_mem))⟩) (by show xs.length - (i + 1) < xs.length - i; omega)
            by_cases hji : j < i
            · exact hall j hji
            · obtain rfl : j = i := by omega
              rw [List.getElem?_eq_getElem hlt, List.getElem?_eq_getElem hlt2, hv]
        · apply VC.anyTA 8 1010 (F := [eqF _, eqF _, eqF _, objF (xs[i]'hlt), eqF _, eqF _, eqF _, objF (ys[i]'hlt2)]) [⟨[], [0]⟩, ⟨[], [5]⟩, ⟨[(17, 0), (18, 1)], []⟩, ⟨[(19, 2)], []⟩, ⟨[], [1]⟩, ⟨[], [5]⟩, ⟨[(21, 4), (22, 5)], []⟩, ⟨[(23, 6)], []⟩] [(20, 3), (24, 7)] [0, 1, 4, 5, 6, 7, 8, 9, 10, 11, 12, 13, 14, 15, 16, 25, 26] rfl (by kernel_rfl) (by kernel_rfl) rfl rfl (by kernel_rfl) (by kernel_rfl) (by kernel_rfl) rfl ?obs6 ?end6
          case obs6 =>
            refine Obs.cons ?_ ?_
            · refine obS (by kernel_rfl) rfl rfl (fun ph6 w6 hO6 => ?_)
              refine VL.move rfl ?_
              exact VL.finS hO6 rfl rfl
            refine Obs.cons ?_ ?_
            · refine obS (by kernel_rfl) rfl rfl (fun ph6 w6 hO6 => ?_)
              refine VL.move rfl ?_
              exact VL.finS hO6 rfl rfl
            refine Obs.cons ?_ ?_
            · refine obS (by kernel_rfl) rfl rfl (fun ph6 w6 hO6 => ?_)
              rintro _ rfl _ rfl
              refine VL.index (xs := xs) rfl rfl Try.underlying116 sz116 hX (by omega) (by have hi := hlt; omega) ?_
              exact VL.finS hO6 rfl rfl
            refine Obs.cons ?_ ?_
            · refine ob (by kernel_rfl) rfl (by kernel_rfl) rfl (fun w6 hO6 => ?_)
              rintro _ rfl
              refine VL.elems (s := ⟨w, _⟩) (m := 101) (i) 0 rfl kd85 (fun _ e => e ▸ hO6) (by repeat (first | exact List.mem_cons_self .. | apply List.mem_cons_of_mem)) hX (List.getElem?_eq_getElem hlt) (by simp) (by decide) (fun vs hl hr => ?_)
              obtain ⟨q9, d9, hy9, rfl, hV9⟩ := hr
              refine VL.newv (v' := .agg (cat (objectV (xs[i]'hlt) q9 d9)).toArray) (by rw [List.drop_zero, List.take_of_length_le (by rw [hl]; decide)]) ?_
              exact VL.finS hO6 rfl ⟨_, _, rfl, hV9.now (s := ⟨w, _⟩) Mono_vouch hO6 (by repeat (first | exact List.mem_cons_self .. | apply List.mem_cons_of_mem))⟩
            refine Obs.cons ?_ ?_
            · refine obS (by kernel_rfl) rfl rfl (fun ph6 w6 hO6 => ?_)
              refine VL.move rfl ?_
              exact VL.finS hO6 rfl rfl
            refine Obs.cons ?_ ?_
            · refine obS (by kernel_rfl) rfl rfl (fun ph6 w6 hO6 => ?_)
              refine VL.move rfl ?_
              exact VL.finS hO6 rfl rfl
            refine Obs.cons ?_ ?_
            · refine obS (by kernel_rfl) rfl rfl (fun ph6 w6 hO6 => ?_)
              rintro _ rfl _ rfl
              refine VL.index (xs := ys) rfl rfl Try.underlying116 sz116 hY (by omega) (by have hi := hlt2; omega) ?_
              exact VL.finS hO6 rfl rfl
            refine Obs.cons ?_ ?_
            · refine ob (by kernel_rfl) rfl (by kernel_rfl) rfl (fun w6 hO6 => ?_)
              rintro _ rfl
              refine VL.elems (s := ⟨w, _⟩) (m := 101) (i) 0 rfl kd85 (fun _ e => e ▸ hO6) (by repeat (first | exact List.mem_cons_self .. | apply List.mem_cons_of_mem)) hY (List.getElem?_eq_getElem hlt2) (by simp) (by decide) (fun vs hl hr => ?_)
              obtain ⟨q9, d9, hy9, rfl, hV9⟩ := hr
              refine VL.newv (v' := .agg (cat (objectV (ys[i]'hlt2) q9 d9)).toArray) (by rw [List.drop_zero, List.take_of_length_le (by rw [hl]; decide)]) ?_
              exact VL.finS hO6 rfl ⟨_, _, rfl, hV9.now (s := ⟨w, _⟩) Mono_vouch hO6 (by repeat (first | exact List.mem_cons_self .. | apply List.mem_cons_of_mem))⟩
            exact Obs.nil
          case end6 =>
            intro w6 hO6
            rintro _ ⟨qa3, da3, rfl, hVa3⟩ _ ⟨qa7, da7, rfl, hVa7⟩
            refine VL.toOwn hO6 ?_
            refine VL.call Try.func72 rfl (by decide) rfl (fun w' hw => sameObjects_g hw (hxs _ (List.getElem_mem hlt)) (hVa3.now (s := ⟨w6, _⟩) Mono_vouch hw (by repeat (first | exact List.mem_cons_self .. | apply List.mem_cons_of_mem))) (hys _ (List.getElem_mem hlt2)) (hVa7.now (s := ⟨w6, _⟩) Mono_vouch hw (by repeat (first | exact List.mem_cons_self .. | apply List.mem_cons_of_mem)))) (fun v => ?_)
            refine VL.ex fun b => VL.fact fun e => VL.fact fun h2 => ?_
            subst e
            obtain rfl : b = false := (by cases b with
              | false => rfl
              | true => exact absurd (h2.1 rfl).symm hv)
            refine VL.not rfl ?_
            refine VL.nil ?_
            refine VX.next ?_
            refine VC.yes rfl ?_
            refine VC.seq ?_
            refine VC.region ?_
            refine VL.assign rfl ?_
            refine VL.nil ?_
            refine VX.next ?_
            refine VC.ret ?_
            refine VX.block_ret ?_
            refine VX.then_ret ?_
            refine VX.then_ret ?_
            refine VX.block_ret ?_
            refine VX.then_ret ?_
            refine VX.ret1 rfl rfl (fun we hw => ?_)
            refine ⟨false, rfl, ⟨fun h => absurd h (by decide), fun e => absurd ?_ hv⟩, hw.sub (fun _ hs => by repeat (first | exact hs | apply List.mem_cons_of_mem))⟩
            subst e; rfl
      · have hie : i = xs.length := by omega
        refine VL.nil ?_
        refine VX.next ?_
        refine VC.no rfl ?_
        refine VC.exit ?_
        refine VX.then_exit ?_
        refine VX.then_exit ?_
        refine VX.block_here ?_
        refine VX.next ?_
        refine VC.seq ?_
        refine VC.region ?_
        refine VL.assign rfl ?_
        refine VL.nil ?_
        refine VX.next ?_
        refine VC.ret ?_
        refine VX.ret1 rfl rfl (fun we hw => ?_)
        refine ⟨true, rfl, ⟨fun _ => (List.ext_getElem? fun k => ?_), fun _ => rfl⟩, hw.sub (fun _ hs => by repeat (first | exact hs | apply List.mem_cons_of_mem))⟩
        by_cases hk : k < xs.length
        · exact (hall k (by omega)).symm
        · rw [List.getElem?_eq_none (by omega), List.getElem?_eq_none (by omega)]

theorem samePkts_g {S : List Snap} {H : List Chunk} {w : World} (ho : Own S H w) {x : Pkt} (hx : x.ok) {q : Option Addr} {d : Nat} (hV : Arr 101 objectR' (keys H) w q x.chain d) {p : Option Addr} {c : Nat} (hA : Bytes (keys H) w p x.body c) {y : Pkt} (hy : y.ok) {q2 : Option Addr} {d2 : Nat} (hV2 : Arr 101 objectR' (keys H) w q2 y.chain d2) {p2 : Option Addr} {c2 : Nat} (hA2 : Bytes (keys H) w p2 y.body c2) : Calls Try.prog 83 #[.agg (cat (pktV x q d p c)).toArray, .agg (cat (pktV y q2 d2 p2 c2)).toArray] w (Ret fun v w' => ∃ b : Bool, v = .bool b ∧ (b = true ↔ y = x) ∧ Own S H w') := by
  refine enter (G := Own (⟨w, keys H⟩ :: S) H) ho.keep Try.func83 rfl Try.ntmps83 rfl ?_
  refine VC.seq ?_
  refine VC.region ?_
  refine VL.box (L := pktL) (ps := (pktV (x) q d p c)) rfl rfl (pktV_len hx) (fun g1 => ?_)
  refine VL.box (L := pktL) (ps := (pktV (y) q2 d2 p2 c2)) rfl rfl (pktV_len hy) (fun g2 => ?_)
  refine VL.assign rfl ?_
  refine VL.nil ?_
  refine VX.next ?_
  refine VC.seq ?_
  refine VC.region ?_
  refine VL.fieldAddr rfl fo118_0 rfl ?_
  refine VL.load (v := .int .u8 (x.src)) 1 0 rfl kd5 (fun _ h => h) rfl rfl rfl ?_
  refine VL.fieldAddr rfl fo118_0 rfl ?_
  refine VL.load (v := .int .u8 (y.src)) 0 0 rfl kd5 (fun _ h => h) rfl rfl rfl ?_
  refine VL.eql rfl rfl ?_
  refine VL.case (fun h1_4 => ?_) (fun h1_4 => ?_)
  · have h1_4 : x.src = y.src := by omega
    refine VL.move rfl ?_
    refine VL.go rfl rfl rfl ?_
    refine VL.fieldAddr rfl fo118_1 rfl ?_
    refine VL.go rfl rfl rfl ?_
    refine VL.load (v := .int .u8 (x.dst)) 1 1 rfl kd5 (fun _ h => h) rfl rfl rfl ?_
    refine VL.go rfl rfl rfl ?_
    refine VL.fieldAddr rfl fo118_1 rfl ?_
    refine VL.go rfl rfl rfl ?_
    refine VL.load (v := .int .u8 (y.dst)) 0 1 rfl kd5 (fun _ h => h) rfl rfl rfl ?_
    refine VL.go rfl rfl rfl ?_
    refine VL.eql rfl rfl ?_
    refine VL.case (fun h1_10 => ?_) (fun h1_10 => ?_)
    · have h1_10 : x.dst = y.dst := by omega
      refine VL.pick_t rfl rfl ?_
      refine VL.move rfl ?_
      refine VL.go rfl rfl rfl ?_
      refine VL.fieldAddr rfl fo118_2 rfl ?_
      refine VL.go rfl rfl rfl ?_
      refine VL.load (v := .int .u8 (x.kind)) 1 2 rfl kd5 (fun _ h => h) rfl rfl rfl ?_
      refine VL.go rfl rfl rfl ?_
      refine VL.fieldAddr rfl fo118_2 rfl ?_
      refine VL.go rfl rfl rfl ?_
      refine VL.load (v := .int .u8 (y.kind)) 0 2 rfl kd5 (fun _ h => h) rfl rfl rfl ?_
      refine VL.go rfl rfl rfl ?_
      refine VL.eql rfl rfl ?_
      refine VL.case (fun h1_17 => ?_) (fun h1_17 => ?_)
      · have h1_17 : x.kind = y.kind := by omega
        refine VL.pick_t rfl rfl ?_
        refine VL.move rfl ?_
        refine VL.go rfl rfl rfl ?_
        refine VL.fieldAddr rfl fo118_3 rfl ?_
        refine VL.go rfl rfl rfl ?_
        refine VL.load (v := .slice q (x.chain).length d) 1 3 rfl kd116 (fun _ h => h) rfl rfl rfl ?_
        refine VL.go rfl rfl rfl ?_
        refine VL.fieldAddr rfl fo118_3 rfl ?_
        refine VL.go rfl rfl rfl ?_
        refine VL.load (v := .slice q2 (y.chain).length d2) 0 3 rfl kd116 (fun _ h => h) rfl rfl rfl ?_
        refine VL.go rfl rfl rfl ?_
        refine VL.call Try.func145 rfl (by decide) rfl (fun w' hw => sameChains_g hw hx.chain (hV.now (s := ⟨w, _⟩) Mono_object hw (by repeat (first | exact List.mem_cons_self .. | apply List.mem_cons_of_mem))) hy.chain (hV2.now (s := ⟨w, _⟩) Mono_object hw (by repeat (first | exact List.mem_cons_self .. | apply List.mem_cons_of_mem)))) (fun v => ?_)
        refine VL.ex fun b => VL.fact fun e => VL.fact fun h1_24 => ?_
        subst e
        cases b
        · have h1_24 := mt h1_24.2 (by decide)
          refine VL.pick_t rfl rfl ?_
          refine VL.move rfl ?_
          refine VL.pass rfl rfl rfl rfl rfl ?_
          refine VL.pass rfl rfl rfl rfl rfl ?_
          refine VL.pass rfl rfl rfl rfl rfl ?_
          refine VL.pass rfl rfl rfl rfl rfl ?_
          refine VL.pass rfl rfl rfl rfl rfl ?_
          refine VL.pick_f rfl rfl ?_
          refine VL.move rfl ?_
          refine VL.pass rfl rfl rfl rfl rfl ?_
          refine VL.pass rfl rfl rfl rfl rfl ?_
          refine VL.pass rfl rfl rfl rfl rfl ?_
          refine VL.pass rfl rfl rfl rfl rfl ?_
          refine VL.pass rfl rfl rfl rfl rfl ?_
          refine VL.pick_f rfl rfl ?_
          refine VL.assign rfl ?_
          refine VL.nil ?_
          refine VX.next ?_
          refine VC.ret ?_
          refine VX.ret1 rfl rfl (fun we hw => ?_)
          exact ⟨false, rfl, ⟨fun h => absurd h (by decide), fun h => absurd (pkt_iff.1 h).2.2.2.1.symm h1_24⟩, hw.drop.drop.sub (fun _ hs => by repeat (first | exact hs | apply List.mem_cons_of_mem))⟩
        · have h1_24 := (h1_24.1 rfl).symm
          refine VL.pick_t rfl rfl ?_
          refine VL.move rfl ?_
          refine VL.go rfl rfl rfl ?_
          refine VL.fieldAddr rfl fo118_4 rfl ?_
          refine VL.go rfl rfl rfl ?_
          refine VL.load (v := .slice p (x.body).length c) 1 4 rfl kd24 (fun _ h => h) rfl rfl rfl ?_
          refine VL.go rfl rfl rfl ?_
          refine VL.fieldAddr rfl fo118_4 rfl ?_
          refine VL.go rfl rfl rfl ?_
          refine VL.load (v := .slice p2 (y.body).length c2) 0 4 rfl kd24 (fun _ h => h) rfl rfl rfl ?_
          refine VL.go rfl rfl rfl ?_
          refine VL.call Try.func27 rfl (by decide) rfl (fun w' hw => bytes_B hw (hA.now (s := ⟨w, _⟩) Mono.byte hw (by repeat (first | exact List.mem_cons_self .. | apply List.mem_cons_of_mem))) (hA2.now (s := ⟨w, _⟩) Mono.byte hw (by repeat (first | exact List.mem_cons_self .. | apply List.mem_cons_of_mem)))) (fun v => ?_)
          refine VL.ex fun b => VL.fact fun e => VL.fact fun h1_31 => ?_
          subst e
          cases b
          · have h1_31 := mt h1_31.2 (by decide)
            refine VL.pick_t rfl rfl ?_
            refine VL.move rfl ?_
            refine VL.pass rfl rfl rfl rfl rfl ?_
            refine VL.pass rfl rfl rfl rfl rfl ?_
            refine VL.pass rfl rfl rfl rfl rfl ?_
            refine VL.pass rfl rfl rfl rfl rfl ?_
            refine VL.pass rfl rfl rfl rfl rfl ?_
            refine VL.pick_f rfl rfl ?_
            refine VL.assign rfl ?_
            refine VL.nil ?_
            refine VX.next ?_
            refine VC.ret ?_
            refine VX.ret1 rfl rfl (fun we hw => ?_)
            exact ⟨false, rfl, ⟨fun h => absurd h (by decide), fun h => absurd (pkt_iff.1 h).2.2.2.2.1 h1_31⟩, hw.drop.drop.sub (fun _ hs => by repeat (first | exact hs | apply List.mem_cons_of_mem))⟩
          · have h1_31 := h1_31.1 rfl
            refine VL.pick_t rfl rfl ?_
            refine VL.move rfl ?_
            refine VL.go rfl rfl rfl ?_
            refine VL.fieldAddr rfl fo118_5 rfl ?_
            refine VL.go rfl rfl rfl ?_
            refine VL.loads (cs := (x.sig).map bv) 1 5 1 rfl kd80 (fun _ h => h) rfl rfl rfl rfl ?_
            refine VL.go rfl rfl rfl ?_
            refine VL.fieldAddr rfl fo118_5 rfl ?_
            refine VL.go rfl rfl rfl ?_
            refine VL.loads (cs := (y.sig).map bv) 0 5 1 rfl kd80 (fun _ h => h) rfl rfl rfl rfl ?_
            refine VL.go rfl rfl rfl ?_
            refine VL.eqT guard80 rfl rfl (eqSig 9998 hx.sig hy.sig) (fun b h1_38 => ?_)
            cases b
            · have h1_38 := mt h1_38.2 (by decide)
              refine VL.pick_t rfl rfl ?_
              refine VL.assign rfl ?_
              refine VL.nil ?_
              refine VX.next ?_
              refine VC.ret ?_
              refine VX.ret1 rfl rfl (fun we hw => ?_)
              exact ⟨false, rfl, ⟨fun h => absurd h (by decide), fun h => absurd (pkt_iff.1 h).2.2.2.2.2 h1_38⟩, hw.drop.drop.sub (fun _ hs => by repeat (first | exact hs | apply List.mem_cons_of_mem))⟩
            · have h1_38 := h1_38.1 rfl
              refine VL.pick_t rfl rfl ?_
              refine VL.assign rfl ?_
              refine VL.nil ?_
              refine VX.next ?_
              refine VC.ret ?_
              refine VX.ret1 rfl rfl (fun we hw => ?_)
              exact ⟨true, rfl, ⟨fun _ => pkt_iff.2 ⟨h1_4, h1_10, h1_17, h1_24, h1_31, h1_38⟩, fun _ => rfl⟩, hw.drop.drop.sub (fun _ hs => by repeat (first | exact hs | apply List.mem_cons_of_mem))⟩
      · have h1_17 : ¬ x.kind = y.kind := by omega
        refine VL.pick_t rfl rfl ?_
        refine VL.move rfl ?_
        refine VL.pass rfl rfl rfl rfl rfl ?_
        refine VL.pass rfl rfl rfl rfl rfl ?_
        refine VL.pass rfl rfl rfl rfl rfl ?_
        refine VL.pass rfl rfl rfl rfl rfl ?_
        refine VL.pass rfl rfl rfl rfl rfl ?_
        refine VL.pick_f rfl rfl ?_
        refine VL.move rfl ?_
        refine VL.pass rfl rfl rfl rfl rfl ?_
        refine VL.pass rfl rfl rfl rfl rfl ?_
        refine VL.pass rfl rfl rfl rfl rfl ?_
        refine VL.pass rfl rfl rfl rfl rfl ?_
        refine VL.pass rfl rfl rfl rfl rfl ?_
        refine VL.pick_f rfl rfl ?_
        refine VL.move rfl ?_
        refine VL.pass rfl rfl rfl rfl rfl ?_
        refine VL.pass rfl rfl rfl rfl rfl ?_
        refine VL.pass rfl rfl rfl rfl rfl ?_
        refine VL.pass rfl rfl rfl rfl rfl ?_
        refine VL.pass rfl rfl rfl rfl rfl ?_
        refine VL.pick_f rfl rfl ?_
        refine VL.assign rfl ?_
        refine VL.nil ?_
        refine VX.next ?_
        refine VC.ret ?_
        refine VX.ret1 rfl rfl (fun we hw => ?_)
        exact ⟨false, rfl, ⟨fun h => absurd h (by decide), fun h => absurd (pkt_iff.1 h).2.2.1 h1_17⟩, hw.drop.drop.sub (fun _ hs => by repeat (first | exact hs | apply List.mem_cons_of_mem))⟩
    · have h1_10 : ¬ x.dst = y.dst := by omega
      refine VL.pick_t rfl rfl ?_
      refine VL.move rfl ?_
      refine VL.pass rfl rfl rfl rfl rfl ?_
      refine VL.pass rfl rfl rfl rfl rfl ?_
      refine VL.pass rfl rfl rfl rfl rfl ?_
      refine VL.pass rfl rfl rfl rfl rfl ?_
      refine VL.pass rfl rfl rfl rfl rfl ?_
      refine VL.pick_f rfl rfl ?_
      refine VL.move rfl ?_
      refine VL.pass rfl rfl rfl rfl rfl ?_
      refine VL.pass rfl rfl rfl rfl rfl ?_
      refine VL.pass rfl rfl rfl rfl rfl ?_
      refine VL.pass rfl rfl rfl rfl rfl ?_
      refine VL.pass rfl rfl rfl rfl rfl ?_
      refine VL.pick_f rfl rfl ?_
      refine VL.move rfl ?_
      refine VL.pass rfl rfl rfl rfl rfl ?_
      refine VL.pass rfl rfl rfl rfl rfl ?_
      refine VL.pass rfl rfl rfl rfl rfl ?_
      refine VL.pass rfl rfl rfl rfl rfl ?_
      refine VL.pass rfl rfl rfl rfl rfl ?_
      refine VL.pick_f rfl rfl ?_
      refine VL.move rfl ?_
      refine VL.pass rfl rfl rfl rfl rfl ?_
      refine VL.pass rfl rfl rfl rfl rfl ?_
      refine VL.pass rfl rfl rfl rfl rfl ?_
      refine VL.pass rfl rfl rfl rfl rfl ?_
      refine VL.pass rfl rfl rfl rfl rfl ?_
      refine VL.pick_f rfl rfl ?_
      refine VL.assign rfl ?_
      refine VL.nil ?_
      refine VX.next ?_
      refine VC.ret ?_
      refine VX.ret1 rfl rfl (fun we hw => ?_)
      exact ⟨false, rfl, ⟨fun h => absurd h (by decide), fun h => absurd (pkt_iff.1 h).2.1 h1_10⟩, hw.drop.drop.sub (fun _ hs => by repeat (first | exact hs | apply List.mem_cons_of_mem))⟩
  · have h1_4 : ¬ x.src = y.src := by omega
    refine VL.move rfl ?_
    refine VL.pass rfl rfl rfl rfl rfl ?_
    refine VL.pass rfl rfl rfl rfl rfl ?_
    refine VL.pass rfl rfl rfl rfl rfl ?_
    refine VL.pass rfl rfl rfl rfl rfl ?_
    refine VL.pass rfl rfl rfl rfl rfl ?_
    refine VL.pick_f rfl rfl ?_
    refine VL.move rfl ?_
    refine VL.pass rfl rfl rfl rfl rfl ?_
    refine VL.pass rfl rfl rfl rfl rfl ?_
    refine VL.pass rfl rfl rfl rfl rfl ?_
    refine VL.pass rfl rfl rfl rfl rfl ?_
    refine VL.pass rfl rfl rfl rfl rfl ?_
    refine VL.pick_f rfl rfl ?_
    refine VL.move rfl ?_
    refine VL.pass rfl rfl rfl rfl rfl ?_
    refine VL.pass rfl rfl rfl rfl rfl ?_
    refine VL.pass rfl rfl rfl rfl rfl ?_
    refine VL.pass rfl rfl rfl rfl rfl ?_
    refine VL.pass rfl rfl rfl rfl rfl ?_
    refine VL.pick_f rfl rfl ?_
    refine VL.move rfl ?_
    refine VL.pass rfl rfl rfl rfl rfl ?_
    refine VL.pass rfl rfl rfl rfl rfl ?_
    refine VL.pass rfl rfl rfl rfl rfl ?_
    refine VL.pass rfl rfl rfl rfl rfl ?_
    refine VL.pass rfl rfl rfl rfl rfl ?_
    refine VL.pick_f rfl rfl ?_
    refine VL.move rfl ?_
    refine VL.pass rfl rfl rfl rfl rfl ?_
    refine VL.pass rfl rfl rfl rfl rfl ?_
    refine VL.pass rfl rfl rfl rfl rfl ?_
    refine VL.pass rfl rfl rfl rfl rfl ?_
    refine VL.pass rfl rfl rfl rfl rfl ?_
    refine VL.pick_f rfl rfl ?_
    refine VL.assign rfl ?_
    refine VL.nil ?_
    refine VX.next ?_
    refine VC.ret ?_
    refine VX.ret1 rfl rfl (fun we hw => ?_)
    exact ⟨false, rfl, ⟨fun h => absurd h (by decide), fun h => absurd (pkt_iff.1 h).1 h1_4⟩, hw.drop.drop.sub (fun _ hs => by repeat (first | exact hs | apply List.mem_cons_of_mem))⟩

theorem samePkts_e {S : List Snap} {H : List Chunk} {w : World} (ho : Own S H w) {x y : Pkt} (hx : x.ok) {q : Option Addr} {d : Nat} (hV : Arr 101 objectR' (keys H) w q x.chain d) {p : Option Addr} {c : Nat} (hA : Bytes (keys H) w p x.body c) {q2 : Option Addr} {d2 : Nat} (hV2 : Arr 101 objectR' (keys H) w q2 y.chain d2) {p2 : Option Addr} {c2 : Nat} (hA2 : Bytes (keys H) w p2 y.body c2) (e : y = x) : Calls Try.prog 83 #[.agg (cat (pktV x q d p c)).toArray, .agg (cat (pktV y q2 d2 p2 c2)).toArray] w (Ret fun v w' => v = .bool true ∧ Own S H w') :=
  calls_mono (samePkts_g ho hx hV hA (e ▸ hx) hV2 hA2) fun v w' ⟨b, h1, h2, h3⟩ => ⟨by rw [h1, h2.2 e], h3⟩

end Go.Proofs.Ytcfecmoagfgnaaa

/- The rules of the walks, continued: ways that meet again. -/
namespace Go.Vc
section
variable {P : Program} {n : Nat} {Q Q' : Exit → Act → World → Prop} {σ : Sl} {G : World → Prop}
/-- Code behind other code is walked once, however many ways lead to it: x: what the ways differ in. -/
theorem VC.join {X : Type} {c y : Code} (τ : X → Sl) (G' : X → World → Prop) (p : X → Prop) (hx : (∀ x, p x → VC P n Q y (τ x) (G' x)) → VC P n (Exit.then (y.wp P Q) Q) c σ G) (hy : ∀ x, p x → VC P n Q y (τ x) (G' x)) : VC P n Q (.seq c y) σ G := VC.seq (hx hy)
theorem VX.join {X : Type} {y : Code} {τ : X → Sl} {G' : X → World → Prop} {p : X → Prop} (h : ∀ x, p x → VC P n Q y (τ x) (G' x)) (x : X) (hp : p x) (hs : sub (τ x) σ) (hG : ∀ w, G w → G' x w) : VX n (Exit.then (y.wp P Q) Q') .normal σ G :=
  fun a w ha hw => h x hp a w (ha.mono hs) (hG w hw)
end
end Go.Vc

/- wire: what bytes are read as: packets. -/
namespace Go.Proofs.Ytcfecmoagfgnaaa
open Go.Vc Go.Pl

theorem Own.drop2 {S : List Snap} {a b : Chunk} {H : List Chunk} {w : World} (h : Own S (a :: b :: H) w) : Own S (a :: H) w := Own.drop (c := b) (h.perm (List.Perm.swap a b H))
theorem third_is {ps : List (List UInt8)} (h : 2 < ps.length) : nextP (at2 ps) = ps[2]'h := by
  match ps, h with
  | a :: b :: c :: r, _ => rfl
theorem num_one {l : List UInt8} (h : l.length = 1) (h0 : 0 < l.length) : num l = (l[0]'h0).toNat := by
  match l, h with
  | [b], _ => simp [num]
theorem kb_why {l : List UInt8} (h : openW l ≠ 0) : ¬ kindBad (openP l) := by
  rcases openW_cases l with ⟨h1, _⟩ | ⟨_, h1⟩
  · rw [h1]; intro h; exact absurd h.1 (by decide)
  · exact absurd h1 h
theorem kb_short {ps : List (List UInt8)} (h : ¬ 2 < ps.length) : ¬ kindBad ps := fun hb => h hb.1
theorem kb_len {ps : List (List UInt8)} (h : 2 < ps.length) (h1 : (ps[2]'h).length ≠ 1) : ¬ kindBad ps := fun hb => h1 (by rw [← third_is h]; exact hb.2.1)
theorem kb_iff {ps : List (List UInt8)} (h : 2 < ps.length) (h1 : (ps[2]'h).length = 1) (h0 : 0 < (ps[2]'h).length) : kindBad ps ↔ kindIn (((ps[2]'h)[0]'h0).toNat) = false := by
  unfold kindBad
  rw [third_is h, num_one h1 h0]
  exact ⟨fun hb => hb.2.2, fun hb => ⟨h, h1, hb⟩⟩
theorem kindIn_no {k : Nat} (h : k < 1 ∨ 4 < k) : kindIn k = false := by unfold kindIn; rw [Bool.and_eq_false_iff]; rcases h with h | h <;> simp <;> omega
theorem zero_at {l : List UInt8} (hz : l = [0]) (h : 0 < l.length) : ¬ (((l[0]'h).toNat : Nat) : Int) ≠ 0 := by subst hz; simp
theorem nz_at {l : List UInt8} (hz : l ≠ [0]) (hl : l.length = 1) (h : 0 < l.length) : (((l[0]'h).toNat : Nat) : Int) ≠ 0 := by
  match l, hl with
  | [b], _ =>
    intro e
    refine hz ?_
    have e : b.toNat = 0 := by have e : ((b.toNat : Nat) : Int) = 0 := e; omega
    rw [show b = 0 from UInt8.toNat.inj e]

theorem getPkt_w {S : List Snap} {H : List Chunk} {w : World} (ho : Own S H w) {p : Option Addr} {l : List UInt8} {c : Nat} (hA : Bytes (keys H) w p l c) : Calls Try.prog 81 #[.slice p l.length c] w (Ret fun v w' => ∃ q d p c, v = .tuple #[.agg (cat (pktV ((pktR l).getD pkt0) q d p c)).toArray, .int .i64 ((pktW l : Nat) : Int)] ∧ Own S H w' ∧ Arr 101 objectR' (keys H) w' q ((pktR l).getD pkt0).chain d ∧ Bytes (keys H) w' p ((pktR l).getD pkt0).body c) := by
  refine enter (G := Own (⟨w, keys H⟩ :: S) H) ho.keep Try.func81 rfl Try.ntmps81 rfl ?_
  refine VC.seq ?_
  refine VC.region ?_
  refine VL.alloc (L := pktL) (ps := (pktV (pkt0) none 0 none 0)) zero118 rfl rfl (fun g1 => ?_)
  refine VL.assign rfl ?_
  refine VL.nil ?_
  refine VX.next ?_
  refine VC.seq ?_
  refine VC.region ?_
  refine VL.move rfl ?_
  refine VL.call Try.func121 rfl (by decide) rfl (fun w' hw => open_R hw (hA.now (s := ⟨w, _⟩) Mono.byte hw (by repeat (first | exact List.mem_cons_self .. | apply List.mem_cons_of_mem)))) (fun v => ?_)
  refine VL.ex fun g2 => VL.fact fun e3 => ?_
  subst e3
  refine VL.assign rfl ?_
  refine VL.nil ?_
  refine VX.next ?_
  refine VC.seq ?_
  refine VC.join (X := Bool) (fun b => [(2, .pointer (some ⟨g1, 0, none⟩)), (4, .pointer (some ⟨g2, 0, none⟩)), (57, .bool b)]) (fun _ => Own (⟨w, keys H⟩ :: S) (rch g2 (openP (l)) (openW (l)) :: blk g1 118 pktL (pktV (pkt0) none 0 none 0) :: H)) (fun b => (b = true ↔ kindBad (openP l))) (fun hrest => ?_) (fun b hbk => ?_)
  · skip
    refine VC.region ?_
    refine VL.move rfl ?_
    refine VL.nilCheck rfl ?_
    refine VL.fieldAddr rfl fo196_1 rfl ?_
    refine loadWhy 0 rfl (fun _ h => h) rfl ?_
    refine VL.eql rfl rfl ?_
    refine VL.case (fun h2_4 => ?_) (fun h2_4 => ?_)
    · skip
      refine VL.move rfl ?_
      refine VL.go rfl rfl rfl ?_
      refine VL.move rfl ?_
      refine VL.go rfl rfl rfl ?_
      refine VL.nilCheck rfl ?_
      refine VL.go rfl rfl rfl ?_
      refine VL.fieldAddr rfl fo196_0 rfl ?_
      refine VL.go rfl rfl rfl ?_
      refine loadParts 0 rfl rfl (fun p4 c5 w6 hO7 hA8 => ?_)
      refine VL.go rfl rfl rfl ?_
      refine VL.len Try.underlying31 rfl rfl ?_
      refine VL.go rfl rfl rfl ?_
      refine VL.gtr rfl rfl ?_
      refine VL.case (fun h2_11 => ?_) (fun h2_11 => ?_)
      · have hlen : 2 < (openP (l)).length := by omega
        refine VL.pick_t rfl rfl ?_
        refine VL.move rfl ?_
        refine VL.go rfl rfl rfl ?_
        refine VL.move rfl ?_
        refine VL.go rfl rfl rfl ?_
        refine VL.nilCheck rfl ?_
        refine VL.go rfl rfl rfl ?_
        refine VL.fieldAddr rfl fo196_0 rfl ?_
        refine VL.go rfl rfl rfl ?_
        refine loadParts 0 rfl rfl (fun p9 c10 w11 hO12 hA13 => ?_)
        refine VL.go rfl rfl rfl ?_
        refine VL.index (xs := (openP (l))) rfl rfl Try.underlying31 sz31 hA13 (by omega) (by have hi := hlen; omega) ?_
        refine VL.go rfl rfl rfl ?_
        refine VL.elem (s := ⟨w11, _⟩) (2) 0 rfl kd24 (fun _ h => h) (by repeat (first | exact List.mem_cons_self .. | apply List.mem_cons_of_mem)) (Mono.slice Mono.byte) hA13 (List.getElem?_eq_getElem hlen) (by simp) (by decide) (fun vs v hl hr hv => ?_)
        obtain ⟨p16, c17, rfl, hA18⟩ := hr
        have ehy15 : v = .slice p16 ((openP (l))[2]'hlen).length c17 := Option.some.inj (hv.symm.trans rfl)
        subst ehy15
        refine VL.go rfl rfl rfl ?_
        refine VL.len Try.underlying24 rfl rfl ?_
        refine VL.go rfl rfl rfl ?_
        refine VL.eql rfl rfl ?_
        refine VL.case (fun h2_21 => ?_) (fun h2_21 => ?_)
        · have h1l : ((openP (l))[2]'hlen).length = 1 := by omega
          have h1p : 0 < ((openP (l))[2]'hlen).length := by omega
          refine VL.pick_t rfl rfl ?_
          refine VL.move rfl ?_
          refine VL.go rfl rfl rfl ?_
          refine VL.move rfl ?_
          refine VL.go rfl rfl rfl ?_
          refine VL.nilCheck rfl ?_
          refine VL.go rfl rfl rfl ?_
          refine VL.fieldAddr rfl fo196_0 rfl ?_
          refine VL.go rfl rfl rfl ?_
          refine loadParts 0 rfl rfl (fun p19 c20 w21 hO22 hA23 => ?_)
          refine VL.go rfl rfl rfl ?_
          refine VL.index (xs := (openP (l))) rfl rfl Try.underlying31 sz31 hA23 (by omega) (by have hi := hlen; omega) ?_
          refine VL.go rfl rfl rfl ?_
          refine VL.elem (s := ⟨w21, _⟩) (2) 0 rfl kd24 (fun _ h => h) (by repeat (first | exact List.mem_cons_self .. | apply List.mem_cons_of_mem)) (Mono.slice Mono.byte) hA23 (List.getElem?_eq_getElem hlen) (by simp) (by decide) (fun vs v hl hr hv => ?_)
          obtain ⟨p26, c27, rfl, hA28⟩ := hr
          have ehy25 : v = .slice p26 ((openP (l))[2]'hlen).length c27 := Option.some.inj (hv.symm.trans rfl)
          subst ehy25
          refine VL.go rfl rfl rfl ?_
          refine VL.index (xs := ((openP (l))[2]'hlen)) rfl rfl Try.underlying24 sz24 hA28 (by omega) (by have hi := h1p; omega) ?_
          refine VL.go rfl rfl rfl ?_
          refine VL.byte (s := ⟨w21, _⟩) (y := ((openP (l))[2]'hlen)[0]'h1p) rfl kd5 (fun _ h => h) (by repeat (first | exact List.mem_cons_self .. | apply List.mem_cons_of_mem)) hA28 (List.getElem?_eq_getElem h1p) ?_
          refine VL.go rfl rfl rfl ?_
          refine VL.lss rfl rfl ?_
          refine VL.case (fun h2_32 => ?_) (fun h2_32 => ?_)
          · have hb : kindBad (openP l) := (kb_iff hlen h1l h1p).2 (kindIn_no (.inl (by have h : ((((((openP (l))[2]'hlen)[0]'h1p).toNat : Nat)) : Int) < 1 := h2_32; omega)))
            refine VL.go rfl rfl rfl ?_
            refine VL.move rfl ?_
            refine VL.pass rfl rfl rfl rfl rfl ?_
            refine VL.pass rfl rfl rfl rfl rfl ?_
            refine VL.pass rfl rfl rfl rfl rfl ?_
            refine VL.pass rfl rfl rfl rfl rfl ?_
            refine VL.pass rfl rfl rfl rfl rfl ?_
            refine VL.pass rfl rfl rfl rfl rfl ?_
            refine VL.pass rfl rfl rfl rfl rfl ?_
            refine VL.pass rfl rfl rfl rfl rfl ?_
            refine VL.pass rfl rfl rfl rfl rfl ?_
            refine VL.go rfl rfl rfl ?_
            refine VL.pick_t rfl rfl ?_
            refine VL.pick_t rfl rfl ?_
            refine VL.nil ?_
            exact VX.join hrest true ⟨fun _ => hb, fun _ => rfl⟩ ⟨rfl, rfl, rfl, trivial⟩ (fun _ h => h.sub (fun _ hs => by repeat (first | exact hs | apply List.mem_cons_of_mem)))
          · skip
            refine VL.go rfl rfl rfl ?_
            refine VL.move rfl ?_
            refine VL.go rfl rfl rfl ?_
            refine VL.move rfl ?_
            refine VL.go rfl rfl rfl ?_
            refine VL.nilCheck rfl ?_
            refine VL.go rfl rfl rfl ?_
            refine VL.fieldAddr rfl fo196_0 rfl ?_
            refine VL.go rfl rfl rfl ?_
            refine loadParts 0 rfl rfl (fun p31 c32 w33 hO34 hA35 => ?_)
            refine VL.go rfl rfl rfl ?_
            refine VL.index (xs := (openP (l))) rfl rfl Try.underlying31 sz31 hA35 (by omega) (by have hi := hlen; omega) ?_
            refine VL.go rfl rfl rfl ?_
            refine VL.elem (s := ⟨w33, _⟩) (2) 0 rfl kd24 (fun _ h => h) (by repeat (first | exact List.mem_cons_self .. | apply List.mem_cons_of_mem)) (Mono.slice Mono.byte) hA35 (List.getElem?_eq_getElem hlen) (by simp) (by decide) (fun vs v hl hr hv => ?_)
            obtain ⟨p38, c39, rfl, hA40⟩ := hr
            have ehy37 : v = .slice p38 ((openP (l))[2]'hlen).length c39 := Option.some.inj (hv.symm.trans rfl)
            subst ehy37
            refine VL.go rfl rfl rfl ?_
            refine VL.index (xs := ((openP (l))[2]'hlen)) rfl rfl Try.underlying24 sz24 hA40 (by omega) (by have hi := h1p; omega) ?_
            refine VL.go rfl rfl rfl ?_
            refine VL.byte (s := ⟨w33, _⟩) (y := ((openP (l))[2]'hlen)[0]'h1p) rfl kd5 (fun _ h => h) (by repeat (first | exact List.mem_cons_self .. | apply List.mem_cons_of_mem)) hA40 (List.getElem?_eq_getElem h1p) ?_
            refine VL.go rfl rfl rfl ?_
            refine VL.gtr rfl rfl ?_
            refine VL.case (fun h2_42 => ?_) (fun h2_42 => ?_)
            · have hb : kindBad (openP l) := (kb_iff hlen h1l h1p).2 (kindIn_no (.inr (by have h : (4 : Int) < ((((((openP (l))[2]'hlen)[0]'h1p).toNat : Nat)) : Int) := h2_42; omega)))
              refine VL.go rfl rfl rfl ?_
              refine VL.pick_f rfl rfl ?_
              refine VL.pick_t rfl rfl ?_
              refine VL.nil ?_
              exact VX.join hrest true ⟨fun _ => hb, fun _ => rfl⟩ ⟨rfl, rfl, rfl, trivial⟩ (fun _ h => h.sub (fun _ hs => by repeat (first | exact hs | apply List.mem_cons_of_mem)))
            · have hnb : ¬ kindBad (openP l) := fun hb => by
                have h1 := (kb_iff hlen h1l h1p).1 hb
                rw [kindIn_of.2 ⟨by have h : ¬ ((((((openP (l))[2]'hlen)[0]'h1p).toNat : Nat)) : Int) < 1 := h2_32; omega, by have h : ¬ (4 : Int) < ((((((openP (l))[2]'hlen)[0]'h1p).toNat : Nat)) : Int) := h2_42; omega⟩] at h1
                cases h1
              refine VL.go rfl rfl rfl ?_
              refine VL.pick_f rfl rfl ?_
              refine VL.pick_t rfl rfl ?_
              refine VL.nil ?_
              exact VX.join hrest false ⟨fun h => absurd h (by decide), fun h => absurd h hnb⟩ ⟨rfl, rfl, rfl, trivial⟩ (fun _ h => h.sub (fun _ hs => by repeat (first | exact hs | apply List.mem_cons_of_mem)))
        · have hnb : ¬ kindBad (openP l) := kb_len hlen (by omega)
          refine VL.pick_t rfl rfl ?_
          refine VL.move rfl ?_
          refine VL.pass rfl rfl rfl rfl rfl ?_
          refine VL.pass rfl rfl rfl rfl rfl ?_
          refine VL.pass rfl rfl rfl rfl rfl ?_
          refine VL.pass rfl rfl rfl rfl rfl ?_
          refine VL.pass rfl rfl rfl rfl rfl ?_
          refine VL.pass rfl rfl rfl rfl rfl ?_
          refine VL.pass rfl rfl rfl rfl rfl ?_
          refine VL.pass rfl rfl rfl rfl rfl ?_
          refine VL.pass rfl rfl rfl rfl rfl ?_
          refine VL.pass rfl rfl rfl rfl rfl ?_
          refine VL.passu rfl rfl rfl rfl ?_
          refine VL.passu rfl rfl rfl rfl ?_
          refine VL.passu rfl rfl rfl rfl ?_
          refine VL.passu rfl rfl rfl rfl ?_
          refine VL.passu rfl rfl rfl rfl ?_
          refine VL.passu rfl rfl rfl rfl ?_
          refine VL.passu rfl rfl rfl rfl ?_
          refine VL.passu rfl rfl rfl rfl ?_
          refine VL.passu rfl rfl rfl rfl ?_
          refine VL.pass rfl rfl rfl rfl rfl ?_
          refine VL.pick_f rfl rfl ?_
          refine VL.nil ?_
          exact VX.join hrest false ⟨fun h => absurd h (by decide), fun h => absurd h hnb⟩ ⟨rfl, rfl, rfl, trivial⟩ (fun _ h => h.sub (fun _ hs => by repeat (first | exact hs | apply List.mem_cons_of_mem)))
      · have hnb : ¬ kindBad (openP l) := kb_short (by omega)
        refine VL.pick_t rfl rfl ?_
        refine VL.move rfl ?_
        refine VL.pass rfl rfl rfl rfl rfl ?_
        refine VL.pass rfl rfl rfl rfl rfl ?_
        refine VL.pass rfl rfl rfl rfl rfl ?_
        refine VL.pass rfl rfl rfl rfl rfl ?_
        refine VL.pass rfl rfl rfl rfl rfl ?_
        refine VL.pass rfl rfl rfl rfl rfl ?_
        refine VL.pass rfl rfl rfl rfl rfl ?_
        refine VL.pass rfl rfl rfl rfl rfl ?_
        refine VL.pick_f rfl rfl ?_
        refine VL.move rfl ?_
        refine VL.pass rfl rfl rfl rfl rfl ?_
        refine VL.pass rfl rfl rfl rfl rfl ?_
        refine VL.pass rfl rfl rfl rfl rfl ?_
        refine VL.pass rfl rfl rfl rfl rfl ?_
        refine VL.pass rfl rfl rfl rfl rfl ?_
        refine VL.pass rfl rfl rfl rfl rfl ?_
        refine VL.pass rfl rfl rfl rfl rfl ?_
        refine VL.pass rfl rfl rfl rfl rfl ?_
        refine VL.pass rfl rfl rfl rfl rfl ?_
        refine VL.pass rfl rfl rfl rfl rfl ?_
        refine VL.passu rfl rfl rfl rfl ?_
        refine VL.passu rfl rfl rfl rfl ?_
        refine VL.passu rfl rfl rfl rfl ?_
        refine VL.passu rfl rfl rfl rfl ?_
        refine VL.passu rfl rfl rfl rfl ?_
        refine VL.passu rfl rfl rfl rfl ?_
        refine VL.passu rfl rfl rfl rfl ?_
        refine VL.passu rfl rfl rfl rfl ?_
        refine VL.passu rfl rfl rfl rfl ?_
        refine VL.pass rfl rfl rfl rfl rfl ?_
        refine VL.pick_f rfl rfl ?_
        refine VL.nil ?_
        exact VX.join hrest false ⟨fun h => absurd h (by decide), fun h => absurd h hnb⟩ ⟨rfl, rfl, rfl, trivial⟩ (fun _ h => h.sub (fun _ hs => by repeat (first | exact hs | apply List.mem_cons_of_mem)))
    · have hnb : ¬ kindBad (openP l) := kb_why (by omega)
      refine VL.move rfl ?_
      refine VL.pass rfl rfl rfl rfl rfl ?_
      refine VL.pass rfl rfl rfl rfl rfl ?_
      refine VL.pass rfl rfl rfl rfl rfl ?_
      refine VL.pass rfl rfl rfl rfl rfl ?_
      refine VL.pass rfl rfl rfl rfl rfl ?_
      refine VL.pass rfl rfl rfl rfl rfl ?_
      refine VL.pick_f rfl rfl ?_
      refine VL.move rfl ?_
      refine VL.pass rfl rfl rfl rfl rfl ?_
      refine VL.pass rfl rfl rfl rfl rfl ?_
      refine VL.pass rfl rfl rfl rfl rfl ?_
      refine VL.pass rfl rfl rfl rfl rfl ?_
      refine VL.pass rfl rfl rfl rfl rfl ?_
      refine VL.pass rfl rfl rfl rfl rfl ?_
      refine VL.pass rfl rfl rfl rfl rfl ?_
      refine VL.pass rfl rfl rfl rfl rfl ?_
      refine VL.pick_f rfl rfl ?_
      refine VL.move rfl ?_
      refine VL.pass rfl rfl rfl rfl rfl ?_
      refine VL.pass rfl rfl rfl rfl rfl ?_
      refine VL.pass rfl rfl rfl rfl rfl ?_
      refine VL.pass rfl rfl rfl rfl rfl ?_
      refine VL.pass rfl rfl rfl rfl rfl ?_
      refine VL.pass rfl rfl rfl rfl rfl ?_
      refine VL.pass rfl rfl rfl rfl rfl ?_
      refine VL.pass rfl rfl rfl rfl rfl ?_
      refine VL.pass rfl rfl rfl rfl rfl ?_
      refine VL.pass rfl rfl rfl rfl rfl ?_
      refine VL.passu rfl rfl rfl rfl ?_
      refine VL.passu rfl rfl rfl rfl ?_
      refine VL.passu rfl rfl rfl rfl ?_
      refine VL.passu rfl rfl rfl rfl ?_
      refine VL.passu rfl rfl rfl rfl ?_
      refine VL.passu rfl rfl rfl rfl ?_
      refine VL.passu rfl rfl rfl rfl ?_
      refine VL.passu rfl rfl rfl rfl ?_
      refine VL.passu rfl rfl rfl rfl ?_
      refine VL.pass rfl rfl rfl rfl rfl ?_
      refine VL.pick_f rfl rfl ?_
      refine VL.nil ?_
      exact VX.join hrest false ⟨fun h => absurd h (by decide), fun h => absurd h hnb⟩ ⟨rfl, rfl, rfl, trivial⟩ (fun _ h => h.sub (fun _ hs => by repeat (first | exact hs | apply List.mem_cons_of_mem)))
  skip
  refine VC.split rfl (fun hc57 => ?_) (fun hc57 => ?_)
  · refine VC.seq ?_
    refine VC.region ?_
    refine VL.build0 (cs := cat (pktV (pkt0) none 0 none 0)) built118 ?_
    refine VL.store (L := pktL) (qs := (pktV (pkt0) none 0 none 0)) (ps' := (pktV (pkt0) none 0 none 0)) 1 0 6 rfl rfl rfl (.inl kd118) rfl rfl rfl (pktV_ok1 pkt0 none 0 none 0) rfl rfl ?_
    refine VL.turn (G' := Own _ (rch g2 (openP (l)) (openW (l)) :: blk g1 118 pktL (pktV (pkt0) none 0 none 0) :: H)) (fun _ h => h) ?_
    refine VL.assign rfl ?_
    refine VL.nil ?_
    refine VX.next ?_
    refine VC.ret ?_
    refine VX.then_ret ?_
    refine VX.ret_cell (cs := cat (pktV (pkt0) none 0 none 0)) 1 rfl rfl rfl kd118 (fun _ h => h) rfl rfl (fun we hw => ?_)
    obtain ⟨e1, e2⟩ := pktW_bad (hbk.1 hc57)
    exact ⟨none, 0, none, 0, by rw [e1]; exact congrArg (fun n : Nat => Value.tuple #[_, .int .i64 (n : Int)]) (e2).symm, hw.drop.drop.sub (fun _ hs => by repeat (first | exact hs | apply List.mem_cons_of_mem)), by rw [e1]; exact Arr.none, by rw [e1]; exact Arr.none⟩
  · refine VC.skip ?_
    refine VX.next ?_
    refine VC.seq ?_
    have hnb : ¬ kindBad (openP l) := mt hbk.2 (by rw [hc57]; decide)
    refine VC.region ?_
    refine VL.move rfl ?_
    refine VL.call Try.func122 rfl (by decide) rfl (fun w' hw => byte_R (i := 0) rfl hw) (fun v => ?_)
    refine VL.fact fun e43 => ?_
    subst e43
    refine VL.turn (G' := Own _ (rch g2 ((openP (l)).drop 1) (lenW (openP (l)) (openW (l)) 1) :: blk g1 118 pktL (pktV (pkt0) none 0 none 0) :: H)) (fun _ h => h) ?_
    refine VL.move rfl ?_
    refine VL.call Try.func122 rfl (by decide) rfl (fun w' hw => byte_R (i := 0) rfl hw) (fun v => ?_)
    refine VL.fact fun e44 => ?_
    subst e44
    refine VL.turn (G' := Own _ (rch g2 (((openP (l)).drop 1).drop 1) (lenW ((openP (l)).drop 1) (lenW (openP (l)) (openW (l)) 1) 1) :: blk g1 118 pktL (pktV (pkt0) none 0 none 0) :: H)) (fun _ h => h) ?_
    refine VL.move rfl ?_
    refine VL.call Try.func122 rfl (by decide) rfl (fun w' hw => byte_R (i := 0) rfl hw) (fun v => ?_)
    refine VL.fact fun e45 => ?_
    subst e45
    refine VL.turn (G' := Own _ (rch g2 ((((openP (l)).drop 1).drop 1).drop 1) (lenW (((openP (l)).drop 1).drop 1) (lenW ((openP (l)).drop 1) (lenW (openP (l)) (openW (l)) 1) 1) 1) :: blk g1 118 pktL (pktV (pkt0) none 0 none 0) :: H)) (fun _ h => h) ?_
    refine VL.build (zs := pktZ) (L := pktFL) [(0, [.int .u8 (takeN (openP (l)) 1)]), (1, [.int .u8 (takeN ((openP (l)).drop 1) 1)]), (2, [.int .u8 (takeN (((openP (l)).drop 1).drop 1) 1)])] plan118 rfl ⟨⟨rfl, ⟨_, rfl, rfl⟩, rfl⟩, ⟨⟨rfl, ⟨_, rfl, rfl⟩, rfl⟩, ⟨⟨rfl, ⟨_, rfl, rfl⟩, rfl⟩, trivial⟩⟩⟩ rfl ?_
    refine VL.newv (v' := .agg (cat (pktV ((Pkt.mk (takeN (openP l) 1) (takeN ((openP l).drop 1) 1) (takeN (((openP l).drop 1).drop 1) 1) [] [] (zeros 64))) none 0 none 0)).toArray) rfl ?_
    refine VL.alloc (L := pktL) (ps := (pktV (pkt0) none 0 none 0)) zero118 rfl rfl (fun g46 => ?_)
    refine VL.store (L := pktL) (qs := (pktV ((Pkt.mk (takeN (openP l) 1) (takeN ((openP l).drop 1) 1) (takeN (((openP l).drop 1).drop 1) 1) [] [] (zeros 64))) none 0 none 0)) (ps' := (pktV ((Pkt.mk (takeN (openP l) 1) (takeN ((openP l).drop 1) 1) (takeN (((openP l).drop 1).drop 1) 1) [] [] (zeros 64))) none 0 none 0)) 0 0 6 rfl rfl rfl (.inl kd118) rfl rfl (pktV_len ((⟨takeN_lt _ 1, takeN_lt _ 1, takeN_lt _ 1, (by simp), rfl⟩ : Pkt.ok (Pkt.mk (takeN (openP l) 1) (takeN ((openP l).drop 1) 1) (takeN (((openP l).drop 1).drop 1) 1) [] [] (zeros 64))))) (pktV_ok1 ((Pkt.mk (takeN (openP l) 1) (takeN ((openP l).drop 1) 1) (takeN (((openP l).drop 1).drop 1) 1) [] [] (zeros 64))) none 0 none 0) rfl rfl ?_
    refine VL.turn (G' := Own _ (blk g46 118 pktL (pktV ((Pkt.mk (takeN (openP l) 1) (takeN ((openP l).drop 1) 1) (takeN (((openP l).drop 1).drop 1) 1) [] [] (zeros 64))) none 0 none 0) :: rch g2 ((((openP (l)).drop 1).drop 1).drop 1) (lenW (((openP (l)).drop 1).drop 1) (lenW ((openP (l)).drop 1) (lenW (openP (l)) (openW (l)) 1) 1) 1) :: blk g1 118 pktL (pktV (pkt0) none 0 none 0) :: H)) (fun _ h => h) ?_
    refine VL.nil ?_
    refine VX.next ?_
    refine VC.seq ?_
    refine VC.region ?_
    refine VL.build (zs := [[.slice none 0 0], [.int .i64 0]]) [] plan196 rfl trivial rfl ?_
    refine VL.box (L := [1, 1]) (ps := [[.slice none 0 0], [.int .i64 0]]) rfl rfl rfl (fun g0 => ?_)
    refine VL.turn (fun w' hw => shutR (parts := []) (why := 0) (p := none) (c := 0) hw Arr.none) ?_
    refine VL.assign rfl ?_
    refine VL.nil ?_
    refine VX.next ?_
    refine VC.join (X := Nat × List (List UInt8) × Nat) (fun (gl, _, _) => [(2, .pointer (some ⟨g1, 0, none⟩)), (4, .pointer (some ⟨g2, 0, none⟩)), (5, .pointer (some ⟨g46, 0, none⟩)), (6, .pointer (some ⟨gl, 0, none⟩))]) (fun (gl, c0, y0) => Own (⟨w, keys H⟩ :: S) (rch gl c0 y0 :: blk g46 118 pktL (pktV ((Pkt.mk (takeN (openP l) 1) (takeN ((openP l).drop 1) 1) (takeN (((openP l).drop 1).drop 1) 1) [] [] (zeros 64))) none 0 none 0) :: rch g2 (((((openP (l)).drop 1).drop 1).drop 1).drop 1) (nextW ((((openP (l)).drop 1).drop 1).drop 1) (lenW (((openP (l)).drop 1).drop 1) (lenW ((openP (l)).drop 1) (lenW (openP (l)) (openW (l)) 1) 1) 1)) :: blk g1 118 pktL (pktV (pkt0) none 0 none 0) :: H)) (fun (_, c0, y0) => ((nextP ((((openP l).drop 1).drop 1).drop 1)) = [0] ∧ c0 = [] ∧ y0 = 0) ∨ ((nextP ((((openP l).drop 1).drop 1).drop 1)) ≠ [0] ∧ c0 = openP (nextP ((((openP l).drop 1).drop 1).drop 1)) ∧ y0 = openW (nextP ((((openP l).drop 1).drop 1).drop 1)))) (fun hrest => ?_) (fun (gl, c0, y0) hcz => ?_)
    · skip
      refine VC.seq ?_
      refine VC.region ?_
      refine VL.move rfl ?_
      refine VL.call Try.func124 rfl (by decide) rfl (fun w' hw => piece_R (i := 2) rfl hw) (fun v => ?_)
      refine VL.at (fun w47 h1w => ?_)
      obtain ⟨p48, c49, rfl, hO51, hA50⟩ := h1w
      replace hO51 : Own _ (rch g0 [] 0 :: blk g46 118 pktL (pktV ((Pkt.mk (takeN (openP l) 1) (takeN ((openP l).drop 1) 1) (takeN (((openP l).drop 1).drop 1) 1) [] [] (zeros 64))) none 0 none 0) :: rch g2 (((((openP (l)).drop 1).drop 1).drop 1).drop 1) (nextW ((((openP (l)).drop 1).drop 1).drop 1) (lenW (((openP (l)).drop 1).drop 1) (lenW ((openP (l)).drop 1) (lenW (openP (l)) (openW (l)) 1) 1) 1)) :: blk g1 118 pktL (pktV (pkt0) none 0 none 0) :: H) w47 := hO51
      replace hA50 : Bytes (keys (rch g0 [] 0 :: blk g46 118 pktL (pktV ((Pkt.mk (takeN (openP l) 1) (takeN ((openP l).drop 1) 1) (takeN (((openP l).drop 1).drop 1) 1) [] [] (zeros 64))) none 0 none 0) :: rch g2 (((((openP (l)).drop 1).drop 1).drop 1).drop 1) (nextW ((((openP (l)).drop 1).drop 1).drop 1) (lenW (((openP (l)).drop 1).drop 1) (lenW ((openP (l)).drop 1) (lenW (openP (l)) (openW (l)) 1) 1) 1)) :: blk g1 118 pktL (pktV (pkt0) none 0 none 0) :: H)) w47 p48 (nextP ((((openP (l)).drop 1).drop 1).drop 1)) c49 := hA50
      refine VL.toOwn hO51 ?_
      refine VL.assign rfl ?_
      refine VL.nil ?_
      refine VX.next ?_
      refine VC.join (X := Bool) (fun b => [(2, .pointer (some ⟨g1, 0, none⟩)), (4, .pointer (some ⟨g2, 0, none⟩)), (5, .pointer (some ⟨g46, 0, none⟩)), (6, .pointer (some ⟨g0, 0, none⟩)), (7, .slice p48 (nextP ((((openP l).drop 1).drop 1).drop 1)).length c49), (78, .bool b)]) (fun _ => Own (⟨w47, keys (rch g0 [] 0 :: blk g46 118 pktL (pktV ((Pkt.mk (takeN (openP l) 1) (takeN ((openP l).drop 1) 1) (takeN (((openP l).drop 1).drop 1) 1) [] [] (zeros 64))) none 0 none 0) :: rch g2 (((((openP (l)).drop 1).drop 1).drop 1).drop 1) (nextW ((((openP (l)).drop 1).drop 1).drop 1) (lenW (((openP (l)).drop 1).drop 1) (lenW ((openP (l)).drop 1) (lenW (openP (l)) (openW (l)) 1) 1) 1)) :: blk g1 118 pktL (pktV (pkt0) none 0 none 0) :: H)⟩ :: ⟨w, keys H⟩ :: S) (rch g0 [] 0 :: blk g46 118 pktL (pktV ((Pkt.mk (takeN (openP l) 1) (takeN ((openP l).drop 1) 1) (takeN (((openP l).drop 1).drop 1) 1) [] [] (zeros 64))) none 0 none 0) :: rch g2 (((((openP (l)).drop 1).drop 1).drop 1).drop 1) (nextW ((((openP (l)).drop 1).drop 1).drop 1) (lenW (((openP (l)).drop 1).drop 1) (lenW ((openP (l)).drop 1) (lenW (openP (l)) (openW (l)) 1) 1) 1)) :: blk g1 118 pktL (pktV (pkt0) none 0 none 0) :: H)) (fun b => (b = true ↔ ¬ (nextP ((((openP l).drop 1).drop 1).drop 1)) = [0])) (fun hrest => ?_) (fun b2 hbz => ?_)
      · skip
        by_cases hz : (nextP ((((openP l).drop 1).drop 1).drop 1)) = [0]
        · have h1p2 : 0 < (nextP ((((openP l).drop 1).drop 1).drop 1)).length := by rw [hz]; decide
          refine VC.region ?_
          refine VL.move rfl ?_
          refine VL.len Try.underlying24 rfl rfl ?_
          refine VL.neq rfl rfl ?_
          refine VL.no (by rw [hz]; decide) ?_
          refine VL.move rfl ?_
          refine VL.go rfl rfl rfl ?_
          refine VL.move rfl ?_
          refine VL.go rfl rfl rfl ?_
          refine VL.index (xs := nextP ((((openP (l)).drop 1).drop 1).drop 1)) rfl rfl Try.underlying24 sz24 hA50 (by omega) (by have hi := h1p2; omega) ?_
          refine VL.go rfl rfl rfl ?_
          refine VL.byte (s := ⟨w47, _⟩) (y := (nextP ((((openP (l)).drop 1).drop 1).drop 1))[0]'h1p2) rfl kd5 (fun _ h => h) (by repeat (first | exact List.mem_cons_self .. | apply List.mem_cons_of_mem)) hA50 (List.getElem?_eq_getElem h1p2) ?_
          refine VL.go rfl rfl rfl ?_
          refine VL.neq rfl rfl ?_
          refine VL.no (zero_at hz h1p2) ?_
          refine VL.pick_f rfl rfl ?_
          refine VL.nil ?_
          exact VX.join hrest false ⟨fun h => absurd h (by decide), fun h => absurd hz h⟩ ⟨rfl, rfl, rfl, rfl, rfl, rfl, trivial⟩ (fun _ h => h.sub (fun _ hs => by repeat (first | exact hs | apply List.mem_cons_of_mem)))
        · refine VC.region ?_
          refine VL.move rfl ?_
          refine VL.len Try.underlying24 rfl rfl ?_
          refine VL.neq rfl rfl ?_
          refine VL.case (fun h7_2 => ?_) (fun h7_2 => ?_)
          · skip
            refine VL.move rfl ?_
            refine VL.pass rfl rfl rfl rfl rfl ?_
            refine VL.pass rfl rfl rfl rfl rfl ?_
            refine VL.pass rfl rfl rfl rfl rfl ?_
            refine VL.pass rfl rfl rfl rfl rfl ?_
            refine VL.pick_t rfl rfl ?_
            refine VL.nil ?_
            exact VX.join hrest true ⟨fun _ => hz, fun _ => rfl⟩ ⟨rfl, rfl, rfl, rfl, rfl, rfl, trivial⟩ (fun _ h => h.sub (fun _ hs => by repeat (first | exact hs | apply List.mem_cons_of_mem)))
          · have h1l2 : (nextP ((((openP l).drop 1).drop 1).drop 1)).length = 1 := by omega
            have h1p2 : 0 < (nextP ((((openP l).drop 1).drop 1).drop 1)).length := by omega
            refine VL.move rfl ?_
            refine VL.go rfl rfl rfl ?_
            refine VL.move rfl ?_
            refine VL.go rfl rfl rfl ?_
            refine VL.index (xs := nextP ((((openP (l)).drop 1).drop 1).drop 1)) rfl rfl Try.underlying24 sz24 hA50 (by omega) (by have hi := h1p2; omega) ?_
            refine VL.go rfl rfl rfl ?_
            refine VL.byte (s := ⟨w47, _⟩) (y := (nextP ((((openP (l)).drop 1).drop 1).drop 1))[0]'h1p2) rfl kd5 (fun _ h => h) (by repeat (first | exact List.mem_cons_self .. | apply List.mem_cons_of_mem)) hA50 (List.getElem?_eq_getElem h1p2) ?_
            refine VL.go rfl rfl rfl ?_
            refine VL.neq rfl rfl ?_
            refine VL.yes (nz_at hz h1l2 h1p2) ?_
            refine VL.pick_f rfl rfl ?_
            refine VL.nil ?_
            exact VX.join hrest true ⟨fun _ => hz, fun _ => rfl⟩ ⟨rfl, rfl, rfl, rfl, rfl, rfl, trivial⟩ (fun _ h => h.sub (fun _ hs => by repeat (first | exact hs | apply List.mem_cons_of_mem)))
      skip
      refine VC.split rfl (fun hc78 => ?_) (fun hc78 => ?_)
      · refine VC.region ?_
        refine VL.move rfl ?_
        refine VL.call Try.func121 rfl (by decide) rfl (fun w' hw => open_R hw (hA50.now (s := ⟨w47, _⟩) Mono.byte hw (by repeat (first | exact List.mem_cons_self .. | apply List.mem_cons_of_mem)))) (fun v => ?_)
        refine VL.ex fun g56 => VL.fact fun e57 => ?_
        subst e57
        refine VL.assign rfl ?_
        refine VL.nil ?_
        exact VX.join hrest (g56, openP (nextP ((((openP l).drop 1).drop 1).drop 1)), openW (nextP ((((openP l).drop 1).drop 1).drop 1))) (.inr ⟨hbz.1 hc78, rfl, rfl⟩) ⟨rfl, rfl, rfl, rfl, trivial⟩ (fun _ h => (Own.drop2 h).sub (fun _ hs => by repeat (first | exact hs | apply List.mem_cons_of_mem)))
      · refine VC.skip ?_
        exact VX.join hrest (g0, [], 0) (.inl ⟨Classical.not_not.1 (mt hbz.2 (by rw [hc78]; decide)), rfl, rfl⟩) ⟨rfl, rfl, rfl, rfl, trivial⟩ (fun _ h => h.sub (fun _ hs => by repeat (first | exact hs | apply List.mem_cons_of_mem)))
    refine VC.turn (G' := Own (⟨w, keys H⟩ :: S) (rch gl c0 y0 :: blk g46 118 pktL (pktV ((Pkt.mk (takeN (openP l) 1) (takeN ((openP l).drop 1) 1) (takeN (((openP l).drop 1).drop 1) 1) [] [] (zeros 64))) none 0 none 0) :: rch g2 (((((openP (l)).drop 1).drop 1).drop 1).drop 1) (nextW ((((openP (l)).drop 1).drop 1).drop 1) (lenW (((openP (l)).drop 1).drop 1) (lenW ((openP (l)).drop 1) (lenW (openP (l)) (openW (l)) 1) 1) 1)) :: blk g1 118 pktL (pktV (pkt0) none 0 none 0) :: H)) (fun _ h => h) ?_
    refine VC.join (X := List Object × List (List UInt8) × Nat × Option Nat × Nat) (fun _ => [(2, .pointer (some ⟨g1, 0, none⟩)), (4, .pointer (some ⟨g2, 0, none⟩)), (5, .pointer (some ⟨g46, 0, none⟩)), (6, .pointer (some ⟨gl, 0, none⟩))]) (fun (xs, ps, er, gv, cv) => Own (⟨w, keys H⟩ :: S) (arow 85 101 objectR' Mono_object gv cv xs :: rch gl ps er :: blk g46 118 pktL (pktV ((Pkt.mk (takeN (openP l) 1) (takeN ((openP l).drop 1) 1) (takeN (((openP l).drop 1).drop 1) 1) xs [] (zeros 64))) (gv.map fun g => (⟨g, 0, none⟩ : Addr)) cv none 0) :: rch g2 (((((openP (l)).drop 1).drop 1).drop 1).drop 1) (nextW ((((openP (l)).drop 1).drop 1).drop 1) (lenW (((openP (l)).drop 1).drop 1) (lenW ((openP (l)).drop 1) (lenW (openP (l)) (openW (l)) 1) 1) 1)) :: blk g1 118 pktL (pktV (pkt0) none 0 none 0) :: H)) (fun (xs, ps, er, _, _) => OInv c0 y0 xs ps er ∧ (ps = [] ∨ 4 ≤ xs.length ∨ er ≠ 0)) (fun hrest => ?_) (fun (xs, ps, er, gv, cv) ⟨hinv, hx⟩ => ?_)
    · skip
      refine VC.block ?_
      refine VC.turn (G' := Own _ (arow 85 101 objectR' Mono_object none 0 ([] : List Object) :: rch gl c0 y0 :: blk g46 118 pktL (pktV ((Pkt.mk (takeN (openP l) 1) (takeN ((openP l).drop 1) 1) (takeN (((openP l).drop 1).drop 1) 1) [] [] (zeros 64))) none 0 none 0) :: rch g2 (((((openP (l)).drop 1).drop 1).drop 1).drop 1) (nextW ((((openP (l)).drop 1).drop 1).drop 1) (lenW (((openP (l)).drop 1).drop 1) (lenW ((openP (l)).drop 1) (lenW (openP (l)) (openW (l)) 1) 1) 1)) :: blk g1 118 pktL (pktV (pkt0) none 0 none 0) :: H)) (fun w' h => newRowO h) ?_
      refine VC.loop (X := List Object × List (List UInt8) × Nat × Option Nat × Nat) (fun _ => [(2, .pointer (some ⟨g1, 0, none⟩)), (4, .pointer (some ⟨g2, 0, none⟩)), (5, .pointer (some ⟨g46, 0, none⟩)), (6, .pointer (some ⟨gl, 0, none⟩))]) (fun (xs, ps, er, gv, cv) w' => OInv c0 y0 xs ps er ∧ Own (⟨w, keys H⟩ :: S) (arow 85 101 objectR' Mono_object gv cv xs :: rch gl ps er :: blk g46 118 pktL (pktV ((Pkt.mk (takeN (openP l) 1) (takeN ((openP l).drop 1) 1) (takeN (((openP l).drop 1).drop 1) 1) xs [] (zeros 64))) (gv.map fun g => (⟨g, 0, none⟩ : Addr)) cv none 0) :: rch g2 (((((openP (l)).drop 1).drop 1).drop 1).drop 1) (nextW ((((openP (l)).drop 1).drop 1).drop 1) (lenW (((openP (l)).drop 1).drop 1) (lenW ((openP (l)).drop 1) (lenW (openP (l)) (openW (l)) 1) 1) 1)) :: blk g1 118 pktL (pktV (pkt0) none 0 none 0) :: H) w') (fun (_, ps, _) => ps.length) ([], c0, y0, none, 0) ⟨rfl, rfl, rfl, rfl, trivial⟩ (fun w' h => ⟨OInv.start _ _, h.sub (fun _ hs => by repeat (first | exact hs | apply List.mem_cons_of_mem))⟩) (fun (xs, ps, er, gv, cv) => VC.fact fun hinv => ?_)
      · have hxs := hinv.1
        refine VC.seq ?_
        refine VC.seq ?_
        refine VC.region ?_
        refine VL.move rfl ?_
        refine VL.nilCheck rfl ?_
        refine VL.fieldAddr rfl fo196_0 rfl ?_
        refine loadParts 1 rfl rfl (fun p58 c59 w60 hO61 hA62 => ?_)
        refine VL.len Try.underlying31 rfl rfl ?_
        refine VL.gtr rfl rfl ?_
        refine VL.case (fun h9_5 => ?_) (fun h9_5 => ?_)
        · obtain ⟨pc, rest, rfl⟩ : ∃ pc rest, ps = pc :: rest := by
            cases ps with
            | nil => exact absurd h9_5 (by simp)
            | cons a b => exact ⟨a, b, rfl⟩
          refine VL.move rfl ?_
          refine VL.go rfl rfl rfl ?_
          refine VL.fieldAddr rfl fo118_3 rfl ?_
          refine VL.go rfl rfl rfl ?_
          refine VL.load (v := .slice (gv.map fun g => (⟨g, 0, none⟩ : Addr)) (xs).length cv) 2 3 rfl kd116 (fun _ h => h) rfl rfl rfl ?_
          refine VL.go rfl rfl rfl ?_
          refine VL.len Try.underlying116 rfl rfl ?_
          refine VL.go rfl rfl rfl ?_
          refine VL.lss rfl rfl ?_
          refine VL.case (fun h9_10 => ?_) (fun h9_10 => ?_)
          · have h9_10 : xs.length < 4 := by have h : ((xs.length : Nat) : Int) < 4 := h9_10; omega
            refine VL.pick_t rfl rfl ?_
            refine VL.move rfl ?_
            refine VL.go rfl rfl rfl ?_
            refine VL.move rfl ?_
            refine VL.go rfl rfl rfl ?_
            refine VL.nilCheck rfl ?_
            refine VL.go rfl rfl rfl ?_
            refine VL.fieldAddr rfl fo196_1 rfl ?_
            refine VL.go rfl rfl rfl ?_
            refine loadWhy 1 rfl (fun _ h => h) rfl ?_
            refine VL.go rfl rfl rfl ?_
            refine VL.eql rfl rfl ?_
            refine VL.case (fun h9_17 => ?_) (fun h9_17 => ?_)
            · have her : er = 0 := by omega
              refine VL.pick_t rfl rfl ?_
              refine VL.nil ?_
              refine VX.next ?_
              refine VC.yes rfl ?_
              refine VC.skip ?_
              refine VX.next ?_
              refine VC.block ?_
              refine VC.seq ?_
              refine VC.region ?_
              refine VL.move rfl ?_
              refine VL.call Try.func124 rfl (by decide) rfl (fun w' hw => piece_R (i := 1) rfl hw) (fun v => ?_)
              refine VL.at (fun w63 h1w => ?_)
              obtain ⟨p64, c65, rfl, hO67, hA66⟩ := h1w
              replace hO67 : Own _ (arow 85 101 objectR' Mono_object gv cv xs :: rch gl rest er :: blk g46 118 pktL (pktV ((Pkt.mk (takeN (openP l) 1) (takeN ((openP l).drop 1) 1) (takeN (((openP l).drop 1).drop 1) 1) xs [] (zeros 64))) (gv.map fun g => (⟨g, 0, none⟩ : Addr)) cv none 0) :: rch g2 (((((openP (l)).drop 1).drop 1).drop 1).drop 1) (nextW ((((openP (l)).drop 1).drop 1).drop 1) (lenW (((openP (l)).drop 1).drop 1) (lenW ((openP (l)).drop 1) (lenW (openP (l)) (openW (l)) 1) 1) 1)) :: blk g1 118 pktL (pktV (pkt0) none 0 none 0) :: H) w63 := hO67
              replace hA66 : Bytes (keys (arow 85 101 objectR' Mono_object gv cv xs :: rch gl rest er :: blk g46 118 pktL (pktV ((Pkt.mk (takeN (openP l) 1) (takeN ((openP l).drop 1) 1) (takeN (((openP l).drop 1).drop 1) 1) xs [] (zeros 64))) (gv.map fun g => (⟨g, 0, none⟩ : Addr)) cv none 0) :: rch g2 (((((openP (l)).drop 1).drop 1).drop 1).drop 1) (nextW ((((openP (l)).drop 1).drop 1).drop 1) (lenW (((openP (l)).drop 1).drop 1) (lenW ((openP (l)).drop 1) (lenW (openP (l)) (openW (l)) 1) 1) 1)) :: blk g1 118 pktL (pktV (pkt0) none 0 none 0) :: H)) w63 p64 (pc) c65 := hA66
              refine VL.toOwn hO67 ?_
              refine VL.call Try.func71 rfl (by decide) rfl (fun w' hw => getObject_w hw (hA66.now (s := ⟨w63, _⟩) Mono.byte hw (by repeat (first | exact List.mem_cons_self .. | apply List.mem_cons_of_mem)))) (fun v => ?_)
              refine VL.at (fun w68 h1w => ?_)
              obtain ⟨p70, c71, rfl, hO69, hA72⟩ := h1w
              refine VL.toOwn hO69 ?_
              refine VL.move rfl ?_
              refine VL.extract rfl rfl ?_
              refine VL.extract rfl rfl ?_
              refine VL.alloc (L := objectL) (ps := (objectV (object0) none 0)) zero85 rfl rfl (fun g73 => ?_)
              refine VL.store (L := objectL) (qs := (objectV (((objectR pc).getD object0)) p70 c71)) (ps' := (objectV (((objectR pc).getD object0)) p70 c71)) 0 0 7 rfl rfl rfl (.inl kd85) rfl rfl (objectV_len (objectR_ok pc)) (objectV_ok1 (((objectR pc).getD object0)) p70 c71) rfl rfl ?_
              refine VL.turn (G' := Own _ (blk g73 85 objectL (objectV (((objectR pc).getD object0)) p70 c71) :: arow 85 101 objectR' Mono_object gv cv xs :: rch gl rest er :: blk g46 118 pktL (pktV ((Pkt.mk (takeN (openP l) 1) (takeN ((openP l).drop 1) 1) (takeN (((openP l).drop 1).drop 1) 1) xs [] (zeros 64))) (gv.map fun g => (⟨g, 0, none⟩ : Addr)) cv none 0) :: rch g2 (((((openP (l)).drop 1).drop 1).drop 1).drop 1) (nextW ((((openP (l)).drop 1).drop 1).drop 1) (lenW (((openP (l)).drop 1).drop 1) (lenW ((openP (l)).drop 1) (lenW (openP (l)) (openW (l)) 1) 1) 1)) :: blk g1 118 pktL (pktV (pkt0) none 0 none 0) :: H)) (fun _ h => h) ?_
              refine VL.assign rfl ?_
              refine VL.nil ?_
              refine VX.next ?_
              refine VC.seq ?_
              refine VC.region ?_
              refine VL.move rfl ?_
              refine VL.move rfl ?_
              refine VL.call Try.func125 rfl (by decide) rfl (fun w' hw => fail_R (i := 2) rfl hw (if (objectR pc).isSome then 0 else 141)) (fun v => ?_)
              refine VL.fact fun e74 => ?_
              subst e74
              refine VL.turn (G' := Own _ (blk g73 85 objectL (objectV (((objectR pc).getD object0)) p70 c71) :: arow 85 101 objectR' Mono_object gv cv xs :: rch gl rest (failW er (if (objectR pc).isSome then 0 else 141)) :: blk g46 118 pktL (pktV ((Pkt.mk (takeN (openP l) 1) (takeN ((openP l).drop 1) 1) (takeN (((openP l).drop 1).drop 1) 1) xs [] (zeros 64))) (gv.map fun g => (⟨g, 0, none⟩ : Addr)) cv none 0) :: rch g2 (((((openP (l)).drop 1).drop 1).drop 1).drop 1) (nextW ((((openP (l)).drop 1).drop 1).drop 1) (lenW (((openP (l)).drop 1).drop 1) (lenW ((openP (l)).drop 1) (lenW (openP (l)) (openW (l)) 1) 1) 1)) :: blk g1 118 pktL (pktV (pkt0) none 0 none 0) :: H)) (fun _ h => h) ?_
              refine VL.nil ?_
              refine VX.next ?_
              have hxs2 : ∀ x ∈ xs ++ [((objectR pc).getD object0)], x.ok := fun x hx => (List.mem_append.1 hx).elim (hxs x) (fun h => by rw [List.mem_singleton] at h; subst h; exact objectR_ok pc)
              refine VC.region ?_
              refine VL.fieldAddr rfl fo118_3 rfl ?_
              refine VL.load (v := .slice (gv.map fun g => (⟨g, 0, none⟩ : Addr)) (xs).length cv) 3 3 rfl kd116 (fun _ h => h) rfl rfl rfl ?_
              refine VL.loads (cs := cat (objectV (((objectR pc).getD object0)) p70 c71)) 0 0 7 rfl kd85 (fun _ h => h) rfl rfl rfl rfl ?_
              refine VL.lit el116 rfl rfl rfl (by intro v hv; simp only [List.mem_singleton] at hv; subst hv; show (cat (objectV ((objectR pc).getD object0) p70 c71)).toArray.size = 101; rw [List.size_toArray, cat_size (objectV_len (objectR_ok pc))]; rfl) (by rw [show [Value.agg (cat (objectV ((objectR pc).getD object0) p70 c71)).toArray].flatMap (·.cells.toList) = (cat (objectV ((objectR pc).getD object0) p70 c71)) by simp [Value.cells]]; exact objectV_ok1 _ _ _) (fun gz => ?_)
              refine VL.letRow objectR' [((objectR pc).getD object0)] rfl (fun w' hw => one_object (objectR_ok pc) (hA72.now (s := ⟨w68, _⟩) Mono_vouch hw (by repeat (first | exact List.mem_cons_self .. | apply List.mem_cons_of_mem)))) (fun wl hOl hAl => ?_)
              refine VL.appends (R := objectR') (hR := Mono_object) (ys := xs) (zs := [((objectR pc).getD object0)]) 1 el116 rfl rfl rfl (fun _ h => h) rfl (fun _ hw => (hAl.now (s := ⟨wl, _⟩) Mono_object hw (by repeat (first | exact List.mem_cons_self .. | apply List.mem_cons_of_mem)))) objectR'_ok1 (by simp only [List.length_cons, List.length_nil]; omega) (fun gv2 cv2 => ?_) (by simp only [List.length_cons, List.length_nil]; omega)
              refine VL.turn (G' := Own _ (blk g73 85 objectL (objectV (((objectR pc).getD object0)) p70 c71) :: arow 85 101 objectR' Mono_object gv2 cv2 (xs ++ [((objectR pc).getD object0)]) :: rch gl rest (failW er (if (objectR pc).isSome then 0 else 141)) :: blk g46 118 pktL (pktV ((Pkt.mk (takeN (openP l) 1) (takeN ((openP l).drop 1) 1) (takeN (((openP l).drop 1).drop 1) 1) xs [] (zeros 64))) (gv.map fun g => (⟨g, 0, none⟩ : Addr)) cv none 0) :: rch g2 (((((openP (l)).drop 1).drop 1).drop 1).drop 1) (nextW ((((openP (l)).drop 1).drop 1).drop 1) (lenW (((openP (l)).drop 1).drop 1) (lenW ((openP (l)).drop 1) (lenW (openP (l)) (openW (l)) 1) 1) 1)) :: blk g1 118 pktL (pktV (pkt0) none 0 none 0) :: H)) (fun _ h => h) ?_
              refine VL.fieldAddr rfl fo118_3 rfl ?_
              refine VL.store (L := pktL) (qs := [[rowV gv2 (xs ++ [((objectR pc).getD object0)]).length cv2]]) (ps' := (pktV ((Pkt.mk (takeN (openP l) 1) (takeN ((openP l).drop 1) 1) (takeN (((openP l).drop 1).drop 1) 1) (xs ++ [((objectR pc).getD object0)]) [] (zeros 64))) (gv2.map fun g => (⟨g, 0, none⟩ : Addr)) cv2 none 0)) 3 3 1 rfl rfl rfl (.inr ⟨kd116, rfl⟩) rfl rfl rfl (by intro u hu; simp [cat] at hu; subst hu; rfl) rfl rfl ?_
              refine VL.turn (G' := Own _ (blk g73 85 objectL (objectV (((objectR pc).getD object0)) p70 c71) :: arow 85 101 objectR' Mono_object gv2 cv2 (xs ++ [((objectR pc).getD object0)]) :: rch gl rest (failW er (if (objectR pc).isSome then 0 else 141)) :: blk g46 118 pktL (pktV ((Pkt.mk (takeN (openP l) 1) (takeN ((openP l).drop 1) 1) (takeN (((openP l).drop 1).drop 1) 1) (xs ++ [((objectR pc).getD object0)]) [] (zeros 64))) (gv2.map fun g => (⟨g, 0, none⟩ : Addr)) cv2 none 0) :: rch g2 (((((openP (l)).drop 1).drop 1).drop 1).drop 1) (nextW ((((openP (l)).drop 1).drop 1).drop 1) (lenW (((openP (l)).drop 1).drop 1) (lenW ((openP (l)).drop 1) (lenW (openP (l)) (openW (l)) 1) 1) 1)) :: blk g1 118 pktL (pktV (pkt0) none 0 none 0) :: H)) (fun _ h => h) ?_
              refine VL.nil ?_
              refine VX.block_normal ?_
              subst her
              obtain rfl : y0 = 0 := by
                rcases hinv.2.2 with ⟨e, _⟩ | ⟨e, _⟩
                · exact e.symm
                · cases e
              refine VX.round (xs ++ [((objectR pc).getD object0)], rest, (if (objectR pc).isSome then 0 else 141), gv2, cv2) ⟨rfl, rfl, rfl, rfl, trivial⟩ (fun w' h => ⟨hinv.step h9_10, (h.drop).sub (fun _ hs => by repeat (first | exact hs | apply List.mem_cons_of_mem))⟩) (by show rest.length < (pc :: rest).length; simp)
            · have h9_17 : er ≠ 0 := by omega
              refine VL.pick_t rfl rfl ?_
              refine VL.nil ?_
              refine VX.next ?_
              refine VC.no rfl ?_
              refine VC.exit ?_
              refine VX.then_exit ?_
              refine VX.then_exit ?_
              refine VX.block_here ?_
              exact VX.join hrest (xs, (pc :: rest), er, gv, cv) ⟨hinv, .inr (.inr h9_17)⟩ ⟨rfl, rfl, rfl, rfl, trivial⟩ (fun _ h => h.sub (fun _ hs => by repeat (first | exact hs | apply List.mem_cons_of_mem)))
          · have h9_10 : 4 ≤ xs.length := by have h : ¬ ((xs.length : Nat) : Int) < 4 := h9_10; omega
            refine VL.pick_t rfl rfl ?_
            refine VL.move rfl ?_
            refine VL.pass rfl rfl rfl rfl rfl ?_
            refine VL.pass rfl rfl rfl rfl rfl ?_
            refine VL.pass rfl rfl rfl rfl rfl ?_
            refine VL.pass rfl rfl rfl rfl rfl ?_
            refine VL.pass rfl rfl rfl rfl rfl ?_
            refine VL.pick_f rfl rfl ?_
            refine VL.nil ?_
            refine VX.next ?_
            refine VC.no rfl ?_
            refine VC.exit ?_
            refine VX.then_exit ?_
            refine VX.then_exit ?_
            refine VX.block_here ?_
            exact VX.join hrest (xs, (pc :: rest), er, gv, cv) ⟨hinv, .inr (.inl h9_10)⟩ ⟨rfl, rfl, rfl, rfl, trivial⟩ (fun _ h => h.sub (fun _ hs => by repeat (first | exact hs | apply List.mem_cons_of_mem)))
        · obtain rfl : ps = [] := List.eq_nil_of_length_eq_zero (by omega)
          refine VL.move rfl ?_
          refine VL.pass rfl rfl rfl rfl rfl ?_
          refine VL.pass rfl rfl rfl rfl rfl ?_
          refine VL.pass rfl rfl rfl rfl rfl ?_
          refine VL.pass rfl rfl rfl rfl rfl ?_
          refine VL.pick_f rfl rfl ?_
          refine VL.move rfl ?_
          refine VL.pass rfl rfl rfl rfl rfl ?_
          refine VL.pass rfl rfl rfl rfl rfl ?_
          refine VL.pass rfl rfl rfl rfl rfl ?_
          refine VL.pass rfl rfl rfl rfl rfl ?_
          refine VL.pass rfl rfl rfl rfl rfl ?_
          refine VL.pick_f rfl rfl ?_
          refine VL.nil ?_
          refine VX.next ?_
          refine VC.no rfl ?_
          refine VC.exit ?_
          refine VX.then_exit ?_
          refine VX.then_exit ?_
          refine VX.block_here ?_
          exact VX.join hrest (xs, [], er, gv, cv) ⟨hinv, .inl rfl⟩ ⟨rfl, rfl, rfl, rfl, trivial⟩ (fun _ h => h.sub (fun _ hs => by repeat (first | exact hs | apply List.mem_cons_of_mem)))
    refine VC.turn (G' := Own (⟨w, keys H⟩ :: S) (arow 85 101 objectR' Mono_object gv cv xs :: rch gl ps er :: blk g46 118 pktL (pktV ((Pkt.mk (takeN (openP l) 1) (takeN ((openP l).drop 1) 1) (takeN (((openP l).drop 1).drop 1) 1) xs [] (zeros 64))) (gv.map fun g => (⟨g, 0, none⟩ : Addr)) cv none 0) :: rch g2 (((((openP (l)).drop 1).drop 1).drop 1).drop 1) (nextW ((((openP (l)).drop 1).drop 1).drop 1) (lenW (((openP (l)).drop 1).drop 1) (lenW ((openP (l)).drop 1) (lenW (openP (l)) (openW (l)) 1) 1) 1)) :: blk g1 118 pktL (pktV (pkt0) none 0 none 0) :: H)) (fun _ h => h) ?_
    have hxs := hinv.1
    refine VC.seq ?_
    refine VC.letArr (fun wr hOr hAr => ?_)
    refine VC.region ?_
    refine VL.move rfl ?_
    refine VL.move rfl ?_
    refine VL.call Try.func126 rfl (by decide) rfl (fun w' hw => end_R (i := 0) rfl hw) (fun v => ?_)
    refine VL.fact fun e75 => ?_
    subst e75
    refine VL.turn (G' := Own _ (rch gl ps (endW ps er) :: blk g46 118 pktL (pktV ((Pkt.mk (takeN (openP l) 1) (takeN ((openP l).drop 1) 1) (takeN (((openP l).drop 1).drop 1) 1) xs [] (zeros 64))) (gv.map fun g => (⟨g, 0, none⟩ : Addr)) cv none 0) :: rch g2 (((((openP (l)).drop 1).drop 1).drop 1).drop 1) (nextW ((((openP (l)).drop 1).drop 1).drop 1) (lenW (((openP (l)).drop 1).drop 1) (lenW ((openP (l)).drop 1) (lenW (openP (l)) (openW (l)) 1) 1) 1)) :: blk g1 118 pktL (pktV (pkt0) none 0 none 0) :: H)) (fun _ h => h) ?_
    refine VL.call Try.func125 rfl (by decide) rfl (fun w' hw => fail_R (i := 2) rfl hw (endW ps er)) (fun v => ?_)
    refine VL.fact fun e76 => ?_
    subst e76
    refine VL.turn (G' := Own _ (rch gl ps (endW ps er) :: blk g46 118 pktL (pktV ((Pkt.mk (takeN (openP l) 1) (takeN ((openP l).drop 1) 1) (takeN (((openP l).drop 1).drop 1) 1) xs [] (zeros 64))) (gv.map fun g => (⟨g, 0, none⟩ : Addr)) cv none 0) :: rch g2 (((((openP (l)).drop 1).drop 1).drop 1).drop 1) (failW (nextW ((((openP (l)).drop 1).drop 1).drop 1) (lenW (((openP (l)).drop 1).drop 1) (lenW ((openP (l)).drop 1) (lenW (openP (l)) (openW (l)) 1) 1) 1)) (endW ps er)) :: blk g1 118 pktL (pktV (pkt0) none 0 none 0) :: H)) (fun _ h => h) ?_
    refine VL.nil ?_
    refine VX.next ?_
    refine VC.seq ?_
    refine VC.region ?_
    refine VL.move rfl ?_
    refine VL.call Try.func124 rfl (by decide) rfl (fun w' hw => piece_R (i := 2) rfl hw) (fun v => ?_)
    refine VL.at (fun w77 h1w => ?_)
    obtain ⟨p78, c79, rfl, hO81, hA80⟩ := h1w
    replace hO81 : Own _ (rch gl ps (endW ps er) :: blk g46 118 pktL (pktV ((Pkt.mk (takeN (openP l) 1) (takeN ((openP l).drop 1) 1) (takeN (((openP l).drop 1).drop 1) 1) xs [] (zeros 64))) (gv.map fun g => (⟨g, 0, none⟩ : Addr)) cv none 0) :: rch g2 ((((((openP (l)).drop 1).drop 1).drop 1).drop 1).drop 1) (nextW (((((openP (l)).drop 1).drop 1).drop 1).drop 1) (failW (nextW ((((openP (l)).drop 1).drop 1).drop 1) (lenW (((openP (l)).drop 1).drop 1) (lenW ((openP (l)).drop 1) (lenW (openP (l)) (openW (l)) 1) 1) 1)) (endW ps er))) :: blk g1 118 pktL (pktV (pkt0) none 0 none 0) :: H) w77 := hO81
    replace hA80 : Bytes (keys (rch gl ps (endW ps er) :: blk g46 118 pktL (pktV ((Pkt.mk (takeN (openP l) 1) (takeN ((openP l).drop 1) 1) (takeN (((openP l).drop 1).drop 1) 1) xs [] (zeros 64))) (gv.map fun g => (⟨g, 0, none⟩ : Addr)) cv none 0) :: rch g2 ((((((openP (l)).drop 1).drop 1).drop 1).drop 1).drop 1) (nextW (((((openP (l)).drop 1).drop 1).drop 1).drop 1) (failW (nextW ((((openP (l)).drop 1).drop 1).drop 1) (lenW (((openP (l)).drop 1).drop 1) (lenW ((openP (l)).drop 1) (lenW (openP (l)) (openW (l)) 1) 1) 1)) (endW ps er))) :: blk g1 118 pktL (pktV (pkt0) none 0 none 0) :: H)) w77 p78 (nextP (((((openP (l)).drop 1).drop 1).drop 1).drop 1)) c79 := hA80
    refine VL.toOwn hO81 ?_
    refine VL.move rfl ?_
    refine VL.call Try.func131 rfl (by decide) rfl (fun w' hw => sig_R (i := 2) rfl hw) (fun v => ?_)
    refine VL.fact fun e82 => ?_
    subst e82
    refine VL.turn (G' := Own _ (rch gl ps (endW ps er) :: blk g46 118 pktL (pktV ((Pkt.mk (takeN (openP l) 1) (takeN ((openP l).drop 1) 1) (takeN (((openP l).drop 1).drop 1) 1) xs [] (zeros 64))) (gv.map fun g => (⟨g, 0, none⟩ : Addr)) cv none 0) :: rch g2 (((((((openP (l)).drop 1).drop 1).drop 1).drop 1).drop 1).drop 1) (lenW ((((((openP (l)).drop 1).drop 1).drop 1).drop 1).drop 1) (nextW (((((openP (l)).drop 1).drop 1).drop 1).drop 1) (failW (nextW ((((openP (l)).drop 1).drop 1).drop 1) (lenW (((openP (l)).drop 1).drop 1) (lenW ((openP (l)).drop 1) (lenW (openP (l)) (openW (l)) 1) 1) 1)) (endW ps er))) 64) :: blk g1 118 pktL (pktV (pkt0) none 0 none 0) :: H)) (fun _ h => h) ?_
    refine VL.fieldAddr rfl fo118_4 rfl ?_
    refine VL.store (L := pktL) (qs := [[.slice p78 (nextP (((((openP (l)).drop 1).drop 1).drop 1).drop 1)).length c79]]) (ps' := [[.int .u8 ((Pkt.mk (takeN (openP l) 1) (takeN ((openP l).drop 1) 1) (takeN (((openP l).drop 1).drop 1) 1) xs [] (zeros 64)).src)], [.int .u8 ((Pkt.mk (takeN (openP l) 1) (takeN ((openP l).drop 1) 1) (takeN (((openP l).drop 1).drop 1) 1) xs [] (zeros 64)).dst)], [.int .u8 ((Pkt.mk (takeN (openP l) 1) (takeN ((openP l).drop 1) 1) (takeN (((openP l).drop 1).drop 1) 1) xs [] (zeros 64)).kind)], [.slice (gv.map fun g => (⟨g, 0, none⟩ : Addr)) (xs).length cv], [.slice p78 (nextP (((((openP (l)).drop 1).drop 1).drop 1).drop 1)).length c79], ((Pkt.mk (takeN (openP l) 1) (takeN ((openP l).drop 1) 1) (takeN (((openP l).drop 1).drop 1) 1) xs [] (zeros 64)).sig).map bv]) 1 4 1 rfl rfl rfl (.inr ⟨kd24, rfl⟩) rfl rfl rfl (by intro u hu; simp [cat] at hu; subst hu; rfl) rfl rfl ?_
    refine VL.turn (G' := Own _ (rch gl ps (endW ps er) :: blk g46 118 pktL [[.int .u8 ((Pkt.mk (takeN (openP l) 1) (takeN ((openP l).drop 1) 1) (takeN (((openP l).drop 1).drop 1) 1) xs [] (zeros 64)).src)], [.int .u8 ((Pkt.mk (takeN (openP l) 1) (takeN ((openP l).drop 1) 1) (takeN (((openP l).drop 1).drop 1) 1) xs [] (zeros 64)).dst)], [.int .u8 ((Pkt.mk (takeN (openP l) 1) (takeN ((openP l).drop 1) 1) (takeN (((openP l).drop 1).drop 1) 1) xs [] (zeros 64)).kind)], [.slice (gv.map fun g => (⟨g, 0, none⟩ : Addr)) (xs).length cv], [.slice p78 (nextP (((((openP (l)).drop 1).drop 1).drop 1).drop 1)).length c79], ((Pkt.mk (takeN (openP l) 1) (takeN ((openP l).drop 1) 1) (takeN (((openP l).drop 1).drop 1) 1) xs [] (zeros 64)).sig).map bv] :: rch g2 (((((((openP (l)).drop 1).drop 1).drop 1).drop 1).drop 1).drop 1) (lenW ((((((openP (l)).drop 1).drop 1).drop 1).drop 1).drop 1) (nextW (((((openP (l)).drop 1).drop 1).drop 1).drop 1) (failW (nextW ((((openP (l)).drop 1).drop 1).drop 1) (lenW (((openP (l)).drop 1).drop 1) (lenW ((openP (l)).drop 1) (lenW (openP (l)) (openW (l)) 1) 1) 1)) (endW ps er))) 64) :: blk g1 118 pktL (pktV (pkt0) none 0 none 0) :: H)) (fun _ h => h) ?_
    refine VL.fieldAddr rfl fo118_5 rfl ?_
    refine VL.store (L := pktL) (qs := [(takeB 64 ((((((openP (l)).drop 1).drop 1).drop 1).drop 1).drop 1)).map bv]) (ps' := [[.int .u8 ((Pkt.mk (takeN (openP l) 1) (takeN ((openP l).drop 1) 1) (takeN (((openP l).drop 1).drop 1) 1) xs [] (zeros 64)).src)], [.int .u8 ((Pkt.mk (takeN (openP l) 1) (takeN ((openP l).drop 1) 1) (takeN (((openP l).drop 1).drop 1) 1) xs [] (zeros 64)).dst)], [.int .u8 ((Pkt.mk (takeN (openP l) 1) (takeN ((openP l).drop 1) 1) (takeN (((openP l).drop 1).drop 1) 1) xs [] (zeros 64)).kind)], [.slice (gv.map fun g => (⟨g, 0, none⟩ : Addr)) (xs).length cv], [.slice p78 (nextP (((((openP (l)).drop 1).drop 1).drop 1).drop 1)).length c79], (takeB 64 ((((((openP (l)).drop 1).drop 1).drop 1).drop 1).drop 1)).map bv]) 1 5 1 rfl rfl rfl (.inl kd80) rfl rfl (arr_len (takeB_length ((((((openP (l)).drop 1).drop 1).drop 1).drop 1).drop 1) 64)) (ok1_bytes _) rfl rfl ?_
    refine VL.turn (G' := Own _ (rch gl ps (endW ps er) :: blk g46 118 pktL [[.int .u8 ((Pkt.mk (takeN (openP l) 1) (takeN ((openP l).drop 1) 1) (takeN (((openP l).drop 1).drop 1) 1) xs [] (zeros 64)).src)], [.int .u8 ((Pkt.mk (takeN (openP l) 1) (takeN ((openP l).drop 1) 1) (takeN (((openP l).drop 1).drop 1) 1) xs [] (zeros 64)).dst)], [.int .u8 ((Pkt.mk (takeN (openP l) 1) (takeN ((openP l).drop 1) 1) (takeN (((openP l).drop 1).drop 1) 1) xs [] (zeros 64)).kind)], [.slice (gv.map fun g => (⟨g, 0, none⟩ : Addr)) (xs).length cv], [.slice p78 (nextP (((((openP (l)).drop 1).drop 1).drop 1).drop 1)).length c79], (takeB 64 ((((((openP (l)).drop 1).drop 1).drop 1).drop 1).drop 1)).map bv] :: rch g2 (((((((openP (l)).drop 1).drop 1).drop 1).drop 1).drop 1).drop 1) (lenW ((((((openP (l)).drop 1).drop 1).drop 1).drop 1).drop 1) (nextW (((((openP (l)).drop 1).drop 1).drop 1).drop 1) (failW (nextW ((((openP (l)).drop 1).drop 1).drop 1) (lenW (((openP (l)).drop 1).drop 1) (lenW ((openP (l)).drop 1) (lenW (openP (l)) (openW (l)) 1) 1) 1)) (endW ps er))) 64) :: blk g1 118 pktL (pktV (pkt0) none 0 none 0) :: H)) (fun _ h => h) ?_
    refine VL.nil ?_
    refine VX.next ?_
    refine VC.seq ?_
    refine VC.seq ?_
    refine VC.region ?_
    refine VL.move rfl ?_
    refine VL.call Try.func126 rfl (by decide) rfl (fun w' hw => end_R (i := 2) rfl hw) (fun v => ?_)
    refine VL.fact fun e83 => ?_
    subst e83
    refine VL.turn (G' := Own _ (rch gl ps (endW ps er) :: blk g46 118 pktL [[.int .u8 ((Pkt.mk (takeN (openP l) 1) (takeN ((openP l).drop 1) 1) (takeN (((openP l).drop 1).drop 1) 1) xs [] (zeros 64)).src)], [.int .u8 ((Pkt.mk (takeN (openP l) 1) (takeN ((openP l).drop 1) 1) (takeN (((openP l).drop 1).drop 1) 1) xs [] (zeros 64)).dst)], [.int .u8 ((Pkt.mk (takeN (openP l) 1) (takeN ((openP l).drop 1) 1) (takeN (((openP l).drop 1).drop 1) 1) xs [] (zeros 64)).kind)], [.slice (gv.map fun g => (⟨g, 0, none⟩ : Addr)) (xs).length cv], [.slice p78 (nextP (((((openP (l)).drop 1).drop 1).drop 1).drop 1)).length c79], (takeB 64 ((((((openP (l)).drop 1).drop 1).drop 1).drop 1).drop 1)).map bv] :: rch g2 (((((((openP (l)).drop 1).drop 1).drop 1).drop 1).drop 1).drop 1) (endW (((((((openP (l)).drop 1).drop 1).drop 1).drop 1).drop 1).drop 1) (lenW ((((((openP (l)).drop 1).drop 1).drop 1).drop 1).drop 1) (nextW (((((openP (l)).drop 1).drop 1).drop 1).drop 1) (failW (nextW ((((openP (l)).drop 1).drop 1).drop 1) (lenW (((openP (l)).drop 1).drop 1) (lenW ((openP (l)).drop 1) (lenW (openP (l)) (openW (l)) 1) 1) 1)) (endW ps er))) 64)) :: blk g1 118 pktL (pktV (pkt0) none 0 none 0) :: H)) (fun _ h => h) ?_
    refine VL.assign rfl ?_
    refine VL.nil ?_
    refine VX.next ?_
    refine VC.seq ?_
    refine VC.region ?_
    refine VL.move rfl ?_
    refine VL.neq rfl rfl ?_
    refine VL.case (fun h16_1 => ?_) (fun h16_1 => ?_)
    · skip
      refine VL.nil ?_
      refine VX.next ?_
      refine VC.yes rfl ?_
      refine VC.seq ?_
      refine VC.region ?_
      refine VL.build0 (cs := cat (pktV (pkt0) none 0 none 0)) built118 ?_
      refine VL.store (L := pktL) (qs := (pktV (pkt0) none 0 none 0)) (ps' := (pktV (pkt0) none 0 none 0)) 3 0 6 rfl rfl rfl (.inl kd118) rfl rfl rfl (pktV_ok1 pkt0 none 0 none 0) rfl rfl ?_
      refine VL.turn (G' := Own _ (rch gl ps (endW ps er) :: blk g46 118 pktL [[.int .u8 ((Pkt.mk (takeN (openP l) 1) (takeN ((openP l).drop 1) 1) (takeN (((openP l).drop 1).drop 1) 1) xs [] (zeros 64)).src)], [.int .u8 ((Pkt.mk (takeN (openP l) 1) (takeN ((openP l).drop 1) 1) (takeN (((openP l).drop 1).drop 1) 1) xs [] (zeros 64)).dst)], [.int .u8 ((Pkt.mk (takeN (openP l) 1) (takeN ((openP l).drop 1) 1) (takeN (((openP l).drop 1).drop 1) 1) xs [] (zeros 64)).kind)], [.slice (gv.map fun g => (⟨g, 0, none⟩ : Addr)) (xs).length cv], [.slice p78 (nextP (((((openP (l)).drop 1).drop 1).drop 1).drop 1)).length c79], (takeB 64 ((((((openP (l)).drop 1).drop 1).drop 1).drop 1).drop 1)).map bv] :: rch g2 (((((((openP (l)).drop 1).drop 1).drop 1).drop 1).drop 1).drop 1) (endW (((((((openP (l)).drop 1).drop 1).drop 1).drop 1).drop 1).drop 1) (lenW ((((((openP (l)).drop 1).drop 1).drop 1).drop 1).drop 1) (nextW (((((openP (l)).drop 1).drop 1).drop 1).drop 1) (failW (nextW ((((openP (l)).drop 1).drop 1).drop 1) (lenW (((openP (l)).drop 1).drop 1) (lenW ((openP (l)).drop 1) (lenW (openP (l)) (openW (l)) 1) 1) 1)) (endW ps er))) 64)) :: blk g1 118 pktL (pktV (pkt0) none 0 none 0) :: H)) (fun _ h => h) ?_
      refine VL.assign rfl ?_
      refine VL.nil ?_
      refine VX.next ?_
      refine VC.ret ?_
      refine VX.then_ret ?_
      refine VX.ret_cell (cs := cat (pktV (pkt0) none 0 none 0)) 3 rfl rfl rfl kd118 (fun _ h => h) rfl rfl (fun we hw => ?_)
      obtain ⟨hce, hci⟩ := chain_end hcz hinv hx
      have hpw := pkt_why l hnb
      rw [← hce] at hpw
      obtain ⟨e1, _⟩ := why_none h16_1 hpw
      have e2 : pktW l = 141 := by rw [pktW_good hnb, e1]; rfl
      exact ⟨none, 0, none, 0, by rw [e1]; exact congrArg (fun n : Nat => Value.tuple #[_, .int .i64 (n : Int)]) (e2).symm, hw.drop.drop.drop.drop.sub (fun _ hs => by repeat (first | exact hs | apply List.mem_cons_of_mem)), by rw [e1]; exact Arr.none, by rw [e1]; exact Arr.none⟩
    · skip
      refine VL.nil ?_
      refine VX.next ?_
      refine VC.no rfl ?_
      refine VC.skip ?_
      refine VX.next ?_
      refine VC.seq ?_
      refine VC.region ?_
      refine VL.loads (cs := cat (pktV ((pktOf (openP l) xs)) (gv.map fun g => (⟨g, 0, none⟩ : Addr)) cv p78 c79)) 1 0 6 rfl kd118 (fun _ h => h) rfl rfl rfl rfl ?_
      refine VL.store (L := pktL) (qs := (pktV ((pktOf (openP l) xs)) (gv.map fun g => (⟨g, 0, none⟩ : Addr)) cv p78 c79)) (ps' := (pktV ((pktOf (openP l) xs)) (gv.map fun g => (⟨g, 0, none⟩ : Addr)) cv p78 c79)) 3 0 6 rfl rfl rfl (.inl kd118) rfl rfl (pktV_len ((⟨takeN_lt _ 1, takeN_lt _ 1, takeN_lt _ 1, hxs, takeB_length _ _⟩ : Pkt.ok (pktOf (openP l) xs)))) (pktV_ok1 ((pktOf (openP l) xs)) (gv.map fun g => (⟨g, 0, none⟩ : Addr)) cv p78 c79) rfl rfl ?_
      refine VL.turn (G' := Own _ (rch gl ps (endW ps er) :: blk g46 118 pktL [[.int .u8 ((Pkt.mk (takeN (openP l) 1) (takeN ((openP l).drop 1) 1) (takeN (((openP l).drop 1).drop 1) 1) xs [] (zeros 64)).src)], [.int .u8 ((Pkt.mk (takeN (openP l) 1) (takeN ((openP l).drop 1) 1) (takeN (((openP l).drop 1).drop 1) 1) xs [] (zeros 64)).dst)], [.int .u8 ((Pkt.mk (takeN (openP l) 1) (takeN ((openP l).drop 1) 1) (takeN (((openP l).drop 1).drop 1) 1) xs [] (zeros 64)).kind)], [.slice (gv.map fun g => (⟨g, 0, none⟩ : Addr)) (xs).length cv], [.slice p78 (nextP (((((openP (l)).drop 1).drop 1).drop 1).drop 1)).length c79], (takeB 64 ((((((openP (l)).drop 1).drop 1).drop 1).drop 1).drop 1)).map bv] :: rch g2 (((((((openP (l)).drop 1).drop 1).drop 1).drop 1).drop 1).drop 1) (endW (((((((openP (l)).drop 1).drop 1).drop 1).drop 1).drop 1).drop 1) (lenW ((((((openP (l)).drop 1).drop 1).drop 1).drop 1).drop 1) (nextW (((((openP (l)).drop 1).drop 1).drop 1).drop 1) (failW (nextW ((((openP (l)).drop 1).drop 1).drop 1) (lenW (((openP (l)).drop 1).drop 1) (lenW ((openP (l)).drop 1) (lenW (openP (l)) (openW (l)) 1) 1) 1)) (endW ps er))) 64)) :: blk g1 118 pktL (pktV ((pktOf (openP l) xs)) (gv.map fun g => (⟨g, 0, none⟩ : Addr)) cv p78 c79) :: H)) (fun _ h => h) ?_
      refine VL.assign rfl ?_
      refine VL.nil ?_
      refine VX.next ?_
      refine VC.ret ?_
      refine VX.ret_cell (cs := cat (pktV ((pktOf (openP l) xs)) (gv.map fun g => (⟨g, 0, none⟩ : Addr)) cv p78 c79)) 3 rfl rfl rfl (by rw [cat_size (pktV_len ((⟨takeN_lt _ 1, takeN_lt _ 1, takeN_lt _ 1, hxs, takeB_length _ _⟩ : Pkt.ok (pktOf (openP l) xs))))]; exact kd118) (fun _ h => h) rfl rfl (fun we hw => ?_)
      obtain ⟨hce, hci⟩ := chain_end hcz hinv hx
      have hpw := pkt_why l hnb
      rw [← hce] at hpw
      obtain ⟨y, e1⟩ := why_some h16_1 hpw
      have e2 : pktW l = 0 := by rw [pktW_good hnb, e1]; rfl
      have e3 := pkt_is e1 hci
      rw [e1, e2, e3]
      exact ⟨_, _, _, _, rfl, hw.drop.drop.drop.drop.sub (fun _ hs => by repeat (first | exact hs | apply List.mem_cons_of_mem)), (hAr.now (s := ⟨wr, _⟩) Mono_object hw.drop.drop.drop.drop (by repeat (first | exact List.mem_cons_self .. | apply List.mem_cons_of_mem))), (hA80.now (s := ⟨w77, _⟩) Mono.byte hw.drop.drop.drop.drop (by repeat (first | exact List.mem_cons_self .. | apply List.mem_cons_of_mem)))⟩

end Go.Proofs.Ytcfecmoagfgnaaa

/- The law on packets. -/
namespace Go.Proofs.Ytcfecmoagfgnaaa
open Go.Vc Go.Pl

theorem pkt_back {x : Pkt} (hx : x.ok) (h : (pktO x).isSome = true) : pktR ((pktO x).getD []) = some x := by
  obtain ⟨l, hl⟩ := Option.isSome_iff_exists.1 h
  rw [hl]
  exact pktR_iff.2 ⟨hx, hl⟩
theorem pktW_0 {l : List UInt8} {x : Pkt} (h : pktR l = some x) : ((pktW l : Nat) : Int) = 0 := by unfold pktW; rw [h]; rfl

theorem wirePackets_w {S : List Snap} {H : List Chunk} {w : World} (ho : Own S H w) {x : Pkt} (hx : x.ok) {q : Option Addr} {d : Nat} (hV : Arr 101 objectR' (keys H) w q x.chain d) {p : Option Addr} {c : Nat} (hA : Bytes (keys H) w p x.body c) : Calls Try.prog 20 #[.agg (cat (pktV x q d p c)).toArray] w (Ret fun v w' => v = .bool true ∧ Own S H w') := by
  refine enter (G := Own (⟨w, keys H⟩ :: S) H) ho.keep Try.func20 rfl Try.ntmps20 rfl ?_
  refine VC.seq ?_
  refine VC.region ?_
  refine VL.box (L := pktL) (ps := (pktV (x) q d p c)) rfl rfl (pktV_len hx) (fun g1 => ?_)
  refine VL.assign rfl ?_
  refine VL.nil ?_
  refine VX.next ?_
  refine VC.seq ?_
  refine VC.seq ?_
  refine VC.region ?_
  refine VL.call Try.func49 rfl (by decide) rfl (fun w' hw => alive_w hw) (fun v => ?_)
  refine VL.fact fun e2 => ?_
  subst e2
  refine VL.not rfl ?_
  refine VL.nil ?_
  refine VX.next ?_
  refine VC.no rfl ?_
  refine VC.skip ?_
  refine VX.next ?_
  refine VC.seq ?_
  refine VC.region ?_
  refine VL.loads (cs := cat (pktV (x) q d p c)) 0 0 6 rfl kd118 (fun _ h => h) rfl rfl rfl rfl ?_
  refine VL.call Try.func80 rfl (by decide) rfl (fun w' hw => putPkt_w hw (x := x) hx (hV.now (s := ⟨w, _⟩) Mono_object hw (by repeat (first | exact List.mem_cons_self .. | apply List.mem_cons_of_mem))) (hA.now (s := ⟨w, _⟩) Mono.byte hw (by repeat (first | exact List.mem_cons_self .. | apply List.mem_cons_of_mem)))) (fun v => ?_)
  refine VL.at (fun w3 h1w => ?_)
  obtain ⟨p4, c5, rfl, hO7, hA6⟩ := h1w
  refine VL.toOwn hO7 ?_
  refine VL.move rfl ?_
  refine VL.extract rfl rfl ?_
  refine VL.extract rfl rfl ?_
  refine VL.assign rfl ?_
  refine VL.assign rfl ?_
  refine VL.nil ?_
  refine VX.next ?_
  refine VC.seq ?_
  refine VC.region ?_
  refine VL.loads (cs := cat (pktV (x) q d p c)) 0 0 6 rfl kd118 (fun _ h => h) rfl rfl rfl rfl ?_
  refine VL.call Try.func91 rfl (by decide) rfl (fun w' hw => refPkt_w hw (x := x) hx (hV.now (s := ⟨w, _⟩) Mono_object hw (by repeat (first | exact List.mem_cons_self .. | apply List.mem_cons_of_mem))) (hA.now (s := ⟨w, _⟩) Mono.byte hw (by repeat (first | exact List.mem_cons_self .. | apply List.mem_cons_of_mem)))) (fun v => ?_)
  refine VL.at (fun w8 h1w => ?_)
  obtain ⟨p9, c10, rfl, hO12, hA11⟩ := h1w
  refine VL.toOwn hO12 ?_
  refine VL.move rfl ?_
  refine VL.extract rfl rfl ?_
  refine VL.extract rfl rfl ?_
  refine VL.assign rfl ?_
  refine VL.assign rfl ?_
  refine VL.nil ?_
  refine VX.next ?_
  refine VC.seq ?_
  refine VC.seq ?_
  apply VC.anyTA 13 1017 (F := [eqF _, eqF _, eqF _, eqF _, eqF _, eqF _, eqF _, eqF _, eqF _, eqF _, eqF _, bytesF ((pktT x)), eqF _]) [⟨[], [4]⟩, ⟨[], [6]⟩, ⟨[(21, 0), (22, 1)], []⟩, ⟨[(23, 2)], []⟩, ⟨[(24, 3)], [3]⟩, ⟨[(24, 3)], [5]⟩, ⟨[(25, 4), (26, 5), (24, 3)], []⟩, ⟨[(27, 6), (24, 3)], []⟩, ⟨[(24, 3), (28, 7)], []⟩, ⟨[(29, 8)], []⟩, ⟨[(30, 9)], [1]⟩, ⟨[(31, 10), (30, 9)], []⟩, ⟨[(30, 9)], [1]⟩] [(30, 9), (32, 11), (33, 12)] [0, 1, 2, 3, 4, 7, 8, 9, 10, 11, 12, 13, 14, 15, 16, 17, 18, 19, 20, 34, 35, 36, 37, 38, 39, 40, 41, 42, 43, 44, 45, 46, 47, 48, 49, 50, 51, 52, 53] rfl (by kernel_rfl) (by kernel_rfl) rfl rfl (by kernel_rfl) (by kernel_rfl) (by kernel_rfl) rfl ?obs5 ?end5
  case obs5 =>
    refine Obs.cons ?_ ?_
    · refine obS (by kernel_rfl) rfl rfl (fun ph5 w5 hO5 => ?_)
      refine VL.move rfl ?_
      exact VL.finS hO5 rfl rfl
    refine Obs.cons ?_ ?_
    · refine obS (by kernel_rfl) rfl rfl (fun ph5 w5 hO5 => ?_)
      refine VL.move rfl ?_
      exact VL.finS hO5 rfl rfl
    refine Obs.cons ?_ ?_
    · refine obS (by kernel_rfl) rfl rfl (fun ph5 w5 hO5 => ?_)
      rintro _ rfl _ rfl
      refine VL.neb Try.underlying4 rfl rfl ?_
      refine VL.sets (show _ = false by simp) ?_
      exact VL.finS hO5 rfl rfl
    refine Obs.cons ?_ ?_
    · refine obS (by kernel_rfl) rfl rfl (fun ph5 w5 hO5 => ?_)
      rintro _ rfl
      refine VL.move rfl ?_
      exact VL.finS hO5 rfl rfl
    refine Obs.cons ?_ ?_
    · refine obS (by kernel_rfl) rfl rfl (fun ph5 w5 hO5 => ?_)
      rintro _ rfl
      refine VL.go rfl rfl rfl ?_
      refine VL.move rfl ?_
      exact VL.finS hO5 rfl rfl
    refine Obs.cons ?_ ?_
    · refine obS (by kernel_rfl) rfl rfl (fun ph5 w5 hO5 => ?_)
      rintro _ rfl
      refine VL.go rfl rfl rfl ?_
      refine VL.move rfl ?_
      exact VL.finS hO5 rfl rfl
    refine Obs.cons ?_ ?_
    · refine ob (by kernel_rfl) rfl (by kernel_rfl) rfl (fun w5 hO5 => ?_)
      rintro _ rfl _ rfl _ rfl
      refine VL.go rfl rfl rfl ?_
      refine VL.toOwn hO5 ?_
      refine VL.call Try.func27 rfl (by decide) rfl (fun w' hw => bytes_T hw (hA6.now (s := ⟨w3, _⟩) Mono.byte hw (by repeat (first | exact List.mem_cons_self .. | apply List.mem_cons_of_mem))) (hA11.now (s := ⟨w8, _⟩) Mono.byte hw (by repeat (first | exact List.mem_cons_self .. | apply List.mem_cons_of_mem))) rfl) (fun v => ?_)
      refine VL.fact fun e13 => ?_
      subst e13
      exact VL.finO rfl (fun _ h => h.sub (fun _ hs => by repeat (first | exact hs | apply List.mem_cons_of_mem))) (fun _ h => rfl)
    refine Obs.cons ?_ ?_
    · refine obS (by kernel_rfl) rfl rfl (fun ph5 w5 hO5 => ?_)
      rintro _ rfl _ rfl
      refine VL.go rfl rfl rfl ?_
      refine VL.not rfl ?_
      exact VL.finS hO5 rfl rfl
    refine Obs.cons ?_ ?_
    · refine obS (by kernel_rfl) rfl rfl (fun ph5 w5 hO5 => ?_)
      rintro _ rfl _ rfl
      refine VL.pick_f rfl rfl ?_
      exact VL.finS hO5 rfl rfl
    refine Obs.cons ?_ ?_
    · refine obS (by kernel_rfl) rfl rfl (fun ph5 w5 hO5 => ?_)
      rintro _ rfl
      refine VL.move rfl ?_
      exact VL.finS hO5 rfl rfl
    refine Obs.cons ?_ ?_
    · refine ob (by kernel_rfl) rfl (by kernel_rfl) rfl (fun w5 hO5 => ?_)
      rintro _ rfl
      refine VL.go rfl rfl rfl ?_
      refine VL.loads (cs := cat (pktV (x) q d p c)) 0 0 6 rfl kd118 (fun _ e => e ▸ hO5) rfl rfl rfl rfl ?_
      exact VL.finS hO5 rfl rfl
    refine Obs.cons ?_ ?_
    · refine ob (by kernel_rfl) rfl (by kernel_rfl) rfl (fun w5 hO5 => ?_)
      rintro _ rfl _ rfl
      refine VL.go rfl rfl rfl ?_
      refine VL.toOwn hO5 ?_
      refine VL.call Try.func92 rfl (by decide) rfl (fun w' hw => pktText_w hw hx (hV.now (s := ⟨w, _⟩) Mono_object hw (by repeat (first | exact List.mem_cons_self .. | apply List.mem_cons_of_mem))) (hA.now (s := ⟨w, _⟩) Mono.byte hw (by repeat (first | exact List.mem_cons_self .. | apply List.mem_cons_of_mem)))) (fun v => ?_)
      refine VL.at (fun w14 h1w => ?_)
      obtain ⟨p15, c16, rfl, hO18, hA17⟩ := h1w
      refine VL.toOwn hO18 ?_
      exact VL.finO rfl (fun _ h => h.sub (fun _ hs => by repeat (first | exact hs | apply List.mem_cons_of_mem))) (fun _ h => ⟨_, _, rfl, (hA17.now (s := ⟨w14, _⟩) Mono.byte h (by repeat (first | exact List.mem_cons_self .. | apply List.mem_cons_of_mem)))⟩)
    refine Obs.cons ?_ ?_
    · refine ob (by kernel_rfl) rfl (by kernel_rfl) rfl (fun w5 hO5 => ?_)
      rintro _ rfl
      refine VL.go rfl rfl rfl ?_
      refine VL.loads (cs := cat (pktV (x) q d p c)) 0 0 6 rfl kd118 (fun _ e => e ▸ hO5) rfl rfl rfl rfl ?_
      exact VL.finS hO5 rfl rfl
    exact Obs.nil
  case end5 =>
    intro w5 hO5
    rintro _ rfl _ ⟨p5_11, c5_11, rfl, hA5_11⟩ _ rfl
    refine VL.toOwn hO5 ?_
    refine VL.go rfl rfl rfl ?_
    refine VL.call Try.func93 rfl (by decide) rfl (fun w' hw => refPktText_w hw hx (hV.now (s := ⟨w, _⟩) Mono_object hw (by repeat (first | exact List.mem_cons_self .. | apply List.mem_cons_of_mem))) (hA.now (s := ⟨w, _⟩) Mono.byte hw (by repeat (first | exact List.mem_cons_self .. | apply List.mem_cons_of_mem)))) (fun v => ?_)
    refine VL.at (fun w19 h1w => ?_)
    obtain ⟨p20, c21, rfl, hO23, hA22⟩ := h1w
    refine VL.toOwn hO23 ?_
    refine VL.go rfl rfl rfl ?_
    refine VL.call Try.func27 rfl (by decide) rfl (fun w' hw => bytes_T hw (hA5_11.now (s := ⟨w5, _⟩) Mono.byte hw (by repeat (first | exact List.mem_cons_self .. | apply List.mem_cons_of_mem))) (hA22.now (s := ⟨w19, _⟩) Mono.byte hw (by repeat (first | exact List.mem_cons_self .. | apply List.mem_cons_of_mem))) rfl) (fun v => ?_)
    refine VL.fact fun e24 => ?_
    subst e24
    refine VL.go rfl rfl rfl ?_
    refine VL.not rfl ?_
    refine VL.pick_f rfl rfl ?_
    refine VL.nil ?_
    refine VX.next ?_
    refine VC.no rfl ?_
    refine VC.skip ?_
    refine VX.next ?_
    refine VC.seq ?_
    refine VC.region ?_
    refine VL.move rfl ?_
    refine VL.call Try.func81 rfl (by decide) rfl (fun w' hw => getPkt_w hw (hA6.now (s := ⟨w3, _⟩) Mono.byte hw (by repeat (first | exact List.mem_cons_self .. | apply List.mem_cons_of_mem)))) (fun v => ?_)
    refine VL.at (fun w25 h1w => ?_)
    obtain ⟨q27, d28, p30, c31, rfl, hO26, hB29, hA32⟩ := h1w
    refine VL.toOwn hO26 ?_
    refine VL.move rfl ?_
    refine VL.extract rfl rfl ?_
    refine VL.extract rfl rfl ?_
    refine VL.alloc (L := pktL) (ps := (pktV (pkt0) none 0 none 0)) zero118 rfl rfl (fun g33 => ?_)
    refine VL.store (L := pktL) (qs := (pktV (((pktR (((pktO x).getD []))).getD pkt0)) q27 d28 p30 c31)) (ps' := (pktV (((pktR (((pktO x).getD []))).getD pkt0)) q27 d28 p30 c31)) 0 0 6 rfl rfl rfl (.inl kd118) rfl rfl (pktV_len (pktR_ok (((pktO x).getD [])))) (pktV_ok1 (((pktR (((pktO x).getD []))).getD pkt0)) q27 d28 p30 c31) rfl rfl ?_
    refine VL.turn (G' := Own _ (blk g33 118 pktL (pktV (((pktR (((pktO x).getD []))).getD pkt0)) q27 d28 p30 c31) :: blk g1 118 pktL (pktV (x) q d p c) :: H)) (fun _ h => h) ?_
    refine VL.assign rfl ?_
    refine VL.nil ?_
    refine VX.next ?_
    refine VC.seq ?_
    refine VC.region ?_
    refine VL.move rfl ?_
    cases hs : (pktO x).isSome
    · refine VL.not rfl ?_
      refine VL.move rfl ?_
      refine VL.pass rfl rfl rfl rfl rfl ?_
      refine VL.pass rfl rfl rfl rfl rfl ?_
      refine VL.pass rfl rfl rfl rfl rfl ?_
      refine VL.passu rfl rfl rfl rfl ?_
      refine VL.passu rfl rfl rfl rfl ?_
      refine VL.passu rfl rfl rfl rfl ?_
      refine VL.pass rfl rfl rfl rfl rfl ?_
      refine VL.pick_t rfl rfl ?_
      refine VL.assign rfl ?_
      refine VL.nil ?_
      refine VX.next ?_
      refine VC.ret ?_
      refine VX.ret1 rfl rfl (fun we hw => ?_)
      exact ⟨rfl, hw.drop.drop.sub (fun _ hs => by repeat (first | exact hs | apply List.mem_cons_of_mem))⟩
    · have hb := pkt_back hx hs
      refine VL.not rfl ?_
      refine VL.move rfl ?_
      refine VL.go rfl rfl rfl ?_
      refine VL.move rfl ?_
      refine VL.go rfl rfl rfl ?_
      refine VL.eql rfl rfl ?_
      refine VL.yes (pktW_0 hb) ?_
      refine VL.go rfl rfl rfl ?_
      refine VL.move rfl ?_
      refine VL.go rfl rfl rfl ?_
      refine VL.loads (cs := cat (pktV (x) q d p c)) 1 0 6 rfl kd118 (fun _ h => h) rfl rfl rfl rfl ?_
      refine VL.go rfl rfl rfl ?_
      refine VL.loads (cs := cat (pktV (((pktR (((pktO x).getD []))).getD pkt0)) q27 d28 p30 c31)) 0 0 6 rfl kd118 (fun _ h => h) rfl rfl rfl rfl ?_
      refine VL.go rfl rfl rfl ?_
      refine VL.call Try.func83 rfl (by decide) rfl (fun w' hw => samePkts_e hw hx (hV.now (s := ⟨w, _⟩) Mono_object hw (by repeat (first | exact List.mem_cons_self .. | apply List.mem_cons_of_mem))) (hA.now (s := ⟨w, _⟩) Mono.byte hw (by repeat (first | exact List.mem_cons_self .. | apply List.mem_cons_of_mem))) (hB29.now (s := ⟨w25, _⟩) Mono_object hw (by repeat (first | exact List.mem_cons_self .. | apply List.mem_cons_of_mem))) (hA32.now (s := ⟨w25, _⟩) Mono.byte hw (by repeat (first | exact List.mem_cons_self .. | apply List.mem_cons_of_mem))) (back_is hb)) (fun v => ?_)
      refine VL.fact fun e34 => ?_
      subst e34
      refine VL.go rfl rfl rfl ?_
      refine VL.pick_t rfl rfl ?_
      refine VL.pick_f rfl rfl ?_
      refine VL.assign rfl ?_
      refine VL.nil ?_
      refine VX.next ?_
      refine VC.ret ?_
      refine VX.ret1 rfl rfl (fun we hw => ?_)
      exact ⟨rfl, hw.drop.drop.sub (fun _ hs => by repeat (first | exact hs | apply List.mem_cons_of_mem))⟩

end Go.Proofs.Ytcfecmoagfgnaaa

/- Packets as arguments, opened. -/
namespace Go.Proofs.Ytcfecmoagfgnaaa
open Go.Vc Go.Pl

open Go.ChangeShapes Go.WideShapes Go.ChangeAt Go.RowKit
section
variable {Hh : Type} {enc : TypeId × Value → Hh} {W : World}
def pktR' : Rel Pkt := fun K w vs x => ∃ q d p c, x.ok ∧ vs = cat (pktV x q d p c) ∧ Arr 101 objectR' K w q x.chain d ∧ Bytes K w p x.body c
theorem open118 : Opens enc Try.prog W 118 pktR' := by
  intro fuel cs x h
  obtain ⟨hl, m, hz0, hz1, hz2, hz3, hz4, hz5, _⟩ := openFields [(5, 0, 1), (5, 1, 1), (5, 2, 1), (116, 3, 1), (24, 4, 1), (80, 5, 64)] Try.underlying118 (by kernel_rfl) h
  rw [show Try.prog.cellsOf 118 = 69 by kernel_rfl] at hl
  obtain ⟨z0, hz0⟩ := hz0
  obtain ⟨y0, ho0, hy0⟩ := (openU8 Try.underlying5) _ _ _ hz0
  obtain ⟨z1, hz1⟩ := hz1
  obtain ⟨y1, ho1, hy1⟩ := (openU8 Try.underlying5) _ _ _ hz1
  obtain ⟨z2, hz2⟩ := hz2
  obtain ⟨y2, ho2, hy2⟩ := (openU8 Try.underlying5) _ _ _ hz2
  obtain ⟨z3, hz3⟩ := hz3
  obtain ⟨y3, p3, c3, hy3, hA3⟩ := (Opens.slice (sz := 101) Try.underlying116 (by kernel_rfl) (by decide) open85) _ _ _ hz3
  obtain ⟨z4, hz4⟩ := hz4
  obtain ⟨y4, p4, c4, hy4, hA4⟩ := (Opens.slice (sz := 1) Try.underlying24 (by kernel_rfl) (by decide) (Opens.u8 Try.underlying5)) _ _ _ hz4
  obtain ⟨z5, hz5⟩ := hz5
  obtain ⟨y5, ho5, hy5⟩ := (openArr (n := 64) Try.underlying80 Try.underlying5 (by kernel_rfl) (by kernel_rfl)) _ _ _ hz5
  have hbs : ∀ b ∈ y3, b.ok := fun b hb => by
    obtain ⟨i, hi⟩ := List.mem_iff_getElem?.1 hb
    obtain ⟨vs, a, _, _, h1, _⟩ := hA3.cell hi
    obtain ⟨_, _, h2, _⟩ := h1
    exact h2
  refine ⟨⟨y0, y1, y2, y3, y4, y5⟩, p3, c3, p4, c4, ⟨ho0, ho1, ho2, hbs, ho5⟩, ?_, hA3, hA4⟩
  have e0 : cs = cs.drop 0 := rfl
  have f0 := cutCells 0 1 hy0
  have f1 := cutCells 1 1 hy1
  have f2 := cutCells 2 1 hy2
  have f3 := cutCells 3 1 hy3
  have f4 := cutCells 4 1 hy4
  have f5 := cutCells 5 64 hy5
  have fe : cs.drop 69 = [] := List.drop_eq_nil_of_le (by omega)
  rw [e0, f0, f1, f2, f3, f4, f5, fe]
  simp only [cat, List.append_assoc, List.append_nil, List.nil_append]
end
end Go.Proofs.Ytcfecmoagfgnaaa

/- The dump's head, taken apart once: its kernel's run is long. -/
set_option maxRecDepth 100000
namespace Go.Proofs.Ytcfecmoagfgnaaa
open Go

def signs : List Char := [104, 97, 114, 110, 101, 115, 115, 32, 102, 100, 52, 102, 57, 98, 57, 102, 49, 55, 56, 57, 57, 51, 101, 97, 57, 99, 99, 102, 101, 98, 51, 98, 102, 53, 98, 50, 100, 102, 54, 99, 50, 101, 100, 98, 49, 51, 57, 102, 51, 101, 52, 102, 100, 56, 51, 97, 49, 50, 97, 97, 48, 99, 53, 98, 50, 54, 97, 51, 52, 53, 48, 48, 32, 99, 117, 116, 32, 97, 116, 32, 109, 105, 115, 115, 105, 118, 101, 47, 109, 105, 115, 115, 105, 118, 101, 108, 97, 119, 48, 50, 46, 79, 99, 116, 101, 116, 78, 117, 109, 98, 101, 114, 115, 32, 109, 105, 115, 115, 105, 118, 101, 47, 109, 105, 115, 115, 105, 118, 101, 108, 97, 119, 48, 50, 46, 79, 99, 116, 101, 116, 74, 111, 105, 110, 115, 32, 109, 105, 115, 115, 105, 118, 101, 47, 109, 105, 115, 115, 105, 118, 101, 108, 97, 119, 48, 50, 46, 79, 99, 116, 101, 116, 83, 112, 108, 105, 116, 115, 32, 109, 105, 115, 115, 105, 118, 101, 47, 109, 105, 115, 115, 105, 118, 101, 108, 97, 119, 48, 50, 46, 79, 99, 116, 101, 116, 67, 117, 116, 32, 109, 105, 115, 115, 105, 118, 101, 47, 109, 105, 115, 115, 105, 118, 101, 108, 97, 119, 48, 50, 46, 79, 99, 116, 101, 116, 79, 119, 110, 32, 109, 105, 115, 115, 105, 118, 101, 47, 109, 105, 115, 115, 105, 118, 101, 108, 97, 119, 48, 50, 46, 79, 99, 116, 101, 116, 66, 121, 116, 101, 115, 32, 109, 105, 115, 115, 105, 118, 101, 47, 109, 105, 115, 115, 105, 118, 101, 108, 97, 119, 50, 52, 46, 66, 97, 103, 82, 105, 112, 101, 32, 109, 105, 115, 115, 105, 118, 101, 47, 109, 105, 115, 115, 105, 118, 101, 108, 97, 119, 50, 52, 46, 66, 97, 103, 80, 108, 97, 121, 115, 32, 109, 105, 115, 115, 105, 118, 101, 47, 109, 105, 115, 115, 105, 118, 101, 108, 97, 119, 50, 52, 46, 66, 97, 103, 79, 119, 110, 32, 109, 105, 115, 115, 105, 118, 101, 47, 109, 105, 115, 115, 105, 118, 101, 108, 97, 119, 49, 52, 46, 87, 105, 114, 101, 76, 101, 116, 116, 101, 114, 115, 32, 109, 105, 115, 115, 105, 118, 101, 47, 109, 105, 115, 115, 105, 118, 101, 108, 97, 119, 49, 52, 46, 87, 105, 114, 101, 73, 116, 101, 109, 115, 32, 109, 105, 115, 115, 105, 118, 101, 47, 109, 105, 115, 115, 105, 118, 101, 108, 97, 119, 49, 52, 46, 87, 105, 114, 101, 66, 117, 110, 100, 108, 101, 115, 32, 109, 105, 115, 115, 105, 118, 101, 47, 109, 105, 115, 115, 105, 118, 101, 108, 97, 119, 49, 52, 46, 87, 105, 114, 101, 79, 98, 106, 101, 99, 116, 115, 32, 109, 105, 115, 115, 105, 118, 101, 47, 109, 105, 115, 115, 105, 118, 101, 108, 97, 119, 50, 49, 46, 70, 101, 100, 113, 84, 97, 107, 101, 115, 32, 109, 105, 115, 115, 105, 118, 101, 47, 109, 105, 115, 115, 105, 118, 101, 108, 97, 119, 49, 52, 46, 87, 105, 114, 101, 67, 97, 108, 108, 115, 32, 109, 105, 115, 115, 105, 118, 101, 47, 109, 105, 115, 115, 105, 118, 101, 108, 97, 119, 49, 52, 46, 87, 105, 114, 101, 84, 117, 114, 110, 101, 100, 32, 109, 105, 115, 115, 105, 118, 101, 47, 109, 105, 115, 115, 105, 118, 101, 108, 97, 119, 49, 52, 46, 87, 105, 114, 101, 82, 101, 112, 108, 105, 101, 115, 32, 109, 105, 115, 115, 105, 118, 101, 47, 109, 105, 115, 115, 105, 118, 101, 108, 97, 119, 49, 52, 46, 87, 105, 114, 101, 80, 97, 99, 107, 101, 116, 115, 32, 109, 105, 115, 115, 105, 118, 101, 47, 109, 105, 115, 115, 105, 118, 101, 108, 97, 119, 49, 52, 46, 87, 105, 114, 101, 82, 101, 97, 100, 115, 32, 109, 105, 115, 115, 105, 118, 101, 47, 109, 105, 115, 115, 105, 118, 101, 108, 97, 119, 50, 49, 46, 70, 101, 100, 113, 82, 111, 119, 115, 32, 109, 105, 115, 115, 105, 118, 101, 47, 109, 105, 115, 115, 105, 118, 101, 108, 97, 119, 50, 49, 46, 70, 101, 100, 113, 76, 111, 97, 100, 115].map Char.ofNat
def words : List (List Char) := [[104, 97, 114, 110, 101, 115, 115], [102, 100, 52, 102, 57, 98, 57, 102, 49, 55, 56, 57, 57, 51, 101, 97, 57, 99, 99, 102, 101, 98, 51, 98, 102, 53, 98, 50, 100, 102, 54, 99, 50, 101, 100, 98, 49, 51, 57, 102, 51, 101, 52, 102, 100, 56, 51, 97, 49, 50, 97, 97, 48, 99, 53, 98, 50, 54, 97, 51, 52, 53, 48, 48], [99, 117, 116], [97, 116], [109, 105, 115, 115, 105, 118, 101, 47, 109, 105, 115, 115, 105, 118, 101, 108, 97, 119, 48, 50, 46, 79, 99, 116, 101, 116, 78, 117, 109, 98, 101, 114, 115], [109, 105, 115, 115, 105, 118, 101, 47, 109, 105, 115, 115, 105, 118, 101, 108, 97, 119, 48, 50, 46, 79, 99, 116, 101, 116, 74, 111, 105, 110, 115], [109, 105, 115, 115, 105, 118, 101, 47, 109, 105, 115, 115, 105, 118, 101, 108, 97, 119, 48, 50, 46, 79, 99, 116, 101, 116, 83, 112, 108, 105, 116, 115], [109, 105, 115, 115, 105, 118, 101, 47, 109, 105, 115, 115, 105, 118, 101, 108, 97, 119, 48, 50, 46, 79, 99, 116, 101, 116, 67, 117, 116], [109, 105, 115, 115, 105, 118, 101, 47, 109, 105, 115, 115, 105, 118, 101, 108, 97, 119, 48, 50, 46, 79, 99, 116, 101, 116, 79, 119, 110], [109, 105, 115, 115, 105, 118, 101, 47, 109, 105, 115, 115, 105, 118, 101, 108, 97, 119, 48, 50, 46, 79, 99, 116, 101, 116, 66, 121, 116, 101, 115], [109, 105, 115, 115, 105, 118, 101, 47, 109, 105, 115, 115, 105, 118, 101, 108, 97, 119, 50, 52, 46, 66, 97, 103, 82, 105, 112, 101], [109, 105, 115, 115, 105, 118, 101, 47, 109, 105, 115, 115, 105, 118, 101, 108, 97, 119, 50, 52, 46, 66, 97, 103, 80, 108, 97, 121, 115], [109, 105, 115, 115, 105, 118, 101, 47, 109, 105, 115, 115, 105, 118, 101, 108, 97, 119, 50, 52, 46, 66, 97, 103, 79, 119, 110], [109, 105, 115, 115, 105, 118, 101, 47, 109, 105, 115, 115, 105, 118, 101, 108, 97, 119, 49, 52, 46, 87, 105, 114, 101, 76, 101, 116, 116, 101, 114, 115], [109, 105, 115, 115, 105, 118, 101, 47, 109, 105, 115, 115, 105, 118, 101, 108, 97, 119, 49, 52, 46, 87, 105, 114, 101, 73, 116, 101, 109, 115], [109, 105, 115, 115, 105, 118, 101, 47, 109, 105, 115, 115, 105, 118, 101, 108, 97, 119, 49, 52, 46, 87, 105, 114, 101, 66, 117, 110, 100, 108, 101, 115], [109, 105, 115, 115, 105, 118, 101, 47, 109, 105, 115, 115, 105, 118, 101, 108, 97, 119, 49, 52, 46, 87, 105, 114, 101, 79, 98, 106, 101, 99, 116, 115], [109, 105, 115, 115, 105, 118, 101, 47, 109, 105, 115, 115, 105, 118, 101, 108, 97, 119, 50, 49, 46, 70, 101, 100, 113, 84, 97, 107, 101, 115], [109, 105, 115, 115, 105, 118, 101, 47, 109, 105, 115, 115, 105, 118, 101, 108, 97, 119, 49, 52, 46, 87, 105, 114, 101, 67, 97, 108, 108, 115], [109, 105, 115, 115, 105, 118, 101, 47, 109, 105, 115, 115, 105, 118, 101, 108, 97, 119, 49, 52, 46, 87, 105, 114, 101, 84, 117, 114, 110, 101, 100], [109, 105, 115, 115, 105, 118, 101, 47, 109, 105, 115, 115, 105, 118, 101, 108, 97, 119, 49, 52, 46, 87, 105, 114, 101, 82, 101, 112, 108, 105, 101, 115], [109, 105, 115, 115, 105, 118, 101, 47, 109, 105, 115, 115, 105, 118, 101, 108, 97, 119, 49, 52, 46, 87, 105, 114, 101, 80, 97, 99, 107, 101, 116, 115], [109, 105, 115, 115, 105, 118, 101, 47, 109, 105, 115, 115, 105, 118, 101, 108, 97, 119, 49, 52, 46, 87, 105, 114, 101, 82, 101, 97, 100, 115], [109, 105, 115, 115, 105, 118, 101, 47, 109, 105, 115, 115, 105, 118, 101, 108, 97, 119, 50, 49, 46, 70, 101, 100, 113, 82, 111, 119, 115], [109, 105, 115, 115, 105, 118, 101, 47, 109, 105, 115, 115, 105, 118, 101, 108, 97, 119, 50, 49, 46, 70, 101, 100, 113, 76, 111, 97, 100, 115]].map (List.map Char.ofNat)
theorem signs_is : Try.prog.initOrder.toList = signs := String.toList_ofList (l := signs)
theorem words_is : wordsSigns Try.prog.initOrder.toList = words := by rw [signs_is]; kernel_rfl
theorem mayEnter_is : Try.prog.mayEnter = true := by unfold Program.mayEnter; rw [words_is]; kernel_rfl
theorem headLifts_is : Try.prog.headLifts = [] := by unfold Program.headLifts; rw [words_is]; kernel_rfl
theorem liftsFinal_is : Try.prog.liftsFinal = Rows.octetJoinsRow.lifted := by unfold Program.liftsFinal; rw [words_is, headLifts_is]; kernel_rfl
theorem make_is : Try.prog.make = some Rows.octetJoinsRow.make := by unfold Program.make; rw [words_is, headLifts_is]; kernel_rfl
end Go.Proofs.Ytcfecmoagfgnaaa

/- The statement WirePackets. -/
set_option maxRecDepth 100000
namespace Go.Proofs.Ytcfecmoagfgnaaa.wirePackets
open Go.ChangeShapes Go.WideShapes Go.ChangeAt Go.RowKit Go.Vc Go.Pl

theorem own : ownKnob Try.prog.godebug = none := by kernel_rfl

theorem lifted (os : Os) (started : os.Started) (H : Type) (enc : TypeId × Value → H) :
    ReturnsInHanded {} Try.checked os 20 .any (Rows.wirePacketsSpec.pre6 enc Try.prog Try.f20 Rows.wirePacketsRow.domain false) (Rows.wirePacketsSpec.post enc Try.prog Try.f20 false true false false) := by
  refine law_of (C := Try.checked) (tb := 4) started own (by kernel_rfl) Try.func20
    (ChangeSpec.witness6 (enc := enc) (C := Try.checked) false ⟨#[], #[.agg (cat (pktV pkt0 none 0 none 0)).toArray], []⟩ 8 (by kernel_rfl) (by kernel_rfl) (by kernel_rfl) (by kernel_rfl)) rfl (by kernel_rfl) Try.underlying4 (by kernel_rfl) (by kernel_rfl) ?_
  intro W base args ds ps hval0 hAA hsz
  have hval : ∀ (j : Nat) t v, Try.f20.params[j]? = some t → args[j]? = some v → Value.okWide Try.prog W .any base t v := hval0
  have hA : DataW.TrodAll enc Try.prog W 0 (fun _ => true) true Try.f20.params.toList args.toList ds ps := hAA
  rw [Try.params20] at hA hval
  obtain ⟨v0, vs0, d0, ds0, p0, q0, hargs, rfl, rfl, h0, r0⟩ := trodAll_cons hA
  obtain ⟨rfl, rfl, rfl⟩ := trodAll_nil r0
  obtain rfl : args = #[v0] := by cases args; simp_all
  obtain ⟨cs0, x0, rfl, q0, d0, p0, c0, hx0, rfl, hV0, hA0⟩ := Opens.struct Try.underlying118 open118 (hval 0 118 v0 rfl rfl) h0
  exact ⟨rfl, wirePackets_w (Own.start W) hx0 hV0 hA0⟩

theorem closed : joinedFacts Try.prog 20 Try.f20 Rows.wirePacketsSpec Rows.wirePacketsRow = true := by
  unfold joinedFacts
  rw [mayEnter_is, liftsFinal_is, make_is]
  kernel_rfl

theorem over : Rows.wirePacketsRow.holds Try.pinned (OpenSpec.ofChange Rows.wirePacketsSpec) :=
  OpenClaim.holds_of_wide 20 Try.f20 rfl rfl rfl rfl rfl rfl rfl ⟨rfl, rfl, rfl, rfl, rfl⟩ rfl rfl rfl rfl rfl (by kernel_rfl) Try.func20 closed
    (of_decide_eq_true (by kernel_rfl)) (by unfold Func.isWrapper; first | (rw [if_pos (by decide +kernel)]; kernel_rfl) | (rw [if_neg (by decide +kernel)]; exact ⟨rfl, rfl⟩))
    (fun os started H enc _ => lifted os started H enc)

/-- The statement. -/
theorem proved : Rows.WirePacketsSaid :=
  over
end Go.Proofs.Ytcfecmoagfgnaaa.wirePackets

