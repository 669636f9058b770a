/- wire: bytes of calls. -/
import Derived.Test.YtcfecmoagfgnaaaPl7
namespace Go.Proofs.Ytcfecmoagfgnaaa
open Go.Vc Go.Pl

theorem Mono_bundle : Mono bundleR' := fun _ _ _ _ _ _ h => h
theorem Own.rot3 {S : List Snap} {a b c : Chunk} {H : List Chunk} {w : World} (h : Own S (a :: b :: c :: H) w) : Own S (b :: c :: a :: H) w := h.perm (((List.Perm.swap a c H).cons b).trans (List.Perm.swap a b (c :: H)))
theorem Own.drop3 {S : List Snap} {a b c : Chunk} {H : List Chunk} {w : World} (h : Own S (a :: b :: c :: H) w) : Own S (a :: b :: H) w := Own.drop (c := c) (h.perm (((List.Perm.swap a c (b :: H)).trans ((List.Perm.swap b c H).cons a))))
theorem callO_none {x : Cal} (h : callGood x = false) : none = callO x := by unfold callO; rw [h]; exact none_joinO _
theorem callO_1 {x : Cal} (hk : x.kind = 1) (h : callGood x = true) : joinO ([be 1 x.kind, be 2 x.seq] ++ x.bundles.map bundleB) true = callO x := by
  unfold callO callP callT; rw [h, if_pos hk]; rfl
theorem callO_2 {x : Cal} (hk : x.kind = 2) (h : callGood x = true) : joinO [be 1 x.kind, be 2 x.seq, be 1 x.peer] true = callO x := by
  unfold callO callP callT; rw [h, if_neg (by omega), if_pos hk]
theorem callO_3 {x : Cal} (hk : x.kind = 3) (h : callGood x = true) : joinO [be 1 x.kind, be 2 x.seq, (letterO x.letter).getD []] true = callO x := by
  unfold callO callP callT; rw [h, if_neg (by omega), if_neg (by omega), if_pos hk]
theorem callO_4 {x : Cal} (hk : x.kind = 4) (h : callGood x = true) : joinO [be 1 x.kind, be 2 x.seq, be 2 x.mark] true = callO x := by
  unfold callO callP callT; rw [h, if_neg (by omega), if_neg (by omega), if_neg (by omega)]
theorem bundle_next {bs : List Bundle} {i : Nat} (h : i < bs.length) : (bs.take i).map bundleB ++ [bundleB (bs[i]'h)] = (bs.take (i + 1)).map bundleB := by
  rw [List.take_succ_eq_append_getElem h, List.map_append]; rfl
theorem emptyLetter0_w {S : List Snap} {H : List Chunk} {w : World} (ho : Own S H w) {p : Option Addr} {c : Nat} : Calls Try.prog 138 #[.agg (cat (letterV letter0 p c)).toArray] w (Ret fun v w' => v = .bool true ∧ Own S H w') :=
  calls_mono (emptyLetter_w ho letter0_ok) fun v w' ⟨b, h1, h2, h3⟩ => ⟨by rw [h1, h2.2 rfl], h3⟩

theorem putCall_w {S : List Snap} {H : List Chunk} {w : World} (ho : Own S H w) {x : Cal} (hx : x.ok) {q : Option Addr} {d : Nat} (hV : Arr 162 bundleR' (keys H) w q x.bundles d) {p : Option Addr} {c : Nat} (hA : Bytes (keys H) w p x.letter.body c) : Calls Try.prog 76 #[.agg (cat (calV x q d p c)).toArray] w (RetO S H (callO x)) := by
  have hx1 := hx.kind
  have hx2 := hx.seq
  have hx3 := hx.peer
  have hx4 := hx.mark
  have hsm := hV.small
  refine enter (G := Own (⟨w, keys H⟩ :: S) H) ho.keep Try.func76 rfl Try.ntmps76 rfl ?_
  refine VC.seq ?_
  refine VC.region ?_
  refine VL.box (L := calL) (ps := (calV (x) q d p c)) rfl rfl (calV_len hx) (fun g1 => ?_)
  refine VL.assign rfl ?_
  refine VL.assign rfl ?_
  refine VL.nil ?_
  refine VX.next ?_
  refine VC.seq ?_
  refine VC.region ?_
  refine VL.build (zs := [[.slice none 0 0], [.bool false]]) [] plan181 rfl trivial rfl ?_
  refine VL.box (L := [1, 1]) (ps := [[rowV none 0 0], [.bool false]]) rfl rfl rfl (fun g2 => ?_)
  refine VL.turn (fun w' hw => Own.newW hw) ?_
  refine VL.assign rfl ?_
  refine VL.nil ?_
  refine VX.next ?_
  refine VC.seq ?_
  refine VC.region ?_
  refine VL.move rfl ?_
  refine VL.fieldAddr rfl fo110_0 rfl ?_
  refine VL.load (v := .int .u8 (x.kind)) 2 0 rfl kd5 (fun _ h => h) rfl rfl rfl ?_
  refine VL.conv (by rw [Try.underlying5]; rfl) Try.underlying22 rfl (inr_u64 (by omega)) ?_
  refine VL.call Try.func116 rfl (by decide) rfl (fun w' hw => num_w hw (by simp only [List.length_append, List.length_cons, List.length_nil, List.length_map]; omega) (x.kind) (fits_small (by omega)) 1 (by decide) (by decide) (fits1 (by omega))) (fun v => ?_)
  refine VL.fact fun e5 => ?_
  subst e5
  refine VL.ex fun gp3 => VL.ex fun c4 => ?_
  refine VL.nil ?_
  refine VX.next ?_
  refine VC.seq ?_
  refine VC.region ?_
  refine VL.move rfl ?_
  refine VL.fieldAddr rfl fo110_1 rfl ?_
  refine VL.load (v := .int .u16 (x.seq)) 2 1 rfl kd68 (fun _ h => h) rfl rfl rfl ?_
  refine VL.conv (by rw [Try.underlying68]; rfl) Try.underlying22 rfl (inr_u64 (by omega)) ?_
  refine VL.call Try.func116 rfl (by decide) rfl (fun w' hw => num_w hw (by simp only [List.length_append, List.length_cons, List.length_nil, List.length_map]; omega) (x.seq) (fits_small (by omega)) 2 (by decide) (by decide) (fits2 (by omega))) (fun v => ?_)
  refine VL.fact fun e8 => ?_
  subst e8
  refine VL.ex fun gp6 => VL.ex fun c7 => ?_
  refine VL.nil ?_
  refine VX.next ?_
  refine VC.seq ?_
  refine VC.seq ?_
  refine VC.region ?_
  refine VL.fieldAddr rfl fo110_4 rfl ?_
  refine VL.load (v := .slice q (x.bundles).length d) 2 4 rfl kd108 (fun _ h => h) rfl rfl rfl ?_
  refine VL.len Try.underlying108 rfl rfl ?_
  refine VL.gtr rfl rfl ?_
  refine VL.case (fun h4_3 => ?_) (fun h4_3 => ?_)
  · have h4_3 : ¬ x.bundles.length ≤ 9 := by omega
    refine VL.nil ?_
    refine VX.next ?_
    refine VC.yes rfl ?_
    refine VC.seq ?_
    refine VC.region ?_
    refine VL.assign rfl ?_
    refine VL.assign rfl ?_
    refine VL.nil ?_
    refine VX.next ?_
    refine VC.ret ?_
    refine VX.then_ret ?_
    refine VX.ret2 rfl rfl rfl (fun we hw => ?_)
    exact postO ((callO_none (by unfold callGood; have hne : x.bundles ≠ [] := fun e => h4_3 (by rw [e]; decide); simp [h4_3, hne]))) ⟨none, 0, rfl, hw.drop.drop.drop.sub (fun _ hs => by repeat (first | exact hs | apply List.mem_cons_of_mem)), Arr.none⟩
  · have h4_3 : x.bundles.length ≤ 9 := by omega
    refine VL.nil ?_
    refine VX.next ?_
    refine VC.no rfl ?_
    refine VC.skip ?_
    refine VX.next ?_
    refine VC.seq ?_
    refine VC.seq ?_
    refine VC.region ?_
    refine VL.fieldAddr rfl fo110_0 rfl ?_
    refine VL.load (v := .int .u8 (x.kind)) 2 0 rfl kd5 (fun _ h => h) rfl rfl rfl ?_
    refine VL.nil ?_
    refine VX.next ?_
    refine VC.block ?_
    refine VC.seq ?_
    refine VC.region ?_
    refine VL.eql rfl rfl ?_
    refine VL.case (fun h8_0 => ?_) (fun h8_0 => ?_)
    · have h8_0 : x.kind = 1 := by have h : ((x.kind : Nat) : Int) = 1 := h8_0; omega
      refine VL.assign rfl ?_
      refine VL.nil ?_
      refine VX.next ?_
      refine VC.yes rfl ?_
      refine VC.seq ?_
      refine VC.seq ?_
      refine VC.region ?_
      refine VL.fieldAddr rfl fo110_4 rfl ?_
      refine VL.load (v := .slice q (x.bundles).length d) 2 4 rfl kd108 (fun _ h => h) rfl rfl rfl ?_
      refine VL.len Try.underlying108 rfl rfl ?_
      refine VL.move rfl ?_
      refine VL.nil ?_
      refine VX.next ?_
      refine VC.block ?_
      refine VC.loop (X := Nat × Option Nat × Nat) (fun (i, gp, c0) => [(1, .pointer (some ⟨g1, 0, none⟩)), (4, .pointer (some ⟨g2, 0, none⟩)), (28, .slice q x.bundles.length d), (29, .int .i64 x.bundles.length), (30, .int .i64 (i : Int))]) (fun (i, gp, c0) w' => i ≤ x.bundles.length ∧ Own (⟨w, keys H⟩ :: S) (wblk g2 gp c0 (([be 1 x.kind, be 2 x.seq] ++ (x.bundles.take i).map bundleB)).length false :: brow gp c0 (([be 1 x.kind, be 2 x.seq] ++ (x.bundles.take i).map bundleB)) :: blk g1 110 calL (calV (x) q d p c) :: H) w') (fun (i, _) => x.bundles.length - i) (0, gp6, c7) ⟨rfl, rfl, rfl, rfl, rfl, trivial⟩ (fun w' h => ⟨Nat.zero_le _, h.sub (fun _ hs => by repeat (first | exact hs | apply List.mem_cons_of_mem))⟩) (fun (i, gp, c0) => VC.fact fun hi => ?_)
      · have htk : (List.take i x.bundles).length ≤ i := List.length_take_le _ _
        refine VC.seq ?_
        refine VC.region ?_
        refine VL.lss rfl rfl ?_
        refine VL.case (fun h10 => ?_) (fun h10 => ?_)
        · have hlt : i < x.bundles.length := by omega
          refine VL.nil ?_
          refine VX.next ?_
          refine VC.seq ?_
          refine VC.yes rfl ?_
          refine VC.skip ?_
          refine VX.next ?_
          refine VC.seq ?_
          refine VC.block ?_
          refine VC.seq ?_
          refine VC.region ?_
          refine VL.index (xs := x.bundles) rfl rfl Try.underlying108 sz108 hV (by omega) (by have hi := hlt; omega) ?_
          refine VL.elems (s := ⟨w, _⟩) (m := 162) (i) 0 rfl kd82 (fun _ h => h) (by repeat (first | exact List.mem_cons_self .. | apply List.mem_cons_of_mem)) hV (List.getElem?_eq_getElem hlt) (by simp) (by decide) (fun vs hl hr => ?_)
          obtain ⟨hy10, rfl⟩ := hr
          refine VL.newv (v' := .agg (cat (bundleV (x.bundles[i]'hlt))).toArray) (by rw [List.drop_zero, List.take_of_length_le (by rw [hl]; decide)]) ?_
          refine VL.alloc (L := bundleL) (ps := (bundleV (bundle0))) zero82 rfl rfl (fun g11 => ?_)
          refine VL.store (L := bundleL) (qs := (bundleV ((x.bundles[i]'hlt)))) (ps' := (bundleV ((x.bundles[i]'hlt)))) 0 0 6 rfl rfl rfl (.inl kd82) rfl rfl (bundleV_len (hx.bundles _ (List.getElem_mem hlt))) (bundleV_ok1 ((x.bundles[i]'hlt))) rfl rfl ?_
          refine VL.turn (G' := Own _ (blk g11 82 bundleL (bundleV ((x.bundles[i]'hlt))) :: wblk g2 gp c0 (([be 1 x.kind, be 2 x.seq] ++ (x.bundles.take i).map bundleB)).length false :: brow gp c0 (([be 1 x.kind, be 2 x.seq] ++ (x.bundles.take i).map bundleB)) :: blk g1 110 calL (calV (x) q d p c) :: H)) (fun _ h => h) ?_
          refine VL.nil ?_
          refine VX.next ?_
          refine VC.turn (G' := Own _ (wblk g2 gp c0 (([be 1 x.kind, be 2 x.seq] ++ (x.bundles.take i).map bundleB)).length false :: brow gp c0 (([be 1 x.kind, be 2 x.seq] ++ (x.bundles.take i).map bundleB)) :: blk g11 82 bundleL (bundleV ((x.bundles[i]'hlt))) :: blk g1 110 calL (calV (x) q d p c) :: H)) (fun w' h => Own.rot3 h) ?_
          refine VC.region ?_
          refine VL.move rfl ?_
          refine VL.loads (cs := cat (bundleV ((x.bundles[i]'hlt)))) 2 0 6 rfl kd82 (fun _ h => h) rfl rfl rfl rfl ?_
          refine VL.call Try.func60 rfl (by decide) rfl (fun w' hw => putBundle_w hw (x := ((x.bundles[i]'hlt))) (hx.bundles _ (List.getElem_mem hlt))) (fun v => ?_)
          refine VL.at (fun w12 h1w => ?_)
          obtain ⟨p13, c14, rfl, hO16, hA15⟩ := h1w
          replace hA15 : Bytes _ w12 p13 (bundleB ((x.bundles[i]'hlt))) c14 := hA15
          refine VL.toOwn hO16 ?_
          refine VL.extract rfl rfl ?_
          refine VL.extract rfl rfl ?_
          refine VL.call Try.func117 rfl (by decide) rfl (fun w' hw => piece_w hw (by simp only [List.length_append, List.length_cons, List.length_nil, List.length_map]; omega) (hA15.now (s := ⟨w12, _⟩) Mono.byte hw (by repeat (first | exact List.mem_cons_self .. | apply List.mem_cons_of_mem))) true) (fun v => ?_)
          refine VL.fact fun e19 => ?_
          subst e19
          refine VL.ex fun gp17 => VL.ex fun c18 => ?_
          refine VL.nil ?_
          refine VX.block_normal ?_
          refine VX.next ?_
          refine VC.region ?_
          refine VL.add rfl rfl (by simp only [InR]; omega) ?_
          refine VL.move rfl ?_
          refine VL.nil ?_
          refine VX.round (i + 1, gp17, c18) ⟨rfl, rfl, rfl, rfl, rfl, trivial⟩ (fun w' h => ⟨by omega, ?_⟩) (by show x.bundles.length - (i + 1) < x.bundles.length - i; omega)
          rw [← bundle_next hlt, ← List.append_assoc]
          exact (Own.drop3 h).sub (fun _ hs => by repeat (first | exact hs | apply List.mem_cons_of_mem))
        · have hie : i = x.bundles.length := by omega
          refine VL.nil ?_
          refine VX.next ?_
          refine VC.seq ?_
          refine VC.no rfl ?_
          refine VC.exit ?_
          refine VX.then_exit ?_
          refine VX.then_exit ?_
          refine VX.block_here ?_
          refine VX.next ?_
          refine VC.region ?_
          refine VL.fieldAddr rfl fo110_4 rfl ?_
          refine VL.store (L := calL) (qs := [[.slice none (([] : List Bundle)).length 0]]) (ps' := [[.int .u8 (x.kind)], [.int .u16 (x.seq)], [.int .u8 (x.peer)], [.int .u16 (x.mark)], [.slice none (([] : List Bundle)).length 0], [.int .u8 (x.letter.src)], [.int .u8 (x.letter.dst)], (x.letter.header.session).map bv, [.bool x.letter.header.first], (x.letter.header.agree).map bv, (x.letter.header.signer).map bv, (x.letter.header.base).map bv, [.int .u16 (x.letter.header.id)], (x.letter.header.ratchet).map bv, [.int .u16 (x.letter.header.n)], [.int .u16 (x.letter.header.prev)], [.slice p (x.letter.body).length c]]) 2 4 1 rfl rfl rfl (.inr ⟨kd108, rfl⟩) rfl rfl rfl (by intro u hu; simp [cat] at hu; subst hu; rfl) rfl rfl ?_
          refine VL.turn (G' := Own _ (wblk g2 gp c0 (([be 1 x.kind, be 2 x.seq] ++ (x.bundles.take i).map bundleB)).length false :: brow gp c0 (([be 1 x.kind, be 2 x.seq] ++ (x.bundles.take i).map bundleB)) :: blk g1 110 calL [[.int .u8 (x.kind)], [.int .u16 (x.seq)], [.int .u8 (x.peer)], [.int .u16 (x.mark)], [.slice none (([] : List Bundle)).length 0], [.int .u8 (x.letter.src)], [.int .u8 (x.letter.dst)], (x.letter.header.session).map bv, [.bool x.letter.header.first], (x.letter.header.agree).map bv, (x.letter.header.signer).map bv, (x.letter.header.base).map bv, [.int .u16 (x.letter.header.id)], (x.letter.header.ratchet).map bv, [.int .u16 (x.letter.header.n)], [.int .u16 (x.letter.header.prev)], [.slice p (x.letter.body).length c]] :: H)) (fun _ h => h) ?_
          refine VL.nil ?_
          refine VX.block_normal ?_
          refine VX.next ?_
          refine VC.seq ?_
          refine VC.seq ?_
          refine VC.region ?_
          refine VL.fieldAddr rfl fo110_2 rfl ?_
          refine VL.load (v := .int .u8 (x.peer)) 2 2 rfl kd5 (fun _ h => h) rfl rfl rfl ?_
          refine VL.neq rfl rfl ?_
          refine VL.case (fun h24_2 => ?_) (fun h24_2 => ?_)
          · have h24_2 : ¬ x.peer = 0 := by have h : ((x.peer : Nat) : Int) ≠ 0 := h24_2; omega
            refine VL.move rfl ?_
            refine VL.pass rfl rfl rfl rfl rfl ?_
            refine VL.pass rfl rfl rfl rfl rfl ?_
            refine VL.pass rfl rfl rfl rfl rfl ?_
            refine VL.pick_t rfl rfl ?_
            refine VL.move rfl ?_
            refine VL.pass rfl rfl rfl rfl rfl ?_
            refine VL.pass rfl rfl rfl rfl rfl ?_
            refine VL.pass rfl rfl rfl rfl rfl ?_
            refine VL.pass rfl rfl rfl rfl rfl ?_
            refine VL.pick_t rfl rfl ?_
            refine VL.move rfl ?_
            refine VL.pass rfl rfl rfl rfl rfl ?_
            refine VL.pass rfl rfl rfl rfl rfl ?_
            refine VL.pass rfl rfl rfl rfl rfl ?_
            refine VL.pass rfl rfl rfl rfl rfl ?_
            refine VL.pick_t rfl rfl ?_
            refine VL.nil ?_
            refine VX.next ?_
            refine VC.yes rfl ?_
            refine VC.seq ?_
            refine VC.region ?_
            refine VL.assign rfl ?_
            refine VL.assign rfl ?_
            refine VL.nil ?_
            refine VX.next ?_
            refine VC.ret ?_
            refine VX.then_ret ?_
            refine VX.ret2 rfl rfl rfl (fun we hw => ?_)
            exact postO ((callO_none (by unfold callGood; simp [h4_3, h8_0, h24_2]))) ⟨none, 0, rfl, hw.drop.drop.drop.sub (fun _ hs => by repeat (first | exact hs | apply List.mem_cons_of_mem)), Arr.none⟩
          · have h24_2 : x.peer = 0 := by have h : ¬ ((x.peer : Nat) : Int) ≠ 0 := h24_2; omega
            refine VL.move rfl ?_
            refine VL.go rfl rfl rfl ?_
            refine VL.fieldAddr rfl fo110_3 rfl ?_
            refine VL.go rfl rfl rfl ?_
            refine VL.load (v := .int .u16 (x.mark)) 2 3 rfl kd68 (fun _ h => h) rfl rfl rfl ?_
            refine VL.go rfl rfl rfl ?_
            refine VL.neq rfl rfl ?_
            refine VL.case (fun h24_6 => ?_) (fun h24_6 => ?_)
            · have h24_6 : ¬ x.mark = 0 := by have h : ((x.mark : Nat) : Int) ≠ 0 := h24_6; omega
              refine VL.pick_f rfl rfl ?_
              refine VL.move rfl ?_
              refine VL.pass rfl rfl rfl rfl rfl ?_
              refine VL.pass rfl rfl rfl rfl rfl ?_
              refine VL.pass rfl rfl rfl rfl rfl ?_
              refine VL.pass rfl rfl rfl rfl rfl ?_
              refine VL.pick_t rfl rfl ?_
              refine VL.move rfl ?_
              refine VL.pass rfl rfl rfl rfl rfl ?_
              refine VL.pass rfl rfl rfl rfl rfl ?_
              refine VL.pass rfl rfl rfl rfl rfl ?_
              refine VL.pass rfl rfl rfl rfl rfl ?_
              refine VL.pick_t rfl rfl ?_
              refine VL.nil ?_
              refine VX.next ?_
              refine VC.yes rfl ?_
              refine VC.seq ?_
              refine VC.region ?_
              refine VL.assign rfl ?_
              refine VL.assign rfl ?_
              refine VL.nil ?_
              refine VX.next ?_
              refine VC.ret ?_
              refine VX.then_ret ?_
              refine VX.ret2 rfl rfl rfl (fun we hw => ?_)
              exact postO ((callO_none (by unfold callGood; simp [h4_3, h8_0, h24_2, h24_6]))) ⟨none, 0, rfl, hw.drop.drop.drop.sub (fun _ hs => by repeat (first | exact hs | apply List.mem_cons_of_mem)), Arr.none⟩
            · have h24_6 : x.mark = 0 := by have h : ¬ ((x.mark : Nat) : Int) ≠ 0 := h24_6; omega
              refine VL.pick_f rfl rfl ?_
              refine VL.move rfl ?_
              refine VL.go rfl rfl rfl ?_
              refine VL.fieldAddr rfl fo110_4 rfl ?_
              refine VL.go rfl rfl rfl ?_
              refine VL.load (v := .slice none (([] : List Bundle)).length 0) 2 4 rfl kd108 (fun _ h => h) rfl rfl rfl ?_
              refine VL.go rfl rfl rfl ?_
              refine VL.len Try.underlying108 rfl rfl ?_
              refine VL.go rfl rfl rfl ?_
              refine VL.gtr rfl rfl ?_
              refine VL.no (by decide) ?_
              refine VL.pick_f rfl rfl ?_
              refine VL.move rfl ?_
              refine VL.go rfl rfl rfl ?_
              refine VL.fieldAddr rfl fo110_5 rfl ?_
              refine VL.go rfl rfl rfl ?_
              refine VL.loads (cs := cat (letterV (x.letter) p c)) 2 5 12 rfl kd72 (fun _ h => h) rfl rfl rfl rfl ?_
              refine VL.go rfl rfl rfl ?_
              refine VL.call Try.func138 rfl (by decide) rfl (fun w' hw => emptyLetter_w hw (x := x.letter) hx.letter) (fun v => ?_)
              refine VL.ex fun b => VL.fact fun e => VL.fact fun h24_17 => ?_
              subst e
              cases b
              · have h24_17 := mt h24_17.2 (by decide)
                refine VL.go rfl rfl rfl ?_
                refine VL.not rfl ?_
                refine VL.pick_f rfl rfl ?_
                refine VL.nil ?_
                refine VX.next ?_
                refine VC.yes rfl ?_
                refine VC.seq ?_
                refine VC.region ?_
                refine VL.assign rfl ?_
                refine VL.assign rfl ?_
                refine VL.nil ?_
                refine VX.next ?_
                refine VC.ret ?_
                refine VX.then_ret ?_
                refine VX.ret2 rfl rfl rfl (fun we hw => ?_)
                exact postO ((callO_none (by unfold callGood; simp [h4_3, h8_0, h24_2, h24_6, h24_17]))) ⟨none, 0, rfl, hw.drop.drop.drop.sub (fun _ hs => by repeat (first | exact hs | apply List.mem_cons_of_mem)), Arr.none⟩
              · have h24_17 := h24_17.1 rfl
                refine VL.go rfl rfl rfl ?_
                refine VL.not rfl ?_
                refine VL.pick_f rfl rfl ?_
                refine VL.nil ?_
                refine VX.next ?_
                refine VC.no rfl ?_
                refine VC.skip ?_
                refine VX.next ?_
                refine VC.seq ?_
                refine VC.region ?_
                refine VL.move rfl ?_
                refine VL.call Try.func118 rfl (by decide) rfl (fun w' hw => done_O hw) (fun v => ?_)
                refine VL.at (fun w20 h1w => ?_)
                obtain ⟨p21, c22, rfl, hO24, hA23⟩ := h1w
                refine VL.toOwn hO24 ?_
                refine VL.extract rfl rfl ?_
                refine VL.extract rfl rfl ?_
                refine VL.assign rfl ?_
                refine VL.assign rfl ?_
                refine VL.nil ?_
                refine VX.next ?_
                refine VC.ret ?_
                refine VX.ret2 rfl rfl rfl (fun we hw => ?_)
                exact postO ((show joinO ([be 1 x.kind, be 2 x.seq] ++ (x.bundles.take i).map bundleB) true = callO x from by rw [hie, List.take_length]; exact callO_1 h8_0 (by unfold callGood; simp [h4_3, h8_0, h24_2, h24_6, h24_17]))) ⟨p21, c22, rfl, hw.drop.sub (fun _ hs => by repeat (first | exact hs | apply List.mem_cons_of_mem)), (hA23.now (s := ⟨w20, _⟩) Mono.byte hw.drop (by repeat (first | exact List.mem_cons_self .. | apply List.mem_cons_of_mem)))⟩
    · have h8_0 : x.kind ≠ 1 := by have h : ¬ ((x.kind : Nat) : Int) = 1 := h8_0; omega
      refine VL.assign rfl ?_
      refine VL.nil ?_
      refine VX.next ?_
      refine VC.no rfl ?_
      refine VC.seq ?_
      refine VC.region ?_
      refine VL.eql rfl rfl ?_
      refine VL.case (fun h15_0 => ?_) (fun h15_0 => ?_)
      · have h15_0 : x.kind = 2 := by have h : ((x.kind : Nat) : Int) = 2 := h15_0; omega
        refine VL.assign rfl ?_
        refine VL.nil ?_
        refine VX.next ?_
        refine VC.yes rfl ?_
        refine VC.seq ?_
        refine VC.region ?_
        refine VL.move rfl ?_
        refine VL.fieldAddr rfl fo110_2 rfl ?_
        refine VL.load (v := .int .u8 (x.peer)) 2 2 rfl kd5 (fun _ h => h) rfl rfl rfl ?_
        refine VL.conv (by rw [Try.underlying5]; rfl) Try.underlying22 rfl (inr_u64 (by omega)) ?_
        refine VL.call Try.func116 rfl (by decide) rfl (fun w' hw => num_w hw (by simp only [List.length_append, List.length_cons, List.length_nil, List.length_map]; omega) (x.peer) (fits_small (by omega)) 1 (by decide) (by decide) (fits1 (by omega))) (fun v => ?_)
        refine VL.fact fun e27 => ?_
        subst e27
        refine VL.ex fun gp25 => VL.ex fun c26 => ?_
        refine VL.nil ?_
        refine VX.next ?_
        refine VC.region ?_
        refine VL.fieldAddr rfl fo110_2 rfl ?_
        refine VL.store (L := calL) (qs := [[.int .u8 (0)]]) (ps' := [[.int .u8 (x.kind)], [.int .u16 (x.seq)], [.int .u8 (0)], [.int .u16 (x.mark)], [.slice q (x.bundles).length d], [.int .u8 (x.letter.src)], [.int .u8 (x.letter.dst)], (x.letter.header.session).map bv, [.bool x.letter.header.first], (x.letter.header.agree).map bv, (x.letter.header.signer).map bv, (x.letter.header.base).map bv, [.int .u16 (x.letter.header.id)], (x.letter.header.ratchet).map bv, [.int .u16 (x.letter.header.n)], [.int .u16 (x.letter.header.prev)], [.slice p (x.letter.body).length c]]) 2 2 1 rfl rfl rfl (.inr ⟨kd5, rfl⟩) rfl rfl rfl (by intro u hu; simp [cat] at hu; subst hu; rfl) rfl rfl ?_
        refine VL.turn (G' := Own _ (wblk g2 gp25 c26 ((((([] : List (List UInt8)) ++ [be 1 (x.kind)]) ++ [be 2 (x.seq)]) ++ [be 1 (x.peer)])).length false :: brow gp25 c26 ((((([] : List (List UInt8)) ++ [be 1 (x.kind)]) ++ [be 2 (x.seq)]) ++ [be 1 (x.peer)])) :: blk g1 110 calL [[.int .u8 (x.kind)], [.int .u16 (x.seq)], [.int .u8 (0)], [.int .u16 (x.mark)], [.slice q (x.bundles).length d], [.int .u8 (x.letter.src)], [.int .u8 (x.letter.dst)], (x.letter.header.session).map bv, [.bool x.letter.header.first], (x.letter.header.agree).map bv, (x.letter.header.signer).map bv, (x.letter.header.base).map bv, [.int .u16 (x.letter.header.id)], (x.letter.header.ratchet).map bv, [.int .u16 (x.letter.header.n)], [.int .u16 (x.letter.header.prev)], [.slice p (x.letter.body).length c]] :: H)) (fun _ h => h) ?_
        refine VL.nil ?_
        refine VX.block_normal ?_
        refine VX.next ?_
        refine VC.seq ?_
        refine VC.seq ?_
        refine VC.region ?_
        refine VL.fieldAddr rfl fo110_2 rfl ?_
        refine VL.load (v := .int .u8 (0)) 2 2 rfl kd5 (fun _ h => h) rfl rfl rfl ?_
        refine VL.neq rfl rfl ?_
        refine VL.no (by decide) ?_
        refine VL.move rfl ?_
        refine VL.go rfl rfl rfl ?_
        refine VL.fieldAddr rfl fo110_3 rfl ?_
        refine VL.go rfl rfl rfl ?_
        refine VL.load (v := .int .u16 (x.mark)) 2 3 rfl kd68 (fun _ h => h) rfl rfl rfl ?_
        refine VL.go rfl rfl rfl ?_
        refine VL.neq rfl rfl ?_
        refine VL.case (fun h24_6 => ?_) (fun h24_6 => ?_)
        · have h24_6 : ¬ x.mark = 0 := by have h : ((x.mark : Nat) : Int) ≠ 0 := h24_6; omega
          refine VL.pick_f rfl rfl ?_
          refine VL.move rfl ?_
          refine VL.pass rfl rfl rfl rfl rfl ?_
          refine VL.pass rfl rfl rfl rfl rfl ?_
          refine VL.pass rfl rfl rfl rfl rfl ?_
          refine VL.pass rfl rfl rfl rfl rfl ?_
          refine VL.pick_t rfl rfl ?_
          refine VL.move rfl ?_
          refine VL.pass rfl rfl rfl rfl rfl ?_
          refine VL.pass rfl rfl rfl rfl rfl ?_
          refine VL.pass rfl rfl rfl rfl rfl ?_
          refine VL.pass rfl rfl rfl rfl rfl ?_
          refine VL.pick_t rfl rfl ?_
          refine VL.nil ?_
          refine VX.next ?_
          refine VC.yes rfl ?_
          refine VC.seq ?_
          refine VC.region ?_
          refine VL.assign rfl ?_
          refine VL.assign rfl ?_
          refine VL.nil ?_
          refine VX.next ?_
          refine VC.ret ?_
          refine VX.then_ret ?_
          refine VX.ret2 rfl rfl rfl (fun we hw => ?_)
          exact postO ((callO_none (by unfold callGood; simp [h4_3, h8_0, h15_0, h24_6]))) ⟨none, 0, rfl, hw.drop.drop.drop.sub (fun _ hs => by repeat (first | exact hs | apply List.mem_cons_of_mem)), Arr.none⟩
        · have h24_6 : x.mark = 0 := by have h : ¬ ((x.mark : Nat) : Int) ≠ 0 := h24_6; omega
          refine VL.pick_f rfl rfl ?_
          refine VL.move rfl ?_
          refine VL.go rfl rfl rfl ?_
          refine VL.fieldAddr rfl fo110_4 rfl ?_
          refine VL.go rfl rfl rfl ?_
          refine VL.load (v := .slice q (x.bundles).length d) 2 4 rfl kd108 (fun _ h => h) rfl rfl rfl ?_
          refine VL.go rfl rfl rfl ?_
          refine VL.len Try.underlying108 rfl rfl ?_
          refine VL.go rfl rfl rfl ?_
          refine VL.gtr rfl rfl ?_
          refine VL.case (fun h24_12 => ?_) (fun h24_12 => ?_)
          · have h24_12 : x.bundles ≠ [] := fun e => by rw [e] at h24_12; exact absurd h24_12 (by decide)
            refine VL.pick_f rfl rfl ?_
            refine VL.move rfl ?_
            refine VL.pass rfl rfl rfl rfl rfl ?_
            refine VL.pass rfl rfl rfl rfl rfl ?_
            refine VL.pass rfl rfl rfl rfl rfl ?_
            refine VL.pass rfl rfl rfl rfl rfl ?_
            refine VL.pick_t rfl rfl ?_
            refine VL.nil ?_
            refine VX.next ?_
            refine VC.yes rfl ?_
            refine VC.seq ?_
            refine VC.region ?_
            refine VL.assign rfl ?_
            refine VL.assign rfl ?_
            refine VL.nil ?_
            refine VX.next ?_
            refine VC.ret ?_
            refine VX.then_ret ?_
            refine VX.ret2 rfl rfl rfl (fun we hw => ?_)
            exact postO ((callO_none (by unfold callGood; simp [h4_3, h8_0, h15_0, h24_6, h24_12]))) ⟨none, 0, rfl, hw.drop.drop.drop.sub (fun _ hs => by repeat (first | exact hs | apply List.mem_cons_of_mem)), Arr.none⟩
          · have h24_12 : x.bundles = [] := List.eq_nil_of_length_eq_zero (by omega)
            refine VL.pick_f rfl rfl ?_
            refine VL.move rfl ?_
            refine VL.go rfl rfl rfl ?_
            refine VL.fieldAddr rfl fo110_5 rfl ?_
            refine VL.go rfl rfl rfl ?_
            refine VL.loads (cs := cat (letterV (x.letter) p c)) 2 5 12 rfl kd72 (fun _ h => h) rfl rfl rfl rfl ?_
            refine VL.go rfl rfl rfl ?_
            refine VL.call Try.func138 rfl (by decide) rfl (fun w' hw => emptyLetter_w hw (x := x.letter) hx.letter) (fun v => ?_)
            refine VL.ex fun b => VL.fact fun e => VL.fact fun h24_17 => ?_
            subst e
            cases b
            · have h24_17 := mt h24_17.2 (by decide)
              refine VL.go rfl rfl rfl ?_
              refine VL.not rfl ?_
              refine VL.pick_f rfl rfl ?_
              refine VL.nil ?_
              refine VX.next ?_
              refine VC.yes rfl ?_
              refine VC.seq ?_
              refine VC.region ?_
              refine VL.assign rfl ?_
              refine VL.assign rfl ?_
              refine VL.nil ?_
              refine VX.next ?_
              refine VC.ret ?_
              refine VX.then_ret ?_
              refine VX.ret2 rfl rfl rfl (fun we hw => ?_)
              exact postO ((callO_none (by unfold callGood; simp [h4_3, h8_0, h15_0, h24_6, h24_12, h24_17]))) ⟨none, 0, rfl, hw.drop.drop.drop.sub (fun _ hs => by repeat (first | exact hs | apply List.mem_cons_of_mem)), Arr.none⟩
            · have h24_17 := h24_17.1 rfl
              refine VL.go rfl rfl rfl ?_
              refine VL.not rfl ?_
              refine VL.pick_f rfl rfl ?_
              refine VL.nil ?_
              refine VX.next ?_
              refine VC.no rfl ?_
              refine VC.skip ?_
              refine VX.next ?_
              refine VC.seq ?_
              refine VC.region ?_
              refine VL.move rfl ?_
              refine VL.call Try.func118 rfl (by decide) rfl (fun w' hw => done_O hw) (fun v => ?_)
              refine VL.at (fun w28 h1w => ?_)
              obtain ⟨p29, c30, rfl, hO32, hA31⟩ := h1w
              refine VL.toOwn hO32 ?_
              refine VL.extract rfl rfl ?_
              refine VL.extract rfl rfl ?_
              refine VL.assign rfl ?_
              refine VL.assign rfl ?_
              refine VL.nil ?_
              refine VX.next ?_
              refine VC.ret ?_
              refine VX.ret2 rfl rfl rfl (fun we hw => ?_)
              exact postO ((callO_2 h15_0 (by unfold callGood; simp [h4_3, h8_0, h15_0, h24_6, h24_12, h24_17]))) ⟨p29, c30, rfl, hw.drop.sub (fun _ hs => by repeat (first | exact hs | apply List.mem_cons_of_mem)), (hA31.now (s := ⟨w28, _⟩) Mono.byte hw.drop (by repeat (first | exact List.mem_cons_self .. | apply List.mem_cons_of_mem)))⟩
      · have h15_0 : x.kind ≠ 2 := by have h : ¬ ((x.kind : Nat) : Int) = 2 := h15_0; omega
        refine VL.assign rfl ?_
        refine VL.nil ?_
        refine VX.next ?_
        refine VC.no rfl ?_
        refine VC.seq ?_
        refine VC.region ?_
        refine VL.eql rfl rfl ?_
        refine VL.case (fun h18_0 => ?_) (fun h18_0 => ?_)
        · have h18_0 : x.kind = 3 := by have h : ((x.kind : Nat) : Int) = 3 := h18_0; omega
          refine VL.assign rfl ?_
          refine VL.nil ?_
          refine VX.next ?_
          refine VC.yes rfl ?_
          refine VC.seq ?_
          refine VC.region ?_
          refine VL.move rfl ?_
          refine VL.fieldAddr rfl fo110_5 rfl ?_
          refine VL.loads (cs := cat (letterV (x.letter) p c)) 2 5 12 rfl kd72 (fun _ h => h) rfl rfl rfl rfl ?_
          refine VL.call Try.func50 rfl (by decide) rfl (fun w' hw => putLetter_w hw (x := x.letter) hx.letter (hA.now (s := ⟨w, _⟩) Mono.byte hw (by repeat (first | exact List.mem_cons_self .. | apply List.mem_cons_of_mem)))) (fun v => ?_)
          refine VL.at (fun w33 h1w => ?_)
          obtain ⟨p34, c35, rfl, hO37, hA36⟩ := h1w
          refine VL.toOwn hO37 ?_
          refine VL.extract rfl rfl ?_
          refine VL.extract rfl rfl ?_
          refine VL.call Try.func117 rfl (by decide) rfl (fun w' hw => piece_w hw (by simp only [List.length_append, List.length_cons, List.length_nil, List.length_map]; omega) (hA36.now (s := ⟨w33, _⟩) Mono.byte hw (by repeat (first | exact List.mem_cons_self .. | apply List.mem_cons_of_mem))) (((letterO (x.letter)).isSome))) (fun v => ?_)
          refine VL.fact fun e40 => ?_
          subst e40
          refine VL.ex fun gp38 => VL.ex fun c39 => ?_
          refine VL.nil ?_
          refine VX.next ?_
          refine VC.region ?_
          refine VL.build0 (cs := cat (letterV (letter0) none 0)) built72 ?_
          refine VL.fieldAddr rfl fo110_5 rfl ?_
          refine VL.store (L := calL) (qs := (letterV (letter0) none 0)) (ps' := [[.int .u8 (x.kind)], [.int .u16 (x.seq)], [.int .u8 (x.peer)], [.int .u16 (x.mark)], [.slice q (x.bundles).length d], [.int .u8 (letter0.src)], [.int .u8 (letter0.dst)], (letter0.header.session).map bv, [.bool letter0.header.first], (letter0.header.agree).map bv, (letter0.header.signer).map bv, (letter0.header.base).map bv, [.int .u16 (letter0.header.id)], (letter0.header.ratchet).map bv, [.int .u16 (letter0.header.n)], [.int .u16 (letter0.header.prev)], [.slice none ([]).length 0]]) 2 5 12 rfl rfl rfl (.inl kd72) rfl rfl rfl (letterV_ok1 letter0 none 0) rfl rfl ?_
          refine VL.turn (G' := Own _ (wblk g2 gp38 c39 ((((([] : List (List UInt8)) ++ [be 1 (x.kind)]) ++ [be 2 (x.seq)]) ++ [((letterO (x.letter)).getD [])])).length (false || !((letterO (x.letter)).isSome)) :: brow gp38 c39 ((((([] : List (List UInt8)) ++ [be 1 (x.kind)]) ++ [be 2 (x.seq)]) ++ [((letterO (x.letter)).getD [])])) :: blk g1 110 calL [[.int .u8 (x.kind)], [.int .u16 (x.seq)], [.int .u8 (x.peer)], [.int .u16 (x.mark)], [.slice q (x.bundles).length d], [.int .u8 (letter0.src)], [.int .u8 (letter0.dst)], (letter0.header.session).map bv, [.bool letter0.header.first], (letter0.header.agree).map bv, (letter0.header.signer).map bv, (letter0.header.base).map bv, [.int .u16 (letter0.header.id)], (letter0.header.ratchet).map bv, [.int .u16 (letter0.header.n)], [.int .u16 (letter0.header.prev)], [.slice none ([]).length 0]] :: H)) (fun _ h => h) ?_
          refine VL.nil ?_
          refine VX.block_normal ?_
          refine VX.next ?_
          refine VC.seq ?_
          refine VC.seq ?_
          refine VC.region ?_
          refine VL.fieldAddr rfl fo110_2 rfl ?_
          refine VL.load (v := .int .u8 (x.peer)) 2 2 rfl kd5 (fun _ h => h) rfl rfl rfl ?_
          refine VL.neq rfl rfl ?_
          refine VL.case (fun h24_2 => ?_) (fun h24_2 => ?_)
          · have h24_2 : ¬ x.peer = 0 := by have h : ((x.peer : Nat) : Int) ≠ 0 := h24_2; omega
            refine VL.move rfl ?_
            refine VL.pass rfl rfl rfl rfl rfl ?_
            refine VL.pass rfl rfl rfl rfl rfl ?_
            refine VL.pass rfl rfl rfl rfl rfl ?_
            refine VL.pick_t rfl rfl ?_
            refine VL.move rfl ?_
            refine VL.pass rfl rfl rfl rfl rfl ?_
            refine VL.pass rfl rfl rfl rfl rfl ?_
            refine VL.pass rfl rfl rfl rfl rfl ?_
            refine VL.pass rfl rfl rfl rfl rfl ?_
            refine VL.pick_t rfl rfl ?_
            refine VL.move rfl ?_
            refine VL.pass rfl rfl rfl rfl rfl ?_
            refine VL.pass rfl rfl rfl rfl rfl ?_
            refine VL.pass rfl rfl rfl rfl rfl ?_
            refine VL.pass rfl rfl rfl rfl rfl ?_
            refine VL.pick_t rfl rfl ?_
            refine VL.nil ?_
            refine VX.next ?_
            refine VC.yes rfl ?_
            refine VC.seq ?_
            refine VC.region ?_
            refine VL.assign rfl ?_
            refine VL.assign rfl ?_
            refine VL.nil ?_
            refine VX.next ?_
            refine VC.ret ?_
            refine VX.then_ret ?_
            refine VX.ret2 rfl rfl rfl (fun we hw => ?_)
            exact postO ((callO_none (by unfold callGood; simp [h4_3, h8_0, h15_0, h18_0, h24_2]))) ⟨none, 0, rfl, hw.drop.drop.drop.sub (fun _ hs => by repeat (first | exact hs | apply List.mem_cons_of_mem)), Arr.none⟩
          · have h24_2 : x.peer = 0 := by have h : ¬ ((x.peer : Nat) : Int) ≠ 0 := h24_2; omega
            refine VL.move rfl ?_
            refine VL.go rfl rfl rfl ?_
            refine VL.fieldAddr rfl fo110_3 rfl ?_
            refine VL.go rfl rfl rfl ?_
            refine VL.load (v := .int .u16 (x.mark)) 2 3 rfl kd68 (fun _ h => h) rfl rfl rfl ?_
            refine VL.go rfl rfl rfl ?_
            refine VL.neq rfl rfl ?_
            refine VL.case (fun h24_6 => ?_) (fun h24_6 => ?_)
            · have h24_6 : ¬ x.mark = 0 := by have h : ((x.mark : Nat) : Int) ≠ 0 := h24_6; omega
              refine VL.pick_f rfl rfl ?_
              refine VL.move rfl ?_
              refine VL.pass rfl rfl rfl rfl rfl ?_
              refine VL.pass rfl rfl rfl rfl rfl ?_
              refine VL.pass rfl rfl rfl rfl rfl ?_
              refine VL.pass rfl rfl rfl rfl rfl ?_
              refine VL.pick_t rfl rfl ?_
              refine VL.move rfl ?_
              refine VL.pass rfl rfl rfl rfl rfl ?_
              refine VL.pass rfl rfl rfl rfl rfl ?_
              refine VL.pass rfl rfl rfl rfl rfl ?_
              refine VL.pass rfl rfl rfl rfl rfl ?_
              refine VL.pick_t rfl rfl ?_
              refine VL.nil ?_
              refine VX.next ?_
              refine VC.yes rfl ?_
              refine VC.seq ?_
              refine VC.region ?_
              refine VL.assign rfl ?_
              refine VL.assign rfl ?_
              refine VL.nil ?_
              refine VX.next ?_
              refine VC.ret ?_
              refine VX.then_ret ?_
              refine VX.ret2 rfl rfl rfl (fun we hw => ?_)
              exact postO ((callO_none (by unfold callGood; simp [h4_3, h8_0, h15_0, h18_0, h24_2, h24_6]))) ⟨none, 0, rfl, hw.drop.drop.drop.sub (fun _ hs => by repeat (first | exact hs | apply List.mem_cons_of_mem)), Arr.none⟩
            · have h24_6 : x.mark = 0 := by have h : ¬ ((x.mark : Nat) : Int) ≠ 0 := h24_6; omega
              refine VL.pick_f rfl rfl ?_
              refine VL.move rfl ?_
              refine VL.go rfl rfl rfl ?_
              refine VL.fieldAddr rfl fo110_4 rfl ?_
              refine VL.go rfl rfl rfl ?_
              refine VL.load (v := .slice q (x.bundles).length d) 2 4 rfl kd108 (fun _ h => h) rfl rfl rfl ?_
              refine VL.go rfl rfl rfl ?_
              refine VL.len Try.underlying108 rfl rfl ?_
              refine VL.go rfl rfl rfl ?_
              refine VL.gtr rfl rfl ?_
              refine VL.case (fun h24_12 => ?_) (fun h24_12 => ?_)
              · have h24_12 : x.bundles ≠ [] := fun e => by rw [e] at h24_12; exact absurd h24_12 (by decide)
                refine VL.pick_f rfl rfl ?_
                refine VL.move rfl ?_
                refine VL.pass rfl rfl rfl rfl rfl ?_
                refine VL.pass rfl rfl rfl rfl rfl ?_
                refine VL.pass rfl rfl rfl rfl rfl ?_
                refine VL.pass rfl rfl rfl rfl rfl ?_
                refine VL.pick_t rfl rfl ?_
                refine VL.nil ?_
                refine VX.next ?_
                refine VC.yes rfl ?_
                refine VC.seq ?_
                refine VC.region ?_
                refine VL.assign rfl ?_
                refine VL.assign rfl ?_
                refine VL.nil ?_
                refine VX.next ?_
                refine VC.ret ?_
                refine VX.then_ret ?_
                refine VX.ret2 rfl rfl rfl (fun we hw => ?_)
                exact postO ((callO_none (by unfold callGood; simp [h4_3, h8_0, h15_0, h18_0, h24_2, h24_6, h24_12]))) ⟨none, 0, rfl, hw.drop.drop.drop.sub (fun _ hs => by repeat (first | exact hs | apply List.mem_cons_of_mem)), Arr.none⟩
              · have h24_12 : x.bundles = [] := List.eq_nil_of_length_eq_zero (by omega)
                refine VL.pick_f rfl rfl ?_
                refine VL.move rfl ?_
                refine VL.go rfl rfl rfl ?_
                refine VL.fieldAddr rfl fo110_5 rfl ?_
                refine VL.go rfl rfl rfl ?_
                refine VL.loads (cs := cat (letterV (letter0) none 0)) 2 5 12 rfl kd72 (fun _ h => h) rfl rfl rfl rfl ?_
                refine VL.go rfl rfl rfl ?_
                refine VL.call Try.func138 rfl (by decide) rfl (fun w' hw => emptyLetter0_w hw) (fun v => ?_)
                refine VL.fact fun e41 => ?_
                subst e41
                refine VL.go rfl rfl rfl ?_
                refine VL.not rfl ?_
                refine VL.pick_f rfl rfl ?_
                refine VL.nil ?_
                refine VX.next ?_
                refine VC.no rfl ?_
                refine VC.skip ?_
                refine VX.next ?_
                refine VC.seq ?_
                refine VC.region ?_
                refine VL.move rfl ?_
                refine VL.call Try.func118 rfl (by decide) rfl (fun w' hw => done_O hw) (fun v => ?_)
                refine VL.at (fun w42 h1w => ?_)
                obtain ⟨p43, c44, rfl, hO46, hA45⟩ := h1w
                refine VL.toOwn hO46 ?_
                refine VL.extract rfl rfl ?_
                refine VL.extract rfl rfl ?_
                refine VL.assign rfl ?_
                refine VL.assign rfl ?_
                refine VL.nil ?_
                refine VX.next ?_
                refine VC.ret ?_
                refine VX.ret2 rfl rfl rfl (fun we hw => ?_)
                exact postO ((show joinO [be 1 x.kind, be 2 x.seq, (letterO x.letter).getD []] (!(false || !(letterO x.letter).isSome)) = callO x from by
                  cases hs : (letterO x.letter).isSome
                  · exact (joinO_none (by simp)).trans (callO_none (by unfold callGood; simp [hs, h4_3, h8_0, h15_0, h18_0, h24_2, h24_6, h24_12]))
                  · exact callO_3 h18_0 (by unfold callGood; simp [hs, h4_3, h8_0, h15_0, h18_0, h24_2, h24_6, h24_12]))) ⟨p43, c44, rfl, hw.drop.sub (fun _ hs => by repeat (first | exact hs | apply List.mem_cons_of_mem)), (hA45.now (s := ⟨w42, _⟩) Mono.byte hw.drop (by repeat (first | exact List.mem_cons_self .. | apply List.mem_cons_of_mem)))⟩
        · have h18_0 : x.kind ≠ 3 := by have h : ¬ ((x.kind : Nat) : Int) = 3 := h18_0; omega
          refine VL.assign rfl ?_
          refine VL.nil ?_
          refine VX.next ?_
          refine VC.no rfl ?_
          refine VC.seq ?_
          refine VC.region ?_
          refine VL.eql rfl rfl ?_
          refine VL.case (fun h21_0 => ?_) (fun h21_0 => ?_)
          · have h21_0 : x.kind = 4 := by have h : ((x.kind : Nat) : Int) = 4 := h21_0; omega
            refine VL.assign rfl ?_
            refine VL.nil ?_
            refine VX.next ?_
            refine VC.yes rfl ?_
            refine VC.seq ?_
            refine VC.region ?_
            refine VL.move rfl ?_
            refine VL.fieldAddr rfl fo110_3 rfl ?_
            refine VL.load (v := .int .u16 (x.mark)) 2 3 rfl kd68 (fun _ h => h) rfl rfl rfl ?_
            refine VL.conv (by rw [Try.underlying68]; rfl) Try.underlying22 rfl (inr_u64 (by omega)) ?_
            refine VL.call Try.func116 rfl (by decide) rfl (fun w' hw => num_w hw (by simp only [List.length_append, List.length_cons, List.length_nil, List.length_map]; omega) (x.mark) (fits_small (by omega)) 2 (by decide) (by decide) (fits2 (by omega))) (fun v => ?_)
            refine VL.fact fun e49 => ?_
            subst e49
            refine VL.ex fun gp47 => VL.ex fun c48 => ?_
            refine VL.nil ?_
            refine VX.next ?_
            refine VC.region ?_
            refine VL.fieldAddr rfl fo110_3 rfl ?_
            refine VL.store (L := calL) (qs := [[.int .u16 (0)]]) (ps' := [[.int .u8 (x.kind)], [.int .u16 (x.seq)], [.int .u8 (x.peer)], [.int .u16 (0)], [.slice q (x.bundles).length d], [.int .u8 (x.letter.src)], [.int .u8 (x.letter.dst)], (x.letter.header.session).map bv, [.bool x.letter.header.first], (x.letter.header.agree).map bv, (x.letter.header.signer).map bv, (x.letter.header.base).map bv, [.int .u16 (x.letter.header.id)], (x.letter.header.ratchet).map bv, [.int .u16 (x.letter.header.n)], [.int .u16 (x.letter.header.prev)], [.slice p (x.letter.body).length c]]) 2 3 1 rfl rfl rfl (.inr ⟨kd68, rfl⟩) rfl rfl rfl (by intro u hu; simp [cat] at hu; subst hu; rfl) rfl rfl ?_
            refine VL.turn (G' := Own _ (wblk g2 gp47 c48 ((((([] : List (List UInt8)) ++ [be 1 (x.kind)]) ++ [be 2 (x.seq)]) ++ [be 2 (x.mark)])).length false :: brow gp47 c48 ((((([] : List (List UInt8)) ++ [be 1 (x.kind)]) ++ [be 2 (x.seq)]) ++ [be 2 (x.mark)])) :: blk g1 110 calL [[.int .u8 (x.kind)], [.int .u16 (x.seq)], [.int .u8 (x.peer)], [.int .u16 (0)], [.slice q (x.bundles).length d], [.int .u8 (x.letter.src)], [.int .u8 (x.letter.dst)], (x.letter.header.session).map bv, [.bool x.letter.header.first], (x.letter.header.agree).map bv, (x.letter.header.signer).map bv, (x.letter.header.base).map bv, [.int .u16 (x.letter.header.id)], (x.letter.header.ratchet).map bv, [.int .u16 (x.letter.header.n)], [.int .u16 (x.letter.header.prev)], [.slice p (x.letter.body).length c]] :: H)) (fun _ h => h) ?_
            refine VL.nil ?_
            refine VX.block_normal ?_
            refine VX.next ?_
            refine VC.seq ?_
            refine VC.seq ?_
            refine VC.region ?_
            refine VL.fieldAddr rfl fo110_2 rfl ?_
            refine VL.load (v := .int .u8 (x.peer)) 2 2 rfl kd5 (fun _ h => h) rfl rfl rfl ?_
            refine VL.neq rfl rfl ?_
            refine VL.case (fun h24_2 => ?_) (fun h24_2 => ?_)
            · have h24_2 : ¬ x.peer = 0 := by have h : ((x.peer : Nat) : Int) ≠ 0 := h24_2; omega
              refine VL.move rfl ?_
              refine VL.pass rfl rfl rfl rfl rfl ?_
              refine VL.pass rfl rfl rfl rfl rfl ?_
              refine VL.pass rfl rfl rfl rfl rfl ?_
              refine VL.pick_t rfl rfl ?_
              refine VL.move rfl ?_
              refine VL.pass rfl rfl rfl rfl rfl ?_
              refine VL.pass rfl rfl rfl rfl rfl ?_
              refine VL.pass rfl rfl rfl rfl rfl ?_
              refine VL.pass rfl rfl rfl rfl rfl ?_
              refine VL.pick_t rfl rfl ?_
              refine VL.move rfl ?_
              refine VL.pass rfl rfl rfl rfl rfl ?_
              refine VL.pass rfl rfl rfl rfl rfl ?_
              refine VL.pass rfl rfl rfl rfl rfl ?_
              refine VL.pass rfl rfl rfl rfl rfl ?_
              refine VL.pick_t rfl rfl ?_
              refine VL.nil ?_
              refine VX.next ?_
              refine VC.yes rfl ?_
              refine VC.seq ?_
              refine VC.region ?_
              refine VL.assign rfl ?_
              refine VL.assign rfl ?_
              refine VL.nil ?_
              refine VX.next ?_
              refine VC.ret ?_
              refine VX.then_ret ?_
              refine VX.ret2 rfl rfl rfl (fun we hw => ?_)
              exact postO ((callO_none (by unfold callGood; simp [h4_3, h8_0, h15_0, h18_0, h21_0, h24_2]))) ⟨none, 0, rfl, hw.drop.drop.drop.sub (fun _ hs => by repeat (first | exact hs | apply List.mem_cons_of_mem)), Arr.none⟩
            · have h24_2 : x.peer = 0 := by have h : ¬ ((x.peer : Nat) : Int) ≠ 0 := h24_2; omega
              refine VL.move rfl ?_
              refine VL.go rfl rfl rfl ?_
              refine VL.fieldAddr rfl fo110_3 rfl ?_
              refine VL.go rfl rfl rfl ?_
              refine VL.load (v := .int .u16 (0)) 2 3 rfl kd68 (fun _ h => h) rfl rfl rfl ?_
              refine VL.go rfl rfl rfl ?_
              refine VL.neq rfl rfl ?_
              refine VL.no (by decide) ?_
              refine VL.pick_f rfl rfl ?_
              refine VL.move rfl ?_
              refine VL.go rfl rfl rfl ?_
              refine VL.fieldAddr rfl fo110_4 rfl ?_
              refine VL.go rfl rfl rfl ?_
              refine VL.load (v := .slice q (x.bundles).length d) 2 4 rfl kd108 (fun _ h => h) rfl rfl rfl ?_
              refine VL.go rfl rfl rfl ?_
              refine VL.len Try.underlying108 rfl rfl ?_
              refine VL.go rfl rfl rfl ?_
              refine VL.gtr rfl rfl ?_
              refine VL.case (fun h24_12 => ?_) (fun h24_12 => ?_)
              · have h24_12 : x.bundles ≠ [] := fun e => by rw [e] at h24_12; exact absurd h24_12 (by decide)
                refine VL.pick_f rfl rfl ?_
                refine VL.move rfl ?_
                refine VL.pass rfl rfl rfl rfl rfl ?_
                refine VL.pass rfl rfl rfl rfl rfl ?_
                refine VL.pass rfl rfl rfl rfl rfl ?_
                refine VL.pass rfl rfl rfl rfl rfl ?_
                refine VL.pick_t rfl rfl ?_
                refine VL.nil ?_
                refine VX.next ?_
                refine VC.yes rfl ?_
                refine VC.seq ?_
                refine VC.region ?_
                refine VL.assign rfl ?_
                refine VL.assign rfl ?_
                refine VL.nil ?_
                refine VX.next ?_
                refine VC.ret ?_
                refine VX.then_ret ?_
                refine VX.ret2 rfl rfl rfl (fun we hw => ?_)
                exact postO ((callO_none (by unfold callGood; simp [h4_3, h8_0, h15_0, h18_0, h21_0, h24_2, h24_12]))) ⟨none, 0, rfl, hw.drop.drop.drop.sub (fun _ hs => by repeat (first | exact hs | apply List.mem_cons_of_mem)), Arr.none⟩
              · have h24_12 : x.bundles = [] := List.eq_nil_of_length_eq_zero (by omega)
                refine VL.pick_f rfl rfl ?_
                refine VL.move rfl ?_
                refine VL.go rfl rfl rfl ?_
                refine VL.fieldAddr rfl fo110_5 rfl ?_
                refine VL.go rfl rfl rfl ?_
                refine VL.loads (cs := cat (letterV (x.letter) p c)) 2 5 12 rfl kd72 (fun _ h => h) rfl rfl rfl rfl ?_
                refine VL.go rfl rfl rfl ?_
                refine VL.call Try.func138 rfl (by decide) rfl (fun w' hw => emptyLetter_w hw (x := x.letter) hx.letter) (fun v => ?_)
                refine VL.ex fun b => VL.fact fun e => VL.fact fun h24_17 => ?_
                subst e
                cases b
                · have h24_17 := mt h24_17.2 (by decide)
                  refine VL.go rfl rfl rfl ?_
                  refine VL.not rfl ?_
                  refine VL.pick_f rfl rfl ?_
                  refine VL.nil ?_
                  refine VX.next ?_
                  refine VC.yes rfl ?_
                  refine VC.seq ?_
                  refine VC.region ?_
                  refine VL.assign rfl ?_
                  refine VL.assign rfl ?_
                  refine VL.nil ?_
                  refine VX.next ?_
                  refine VC.ret ?_
                  refine VX.then_ret ?_
                  refine VX.ret2 rfl rfl rfl (fun we hw => ?_)
                  exact postO ((callO_none (by unfold callGood; simp [h4_3, h8_0, h15_0, h18_0, h21_0, h24_2, h24_12, h24_17]))) ⟨none, 0, rfl, hw.drop.drop.drop.sub (fun _ hs => by repeat (first | exact hs | apply List.mem_cons_of_mem)), Arr.none⟩
                · have h24_17 := h24_17.1 rfl
                  refine VL.go rfl rfl rfl ?_
                  refine VL.not rfl ?_
                  refine VL.pick_f rfl rfl ?_
                  refine VL.nil ?_
                  refine VX.next ?_
                  refine VC.no rfl ?_
                  refine VC.skip ?_
                  refine VX.next ?_
                  refine VC.seq ?_
                  refine VC.region ?_
                  refine VL.move rfl ?_
                  refine VL.call Try.func118 rfl (by decide) rfl (fun w' hw => done_O hw) (fun v => ?_)
                  refine VL.at (fun w50 h1w => ?_)
                  obtain ⟨p51, c52, rfl, hO54, hA53⟩ := h1w
                  refine VL.toOwn hO54 ?_
                  refine VL.extract rfl rfl ?_
                  refine VL.extract rfl rfl ?_
                  refine VL.assign rfl ?_
                  refine VL.assign rfl ?_
                  refine VL.nil ?_
                  refine VX.next ?_
                  refine VC.ret ?_
                  refine VX.ret2 rfl rfl rfl (fun we hw => ?_)
                  exact postO ((callO_4 h21_0 (by unfold callGood; simp [h4_3, h8_0, h15_0, h18_0, h21_0, h24_2, h24_12, h24_17]))) ⟨p51, c52, rfl, hw.drop.sub (fun _ hs => by repeat (first | exact hs | apply List.mem_cons_of_mem)), (hA53.now (s := ⟨w50, _⟩) Mono.byte hw.drop (by repeat (first | exact List.mem_cons_self .. | apply List.mem_cons_of_mem)))⟩
          · have h21_0 : x.kind ≠ 4 := by have h : ¬ ((x.kind : Nat) : Int) = 4 := h21_0; omega
            refine VL.assign rfl ?_
            refine VL.nil ?_
            refine VX.next ?_
            refine VC.no rfl ?_
            refine VC.seq ?_
            refine VC.region ?_
            refine VL.assign rfl ?_
            refine VL.assign rfl ?_
            refine VL.nil ?_
            refine VX.next ?_
            refine VC.ret ?_
            refine VX.block_ret ?_
            refine VX.then_ret ?_
            refine VX.ret2 rfl rfl rfl (fun we hw => ?_)
            exact postO ((callO_none (by unfold callGood; simp [h4_3, h8_0, h15_0, h18_0, h21_0]))) ⟨none, 0, rfl, hw.drop.drop.drop.sub (fun _ hs => by repeat (first | exact hs | apply List.mem_cons_of_mem)), Arr.none⟩

end Go.Proofs.Ytcfecmoagfgnaaa
