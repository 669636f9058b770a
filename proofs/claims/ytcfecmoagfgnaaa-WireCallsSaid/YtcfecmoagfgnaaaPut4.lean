/- wire: the law that is alive. -/
import Derived.Test.YtcfecmoagfgnaaaSt3
namespace Go.Proofs.Ytcfecmoagfgnaaa
open Go.Vc Go.Pl

theorem putCal1_w {S : List Snap} {H : List Chunk} {w : World} (ho : Own S H w) : Calls Try.prog 76 #[.agg (cat (calV cal1 none 0 none 0)).toArray] w (RetO S H none) := by
  have hx3 : cal1.mark < 65536 := by decide
  have hx1 : cal1.kind < 256 := by decide
  have hx2 : cal1.seq < 65536 := by decide
  refine enter (G := Own (⟨w, keys H⟩ :: S) H) ho.keep Try.func76 rfl Try.ntmps76 rfl ?_
  refine VC.seq ?_
  refine VC.region ?_
  refine VL.box (L := calL) (ps := (calV (cal1) none 0 none 0)) rfl rfl (calV_len cal1_ok) (fun g1 => ?_)
  refine VL.assign rfl ?_
  refine VL.assign rfl ?_
  refine VL.nil ?_
  refine VX.next ?_
  refine VC.seq ?_
  refine VC.region ?_
  refine VL.build (zs := [[.slice none 0 0], [.bool false]]) [] plan181 rfl trivial rfl ?_
  refine VL.box (L := [1, 1]) (ps := [[rowV none 0 0], [.bool false]]) rfl rfl rfl (fun g2 => ?_)
  refine VL.turn (fun w' hw => Own.newW hw) ?_
  refine VL.assign rfl ?_
  refine VL.nil ?_
  refine VX.next ?_
  refine VC.seq ?_
  refine VC.region ?_
  refine VL.move rfl ?_
  refine VL.fieldAddr rfl fo110_0 rfl ?_
  refine VL.load (v := .int .u8 (cal1.kind)) 2 0 rfl kd5 (fun _ h => h) rfl rfl rfl ?_
  refine VL.conv (by rw [Try.underlying5]; rfl) Try.underlying22 rfl (inr_u64 (by omega)) ?_
  refine VL.call Try.func116 rfl (by decide) rfl (fun w' hw => num_w hw (by simp only [List.length_append, List.length_cons, List.length_nil, List.length_map]; omega) (cal1.kind) (fits_small (by omega)) 1 (by decide) (by decide) (fits1 (by omega))) (fun v => ?_)
  refine VL.fact fun e5 => ?_
  subst e5
  refine VL.ex fun gp3 => VL.ex fun c4 => ?_
  refine VL.nil ?_
  refine VX.next ?_
  refine VC.seq ?_
  refine VC.region ?_
  refine VL.move rfl ?_
  refine VL.fieldAddr rfl fo110_1 rfl ?_
  refine VL.load (v := .int .u16 (cal1.seq)) 2 1 rfl kd68 (fun _ h => h) rfl rfl rfl ?_
  refine VL.conv (by rw [Try.underlying68]; rfl) Try.underlying22 rfl (inr_u64 (by omega)) ?_
  refine VL.call Try.func116 rfl (by decide) rfl (fun w' hw => num_w hw (by simp only [List.length_append, List.length_cons, List.length_nil, List.length_map]; omega) (cal1.seq) (fits_small (by omega)) 2 (by decide) (by decide) (fits2 (by omega))) (fun v => ?_)
  refine VL.fact fun e8 => ?_
  subst e8
  refine VL.ex fun gp6 => VL.ex fun c7 => ?_
  refine VL.nil ?_
  refine VX.next ?_
  refine VC.seq ?_
  refine VC.seq ?_
  refine VC.region ?_
  refine VL.fieldAddr rfl fo110_4 rfl ?_
  refine VL.load (v := .slice none ([]).length 0) 2 4 rfl kd108 (fun _ h => h) rfl rfl rfl ?_
  refine VL.len Try.underlying108 rfl rfl ?_
  refine VL.gtr rfl rfl ?_
  refine VL.no (by decide) ?_
  refine VL.nil ?_
  refine VX.next ?_
  refine VC.no rfl ?_
  refine VC.skip ?_
  refine VX.next ?_
  refine VC.seq ?_
  refine VC.seq ?_
  refine VC.region ?_
  refine VL.fieldAddr rfl fo110_0 rfl ?_
  refine VL.load (v := .int .u8 (cal1.kind)) 2 0 rfl kd5 (fun _ h => h) rfl rfl rfl ?_
  refine VL.nil ?_
  refine VX.next ?_
  refine VC.block ?_
  refine VC.seq ?_
  refine VC.region ?_
  refine VL.eql rfl rfl ?_
  refine VL.no (by decide) ?_
  refine VL.assign rfl ?_
  refine VL.nil ?_
  refine VX.next ?_
  refine VC.no rfl ?_
  refine VC.seq ?_
  refine VC.region ?_
  refine VL.eql rfl rfl ?_
  refine VL.no (by decide) ?_
  refine VL.assign rfl ?_
  refine VL.nil ?_
  refine VX.next ?_
  refine VC.no rfl ?_
  refine VC.seq ?_
  refine VC.region ?_
  refine VL.eql rfl rfl ?_
  refine VL.no (by decide) ?_
  refine VL.assign rfl ?_
  refine VL.nil ?_
  refine VX.next ?_
  refine VC.no rfl ?_
  refine VC.seq ?_
  refine VC.region ?_
  refine VL.eql rfl rfl ?_
  refine VL.yes (by decide) ?_
  refine VL.assign rfl ?_
  refine VL.nil ?_
  refine VX.next ?_
  refine VC.yes rfl ?_
  refine VC.seq ?_
  refine VC.region ?_
  refine VL.move rfl ?_
  refine VL.fieldAddr rfl fo110_3 rfl ?_
  refine VL.load (v := .int .u16 (cal1.mark)) 2 3 rfl kd68 (fun _ h => h) rfl rfl rfl ?_
  refine VL.conv (by rw [Try.underlying68]; rfl) Try.underlying22 rfl (inr_u64 (by omega)) ?_
  refine VL.call Try.func116 rfl (by decide) rfl (fun w' hw => num_w hw (by simp only [List.length_append, List.length_cons, List.length_nil, List.length_map]; omega) (cal1.mark) (fits_small (by omega)) 2 (by decide) (by decide) (fits2 (by omega))) (fun v => ?_)
  refine VL.fact fun e11 => ?_
  subst e11
  refine VL.ex fun gp9 => VL.ex fun c10 => ?_
  refine VL.nil ?_
  refine VX.next ?_
  refine VC.region ?_
  refine VL.fieldAddr rfl fo110_3 rfl ?_
  refine VL.store (L := calL) (qs := [[.int .u16 (0)]]) (ps' := [[.int .u8 (cal1.kind)], [.int .u16 (cal1.seq)], [.int .u8 (cal1.peer)], [.int .u16 (0)], [.slice none ([]).length 0], [.int .u8 (cal1.letter.src)], [.int .u8 (cal1.letter.dst)], (cal1.letter.header.session).map bv, [.bool cal1.letter.header.first], (cal1.letter.header.agree).map bv, (cal1.letter.header.signer).map bv, (cal1.letter.header.base).map bv, [.int .u16 (cal1.letter.header.id)], (cal1.letter.header.ratchet).map bv, [.int .u16 (cal1.letter.header.n)], [.int .u16 (cal1.letter.header.prev)], [.slice none ([]).length 0]]) 2 3 1 rfl rfl rfl (.inr ⟨kd68, rfl⟩) rfl rfl rfl (by intro u hu; simp [cat] at hu; subst hu; rfl) rfl rfl ?_
  refine VL.turn (G' := Own _ (wblk g2 gp9 c10 ((((([] : List (List UInt8)) ++ [be 1 (cal1.kind)]) ++ [be 2 (cal1.seq)]) ++ [be 2 (cal1.mark)])).length false :: brow gp9 c10 ((((([] : List (List UInt8)) ++ [be 1 (cal1.kind)]) ++ [be 2 (cal1.seq)]) ++ [be 2 (cal1.mark)])) :: blk g1 110 calL [[.int .u8 (cal1.kind)], [.int .u16 (cal1.seq)], [.int .u8 (cal1.peer)], [.int .u16 (0)], [.slice none ([]).length 0], [.int .u8 (cal1.letter.src)], [.int .u8 (cal1.letter.dst)], (cal1.letter.header.session).map bv, [.bool cal1.letter.header.first], (cal1.letter.header.agree).map bv, (cal1.letter.header.signer).map bv, (cal1.letter.header.base).map bv, [.int .u16 (cal1.letter.header.id)], (cal1.letter.header.ratchet).map bv, [.int .u16 (cal1.letter.header.n)], [.int .u16 (cal1.letter.header.prev)], [.slice none ([]).length 0]] :: H)) (fun _ h => h) ?_
  refine VL.nil ?_
  refine VX.block_normal ?_
  refine VX.next ?_
  refine VC.seq ?_
  refine VC.seq ?_
  refine VC.region ?_
  refine VL.fieldAddr rfl fo110_2 rfl ?_
  refine VL.load (v := .int .u8 (cal1.peer)) 2 2 rfl kd5 (fun _ h => h) rfl rfl rfl ?_
  refine VL.neq rfl rfl ?_
  refine VL.yes (by decide) ?_
  refine VL.move rfl ?_
  refine VL.pass rfl rfl rfl rfl rfl ?_
  refine VL.pass rfl rfl rfl rfl rfl ?_
  refine VL.pass rfl rfl rfl rfl rfl ?_
  refine VL.pick_t rfl rfl ?_
  refine VL.move rfl ?_
  refine VL.pass rfl rfl rfl rfl rfl ?_
  refine VL.pass rfl rfl rfl rfl rfl ?_
  refine VL.pass rfl rfl rfl rfl rfl ?_
  refine VL.pass rfl rfl rfl rfl rfl ?_
  refine VL.pick_t rfl rfl ?_
  refine VL.move rfl ?_
  refine VL.pass rfl rfl rfl rfl rfl ?_
  refine VL.pass rfl rfl rfl rfl rfl ?_
  refine VL.pass rfl rfl rfl rfl rfl ?_
  refine VL.pass rfl rfl rfl rfl rfl ?_
  refine VL.pick_t rfl rfl ?_
  refine VL.nil ?_
  refine VX.next ?_
  refine VC.yes rfl ?_
  refine VC.seq ?_
  refine VC.region ?_
  refine VL.assign rfl ?_
  refine VL.assign rfl ?_
  refine VL.nil ?_
  refine VX.next ?_
  refine VC.ret ?_
  refine VX.then_ret ?_
  refine VX.ret2 rfl rfl rfl (fun we hw => ?_)
  exact postO (rfl) ⟨none, 0, rfl, hw.drop.drop.drop.sub (fun _ hs => by repeat (first | exact hs | apply List.mem_cons_of_mem)), Arr.none⟩

theorem item2_O : itemO item2 = some [3, 0, 1, 2, 0, 1, 1, 0, 1, 2] := by decide +kernel
theorem item2_R : itemR [3, 0, 1, 2, 0, 1, 1, 0, 1, 2] = some item2 := itemR_iff.2 ⟨item2_ok, item2_O⟩
theorem item2_W : itemW [3, 0, 1, 2, 0, 1, 1, 0, 1, 2] = 0 := by unfold itemW; rw [item2_R]; rfl
theorem item7_W : itemW [1, 0, 1, 7] = 140 := by decide +kernel
theorem putItem2_w {S : List Snap} {H : List Chunk} {w : World} (ho : Own S H w) : Calls Try.prog 56 #[.agg (cat (itemV item2 none 0 none 0)).toArray] w (RetO S H (some [3, 0, 1, 2, 0, 1, 1, 0, 1, 2])) := by
  have h := putItem_w ho item2_ok (p := none) (c := 0) Arr.none (q := none) (d := 0) Arr.none
  rw [item2_O] at h
  exact h
theorem getItem2_w {S : List Snap} {H : List Chunk} {w : World} (ho : Own S H w) {p : Option Addr} {c : Nat} (hA : Bytes (keys H) w p [3, 0, 1, 2, 0, 1, 1, 0, 1, 2] c) : Calls Try.prog 58 #[.slice p ([3, 0, 1, 2, 0, 1, 1, 0, 1, 2] : List UInt8).length c] w (Ret fun v w' => ∃ p c q d, v = .tuple #[.agg (cat (itemV item2 p c q d)).toArray, .int .i64 ((0 : Nat) : Int)] ∧ Own S H w') := by
  have h := getItem_w ho hA
  rw [item2_R, item2_W] at h
  exact h.mono (Ret.mono fun v w' ⟨p, c, q, d, h1, h2, _⟩ => ⟨p, c, q, d, h1, h2⟩)
theorem getItem7_w {S : List Snap} {H : List Chunk} {w : World} (ho : Own S H w) {p : Option Addr} {c : Nat} (hA : Bytes (keys H) w p [1, 0, 1, 7] c) : Calls Try.prog 58 #[.slice p ([1, 0, 1, 7] : List UInt8).length c] w (Ret fun v w' => ∃ x p c q d, x.ok ∧ v = .tuple #[.agg (cat (itemV x p c q d)).toArray, .int .i64 ((140 : Nat) : Int)] ∧ Own S H w') := by
  have h := getItem_w ho hA
  rw [item7_W] at h
  exact h.mono (Ret.mono fun v w' ⟨p, c, q, d, h1, h2, _⟩ => ⟨_, p, c, q, d, itemR_ok _, h1, h2⟩)

theorem alive_w {S : List Snap} {H : List Chunk} {w : World} (ho : Own S H w) : Calls Try.prog 49 #[] w (Ret fun v w' => v = .bool true ∧ Own S H w') := by
  refine enter (G := Own (⟨w, keys H⟩ :: S) H) ho.keep Try.func49 rfl Try.ntmps49 rfl ?_
  refine VC.seq ?_
  refine VC.region ?_
  refine VL.assign rfl ?_
  refine VL.nil ?_
  refine VX.next ?_
  refine VC.seq ?_
  refine VC.region ?_
  refine VL.build (zs := itemZ) (L := itemFL) [(0, [.int .u8 (2)]), (1, [.int .u8 (1)]), (2, [.int .u8 (2)])] plan87 rfl ⟨⟨rfl, ⟨_, rfl, rfl⟩, rfl⟩, ⟨⟨rfl, ⟨_, rfl, rfl⟩, rfl⟩, ⟨⟨rfl, ⟨_, rfl, rfl⟩, rfl⟩, trivial⟩⟩⟩ rfl ?_
  refine VL.newv (v' := .agg (cat (itemV (item2) none 0 none 0)).toArray) (by kernel_rfl) ?_
  refine VL.call Try.func56 rfl (by decide) rfl (fun w' hw => putItem2_w hw) (fun v => ?_)
  refine VL.at (fun w1 h1w => ?_)
  obtain ⟨p2, c3, rfl, hO5, hA4⟩ := h1w
  replace hA4 : Bytes _ w1 p2 [3, 0, 1, 2, 0, 1, 1, 0, 1, 2] c3 := hA4
  refine VL.toOwn hO5 ?_
  refine VL.move rfl ?_
  refine VL.extract rfl rfl ?_
  refine VL.extract rfl rfl ?_
  refine VL.assign rfl ?_
  refine VL.assign rfl ?_
  refine VL.nil ?_
  refine VX.next ?_
  refine VC.seq ?_
  refine VC.region ?_
  refine VL.move rfl ?_
  refine VL.call Try.func58 rfl (by decide) rfl (fun w' hw => getItem2_w hw (hA4.now (s := ⟨w1, _⟩) Mono.byte hw (by repeat (first | exact List.mem_cons_self .. | apply List.mem_cons_of_mem)))) (fun v => ?_)
  refine VL.ex fun p6 => VL.ex fun c7 => VL.ex fun q8 => VL.ex fun d9 => ?_
  refine VL.fact fun e10 => ?_
  subst e10
  refine VL.move rfl ?_
  refine VL.extract rfl rfl ?_
  refine VL.extract rfl rfl ?_
  refine VL.alloc (L := itemL) (ps := (itemV (item0) none 0 none 0)) zero87 rfl rfl (fun g11 => ?_)
  refine VL.store (L := itemL) (qs := (itemV (item2) p6 c7 q8 d9)) (ps' := (itemV (item2) p6 c7 q8 d9)) 0 0 28 rfl rfl rfl (.inl kd87) rfl rfl (itemV_len item2_ok) (itemV_ok1 item2 p6 c7 q8 d9) rfl rfl ?_
  refine VL.turn (G' := Own _ (blk g11 87 itemL (itemV (item2) p6 c7 q8 d9) :: H)) (fun _ h => h) ?_
  refine VL.assign rfl ?_
  refine VL.nil ?_
  refine VX.next ?_
  refine VC.seq ?_
  refine VC.region ?_
  refine VL.lit el24 rfl rfl rfl (by simp [Value.cells]) (ok1_bytes [1, 0, 1, 7]) (fun g12 => ?_)
  refine VL.letBytes [1, 0, 1, 7] rfl rfl (fun w13 hO14 hA15 => ?_)
  refine VL.call Try.func58 rfl (by decide) rfl (fun w' hw => getItem7_w hw (hA15.now (s := ⟨w13, _⟩) Mono.byte hw (by repeat (first | exact List.mem_cons_self .. | apply List.mem_cons_of_mem)))) (fun v => ?_)
  refine VL.ex fun x7 => ?_
  refine VL.ex fun p16 => VL.ex fun c17 => VL.ex fun q18 => VL.ex fun d19 => ?_
  refine VL.fact fun hx7 => ?_
  refine VL.fact fun e20 => ?_
  subst e20
  refine VL.move rfl ?_
  refine VL.extract rfl rfl ?_
  refine VL.extract rfl rfl ?_
  refine VL.alloc (L := itemL) (ps := (itemV (item0) none 0 none 0)) zero87 rfl rfl (fun g21 => ?_)
  refine VL.store (L := itemL) (qs := (itemV (x7) p16 c17 q18 d19)) (ps' := (itemV (x7) p16 c17 q18 d19)) 0 0 28 rfl rfl rfl (.inl kd87) rfl rfl (itemV_len hx7) (itemV_ok1 x7 p16 c17 q18 d19) rfl rfl ?_
  refine VL.turn (G' := Own _ (blk g21 87 itemL (itemV (x7) p16 c17 q18 d19) :: blk g11 87 itemL (itemV (item2) p6 c7 q8 d9) :: H)) (fun _ h => h) ?_
  refine VL.assign rfl ?_
  refine VL.nil ?_
  refine VX.next ?_
  refine VC.seq ?_
  refine VC.region ?_
  refine VL.build (zs := calZ) (L := calFL) [(0, [.int .u8 (4)]), (1, [.int .u16 (1)]), (2, [.int .u8 (1)])] plan110 rfl ⟨⟨rfl, ⟨_, rfl, rfl⟩, rfl⟩, ⟨⟨rfl, ⟨_, rfl, rfl⟩, rfl⟩, ⟨⟨rfl, ⟨_, rfl, rfl⟩, rfl⟩, trivial⟩⟩⟩ rfl ?_
  refine VL.newv (v' := .agg (cat (calV (cal1) none 0 none 0)).toArray) rfl ?_
  refine VL.call Try.func76 rfl (by decide) rfl (fun w' hw => putCal1_w hw) (fun v => ?_)
  refine VL.at (fun w22 h1w => ?_)
  obtain ⟨p23, c24, rfl, hO26, hA25⟩ := h1w
  replace hA25 : Bytes _ w22 p23 [] c24 := hA25
  refine VL.toOwn hO26 ?_
  refine VL.move rfl ?_
  refine VL.extract rfl rfl ?_
  refine VL.extract rfl rfl ?_
  refine VL.assign rfl ?_
  refine VL.assign rfl ?_
  refine VL.nil ?_
  refine VX.next ?_
  refine VC.seq ?_
  refine VC.region ?_
  refine VL.move rfl ?_
  refine VL.move rfl ?_
  refine VL.go rfl rfl rfl ?_
  refine VL.move rfl ?_
  refine VL.go rfl rfl rfl ?_
  refine VL.str (s := ⟨w1, _⟩) Try.underlying24 Try.underlying5 Try.underlying9 (l := [3, 0, 1, 2, 0, 1, 1, 0, 1, 2]) rfl (fun _ h => h) (by repeat (first | exact List.mem_cons_self .. | apply List.mem_cons_of_mem)) hA4 ?_
  refine VL.go rfl rfl rfl ?_
  refine VL.eqls rfl rfl ?_
  refine VL.yes (by rfl) ?_
  refine VL.pick_t rfl rfl ?_
  refine VL.move rfl ?_
  refine VL.go rfl rfl rfl ?_
  refine VL.move rfl ?_
  refine VL.go rfl rfl rfl ?_
  refine VL.eql rfl rfl ?_
  refine VL.yes (by decide) ?_
  refine VL.pick_t rfl rfl ?_
  refine VL.move rfl ?_
  refine VL.go rfl rfl rfl ?_
  refine VL.fieldAddr rfl fo87_2 rfl ?_
  refine VL.go rfl rfl rfl ?_
  refine VL.load (v := .int .u8 (item2.peer)) 1 2 rfl kd5 (fun _ h => h) rfl rfl rfl ?_
  refine VL.go rfl rfl rfl ?_
  refine VL.eql rfl rfl ?_
  refine VL.yes (by decide) ?_
  refine VL.pick_t rfl rfl ?_
  refine VL.move rfl ?_
  refine VL.go rfl rfl rfl ?_
  refine VL.move rfl ?_
  refine VL.go rfl rfl rfl ?_
  refine VL.eql rfl rfl ?_
  refine VL.yes (by decide) ?_
  refine VL.pick_t rfl rfl ?_
  refine VL.move rfl ?_
  refine VL.go rfl rfl rfl ?_
  refine VL.move rfl ?_
  refine VL.go rfl rfl rfl ?_
  refine VL.not rfl ?_
  refine VL.pick_t rfl rfl ?_
  refine VL.assign rfl ?_
  refine VL.nil ?_
  refine VX.next ?_
  refine VC.ret ?_
  refine VX.ret1 rfl rfl (fun we hw => ?_)
  exact ⟨rfl, hw.drop.drop.sub (fun _ hs => by repeat (first | exact hs | apply List.mem_cons_of_mem))⟩

end Go.Proofs.Ytcfecmoagfgnaaa
