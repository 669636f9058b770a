/- The statement WireTurned is proved, for every input: part 4 of 6 of the texts that it needs. -/
import Derived.Test.YtcfecmoagfgnaaaMturC
/- wire: what bytes are read as: items. -/
namespace Go.Proofs.Ytcfecmoagfgnaaa
open Go.Vc Go.Pl

theorem getItem_w {S : List Snap} {H : List Chunk} {w : World} (ho : Own S H w) {p : Option Addr} {l : List UInt8} {c : Nat} (hA : Bytes (keys H) w p l c) : Calls Try.prog 58 #[.slice p l.length c] w (Ret fun v w' => ∃ p c q d, v = .tuple #[.agg (cat (itemV ((itemR l).getD item0) p c q d)).toArray, .int .i64 ((itemW l : Nat) : Int)] ∧ Own S H w' ∧ Bytes (keys H) w' p ((itemR l).getD item0).letter.body c ∧ Arr 65 vouchR (keys H) w' q ((itemR l).getD item0).object.vouches d) := by
  refine enter (G := Own (⟨w, keys H⟩ :: S) H) ho.keep Try.func58 rfl Try.ntmps58 rfl ?_
  refine VC.seq ?_
  refine VC.region ?_
  refine VL.alloc (L := itemL) (ps := (itemV (item0) none 0 none 0)) zero87 rfl rfl (fun g1 => ?_)
  refine VL.assign rfl ?_
  refine VL.nil ?_
  refine VX.next ?_
  refine VC.seq ?_
  refine VC.region ?_
  refine VL.move rfl ?_
  refine VL.call Try.func121 rfl (by decide) rfl (fun w' hw => open_R hw (hA.now (s := ⟨w, _⟩) Mono.byte hw (by repeat (first | exact List.mem_cons_self .. | apply List.mem_cons_of_mem)))) (fun v => ?_)
  refine VL.ex fun g2 => VL.fact fun e3 => ?_
  subst e3
  refine VL.assign rfl ?_
  refine VL.nil ?_
  refine VX.next ?_
  refine VC.seq ?_
  refine VC.region ?_
  refine VL.move rfl ?_
  refine VL.call Try.func122 rfl (by decide) rfl (fun w' hw => byte_R (i := 0) rfl hw) (fun v => ?_)
  refine VL.fact fun e4 => ?_
  subst e4
  refine VL.turn (G' := Own _ (rch g2 ((openP (l)).drop 1) (lenW (openP (l)) (openW (l)) 1) :: blk g1 87 itemL (itemV (item0) none 0 none 0) :: H)) (fun _ h => h) ?_
  refine VL.build (zs := itemZ) (L := itemFL) [(0, [.int .u8 (takeN (openP (l)) 1)])] plan87 rfl ⟨⟨rfl, ⟨_, rfl, rfl⟩, rfl⟩, trivial⟩ rfl ?_
  refine VL.newv (v' := .agg (cat (itemV ((Itm.mk (takeN (openP l) 1) 0 0 letter0 bundle0 object0)) none 0 none 0)).toArray) (by kernel_rfl) ?_
  refine VL.alloc (L := itemL) (ps := (itemV (item0) none 0 none 0)) zero87 rfl rfl (fun g5 => ?_)
  refine VL.store (L := itemL) (qs := (itemV ((Itm.mk (takeN (openP l) 1) 0 0 letter0 bundle0 object0)) none 0 none 0)) (ps' := (itemV ((Itm.mk (takeN (openP l) 1) 0 0 letter0 bundle0 object0)) none 0 none 0)) 0 0 28 rfl rfl rfl (.inl kd87) rfl rfl (itemV_len (⟨takeN_lt _ 1, show (0 : Nat) < 256 by decide, show (0 : Nat) < 256 by decide, letter0_ok, bundle0_ok, object0_ok⟩ : Itm.ok _)) (itemV_ok1 ((Itm.mk (takeN (openP l) 1) 0 0 letter0 bundle0 object0)) none 0 none 0) rfl rfl ?_
  refine VL.turn (G' := Own _ (blk g5 87 itemL (itemV ((Itm.mk (takeN (openP l) 1) 0 0 letter0 bundle0 object0)) none 0 none 0) :: rch g2 ((openP (l)).drop 1) (lenW (openP (l)) (openW (l)) 1) :: blk g1 87 itemL (itemV (item0) none 0 none 0) :: H)) (fun _ h => h) ?_
  refine VL.nil ?_
  refine VX.next ?_
  refine VC.seq ?_
  refine VC.seq ?_
  refine VC.region ?_
  refine VL.move rfl ?_
  refine VL.nilCheck rfl ?_
  refine VL.fieldAddr rfl fo196_1 rfl ?_
  refine loadWhy 1 rfl (fun _ h => h) rfl ?_
  refine VL.neq rfl rfl ?_
  refine VL.case (fun h3_4 => ?_) (fun h3_4 => ?_)
  · refine VL.nil ?_
    refine VX.next ?_
    refine VC.yes rfl ?_
    refine VC.seq ?_
    apply VC.anyTA 6 1007 (F := [eqF _, eqF _, eqF _, eqF _, eqF _, eqF _]) [⟨[], []⟩, ⟨[], [4]⟩, ⟨[(18, 1)], []⟩, ⟨[(19, 2)], []⟩, ⟨[(20, 3)], []⟩, ⟨[(17, 0)], [2]⟩] [(21, 4)] [0, 2, 3, 4, 5, 6, 7, 8, 9, 10, 11, 12, 13, 14, 15, 16, 22, 23, 24, 25, 26, 27, 28, 29, 30, 31, 32, 33, 34, 35, 36, 37, 38, 39, 40, 41, 42, 43, 44, 45, 46, 47, 48, 49, 50, 51, 52, 53, 54, 55, 56, 57, 58, 59, 60, 61, 62, 63, 64, 65, 66, 68, 69, 70, 71, 72] rfl (by kernel_rfl) (by kernel_rfl) rfl rfl (by kernel_rfl) (by kernel_rfl) (by kernel_rfl) rfl ?obs4 ?end4
    case obs4 =>
      refine Obs.cons ?_ ?_
      · refine obS (by kernel_rfl) rfl rfl (fun ph4 w4 hO4 => ?_)
        refine VL.build0 (cs := cat (itemV (item0) none 0 none 0)) built87 ?_
        exact VL.finS hO4 rfl rfl
      refine Obs.cons ?_ ?_
      · refine obS (by kernel_rfl) rfl rfl (fun ph4 w4 hO4 => ?_)
        refine VL.move rfl ?_
        exact VL.finS hO4 rfl rfl
      refine Obs.cons ?_ ?_
      · refine obS (by kernel_rfl) rfl rfl (fun ph4 w4 hO4 => ?_)
        rintro _ rfl
        refine VL.nilCheck rfl ?_
        exact VL.finS hO4 rfl rfl
      refine Obs.cons ?_ ?_
      · refine obS (by kernel_rfl) rfl rfl (fun ph4 w4 hO4 => ?_)
        rintro _ rfl
        refine VL.fieldAddr rfl fo196_1 rfl ?_
        exact VL.finS hO4 rfl rfl
      refine Obs.cons ?_ ?_
      · refine ob (by kernel_rfl) rfl (by kernel_rfl) rfl (fun w4 hO4 => ?_)
        rintro _ rfl
        refine loadWhy 1 rfl (fun _ e => e ▸ hO4) rfl ?_
        exact VL.finS hO4 rfl rfl
      refine Obs.cons ?_ ?_
      · refine ob (by kernel_rfl) rfl (by kernel_rfl) rfl (fun w4 hO4 => ?_)
        rintro _ rfl
        refine VL.toOwn hO4 ?_
        refine VL.store (L := itemL) (qs := (itemV (item0) none 0 none 0)) (ps' := (itemV (item0) none 0 none 0)) 2 0 28 rfl rfl rfl (.inl kd87) rfl rfl (itemV_len item0_ok) (itemV_ok1 item0 none 0 none 0) rfl rfl ?_
        refine VL.turn (G' := Own _ (blk g5 87 itemL (itemV ((Itm.mk (takeN (openP l) 1) 0 0 letter0 bundle0 object0)) none 0 none 0) :: rch g2 ((openP (l)).drop 1) (lenW (openP (l)) (openW (l)) 1) :: blk g1 87 itemL (itemV (item0) none 0 none 0) :: H)) (fun _ h => h) ?_
        exact VL.finO0 (fun _ h => h) (fun _ h => rfl)
      exact Obs.nil
    case end4 =>
      intro w4 hO4
      rintro _ rfl
      refine VL.toOwn hO4 ?_
      refine VL.assign rfl ?_
      refine VL.nil ?_
      refine VX.next ?_
      refine VC.ret ?_
      refine VX.then_ret ?_
      refine VX.ret_cell (cs := cat (itemV (item0) none 0 none 0)) 2 rfl rfl rfl (by rw [cat_size (itemV_len item0_ok)]; exact kd87) (fun _ h => h) rfl rfl (fun we hw => ?_)
      obtain ⟨e1, e2⟩ := item_w0 h3_4
      exact ⟨none, 0, none, 0, by rw [e1]; exact congrArg (fun n : Nat => Value.tuple #[_, .int .i64 (n : Int)]) (e2).symm, hw.drop.drop.drop.sub (fun _ hs => by repeat (first | exact hs | apply List.mem_cons_of_mem)), by rw [e1]; exact Arr.none, by rw [e1]; exact Arr.none⟩
  · refine VL.nil ?_
    refine VX.next ?_
    refine VC.no rfl ?_
    refine VC.skip ?_
    refine VX.next ?_
    refine VC.seq ?_
    refine VC.region ?_
    refine VL.assign rfl ?_
    refine VL.nil ?_
    refine VX.next ?_
    refine VC.seq ?_
    refine VC.seq ?_
    refine VC.region ?_
    refine VL.fieldAddr rfl fo87_0 rfl ?_
    refine VL.load (v := .int .u8 ((Itm.mk (takeN (openP l) 1) 0 0 letter0 bundle0 object0).kind)) 0 0 rfl kd5 (fun _ h => h) rfl rfl rfl ?_
    refine VL.nil ?_
    refine VX.next ?_
    refine VC.block ?_
    refine VC.seq ?_
    refine VC.region ?_
    refine VL.eql rfl rfl ?_
    refine VL.case (fun h8_0 => ?_) (fun h8_0 => ?_)
    · have h8_0 : takeN (openP l) 1 = 1 := by have h : ((takeN (openP l) 1 : Nat) : Int) = 1 := h8_0; omega
      refine VL.assign rfl ?_
      refine VL.nil ?_
      refine VX.next ?_
      refine VC.yes rfl ?_
      refine VC.region ?_
      refine VL.move rfl ?_
      refine VL.call Try.func124 rfl (by decide) rfl (fun w' hw => piece_R (i := 1) rfl hw) (fun v => ?_)
      refine VL.at (fun w6 h1w => ?_)
      obtain ⟨p7, c8, rfl, hO10, hA9⟩ := h1w
      replace hO10 : Own _ (blk g5 87 itemL (itemV ((Itm.mk (takeN (openP l) 1) 0 0 letter0 bundle0 object0)) none 0 none 0) :: rch g2 (((openP (l)).drop 1).drop 1) (nextW ((openP (l)).drop 1) (lenW (openP (l)) (openW (l)) 1)) :: blk g1 87 itemL (itemV (item0) none 0 none 0) :: H) w6 := hO10
      replace hA9 : Bytes (keys (blk g5 87 itemL (itemV ((Itm.mk (takeN (openP l) 1) 0 0 letter0 bundle0 object0)) none 0 none 0) :: rch g2 (((openP (l)).drop 1).drop 1) (nextW ((openP (l)).drop 1) (lenW (openP (l)) (openW (l)) 1)) :: blk g1 87 itemL (itemV (item0) none 0 none 0) :: H)) w6 p7 (nextP ((openP (l)).drop 1)) c8 := hA9
      refine VL.toOwn hO10 ?_
      refine VL.call Try.func54 rfl (by decide) rfl (fun w' hw => getLetter_w hw (hA9.now (s := ⟨w6, _⟩) Mono.byte hw (by repeat (first | exact List.mem_cons_self .. | apply List.mem_cons_of_mem)))) (fun v => ?_)
      refine VL.at (fun w11 h1w => ?_)
      obtain ⟨p13, c14, rfl, hO12, hA15⟩ := h1w
      refine VL.toOwn hO12 ?_
      refine VL.move rfl ?_
      refine VL.extract rfl rfl ?_
      refine VL.extract rfl rfl ?_
      refine VL.fieldAddr rfl fo87_3 rfl ?_
      refine VL.store (L := itemL) (qs := (letterV (((letterR (nextP ((openP (l)).drop 1))).getD letter0)) p13 c14)) (ps' := [[.int .u8 ((Itm.mk (takeN (openP l) 1) 0 0 letter0 bundle0 object0).kind)], [.int .u8 ((Itm.mk (takeN (openP l) 1) 0 0 letter0 bundle0 object0).asker)], [.int .u8 ((Itm.mk (takeN (openP l) 1) 0 0 letter0 bundle0 object0).peer)], [.int .u8 (((letterR (nextP ((openP (l)).drop 1))).getD letter0).src)], [.int .u8 (((letterR (nextP ((openP (l)).drop 1))).getD letter0).dst)], (((letterR (nextP ((openP (l)).drop 1))).getD letter0).header.session).map bv, [.bool (((letterR (nextP ((openP (l)).drop 1))).getD letter0).header.first)], (((letterR (nextP ((openP (l)).drop 1))).getD letter0).header.agree).map bv, (((letterR (nextP ((openP (l)).drop 1))).getD letter0).header.signer).map bv, (((letterR (nextP ((openP (l)).drop 1))).getD letter0).header.base).map bv, [.int .u16 (((letterR (nextP ((openP (l)).drop 1))).getD letter0).header.id)], (((letterR (nextP ((openP (l)).drop 1))).getD letter0).header.ratchet).map bv, [.int .u16 (((letterR (nextP ((openP (l)).drop 1))).getD letter0).header.n)], [.int .u16 (((letterR (nextP ((openP (l)).drop 1))).getD letter0).header.prev)], [.slice p13 (((letterR (nextP ((openP (l)).drop 1))).getD letter0).body).length c14], [.int .u8 ((Itm.mk (takeN (openP l) 1) 0 0 letter0 bundle0 object0).bundle.device)], ((Itm.mk (takeN (openP l) 1) 0 0 letter0 bundle0 object0).bundle.agree).map bv, ((Itm.mk (takeN (openP l) 1) 0 0 letter0 bundle0 object0).bundle.signer).map bv, [.int .u16 ((Itm.mk (takeN (openP l) 1) 0 0 letter0 bundle0 object0).bundle.id)], ((Itm.mk (takeN (openP l) 1) 0 0 letter0 bundle0 object0).bundle.once).map bv, ((Itm.mk (takeN (openP l) 1) 0 0 letter0 bundle0 object0).bundle.sig).map bv, [.int .u8 ((Itm.mk (takeN (openP l) 1) 0 0 letter0 bundle0 object0).object.server)], [.int .u8 ((Itm.mk (takeN (openP l) 1) 0 0 letter0 bundle0 object0).object.n)], ((Itm.mk (takeN (openP l) 1) 0 0 letter0 bundle0 object0).object.key).map bv, [.int .u32 ((Itm.mk (takeN (openP l) 1) 0 0 letter0 bundle0 object0).object.since)], [.int .u32 ((Itm.mk (takeN (openP l) 1) 0 0 letter0 bundle0 object0).object.till)], ((Itm.mk (takeN (openP l) 1) 0 0 letter0 bundle0 object0).object.sig).map bv, [.slice none ([]).length 0]]) 0 3 12 rfl rfl rfl (.inl kd72) rfl rfl (letterV_len (letterR_ok (nextP ((openP (l)).drop 1)))) (letterV_ok1 (((letterR (nextP ((openP (l)).drop 1))).getD letter0)) p13 c14) rfl rfl ?_
      refine VL.turn (G' := Own _ (blk g5 87 itemL [[.int .u8 ((Itm.mk (takeN (openP l) 1) 0 0 letter0 bundle0 object0).kind)], [.int .u8 ((Itm.mk (takeN (openP l) 1) 0 0 letter0 bundle0 object0).asker)], [.int .u8 ((Itm.mk (takeN (openP l) 1) 0 0 letter0 bundle0 object0).peer)], [.int .u8 (((letterR (nextP ((openP (l)).drop 1))).getD letter0).src)], [.int .u8 (((letterR (nextP ((openP (l)).drop 1))).getD letter0).dst)], (((letterR (nextP ((openP (l)).drop 1))).getD letter0).header.session).map bv, [.bool (((letterR (nextP ((openP (l)).drop 1))).getD letter0).header.first)], (((letterR (nextP ((openP (l)).drop 1))).getD letter0).header.agree).map bv, (((letterR (nextP ((openP (l)).drop 1))).getD letter0).header.signer).map bv, (((letterR (nextP ((openP (l)).drop 1))).getD letter0).header.base).map bv, [.int .u16 (((letterR (nextP ((openP (l)).drop 1))).getD letter0).header.id)], (((letterR (nextP ((openP (l)).drop 1))).getD letter0).header.ratchet).map bv, [.int .u16 (((letterR (nextP ((openP (l)).drop 1))).getD letter0).header.n)], [.int .u16 (((letterR (nextP ((openP (l)).drop 1))).getD letter0).header.prev)], [.slice p13 (((letterR (nextP ((openP (l)).drop 1))).getD letter0).body).length c14], [.int .u8 ((Itm.mk (takeN (openP l) 1) 0 0 letter0 bundle0 object0).bundle.device)], ((Itm.mk (takeN (openP l) 1) 0 0 letter0 bundle0 object0).bundle.agree).map bv, ((Itm.mk (takeN (openP l) 1) 0 0 letter0 bundle0 object0).bundle.signer).map bv, [.int .u16 ((Itm.mk (takeN (openP l) 1) 0 0 letter0 bundle0 object0).bundle.id)], ((Itm.mk (takeN (openP l) 1) 0 0 letter0 bundle0 object0).bundle.once).map bv, ((Itm.mk (takeN (openP l) 1) 0 0 letter0 bundle0 object0).bundle.sig).map bv, [.int .u8 ((Itm.mk (takeN (openP l) 1) 0 0 letter0 bundle0 object0).object.server)], [.int .u8 ((Itm.mk (takeN (openP l) 1) 0 0 letter0 bundle0 object0).object.n)], ((Itm.mk (takeN (openP l) 1) 0 0 letter0 bundle0 object0).object.key).map bv, [.int .u32 ((Itm.mk (takeN (openP l) 1) 0 0 letter0 bundle0 object0).object.since)], [.int .u32 ((Itm.mk (takeN (openP l) 1) 0 0 letter0 bundle0 object0).object.till)], ((Itm.mk (takeN (openP l) 1) 0 0 letter0 bundle0 object0).object.sig).map bv, [.slice none ([]).length 0]] :: rch g2 (((openP (l)).drop 1).drop 1) (nextW ((openP (l)).drop 1) (lenW (openP (l)) (openW (l)) 1)) :: blk g1 87 itemL (itemV (item0) none 0 none 0) :: H)) (fun _ h => h) ?_
      refine VL.assign rfl ?_
      refine VL.nil ?_
      refine VX.block_normal ?_
      refine VX.next ?_
      refine VC.seq ?_
      refine VC.region ?_
      refine VL.move rfl ?_
      refine VL.move rfl ?_
      refine VL.call Try.func125 rfl (by decide) rfl (fun w' hw => fail_R (i := 1) rfl hw (if (letterR (nextP ((openP (l)).drop 1))).isSome then 0 else 141)) (fun v => ?_)
      refine VL.fact fun e16 => ?_
      subst e16
      refine VL.turn (G' := Own _ (blk g5 87 itemL [[.int .u8 ((Itm.mk (takeN (openP l) 1) 0 0 letter0 bundle0 object0).kind)], [.int .u8 ((Itm.mk (takeN (openP l) 1) 0 0 letter0 bundle0 object0).asker)], [.int .u8 ((Itm.mk (takeN (openP l) 1) 0 0 letter0 bundle0 object0).peer)], [.int .u8 (((letterR (nextP ((openP (l)).drop 1))).getD letter0).src)], [.int .u8 (((letterR (nextP ((openP (l)).drop 1))).getD letter0).dst)], (((letterR (nextP ((openP (l)).drop 1))).getD letter0).header.session).map bv, [.bool (((letterR (nextP ((openP (l)).drop 1))).getD letter0).header.first)], (((letterR (nextP ((openP (l)).drop 1))).getD letter0).header.agree).map bv, (((letterR (nextP ((openP (l)).drop 1))).getD letter0).header.signer).map bv, (((letterR (nextP ((openP (l)).drop 1))).getD letter0).header.base).map bv, [.int .u16 (((letterR (nextP ((openP (l)).drop 1))).getD letter0).header.id)], (((letterR (nextP ((openP (l)).drop 1))).getD letter0).header.ratchet).map bv, [.int .u16 (((letterR (nextP ((openP (l)).drop 1))).getD letter0).header.n)], [.int .u16 (((letterR (nextP ((openP (l)).drop 1))).getD letter0).header.prev)], [.slice p13 (((letterR (nextP ((openP (l)).drop 1))).getD letter0).body).length c14], [.int .u8 ((Itm.mk (takeN (openP l) 1) 0 0 letter0 bundle0 object0).bundle.device)], ((Itm.mk (takeN (openP l) 1) 0 0 letter0 bundle0 object0).bundle.agree).map bv, ((Itm.mk (takeN (openP l) 1) 0 0 letter0 bundle0 object0).bundle.signer).map bv, [.int .u16 ((Itm.mk (takeN (openP l) 1) 0 0 letter0 bundle0 object0).bundle.id)], ((Itm.mk (takeN (openP l) 1) 0 0 letter0 bundle0 object0).bundle.once).map bv, ((Itm.mk (takeN (openP l) 1) 0 0 letter0 bundle0 object0).bundle.sig).map bv, [.int .u8 ((Itm.mk (takeN (openP l) 1) 0 0 letter0 bundle0 object0).object.server)], [.int .u8 ((Itm.mk (takeN (openP l) 1) 0 0 letter0 bundle0 object0).object.n)], ((Itm.mk (takeN (openP l) 1) 0 0 letter0 bundle0 object0).object.key).map bv, [.int .u32 ((Itm.mk (takeN (openP l) 1) 0 0 letter0 bundle0 object0).object.since)], [.int .u32 ((Itm.mk (takeN (openP l) 1) 0 0 letter0 bundle0 object0).object.till)], ((Itm.mk (takeN (openP l) 1) 0 0 letter0 bundle0 object0).object.sig).map bv, [.slice none ([]).length 0]] :: rch g2 (((openP (l)).drop 1).drop 1) (failW (nextW ((openP (l)).drop 1) (lenW (openP (l)) (openW (l)) 1)) (if (letterR (nextP ((openP (l)).drop 1))).isSome then 0 else 141)) :: blk g1 87 itemL (itemV (item0) none 0 none 0) :: H)) (fun _ h => h) ?_
      refine VL.nil ?_
      refine VX.next ?_
      refine VC.seq ?_
      refine VC.seq ?_
      refine VC.region ?_
      refine VL.move rfl ?_
      refine VL.call Try.func126 rfl (by decide) rfl (fun w' hw => end_R (i := 1) rfl hw) (fun v => ?_)
      refine VL.fact fun e17 => ?_
      subst e17
      refine VL.turn (G' := Own _ (blk g5 87 itemL [[.int .u8 ((Itm.mk (takeN (openP l) 1) 0 0 letter0 bundle0 object0).kind)], [.int .u8 ((Itm.mk (takeN (openP l) 1) 0 0 letter0 bundle0 object0).asker)], [.int .u8 ((Itm.mk (takeN (openP l) 1) 0 0 letter0 bundle0 object0).peer)], [.int .u8 (((letterR (nextP ((openP (l)).drop 1))).getD letter0).src)], [.int .u8 (((letterR (nextP ((openP (l)).drop 1))).getD letter0).dst)], (((letterR (nextP ((openP (l)).drop 1))).getD letter0).header.session).map bv, [.bool (((letterR (nextP ((openP (l)).drop 1))).getD letter0).header.first)], (((letterR (nextP ((openP (l)).drop 1))).getD letter0).header.agree).map bv, (((letterR (nextP ((openP (l)).drop 1))).getD letter0).header.signer).map bv, (((letterR (nextP ((openP (l)).drop 1))).getD letter0).header.base).map bv, [.int .u16 (((letterR (nextP ((openP (l)).drop 1))).getD letter0).header.id)], (((letterR (nextP ((openP (l)).drop 1))).getD letter0).header.ratchet).map bv, [.int .u16 (((letterR (nextP ((openP (l)).drop 1))).getD letter0).header.n)], [.int .u16 (((letterR (nextP ((openP (l)).drop 1))).getD letter0).header.prev)], [.slice p13 (((letterR (nextP ((openP (l)).drop 1))).getD letter0).body).length c14], [.int .u8 ((Itm.mk (takeN (openP l) 1) 0 0 letter0 bundle0 object0).bundle.device)], ((Itm.mk (takeN (openP l) 1) 0 0 letter0 bundle0 object0).bundle.agree).map bv, ((Itm.mk (takeN (openP l) 1) 0 0 letter0 bundle0 object0).bundle.signer).map bv, [.int .u16 ((Itm.mk (takeN (openP l) 1) 0 0 letter0 bundle0 object0).bundle.id)], ((Itm.mk (takeN (openP l) 1) 0 0 letter0 bundle0 object0).bundle.once).map bv, ((Itm.mk (takeN (openP l) 1) 0 0 letter0 bundle0 object0).bundle.sig).map bv, [.int .u8 ((Itm.mk (takeN (openP l) 1) 0 0 letter0 bundle0 object0).object.server)], [.int .u8 ((Itm.mk (takeN (openP l) 1) 0 0 letter0 bundle0 object0).object.n)], ((Itm.mk (takeN (openP l) 1) 0 0 letter0 bundle0 object0).object.key).map bv, [.int .u32 ((Itm.mk (takeN (openP l) 1) 0 0 letter0 bundle0 object0).object.since)], [.int .u32 ((Itm.mk (takeN (openP l) 1) 0 0 letter0 bundle0 object0).object.till)], ((Itm.mk (takeN (openP l) 1) 0 0 letter0 bundle0 object0).object.sig).map bv, [.slice none ([]).length 0]] :: rch g2 (((openP (l)).drop 1).drop 1) (endW (((openP (l)).drop 1).drop 1) (failW (nextW ((openP (l)).drop 1) (lenW (openP (l)) (openW (l)) 1)) (if (letterR (nextP ((openP (l)).drop 1))).isSome then 0 else 141))) :: blk g1 87 itemL (itemV (item0) none 0 none 0) :: H)) (fun _ h => h) ?_
      refine VL.neq rfl rfl ?_
      refine VL.case (fun h20_2 => ?_) (fun h20_2 => ?_)
      · refine VL.nil ?_
        refine VX.next ?_
        refine VC.yes rfl ?_
        refine VC.seq ?_
        refine VC.region ?_
        refine VL.build0 (cs := cat (itemV (item0) none 0 none 0)) built87 ?_
        refine VL.store (L := itemL) (qs := (itemV (item0) none 0 none 0)) (ps' := (itemV (item0) none 0 none 0)) 2 0 28 rfl rfl rfl (.inl kd87) rfl rfl (itemV_len item0_ok) (itemV_ok1 item0 none 0 none 0) rfl rfl ?_
        refine VL.turn (G' := Own _ (blk g5 87 itemL [[.int .u8 ((Itm.mk (takeN (openP l) 1) 0 0 letter0 bundle0 object0).kind)], [.int .u8 ((Itm.mk (takeN (openP l) 1) 0 0 letter0 bundle0 object0).asker)], [.int .u8 ((Itm.mk (takeN (openP l) 1) 0 0 letter0 bundle0 object0).peer)], [.int .u8 (((letterR (nextP ((openP (l)).drop 1))).getD letter0).src)], [.int .u8 (((letterR (nextP ((openP (l)).drop 1))).getD letter0).dst)], (((letterR (nextP ((openP (l)).drop 1))).getD letter0).header.session).map bv, [.bool (((letterR (nextP ((openP (l)).drop 1))).getD letter0).header.first)], (((letterR (nextP ((openP (l)).drop 1))).getD letter0).header.agree).map bv, (((letterR (nextP ((openP (l)).drop 1))).getD letter0).header.signer).map bv, (((letterR (nextP ((openP (l)).drop 1))).getD letter0).header.base).map bv, [.int .u16 (((letterR (nextP ((openP (l)).drop 1))).getD letter0).header.id)], (((letterR (nextP ((openP (l)).drop 1))).getD letter0).header.ratchet).map bv, [.int .u16 (((letterR (nextP ((openP (l)).drop 1))).getD letter0).header.n)], [.int .u16 (((letterR (nextP ((openP (l)).drop 1))).getD letter0).header.prev)], [.slice p13 (((letterR (nextP ((openP (l)).drop 1))).getD letter0).body).length c14], [.int .u8 ((Itm.mk (takeN (openP l) 1) 0 0 letter0 bundle0 object0).bundle.device)], ((Itm.mk (takeN (openP l) 1) 0 0 letter0 bundle0 object0).bundle.agree).map bv, ((Itm.mk (takeN (openP l) 1) 0 0 letter0 bundle0 object0).bundle.signer).map bv, [.int .u16 ((Itm.mk (takeN (openP l) 1) 0 0 letter0 bundle0 object0).bundle.id)], ((Itm.mk (takeN (openP l) 1) 0 0 letter0 bundle0 object0).bundle.once).map bv, ((Itm.mk (takeN (openP l) 1) 0 0 letter0 bundle0 object0).bundle.sig).map bv, [.int .u8 ((Itm.mk (takeN (openP l) 1) 0 0 letter0 bundle0 object0).object.server)], [.int .u8 ((Itm.mk (takeN (openP l) 1) 0 0 letter0 bundle0 object0).object.n)], ((Itm.mk (takeN (openP l) 1) 0 0 letter0 bundle0 object0).object.key).map bv, [.int .u32 ((Itm.mk (takeN (openP l) 1) 0 0 letter0 bundle0 object0).object.since)], [.int .u32 ((Itm.mk (takeN (openP l) 1) 0 0 letter0 bundle0 object0).object.till)], ((Itm.mk (takeN (openP l) 1) 0 0 letter0 bundle0 object0).object.sig).map bv, [.slice none ([]).length 0]] :: rch g2 (((openP (l)).drop 1).drop 1) (endW (((openP (l)).drop 1).drop 1) (failW (nextW ((openP (l)).drop 1) (lenW (openP (l)) (openW (l)) 1)) (if (letterR (nextP ((openP (l)).drop 1))).isSome then 0 else 141))) :: blk g1 87 itemL (itemV (item0) none 0 none 0) :: H)) (fun _ h => h) ?_
        refine VL.assign rfl ?_
        refine VL.nil ?_
        refine VX.next ?_
        refine VC.ret ?_
        refine VX.then_ret ?_
        refine VX.ret_cell (cs := cat (itemV (item0) none 0 none 0)) 2 rfl rfl rfl (by rw [cat_size (itemV_len item0_ok)]; exact kd87) (fun _ h => h) rfl rfl (fun we hw => ?_)
        obtain ⟨hn1, _⟩ := item_w1 h3_4 h8_0
        obtain ⟨e1, e2⟩ := itemW_none (by omega) (by omega) h20_2 hn1
        exact ⟨none, 0, none, 0, by rw [e1]; exact congrArg (fun n : Nat => Value.tuple #[_, .int .i64 (n : Int)]) (e2).symm, hw.drop.drop.drop.sub (fun _ hs => by repeat (first | exact hs | apply List.mem_cons_of_mem)), by rw [e1]; exact Arr.none, by rw [e1]; exact Arr.none⟩
      · refine VL.nil ?_
        refine VX.next ?_
        refine VC.no rfl ?_
        refine VC.skip ?_
        refine VX.next ?_
        refine VC.seq ?_
        refine VC.region ?_
        refine VL.loads (cs := cat (itemV ((Itm.mk (takeN (openP l) 1) 0 0 ((letterR (nextP ((openP l).drop 1))).getD letter0) bundle0 object0)) p13 c14 none 0)) 0 0 28 rfl kd87 (fun _ h => h) rfl rfl rfl rfl ?_
        refine VL.store (L := itemL) (qs := (itemV ((Itm.mk (takeN (openP l) 1) 0 0 ((letterR (nextP ((openP l).drop 1))).getD letter0) bundle0 object0)) p13 c14 none 0)) (ps' := (itemV ((Itm.mk (takeN (openP l) 1) 0 0 ((letterR (nextP ((openP l).drop 1))).getD letter0) bundle0 object0)) p13 c14 none 0)) 2 0 28 rfl rfl rfl (.inl kd87) rfl rfl (itemV_len (⟨takeN_lt _ 1, (show (0 : Nat) < 256 by decide), (show (0 : Nat) < 256 by decide), (letterR_ok _), bundle0_ok, object0_ok⟩ : Itm.ok _)) (itemV_ok1 ((Itm.mk (takeN (openP l) 1) 0 0 ((letterR (nextP ((openP l).drop 1))).getD letter0) bundle0 object0)) p13 c14 none 0) rfl rfl ?_
        refine VL.turn (G' := Own _ (blk g5 87 itemL [[.int .u8 ((Itm.mk (takeN (openP l) 1) 0 0 letter0 bundle0 object0).kind)], [.int .u8 ((Itm.mk (takeN (openP l) 1) 0 0 letter0 bundle0 object0).asker)], [.int .u8 ((Itm.mk (takeN (openP l) 1) 0 0 letter0 bundle0 object0).peer)], [.int .u8 (((letterR (nextP ((openP (l)).drop 1))).getD letter0).src)], [.int .u8 (((letterR (nextP ((openP (l)).drop 1))).getD letter0).dst)], (((letterR (nextP ((openP (l)).drop 1))).getD letter0).header.session).map bv, [.bool (((letterR (nextP ((openP (l)).drop 1))).getD letter0).header.first)], (((letterR (nextP ((openP (l)).drop 1))).getD letter0).header.agree).map bv, (((letterR (nextP ((openP (l)).drop 1))).getD letter0).header.signer).map bv, (((letterR (nextP ((openP (l)).drop 1))).getD letter0).header.base).map bv, [.int .u16 (((letterR (nextP ((openP (l)).drop 1))).getD letter0).header.id)], (((letterR (nextP ((openP (l)).drop 1))).getD letter0).header.ratchet).map bv, [.int .u16 (((letterR (nextP ((openP (l)).drop 1))).getD letter0).header.n)], [.int .u16 (((letterR (nextP ((openP (l)).drop 1))).getD letter0).header.prev)], [.slice p13 (((letterR (nextP ((openP (l)).drop 1))).getD letter0).body).length c14], [.int .u8 ((Itm.mk (takeN (openP l) 1) 0 0 letter0 bundle0 object0).bundle.device)], ((Itm.mk (takeN (openP l) 1) 0 0 letter0 bundle0 object0).bundle.agree).map bv, ((Itm.mk (takeN (openP l) 1) 0 0 letter0 bundle0 object0).bundle.signer).map bv, [.int .u16 ((Itm.mk (takeN (openP l) 1) 0 0 letter0 bundle0 object0).bundle.id)], ((Itm.mk (takeN (openP l) 1) 0 0 letter0 bundle0 object0).bundle.once).map bv, ((Itm.mk (takeN (openP l) 1) 0 0 letter0 bundle0 object0).bundle.sig).map bv, [.int .u8 ((Itm.mk (takeN (openP l) 1) 0 0 letter0 bundle0 object0).object.server)], [.int .u8 ((Itm.mk (takeN (openP l) 1) 0 0 letter0 bundle0 object0).object.n)], ((Itm.mk (takeN (openP l) 1) 0 0 letter0 bundle0 object0).object.key).map bv, [.int .u32 ((Itm.mk (takeN (openP l) 1) 0 0 letter0 bundle0 object0).object.since)], [.int .u32 ((Itm.mk (takeN (openP l) 1) 0 0 letter0 bundle0 object0).object.till)], ((Itm.mk (takeN (openP l) 1) 0 0 letter0 bundle0 object0).object.sig).map bv, [.slice none ([]).length 0]] :: rch g2 (((openP (l)).drop 1).drop 1) (endW (((openP (l)).drop 1).drop 1) (failW (nextW ((openP (l)).drop 1) (lenW (openP (l)) (openW (l)) 1)) (if (letterR (nextP ((openP (l)).drop 1))).isSome then 0 else 141))) :: blk g1 87 itemL (itemV ((Itm.mk (takeN (openP l) 1) 0 0 ((letterR (nextP ((openP l).drop 1))).getD letter0) bundle0 object0)) p13 c14 none 0) :: H)) (fun _ h => h) ?_
        refine VL.assign rfl ?_
        refine VL.nil ?_
        refine VX.next ?_
        refine VC.ret ?_
        refine VX.ret_cell (cs := cat (itemV ((Itm.mk (takeN (openP l) 1) 0 0 ((letterR (nextP ((openP l).drop 1))).getD letter0) bundle0 object0)) p13 c14 none 0)) 2 rfl rfl rfl (by rw [cat_size (itemV_len (⟨takeN_lt _ 1, (show (0 : Nat) < 256 by decide), (show (0 : Nat) < 256 by decide), (letterR_ok _), bundle0_ok, object0_ok⟩ : Itm.ok _))]; exact kd87) (fun _ h => h) rfl rfl (fun we hw => ?_)
        obtain ⟨hn1, hn2⟩ := item_w1 h3_4 h8_0
        obtain ⟨y, e1, e2⟩ := itemW_some (by omega) (by omega) h20_2 hn1
        have e3 := hn2 y e1
        have e4 := h8_0
        rw [e1, e2, e3]
        exact ⟨_, _, _, _, by rw [e4]; rfl, hw.drop.drop.drop.sub (fun _ hs => by repeat (first | exact hs | apply List.mem_cons_of_mem)), (hA15.now (s := ⟨w11, _⟩) Mono.byte hw.drop.drop.drop (by repeat (first | exact List.mem_cons_self .. | apply List.mem_cons_of_mem))), Arr.none⟩
    · have h8_0 : takeN (openP l) 1 ≠ 1 := by have h : ¬ ((takeN (openP l) 1 : Nat) : Int) = 1 := h8_0; omega
      refine VL.assign rfl ?_
      refine VL.nil ?_
      refine VX.next ?_
      refine VC.no rfl ?_
      refine VC.seq ?_
      refine VC.seq ?_
      refine VC.region ?_
      refine VL.eql rfl rfl ?_
      refine VL.case (fun h10_0 => ?_) (fun h10_0 => ?_)
      · have h10_0 : takeN (openP l) 1 = 2 := by have h : ((takeN (openP l) 1 : Nat) : Int) = 2 := h10_0; omega
        refine VL.assign rfl ?_
        refine VL.nil ?_
        refine VX.next ?_
        refine VC.yes rfl ?_
        refine VC.skip ?_
        refine VX.next ?_
        refine VC.yes rfl ?_
        refine VC.region ?_
        refine VL.move rfl ?_
        refine VL.call Try.func122 rfl (by decide) rfl (fun w' hw => byte_R (i := 1) rfl hw) (fun v => ?_)
        refine VL.fact fun e18 => ?_
        subst e18
        refine VL.turn (G' := Own _ (blk g5 87 itemL (itemV ((Itm.mk (takeN (openP l) 1) 0 0 letter0 bundle0 object0)) none 0 none 0) :: rch g2 (((openP (l)).drop 1).drop 1) (lenW ((openP (l)).drop 1) (lenW (openP (l)) (openW (l)) 1) 1) :: blk g1 87 itemL (itemV (item0) none 0 none 0) :: H)) (fun _ h => h) ?_
        refine VL.move rfl ?_
        refine VL.call Try.func122 rfl (by decide) rfl (fun w' hw => byte_R (i := 1) rfl hw) (fun v => ?_)
        refine VL.fact fun e19 => ?_
        subst e19
        refine VL.turn (G' := Own _ (blk g5 87 itemL (itemV ((Itm.mk (takeN (openP l) 1) 0 0 letter0 bundle0 object0)) none 0 none 0) :: rch g2 ((((openP (l)).drop 1).drop 1).drop 1) (lenW (((openP (l)).drop 1).drop 1) (lenW ((openP (l)).drop 1) (lenW (openP (l)) (openW (l)) 1) 1) 1) :: blk g1 87 itemL (itemV (item0) none 0 none 0) :: H)) (fun _ h => h) ?_
        refine VL.fieldAddr rfl fo87_1 rfl ?_
        refine VL.store (L := itemL) (qs := [[.int .u8 (takeN ((openP (l)).drop 1) 1)]]) (ps' := [[.int .u8 ((Itm.mk (takeN (openP l) 1) 0 0 letter0 bundle0 object0).kind)], [.int .u8 (takeN ((openP (l)).drop 1) 1)], [.int .u8 ((Itm.mk (takeN (openP l) 1) 0 0 letter0 bundle0 object0).peer)], [.int .u8 ((Itm.mk (takeN (openP l) 1) 0 0 letter0 bundle0 object0).letter.src)], [.int .u8 ((Itm.mk (takeN (openP l) 1) 0 0 letter0 bundle0 object0).letter.dst)], ((Itm.mk (takeN (openP l) 1) 0 0 letter0 bundle0 object0).letter.header.session).map bv, [.bool ((Itm.mk (takeN (openP l) 1) 0 0 letter0 bundle0 object0).letter.header.first)], ((Itm.mk (takeN (openP l) 1) 0 0 letter0 bundle0 object0).letter.header.agree).map bv, ((Itm.mk (takeN (openP l) 1) 0 0 letter0 bundle0 object0).letter.header.signer).map bv, ((Itm.mk (takeN (openP l) 1) 0 0 letter0 bundle0 object0).letter.header.base).map bv, [.int .u16 ((Itm.mk (takeN (openP l) 1) 0 0 letter0 bundle0 object0).letter.header.id)], ((Itm.mk (takeN (openP l) 1) 0 0 letter0 bundle0 object0).letter.header.ratchet).map bv, [.int .u16 ((Itm.mk (takeN (openP l) 1) 0 0 letter0 bundle0 object0).letter.header.n)], [.int .u16 ((Itm.mk (takeN (openP l) 1) 0 0 letter0 bundle0 object0).letter.header.prev)], [.slice none ([]).length 0], [.int .u8 ((Itm.mk (takeN (openP l) 1) 0 0 letter0 bundle0 object0).bundle.device)], ((Itm.mk (takeN (openP l) 1) 0 0 letter0 bundle0 object0).bundle.agree).map bv, ((Itm.mk (takeN (openP l) 1) 0 0 letter0 bundle0 object0).bundle.signer).map bv, [.int .u16 ((Itm.mk (takeN (openP l) 1) 0 0 letter0 bundle0 object0).bundle.id)], ((Itm.mk (takeN (openP l) 1) 0 0 letter0 bundle0 object0).bundle.once).map bv, ((Itm.mk (takeN (openP l) 1) 0 0 letter0 bundle0 object0).bundle.sig).map bv, [.int .u8 ((Itm.mk (takeN (openP l) 1) 0 0 letter0 bundle0 object0).object.server)], [.int .u8 ((Itm.mk (takeN (openP l) 1) 0 0 letter0 bundle0 object0).object.n)], ((Itm.mk (takeN (openP l) 1) 0 0 letter0 bundle0 object0).object.key).map bv, [.int .u32 ((Itm.mk (takeN (openP l) 1) 0 0 letter0 bundle0 object0).object.since)], [.int .u32 ((Itm.mk (takeN (openP l) 1) 0 0 letter0 bundle0 object0).object.till)], ((Itm.mk (takeN (openP l) 1) 0 0 letter0 bundle0 object0).object.sig).map bv, [.slice none ([]).length 0]]) 0 1 1 rfl rfl rfl (.inr ⟨kd5, rfl⟩) rfl rfl rfl (by intro u hu; simp [cat] at hu; subst hu; rfl) rfl rfl ?_
        refine VL.turn (G' := Own _ (blk g5 87 itemL [[.int .u8 ((Itm.mk (takeN (openP l) 1) 0 0 letter0 bundle0 object0).kind)], [.int .u8 (takeN ((openP (l)).drop 1) 1)], [.int .u8 ((Itm.mk (takeN (openP l) 1) 0 0 letter0 bundle0 object0).peer)], [.int .u8 ((Itm.mk (takeN (openP l) 1) 0 0 letter0 bundle0 object0).letter.src)], [.int .u8 ((Itm.mk (takeN (openP l) 1) 0 0 letter0 bundle0 object0).letter.dst)], ((Itm.mk (takeN (openP l) 1) 0 0 letter0 bundle0 object0).letter.header.session).map bv, [.bool ((Itm.mk (takeN (openP l) 1) 0 0 letter0 bundle0 object0).letter.header.first)], ((Itm.mk (takeN (openP l) 1) 0 0 letter0 bundle0 object0).letter.header.agree).map bv, ((Itm.mk (takeN (openP l) 1) 0 0 letter0 bundle0 object0).letter.header.signer).map bv, ((Itm.mk (takeN (openP l) 1) 0 0 letter0 bundle0 object0).letter.header.base).map bv, [.int .u16 ((Itm.mk (takeN (openP l) 1) 0 0 letter0 bundle0 object0).letter.header.id)], ((Itm.mk (takeN (openP l) 1) 0 0 letter0 bundle0 object0).letter.header.ratchet).map bv, [.int .u16 ((Itm.mk (takeN (openP l) 1) 0 0 letter0 bundle0 object0).letter.header.n)], [.int .u16 ((Itm.mk (takeN (openP l) 1) 0 0 letter0 bundle0 object0).letter.header.prev)], [.slice none ([]).length 0], [.int .u8 ((Itm.mk (takeN (openP l) 1) 0 0 letter0 bundle0 object0).bundle.device)], ((Itm.mk (takeN (openP l) 1) 0 0 letter0 bundle0 object0).bundle.agree).map bv, ((Itm.mk (takeN (openP l) 1) 0 0 letter0 bundle0 object0).bundle.signer).map bv, [.int .u16 ((Itm.mk (takeN (openP l) 1) 0 0 letter0 bundle0 object0).bundle.id)], ((Itm.mk (takeN (openP l) 1) 0 0 letter0 bundle0 object0).bundle.once).map bv, ((Itm.mk (takeN (openP l) 1) 0 0 letter0 bundle0 object0).bundle.sig).map bv, [.int .u8 ((Itm.mk (takeN (openP l) 1) 0 0 letter0 bundle0 object0).object.server)], [.int .u8 ((Itm.mk (takeN (openP l) 1) 0 0 letter0 bundle0 object0).object.n)], ((Itm.mk (takeN (openP l) 1) 0 0 letter0 bundle0 object0).object.key).map bv, [.int .u32 ((Itm.mk (takeN (openP l) 1) 0 0 letter0 bundle0 object0).object.since)], [.int .u32 ((Itm.mk (takeN (openP l) 1) 0 0 letter0 bundle0 object0).object.till)], ((Itm.mk (takeN (openP l) 1) 0 0 letter0 bundle0 object0).object.sig).map bv, [.slice none ([]).length 0]] :: rch g2 ((((openP (l)).drop 1).drop 1).drop 1) (lenW (((openP (l)).drop 1).drop 1) (lenW ((openP (l)).drop 1) (lenW (openP (l)) (openW (l)) 1) 1) 1) :: blk g1 87 itemL (itemV (item0) none 0 none 0) :: H)) (fun _ h => h) ?_
        refine VL.fieldAddr rfl fo87_2 rfl ?_
        refine VL.store (L := itemL) (qs := [[.int .u8 (takeN (((openP (l)).drop 1).drop 1) 1)]]) (ps' := [[.int .u8 ((Itm.mk (takeN (openP l) 1) 0 0 letter0 bundle0 object0).kind)], [.int .u8 (takeN ((openP (l)).drop 1) 1)], [.int .u8 (takeN (((openP (l)).drop 1).drop 1) 1)], [.int .u8 ((Itm.mk (takeN (openP l) 1) 0 0 letter0 bundle0 object0).letter.src)], [.int .u8 ((Itm.mk (takeN (openP l) 1) 0 0 letter0 bundle0 object0).letter.dst)], ((Itm.mk (takeN (openP l) 1) 0 0 letter0 bundle0 object0).letter.header.session).map bv, [.bool ((Itm.mk (takeN (openP l) 1) 0 0 letter0 bundle0 object0).letter.header.first)], ((Itm.mk (takeN (openP l) 1) 0 0 letter0 bundle0 object0).letter.header.agree).map bv, ((Itm.mk (takeN (openP l) 1) 0 0 letter0 bundle0 object0).letter.header.signer).map bv, ((Itm.mk (takeN (openP l) 1) 0 0 letter0 bundle0 object0).letter.header.base).map bv, [.int .u16 ((Itm.mk (takeN (openP l) 1) 0 0 letter0 bundle0 object0).letter.header.id)], ((Itm.mk (takeN (openP l) 1) 0 0 letter0 bundle0 object0).letter.header.ratchet).map bv, [.int .u16 ((Itm.mk (takeN (openP l) 1) 0 0 letter0 bundle0 object0).letter.header.n)], [.int .u16 ((Itm.mk (takeN (openP l) 1) 0 0 letter0 bundle0 object0).letter.header.prev)], [.slice none ([]).length 0], [.int .u8 ((Itm.mk (takeN (openP l) 1) 0 0 letter0 bundle0 object0).bundle.device)], ((Itm.mk (takeN (openP l) 1) 0 0 letter0 bundle0 object0).bundle.agree).map bv, ((Itm.mk (takeN (openP l) 1) 0 0 letter0 bundle0 object0).bundle.signer).map bv, [.int .u16 ((Itm.mk (takeN (openP l) 1) 0 0 letter0 bundle0 object0).bundle.id)], ((Itm.mk (takeN (openP l) 1) 0 0 letter0 bundle0 object0).bundle.once).map bv, ((Itm.mk (takeN (openP l) 1) 0 0 letter0 bundle0 object0).bundle.sig).map bv, [.int .u8 ((Itm.mk (takeN (openP l) 1) 0 0 letter0 bundle0 object0).object.server)], [.int .u8 ((Itm.mk (takeN (openP l) 1) 0 0 letter0 bundle0 object0).object.n)], ((Itm.mk (takeN (openP l) 1) 0 0 letter0 bundle0 object0).object.key).map bv, [.int .u32 ((Itm.mk (takeN (openP l) 1) 0 0 letter0 bundle0 object0).object.since)], [.int .u32 ((Itm.mk (takeN (openP l) 1) 0 0 letter0 bundle0 object0).object.till)], ((Itm.mk (takeN (openP l) 1) 0 0 letter0 bundle0 object0).object.sig).map bv, [.slice none ([]).length 0]]) 0 2 1 rfl rfl rfl (.inr ⟨kd5, rfl⟩) rfl rfl rfl (by intro u hu; simp [cat] at hu; subst hu; rfl) rfl rfl ?_
        refine VL.turn (G' := Own _ (blk g5 87 itemL [[.int .u8 ((Itm.mk (takeN (openP l) 1) 0 0 letter0 bundle0 object0).kind)], [.int .u8 (takeN ((openP (l)).drop 1) 1)], [.int .u8 (takeN (((openP (l)).drop 1).drop 1) 1)], [.int .u8 ((Itm.mk (takeN (openP l) 1) 0 0 letter0 bundle0 object0).letter.src)], [.int .u8 ((Itm.mk (takeN (openP l) 1) 0 0 letter0 bundle0 object0).letter.dst)], ((Itm.mk (takeN (openP l) 1) 0 0 letter0 bundle0 object0).letter.header.session).map bv, [.bool ((Itm.mk (takeN (openP l) 1) 0 0 letter0 bundle0 object0).letter.header.first)], ((Itm.mk (takeN (openP l) 1) 0 0 letter0 bundle0 object0).letter.header.agree).map bv, ((Itm.mk (takeN (openP l) 1) 0 0 letter0 bundle0 object0).letter.header.signer).map bv, ((Itm.mk (takeN (openP l) 1) 0 0 letter0 bundle0 object0).letter.header.base).map bv, [.int .u16 ((Itm.mk (takeN (openP l) 1) 0 0 letter0 bundle0 object0).letter.header.id)], ((Itm.mk (takeN (openP l) 1) 0 0 letter0 bundle0 object0).letter.header.ratchet).map bv, [.int .u16 ((Itm.mk (takeN (openP l) 1) 0 0 letter0 bundle0 object0).letter.header.n)], [.int .u16 ((Itm.mk (takeN (openP l) 1) 0 0 letter0 bundle0 object0).letter.header.prev)], [.slice none ([]).length 0], [.int .u8 ((Itm.mk (takeN (openP l) 1) 0 0 letter0 bundle0 object0).bundle.device)], ((Itm.mk (takeN (openP l) 1) 0 0 letter0 bundle0 object0).bundle.agree).map bv, ((Itm.mk (takeN (openP l) 1) 0 0 letter0 bundle0 object0).bundle.signer).map bv, [.int .u16 ((Itm.mk (takeN (openP l) 1) 0 0 letter0 bundle0 object0).bundle.id)], ((Itm.mk (takeN (openP l) 1) 0 0 letter0 bundle0 object0).bundle.once).map bv, ((Itm.mk (takeN (openP l) 1) 0 0 letter0 bundle0 object0).bundle.sig).map bv, [.int .u8 ((Itm.mk (takeN (openP l) 1) 0 0 letter0 bundle0 object0).object.server)], [.int .u8 ((Itm.mk (takeN (openP l) 1) 0 0 letter0 bundle0 object0).object.n)], ((Itm.mk (takeN (openP l) 1) 0 0 letter0 bundle0 object0).object.key).map bv, [.int .u32 ((Itm.mk (takeN (openP l) 1) 0 0 letter0 bundle0 object0).object.since)], [.int .u32 ((Itm.mk (takeN (openP l) 1) 0 0 letter0 bundle0 object0).object.till)], ((Itm.mk (takeN (openP l) 1) 0 0 letter0 bundle0 object0).object.sig).map bv, [.slice none ([]).length 0]] :: rch g2 ((((openP (l)).drop 1).drop 1).drop 1) (lenW (((openP (l)).drop 1).drop 1) (lenW ((openP (l)).drop 1) (lenW (openP (l)) (openW (l)) 1) 1) 1) :: blk g1 87 itemL (itemV (item0) none 0 none 0) :: H)) (fun _ h => h) ?_
        refine VL.nil ?_
        refine VX.block_normal ?_
        refine VX.next ?_
        refine VC.seq ?_
        refine VC.region ?_
        refine VL.move rfl ?_
        refine VL.move rfl ?_
        refine VL.call Try.func125 rfl (by decide) rfl (fun w' hw => fail_R (i := 1) rfl hw (0)) (fun v => ?_)
        refine VL.fact fun e20 => ?_
        subst e20
        refine VL.turn (G' := Own _ (blk g5 87 itemL [[.int .u8 ((Itm.mk (takeN (openP l) 1) 0 0 letter0 bundle0 object0).kind)], [.int .u8 (takeN ((openP (l)).drop 1) 1)], [.int .u8 (takeN (((openP (l)).drop 1).drop 1) 1)], [.int .u8 ((Itm.mk (takeN (openP l) 1) 0 0 letter0 bundle0 object0).letter.src)], [.int .u8 ((Itm.mk (takeN (openP l) 1) 0 0 letter0 bundle0 object0).letter.dst)], ((Itm.mk (takeN (openP l) 1) 0 0 letter0 bundle0 object0).letter.header.session).map bv, [.bool ((Itm.mk (takeN (openP l) 1) 0 0 letter0 bundle0 object0).letter.header.first)], ((Itm.mk (takeN (openP l) 1) 0 0 letter0 bundle0 object0).letter.header.agree).map bv, ((Itm.mk (takeN (openP l) 1) 0 0 letter0 bundle0 object0).letter.header.signer).map bv, ((Itm.mk (takeN (openP l) 1) 0 0 letter0 bundle0 object0).letter.header.base).map bv, [.int .u16 ((Itm.mk (takeN (openP l) 1) 0 0 letter0 bundle0 object0).letter.header.id)], ((Itm.mk (takeN (openP l) 1) 0 0 letter0 bundle0 object0).letter.header.ratchet).map bv, [.int .u16 ((Itm.mk (takeN (openP l) 1) 0 0 letter0 bundle0 object0).letter.header.n)], [.int .u16 ((Itm.mk (takeN (openP l) 1) 0 0 letter0 bundle0 object0).letter.header.prev)], [.slice none ([]).length 0], [.int .u8 ((Itm.mk (takeN (openP l) 1) 0 0 letter0 bundle0 object0).bundle.device)], ((Itm.mk (takeN (openP l) 1) 0 0 letter0 bundle0 object0).bundle.agree).map bv, ((Itm.mk (takeN (openP l) 1) 0 0 letter0 bundle0 object0).bundle.signer).map bv, [.int .u16 ((Itm.mk (takeN (openP l) 1) 0 0 letter0 bundle0 object0).bundle.id)], ((Itm.mk (takeN (openP l) 1) 0 0 letter0 bundle0 object0).bundle.once).map bv, ((Itm.mk (takeN (openP l) 1) 0 0 letter0 bundle0 object0).bundle.sig).map bv, [.int .u8 ((Itm.mk (takeN (openP l) 1) 0 0 letter0 bundle0 object0).object.server)], [.int .u8 ((Itm.mk (takeN (openP l) 1) 0 0 letter0 bundle0 object0).object.n)], ((Itm.mk (takeN (openP l) 1) 0 0 letter0 bundle0 object0).object.key).map bv, [.int .u32 ((Itm.mk (takeN (openP l) 1) 0 0 letter0 bundle0 object0).object.since)], [.int .u32 ((Itm.mk (takeN (openP l) 1) 0 0 letter0 bundle0 object0).object.till)], ((Itm.mk (takeN (openP l) 1) 0 0 letter0 bundle0 object0).object.sig).map bv, [.slice none ([]).length 0]] :: rch g2 ((((openP (l)).drop 1).drop 1).drop 1) (failW (lenW (((openP (l)).drop 1).drop 1) (lenW ((openP (l)).drop 1) (lenW (openP (l)) (openW (l)) 1) 1) 1) (0)) :: blk g1 87 itemL (itemV (item0) none 0 none 0) :: H)) (fun _ h => h) ?_
        refine VL.nil ?_
        refine VX.next ?_
        refine VC.seq ?_
        refine VC.seq ?_
        refine VC.region ?_
        refine VL.move rfl ?_
        refine VL.call Try.func126 rfl (by decide) rfl (fun w' hw => end_R (i := 1) rfl hw) (fun v => ?_)
        refine VL.fact fun e21 => ?_
        subst e21
        refine VL.turn (G' := Own _ (blk g5 87 itemL [[.int .u8 ((Itm.mk (takeN (openP l) 1) 0 0 letter0 bundle0 object0).kind)], [.int .u8 (takeN ((openP (l)).drop 1) 1)], [.int .u8 (takeN (((openP (l)).drop 1).drop 1) 1)], [.int .u8 ((Itm.mk (takeN (openP l) 1) 0 0 letter0 bundle0 object0).letter.src)], [.int .u8 ((Itm.mk (takeN (openP l) 1) 0 0 letter0 bundle0 object0).letter.dst)], ((Itm.mk (takeN (openP l) 1) 0 0 letter0 bundle0 object0).letter.header.session).map bv, [.bool ((Itm.mk (takeN (openP l) 1) 0 0 letter0 bundle0 object0).letter.header.first)], ((Itm.mk (takeN (openP l) 1) 0 0 letter0 bundle0 object0).letter.header.agree).map bv, ((Itm.mk (takeN (openP l) 1) 0 0 letter0 bundle0 object0).letter.header.signer).map bv, ((Itm.mk (takeN (openP l) 1) 0 0 letter0 bundle0 object0).letter.header.base).map bv, [.int .u16 ((Itm.mk (takeN (openP l) 1) 0 0 letter0 bundle0 object0).letter.header.id)], ((Itm.mk (takeN (openP l) 1) 0 0 letter0 bundle0 object0).letter.header.ratchet).map bv, [.int .u16 ((Itm.mk (takeN (openP l) 1) 0 0 letter0 bundle0 object0).letter.header.n)], [.int .u16 ((Itm.mk (takeN (openP l) 1) 0 0 letter0 bundle0 object0).letter.header.prev)], [.slice none ([]).length 0], [.int .u8 ((Itm.mk (takeN (openP l) 1) 0 0 letter0 bundle0 object0).bundle.device)], ((Itm.mk (takeN (openP l) 1) 0 0 letter0 bundle0 object0).bundle.agree).map bv, ((Itm.mk (takeN (openP l) 1) 0 0 letter0 bundle0 object0).bundle.signer).map bv, [.int .u16 ((Itm.mk (takeN (openP l) 1) 0 0 letter0 bundle0 object0).bundle.id)], ((Itm.mk (takeN (openP l) 1) 0 0 letter0 bundle0 object0).bundle.once).map bv, ((Itm.mk (takeN (openP l) 1) 0 0 letter0 bundle0 object0).bundle.sig).map bv, [.int .u8 ((Itm.mk (takeN (openP l) 1) 0 0 letter0 bundle0 object0).object.server)], [.int .u8 ((Itm.mk (takeN (openP l) 1) 0 0 letter0 bundle0 object0).object.n)], ((Itm.mk (takeN (openP l) 1) 0 0 letter0 bundle0 object0).object.key).map bv, [.int .u32 ((Itm.mk (takeN (openP l) 1) 0 0 letter0 bundle0 object0).object.since)], [.int .u32 ((Itm.mk (takeN (openP l) 1) 0 0 letter0 bundle0 object0).object.till)], ((Itm.mk (takeN (openP l) 1) 0 0 letter0 bundle0 object0).object.sig).map bv, [.slice none ([]).length 0]] :: rch g2 ((((openP (l)).drop 1).drop 1).drop 1) (endW ((((openP (l)).drop 1).drop 1).drop 1) (failW (lenW (((openP (l)).drop 1).drop 1) (lenW ((openP (l)).drop 1) (lenW (openP (l)) (openW (l)) 1) 1) 1) (0))) :: blk g1 87 itemL (itemV (item0) none 0 none 0) :: H)) (fun _ h => h) ?_
        refine VL.neq rfl rfl ?_
        refine VL.case (fun h20_2 => ?_) (fun h20_2 => ?_)
        · refine VL.nil ?_
          refine VX.next ?_
          refine VC.yes rfl ?_
          refine VC.seq ?_
          refine VC.region ?_
          refine VL.build0 (cs := cat (itemV (item0) none 0 none 0)) built87 ?_
          refine VL.store (L := itemL) (qs := (itemV (item0) none 0 none 0)) (ps' := (itemV (item0) none 0 none 0)) 2 0 28 rfl rfl rfl (.inl kd87) rfl rfl (itemV_len item0_ok) (itemV_ok1 item0 none 0 none 0) rfl rfl ?_
          refine VL.turn (G' := Own _ (blk g5 87 itemL [[.int .u8 ((Itm.mk (takeN (openP l) 1) 0 0 letter0 bundle0 object0).kind)], [.int .u8 (takeN ((openP (l)).drop 1) 1)], [.int .u8 (takeN (((openP (l)).drop 1).drop 1) 1)], [.int .u8 ((Itm.mk (takeN (openP l) 1) 0 0 letter0 bundle0 object0).letter.src)], [.int .u8 ((Itm.mk (takeN (openP l) 1) 0 0 letter0 bundle0 object0).letter.dst)], ((Itm.mk (takeN (openP l) 1) 0 0 letter0 bundle0 object0).letter.header.session).map bv, [.bool ((Itm.mk (takeN (openP l) 1) 0 0 letter0 bundle0 object0).letter.header.first)], ((Itm.mk (takeN (openP l) 1) 0 0 letter0 bundle0 object0).letter.header.agree).map bv, ((Itm.mk (takeN (openP l) 1) 0 0 letter0 bundle0 object0).letter.header.signer).map bv, ((Itm.mk (takeN (openP l) 1) 0 0 letter0 bundle0 object0).letter.header.base).map bv, [.int .u16 ((Itm.mk (takeN (openP l) 1) 0 0 letter0 bundle0 object0).letter.header.id)], ((Itm.mk (takeN (openP l) 1) 0 0 letter0 bundle0 object0).letter.header.ratchet).map bv, [.int .u16 ((Itm.mk (takeN (openP l) 1) 0 0 letter0 bundle0 object0).letter.header.n)], [.int .u16 ((Itm.mk (takeN (openP l) 1) 0 0 letter0 bundle0 object0).letter.header.prev)], [.slice none ([]).length 0], [.int .u8 ((Itm.mk (takeN (openP l) 1) 0 0 letter0 bundle0 object0).bundle.device)], ((Itm.mk (takeN (openP l) 1) 0 0 letter0 bundle0 object0).bundle.agree).map bv, ((Itm.mk (takeN (openP l) 1) 0 0 letter0 bundle0 object0).bundle.signer).map bv, [.int .u16 ((Itm.mk (takeN (openP l) 1) 0 0 letter0 bundle0 object0).bundle.id)], ((Itm.mk (takeN (openP l) 1) 0 0 letter0 bundle0 object0).bundle.once).map bv, ((Itm.mk (takeN (openP l) 1) 0 0 letter0 bundle0 object0).bundle.sig).map bv, [.int .u8 ((Itm.mk (takeN (openP l) 1) 0 0 letter0 bundle0 object0).object.server)], [.int .u8 ((Itm.mk (takeN (openP l) 1) 0 0 letter0 bundle0 object0).object.n)], ((Itm.mk (takeN (openP l) 1) 0 0 letter0 bundle0 object0).object.key).map bv, [.int .u32 ((Itm.mk (takeN (openP l) 1) 0 0 letter0 bundle0 object0).object.since)], [.int .u32 ((Itm.mk (takeN (openP l) 1) 0 0 letter0 bundle0 object0).object.till)], ((Itm.mk (takeN (openP l) 1) 0 0 letter0 bundle0 object0).object.sig).map bv, [.slice none ([]).length 0]] :: rch g2 ((((openP (l)).drop 1).drop 1).drop 1) (endW ((((openP (l)).drop 1).drop 1).drop 1) (failW (lenW (((openP (l)).drop 1).drop 1) (lenW ((openP (l)).drop 1) (lenW (openP (l)) (openW (l)) 1) 1) 1) (0))) :: blk g1 87 itemL (itemV (item0) none 0 none 0) :: H)) (fun _ h => h) ?_
          refine VL.assign rfl ?_
          refine VL.nil ?_
          refine VX.next ?_
          refine VC.ret ?_
          refine VX.then_ret ?_
          refine VX.ret_cell (cs := cat (itemV (item0) none 0 none 0)) 2 rfl rfl rfl (by rw [cat_size (itemV_len item0_ok)]; exact kd87) (fun _ h => h) rfl rfl (fun we hw => ?_)
          obtain ⟨hn1, _⟩ := item_w2 h3_4 (.inl h10_0)
          obtain ⟨e1, e2⟩ := itemW_none (by omega) (by omega) h20_2 hn1
          exact ⟨none, 0, none, 0, by rw [e1]; exact congrArg (fun n : Nat => Value.tuple #[_, .int .i64 (n : Int)]) (e2).symm, hw.drop.drop.drop.sub (fun _ hs => by repeat (first | exact hs | apply List.mem_cons_of_mem)), by rw [e1]; exact Arr.none, by rw [e1]; exact Arr.none⟩
        · refine VL.nil ?_
          refine VX.next ?_
          refine VC.no rfl ?_
          refine VC.skip ?_
          refine VX.next ?_
          refine VC.seq ?_
          refine VC.region ?_
          refine VL.loads (cs := cat (itemV ((Itm.mk (takeN (openP l) 1) (takeN ((openP l).drop 1) 1) (takeN (((openP l).drop 1).drop 1) 1) letter0 bundle0 object0)) none 0 none 0)) 0 0 28 rfl kd87 (fun _ h => h) rfl rfl rfl rfl ?_
          refine VL.store (L := itemL) (qs := (itemV ((Itm.mk (takeN (openP l) 1) (takeN ((openP l).drop 1) 1) (takeN (((openP l).drop 1).drop 1) 1) letter0 bundle0 object0)) none 0 none 0)) (ps' := (itemV ((Itm.mk (takeN (openP l) 1) (takeN ((openP l).drop 1) 1) (takeN (((openP l).drop 1).drop 1) 1) letter0 bundle0 object0)) none 0 none 0)) 2 0 28 rfl rfl rfl (.inl kd87) rfl rfl (itemV_len (⟨takeN_lt _ 1, (takeN_lt _ 1), (takeN_lt _ 1), letter0_ok, bundle0_ok, object0_ok⟩ : Itm.ok _)) (itemV_ok1 ((Itm.mk (takeN (openP l) 1) (takeN ((openP l).drop 1) 1) (takeN (((openP l).drop 1).drop 1) 1) letter0 bundle0 object0)) none 0 none 0) rfl rfl ?_
          refine VL.turn (G' := Own _ (blk g5 87 itemL [[.int .u8 ((Itm.mk (takeN (openP l) 1) 0 0 letter0 bundle0 object0).kind)], [.int .u8 (takeN ((openP (l)).drop 1) 1)], [.int .u8 (takeN (((openP (l)).drop 1).drop 1) 1)], [.int .u8 ((Itm.mk (takeN (openP l) 1) 0 0 letter0 bundle0 object0).letter.src)], [.int .u8 ((Itm.mk (takeN (openP l) 1) 0 0 letter0 bundle0 object0).letter.dst)], ((Itm.mk (takeN (openP l) 1) 0 0 letter0 bundle0 object0).letter.header.session).map bv, [.bool ((Itm.mk (takeN (openP l) 1) 0 0 letter0 bundle0 object0).letter.header.first)], ((Itm.mk (takeN (openP l) 1) 0 0 letter0 bundle0 object0).letter.header.agree).map bv, ((Itm.mk (takeN (openP l) 1) 0 0 letter0 bundle0 object0).letter.header.signer).map bv, ((Itm.mk (takeN (openP l) 1) 0 0 letter0 bundle0 object0).letter.header.base).map bv, [.int .u16 ((Itm.mk (takeN (openP l) 1) 0 0 letter0 bundle0 object0).letter.header.id)], ((Itm.mk (takeN (openP l) 1) 0 0 letter0 bundle0 object0).letter.header.ratchet).map bv, [.int .u16 ((Itm.mk (takeN (openP l) 1) 0 0 letter0 bundle0 object0).letter.header.n)], [.int .u16 ((Itm.mk (takeN (openP l) 1) 0 0 letter0 bundle0 object0).letter.header.prev)], [.slice none ([]).length 0], [.int .u8 ((Itm.mk (takeN (openP l) 1) 0 0 letter0 bundle0 object0).bundle.device)], ((Itm.mk (takeN (openP l) 1) 0 0 letter0 bundle0 object0).bundle.agree).map bv, ((Itm.mk (takeN (openP l) 1) 0 0 letter0 bundle0 object0).bundle.signer).map bv, [.int .u16 ((Itm.mk (takeN (openP l) 1) 0 0 letter0 bundle0 object0).bundle.id)], ((Itm.mk (takeN (openP l) 1) 0 0 letter0 bundle0 object0).bundle.once).map bv, ((Itm.mk (takeN (openP l) 1) 0 0 letter0 bundle0 object0).bundle.sig).map bv, [.int .u8 ((Itm.mk (takeN (openP l) 1) 0 0 letter0 bundle0 object0).object.server)], [.int .u8 ((Itm.mk (takeN (openP l) 1) 0 0 letter0 bundle0 object0).object.n)], ((Itm.mk (takeN (openP l) 1) 0 0 letter0 bundle0 object0).object.key).map bv, [.int .u32 ((Itm.mk (takeN (openP l) 1) 0 0 letter0 bundle0 object0).object.since)], [.int .u32 ((Itm.mk (takeN (openP l) 1) 0 0 letter0 bundle0 object0).object.till)], ((Itm.mk (takeN (openP l) 1) 0 0 letter0 bundle0 object0).object.sig).map bv, [.slice none ([]).length 0]] :: rch g2 ((((openP (l)).drop 1).drop 1).drop 1) (endW ((((openP (l)).drop 1).drop 1).drop 1) (failW (lenW (((openP (l)).drop 1).drop 1) (lenW ((openP (l)).drop 1) (lenW (openP (l)) (openW (l)) 1) 1) 1) (0))) :: blk g1 87 itemL (itemV ((Itm.mk (takeN (openP l) 1) (takeN ((openP l).drop 1) 1) (takeN (((openP l).drop 1).drop 1) 1) letter0 bundle0 object0)) none 0 none 0) :: H)) (fun _ h => h) ?_
          refine VL.assign rfl ?_
          refine VL.nil ?_
          refine VX.next ?_
          refine VC.ret ?_
          refine VX.ret_cell (cs := cat (itemV ((Itm.mk (takeN (openP l) 1) (takeN ((openP l).drop 1) 1) (takeN (((openP l).drop 1).drop 1) 1) letter0 bundle0 object0)) none 0 none 0)) 2 rfl rfl rfl (by rw [cat_size (itemV_len (⟨takeN_lt _ 1, (takeN_lt _ 1), (takeN_lt _ 1), letter0_ok, bundle0_ok, object0_ok⟩ : Itm.ok _))]; exact kd87) (fun _ h => h) rfl rfl (fun we hw => ?_)
          obtain ⟨hn1, hn2⟩ := item_w2 h3_4 (.inl h10_0)
          obtain ⟨y, e1, e2⟩ := itemW_some (by omega) (by omega) h20_2 hn1
          have e3 := hn2 y e1
          rw [e1, e2, e3]
          exact ⟨_, _, _, _, rfl, hw.drop.drop.drop.sub (fun _ hs => by repeat (first | exact hs | apply List.mem_cons_of_mem)), Arr.none, Arr.none⟩
      · have h10_0 : takeN (openP l) 1 ≠ 2 := by have h : ¬ ((takeN (openP l) 1 : Nat) : Int) = 2 := h10_0; omega
        refine VL.assign rfl ?_
        refine VL.nil ?_
        refine VX.next ?_
        refine VC.no rfl ?_
        refine VC.region ?_
        refine VL.eql rfl rfl ?_
        refine VL.case (fun h11_0 => ?_) (fun h11_0 => ?_)
        · have h11_0 : takeN (openP l) 1 = 4 := by have h : ((takeN (openP l) 1 : Nat) : Int) = 4 := h11_0; omega
          refine VL.assign rfl ?_
          refine VL.nil ?_
          refine VX.next ?_
          refine VC.yes rfl ?_
          refine VC.region ?_
          refine VL.move rfl ?_
          refine VL.call Try.func122 rfl (by decide) rfl (fun w' hw => byte_R (i := 1) rfl hw) (fun v => ?_)
          refine VL.fact fun e22 => ?_
          subst e22
          refine VL.turn (G' := Own _ (blk g5 87 itemL (itemV ((Itm.mk (takeN (openP l) 1) 0 0 letter0 bundle0 object0)) none 0 none 0) :: rch g2 (((openP (l)).drop 1).drop 1) (lenW ((openP (l)).drop 1) (lenW (openP (l)) (openW (l)) 1) 1) :: blk g1 87 itemL (itemV (item0) none 0 none 0) :: H)) (fun _ h => h) ?_
          refine VL.move rfl ?_
          refine VL.call Try.func122 rfl (by decide) rfl (fun w' hw => byte_R (i := 1) rfl hw) (fun v => ?_)
          refine VL.fact fun e23 => ?_
          subst e23
          refine VL.turn (G' := Own _ (blk g5 87 itemL (itemV ((Itm.mk (takeN (openP l) 1) 0 0 letter0 bundle0 object0)) none 0 none 0) :: rch g2 ((((openP (l)).drop 1).drop 1).drop 1) (lenW (((openP (l)).drop 1).drop 1) (lenW ((openP (l)).drop 1) (lenW (openP (l)) (openW (l)) 1) 1) 1) :: blk g1 87 itemL (itemV (item0) none 0 none 0) :: H)) (fun _ h => h) ?_
          refine VL.fieldAddr rfl fo87_1 rfl ?_
          refine VL.store (L := itemL) (qs := [[.int .u8 (takeN ((openP (l)).drop 1) 1)]]) (ps' := [[.int .u8 ((Itm.mk (takeN (openP l) 1) 0 0 letter0 bundle0 object0).kind)], [.int .u8 (takeN ((openP (l)).drop 1) 1)], [.int .u8 ((Itm.mk (takeN (openP l) 1) 0 0 letter0 bundle0 object0).peer)], [.int .u8 ((Itm.mk (takeN (openP l) 1) 0 0 letter0 bundle0 object0).letter.src)], [.int .u8 ((Itm.mk (takeN (openP l) 1) 0 0 letter0 bundle0 object0).letter.dst)], ((Itm.mk (takeN (openP l) 1) 0 0 letter0 bundle0 object0).letter.header.session).map bv, [.bool ((Itm.mk (takeN (openP l) 1) 0 0 letter0 bundle0 object0).letter.header.first)], ((Itm.mk (takeN (openP l) 1) 0 0 letter0 bundle0 object0).letter.header.agree).map bv, ((Itm.mk (takeN (openP l) 1) 0 0 letter0 bundle0 object0).letter.header.signer).map bv, ((Itm.mk (takeN (openP l) 1) 0 0 letter0 bundle0 object0).letter.header.base).map bv, [.int .u16 ((Itm.mk (takeN (openP l) 1) 0 0 letter0 bundle0 object0).letter.header.id)], ((Itm.mk (takeN (openP l) 1) 0 0 letter0 bundle0 object0).letter.header.ratchet).map bv, [.int .u16 ((Itm.mk (takeN (openP l) 1) 0 0 letter0 bundle0 object0).letter.header.n)], [.int .u16 ((Itm.mk (takeN (openP l) 1) 0 0 letter0 bundle0 object0).letter.header.prev)], [.slice none ([]).length 0], [.int .u8 ((Itm.mk (takeN (openP l) 1) 0 0 letter0 bundle0 object0).bundle.device)], ((Itm.mk (takeN (openP l) 1) 0 0 letter0 bundle0 object0).bundle.agree).map bv, ((Itm.mk (takeN (openP l) 1) 0 0 letter0 bundle0 object0).bundle.signer).map bv, [.int .u16 ((Itm.mk (takeN (openP l) 1) 0 0 letter0 bundle0 object0).bundle.id)], ((Itm.mk (takeN (openP l) 1) 0 0 letter0 bundle0 object0).bundle.once).map bv, ((Itm.mk (takeN (openP l) 1) 0 0 letter0 bundle0 object0).bundle.sig).map bv, [.int .u8 ((Itm.mk (takeN (openP l) 1) 0 0 letter0 bundle0 object0).object.server)], [.int .u8 ((Itm.mk (takeN (openP l) 1) 0 0 letter0 bundle0 object0).object.n)], ((Itm.mk (takeN (openP l) 1) 0 0 letter0 bundle0 object0).object.key).map bv, [.int .u32 ((Itm.mk (takeN (openP l) 1) 0 0 letter0 bundle0 object0).object.since)], [.int .u32 ((Itm.mk (takeN (openP l) 1) 0 0 letter0 bundle0 object0).object.till)], ((Itm.mk (takeN (openP l) 1) 0 0 letter0 bundle0 object0).object.sig).map bv, [.slice none ([]).length 0]]) 0 1 1 rfl rfl rfl (.inr ⟨kd5, rfl⟩) rfl rfl rfl (by intro u hu; simp [cat] at hu; subst hu; rfl) rfl rfl ?_
          refine VL.turn (G' := Own _ (blk g5 87 itemL [[.int .u8 ((Itm.mk (takeN (openP l) 1) 0 0 letter0 bundle0 object0).kind)], [.int .u8 (takeN ((openP (l)).drop 1) 1)], [.int .u8 ((Itm.mk (takeN (openP l) 1) 0 0 letter0 bundle0 object0).peer)], [.int .u8 ((Itm.mk (takeN (openP l) 1) 0 0 letter0 bundle0 object0).letter.src)], [.int .u8 ((Itm.mk (takeN (openP l) 1) 0 0 letter0 bundle0 object0).letter.dst)], ((Itm.mk (takeN (openP l) 1) 0 0 letter0 bundle0 object0).letter.header.session).map bv, [.bool ((Itm.mk (takeN (openP l) 1) 0 0 letter0 bundle0 object0).letter.header.first)], ((Itm.mk (takeN (openP l) 1) 0 0 letter0 bundle0 object0).letter.header.agree).map bv, ((Itm.mk (takeN (openP l) 1) 0 0 letter0 bundle0 object0).letter.header.signer).map bv, ((Itm.mk (takeN (openP l) 1) 0 0 letter0 bundle0 object0).letter.header.base).map bv, [.int .u16 ((Itm.mk (takeN (openP l) 1) 0 0 letter0 bundle0 object0).letter.header.id)], ((Itm.mk (takeN (openP l) 1) 0 0 letter0 bundle0 object0).letter.header.ratchet).map bv, [.int .u16 ((Itm.mk (takeN (openP l) 1) 0 0 letter0 bundle0 object0).letter.header.n)], [.int .u16 ((Itm.mk (takeN (openP l) 1) 0 0 letter0 bundle0 object0).letter.header.prev)], [.slice none ([]).length 0], [.int .u8 ((Itm.mk (takeN (openP l) 1) 0 0 letter0 bundle0 object0).bundle.device)], ((Itm.mk (takeN (openP l) 1) 0 0 letter0 bundle0 object0).bundle.agree).map bv, ((Itm.mk (takeN (openP l) 1) 0 0 letter0 bundle0 object0).bundle.signer).map bv, [.int .u16 ((Itm.mk (takeN (openP l) 1) 0 0 letter0 bundle0 object0).bundle.id)], ((Itm.mk (takeN (openP l) 1) 0 0 letter0 bundle0 object0).bundle.once).map bv, ((Itm.mk (takeN (openP l) 1) 0 0 letter0 bundle0 object0).bundle.sig).map bv, [.int .u8 ((Itm.mk (takeN (openP l) 1) 0 0 letter0 bundle0 object0).object.server)], [.int .u8 ((Itm.mk (takeN (openP l) 1) 0 0 letter0 bundle0 object0).object.n)], ((Itm.mk (takeN (openP l) 1) 0 0 letter0 bundle0 object0).object.key).map bv, [.int .u32 ((Itm.mk (takeN (openP l) 1) 0 0 letter0 bundle0 object0).object.since)], [.int .u32 ((Itm.mk (takeN (openP l) 1) 0 0 letter0 bundle0 object0).object.till)], ((Itm.mk (takeN (openP l) 1) 0 0 letter0 bundle0 object0).object.sig).map bv, [.slice none ([]).length 0]] :: rch g2 ((((openP (l)).drop 1).drop 1).drop 1) (lenW (((openP (l)).drop 1).drop 1) (lenW ((openP (l)).drop 1) (lenW (openP (l)) (openW (l)) 1) 1) 1) :: blk g1 87 itemL (itemV (item0) none 0 none 0) :: H)) (fun _ h => h) ?_
          refine VL.fieldAddr rfl fo87_2 rfl ?_
          refine VL.store (L := itemL) (qs := [[.int .u8 (takeN (((openP (l)).drop 1).drop 1) 1)]]) (ps' := [[.int .u8 ((Itm.mk (takeN (openP l) 1) 0 0 letter0 bundle0 object0).kind)], [.int .u8 (takeN ((openP (l)).drop 1) 1)], [.int .u8 (takeN (((openP (l)).drop 1).drop 1) 1)], [.int .u8 ((Itm.mk (takeN (openP l) 1) 0 0 letter0 bundle0 object0).letter.src)], [.int .u8 ((Itm.mk (takeN (openP l) 1) 0 0 letter0 bundle0 object0).letter.dst)], ((Itm.mk (takeN (openP l) 1) 0 0 letter0 bundle0 object0).letter.header.session).map bv, [.bool ((Itm.mk (takeN (openP l) 1) 0 0 letter0 bundle0 object0).letter.header.first)], ((Itm.mk (takeN (openP l) 1) 0 0 letter0 bundle0 object0).letter.header.agree).map bv, ((Itm.mk (takeN (openP l) 1) 0 0 letter0 bundle0 object0).letter.header.signer).map bv, ((Itm.mk (takeN (openP l) 1) 0 0 letter0 bundle0 object0).letter.header.base).map bv, [.int .u16 ((Itm.mk (takeN (openP l) 1) 0 0 letter0 bundle0 object0).letter.header.id)], ((Itm.mk (takeN (openP l) 1) 0 0 letter0 bundle0 object0).letter.header.ratchet).map bv, [.int .u16 ((Itm.mk (takeN (openP l) 1) 0 0 letter0 bundle0 object0).letter.header.n)], [.int .u16 ((Itm.mk (takeN (openP l) 1) 0 0 letter0 bundle0 object0).letter.header.prev)], [.slice none ([]).length 0], [.int .u8 ((Itm.mk (takeN (openP l) 1) 0 0 letter0 bundle0 object0).bundle.device)], ((Itm.mk (takeN (openP l) 1) 0 0 letter0 bundle0 object0).bundle.agree).map bv, ((Itm.mk (takeN (openP l) 1) 0 0 letter0 bundle0 object0).bundle.signer).map bv, [.int .u16 ((Itm.mk (takeN (openP l) 1) 0 0 letter0 bundle0 object0).bundle.id)], ((Itm.mk (takeN (openP l) 1) 0 0 letter0 bundle0 object0).bundle.once).map bv, ((Itm.mk (takeN (openP l) 1) 0 0 letter0 bundle0 object0).bundle.sig).map bv, [.int .u8 ((Itm.mk (takeN (openP l) 1) 0 0 letter0 bundle0 object0).object.server)], [.int .u8 ((Itm.mk (takeN (openP l) 1) 0 0 letter0 bundle0 object0).object.n)], ((Itm.mk (takeN (openP l) 1) 0 0 letter0 bundle0 object0).object.key).map bv, [.int .u32 ((Itm.mk (takeN (openP l) 1) 0 0 letter0 bundle0 object0).object.since)], [.int .u32 ((Itm.mk (takeN (openP l) 1) 0 0 letter0 bundle0 object0).object.till)], ((Itm.mk (takeN (openP l) 1) 0 0 letter0 bundle0 object0).object.sig).map bv, [.slice none ([]).length 0]]) 0 2 1 rfl rfl rfl (.inr ⟨kd5, rfl⟩) rfl rfl rfl (by intro u hu; simp [cat] at hu; subst hu; rfl) rfl rfl ?_
          refine VL.turn (G' := Own _ (blk g5 87 itemL [[.int .u8 ((Itm.mk (takeN (openP l) 1) 0 0 letter0 bundle0 object0).kind)], [.int .u8 (takeN ((openP (l)).drop 1) 1)], [.int .u8 (takeN (((openP (l)).drop 1).drop 1) 1)], [.int .u8 ((Itm.mk (takeN (openP l) 1) 0 0 letter0 bundle0 object0).letter.src)], [.int .u8 ((Itm.mk (takeN (openP l) 1) 0 0 letter0 bundle0 object0).letter.dst)], ((Itm.mk (takeN (openP l) 1) 0 0 letter0 bundle0 object0).letter.header.session).map bv, [.bool ((Itm.mk (takeN (openP l) 1) 0 0 letter0 bundle0 object0).letter.header.first)], ((Itm.mk (takeN (openP l) 1) 0 0 letter0 bundle0 object0).letter.header.agree).map bv, ((Itm.mk (takeN (openP l) 1) 0 0 letter0 bundle0 object0).letter.header.signer).map bv, ((Itm.mk (takeN (openP l) 1) 0 0 letter0 bundle0 object0).letter.header.base).map bv, [.int .u16 ((Itm.mk (takeN (openP l) 1) 0 0 letter0 bundle0 object0).letter.header.id)], ((Itm.mk (takeN (openP l) 1) 0 0 letter0 bundle0 object0).letter.header.ratchet).map bv, [.int .u16 ((Itm.mk (takeN (openP l) 1) 0 0 letter0 bundle0 object0).letter.header.n)], [.int .u16 ((Itm.mk (takeN (openP l) 1) 0 0 letter0 bundle0 object0).letter.header.prev)], [.slice none ([]).length 0], [.int .u8 ((Itm.mk (takeN (openP l) 1) 0 0 letter0 bundle0 object0).bundle.device)], ((Itm.mk (takeN (openP l) 1) 0 0 letter0 bundle0 object0).bundle.agree).map bv, ((Itm.mk (takeN (openP l) 1) 0 0 letter0 bundle0 object0).bundle.signer).map bv, [.int .u16 ((Itm.mk (takeN (openP l) 1) 0 0 letter0 bundle0 object0).bundle.id)], ((Itm.mk (takeN (openP l) 1) 0 0 letter0 bundle0 object0).bundle.once).map bv, ((Itm.mk (takeN (openP l) 1) 0 0 letter0 bundle0 object0).bundle.sig).map bv, [.int .u8 ((Itm.mk (takeN (openP l) 1) 0 0 letter0 bundle0 object0).object.server)], [.int .u8 ((Itm.mk (takeN (openP l) 1) 0 0 letter0 bundle0 object0).object.n)], ((Itm.mk (takeN (openP l) 1) 0 0 letter0 bundle0 object0).object.key).map bv, [.int .u32 ((Itm.mk (takeN (openP l) 1) 0 0 letter0 bundle0 object0).object.since)], [.int .u32 ((Itm.mk (takeN (openP l) 1) 0 0 letter0 bundle0 object0).object.till)], ((Itm.mk (takeN (openP l) 1) 0 0 letter0 bundle0 object0).object.sig).map bv, [.slice none ([]).length 0]] :: rch g2 ((((openP (l)).drop 1).drop 1).drop 1) (lenW (((openP (l)).drop 1).drop 1) (lenW ((openP (l)).drop 1) (lenW (openP (l)) (openW (l)) 1) 1) 1) :: blk g1 87 itemL (itemV (item0) none 0 none 0) :: H)) (fun _ h => h) ?_
          refine VL.nil ?_
          refine VX.block_normal ?_
          refine VX.next ?_
          refine VC.seq ?_
          refine VC.region ?_
          refine VL.move rfl ?_
          refine VL.move rfl ?_
          refine VL.call Try.func125 rfl (by decide) rfl (fun w' hw => fail_R (i := 1) rfl hw (0)) (fun v => ?_)
          refine VL.fact fun e24 => ?_
          subst e24
          refine VL.turn (G' := Own _ (blk g5 87 itemL [[.int .u8 ((Itm.mk (takeN (openP l) 1) 0 0 letter0 bundle0 object0).kind)], [.int .u8 (takeN ((openP (l)).drop 1) 1)], [.int .u8 (takeN (((openP (l)).drop 1).drop 1) 1)], [.int .u8 ((Itm.mk (takeN (openP l) 1) 0 0 letter0 bundle0 object0).letter.src)], [.int .u8 ((Itm.mk (takeN (openP l) 1) 0 0 letter0 bundle0 object0).letter.dst)], ((Itm.mk (takeN (openP l) 1) 0 0 letter0 bundle0 object0).letter.header.session).map bv, [.bool ((Itm.mk (takeN (openP l) 1) 0 0 letter0 bundle0 object0).letter.header.first)], ((Itm.mk (takeN (openP l) 1) 0 0 letter0 bundle0 object0).letter.header.agree).map bv, ((Itm.mk (takeN (openP l) 1) 0 0 letter0 bundle0 object0).letter.header.signer).map bv, ((Itm.mk (takeN (openP l) 1) 0 0 letter0 bundle0 object0).letter.header.base).map bv, [.int .u16 ((Itm.mk (takeN (openP l) 1) 0 0 letter0 bundle0 object0).letter.header.id)], ((Itm.mk (takeN (openP l) 1) 0 0 letter0 bundle0 object0).letter.header.ratchet).map bv, [.int .u16 ((Itm.mk (takeN (openP l) 1) 0 0 letter0 bundle0 object0).letter.header.n)], [.int .u16 ((Itm.mk (takeN (openP l) 1) 0 0 letter0 bundle0 object0).letter.header.prev)], [.slice none ([]).length 0], [.int .u8 ((Itm.mk (takeN (openP l) 1) 0 0 letter0 bundle0 object0).bundle.device)], ((Itm.mk (takeN (openP l) 1) 0 0 letter0 bundle0 object0).bundle.agree).map bv, ((Itm.mk (takeN (openP l) 1) 0 0 letter0 bundle0 object0).bundle.signer).map bv, [.int .u16 ((Itm.mk (takeN (openP l) 1) 0 0 letter0 bundle0 object0).bundle.id)], ((Itm.mk (takeN (openP l) 1) 0 0 letter0 bundle0 object0).bundle.once).map bv, ((Itm.mk (takeN (openP l) 1) 0 0 letter0 bundle0 object0).bundle.sig).map bv, [.int .u8 ((Itm.mk (takeN (openP l) 1) 0 0 letter0 bundle0 object0).object.server)], [.int .u8 ((Itm.mk (takeN (openP l) 1) 0 0 letter0 bundle0 object0).object.n)], ((Itm.mk (takeN (openP l) 1) 0 0 letter0 bundle0 object0).object.key).map bv, [.int .u32 ((Itm.mk (takeN (openP l) 1) 0 0 letter0 bundle0 object0).object.since)], [.int .u32 ((Itm.mk (takeN (openP l) 1) 0 0 letter0 bundle0 object0).object.till)], ((Itm.mk (takeN (openP l) 1) 0 0 letter0 bundle0 object0).object.sig).map bv, [.slice none ([]).length 0]] :: rch g2 ((((openP (l)).drop 1).drop 1).drop 1) (failW (lenW (((openP (l)).drop 1).drop 1) (lenW ((openP (l)).drop 1) (lenW (openP (l)) (openW (l)) 1) 1) 1) (0)) :: blk g1 87 itemL (itemV (item0) none 0 none 0) :: H)) (fun _ h => h) ?_
          refine VL.nil ?_
          refine VX.next ?_
          refine VC.seq ?_
          refine VC.seq ?_
          refine VC.region ?_
          refine VL.move rfl ?_
          refine VL.call Try.func126 rfl (by decide) rfl (fun w' hw => end_R (i := 1) rfl hw) (fun v => ?_)
          refine VL.fact fun e25 => ?_
          subst e25
          refine VL.turn (G' := Own _ (blk g5 87 itemL [[.int .u8 ((Itm.mk (takeN (openP l) 1) 0 0 letter0 bundle0 object0).kind)], [.int .u8 (takeN ((openP (l)).drop 1) 1)], [.int .u8 (takeN (((openP (l)).drop 1).drop 1) 1)], [.int .u8 ((Itm.mk (takeN (openP l) 1) 0 0 letter0 bundle0 object0).letter.src)], [.int .u8 ((Itm.mk (takeN (openP l) 1) 0 0 letter0 bundle0 object0).letter.dst)], ((Itm.mk (takeN (openP l) 1) 0 0 letter0 bundle0 object0).letter.header.session).map bv, [.bool ((Itm.mk (takeN (openP l) 1) 0 0 letter0 bundle0 object0).letter.header.first)], ((Itm.mk (takeN (openP l) 1) 0 0 letter0 bundle0 object0).letter.header.agree).map bv, ((Itm.mk (takeN (openP l) 1) 0 0 letter0 bundle0 object0).letter.header.signer).map bv, ((Itm.mk (takeN (openP l) 1) 0 0 letter0 bundle0 object0).letter.header.base).map bv, [.int .u16 ((Itm.mk (takeN (openP l) 1) 0 0 letter0 bundle0 object0).letter.header.id)], ((Itm.mk (takeN (openP l) 1) 0 0 letter0 bundle0 object0).letter.header.ratchet).map bv, [.int .u16 ((Itm.mk (takeN (openP l) 1) 0 0 letter0 bundle0 object0).letter.header.n)], [.int .u16 ((Itm.mk (takeN (openP l) 1) 0 0 letter0 bundle0 object0).letter.header.prev)], [.slice none ([]).length 0], [.int .u8 ((Itm.mk (takeN (openP l) 1) 0 0 letter0 bundle0 object0).bundle.device)], ((Itm.mk (takeN (openP l) 1) 0 0 letter0 bundle0 object0).bundle.agree).map bv, ((Itm.mk (takeN (openP l) 1) 0 0 letter0 bundle0 object0).bundle.signer).map bv, [.int .u16 ((Itm.mk (takeN (openP l) 1) 0 0 letter0 bundle0 object0).bundle.id)], ((Itm.mk (takeN (openP l) 1) 0 0 letter0 bundle0 object0).bundle.once).map bv, ((Itm.mk (takeN (openP l) 1) 0 0 letter0 bundle0 object0).bundle.sig).map bv, [.int .u8 ((Itm.mk (takeN (openP l) 1) 0 0 letter0 bundle0 object0).object.server)], [.int .u8 ((Itm.mk (takeN (openP l) 1) 0 0 letter0 bundle0 object0).object.n)], ((Itm.mk (takeN (openP l) 1) 0 0 letter0 bundle0 object0).object.key).map bv, [.int .u32 ((Itm.mk (takeN (openP l) 1) 0 0 letter0 bundle0 object0).object.since)], [.int .u32 ((Itm.mk (takeN (openP l) 1) 0 0 letter0 bundle0 object0).object.till)], ((Itm.mk (takeN (openP l) 1) 0 0 letter0 bundle0 object0).object.sig).map bv, [.slice none ([]).length 0]] :: rch g2 ((((openP (l)).drop 1).drop 1).drop 1) (endW ((((openP (l)).drop 1).drop 1).drop 1) (failW (lenW (((openP (l)).drop 1).drop 1) (lenW ((openP (l)).drop 1) (lenW (openP (l)) (openW (l)) 1) 1) 1) (0))) :: blk g1 87 itemL (itemV (item0) none 0 none 0) :: H)) (fun _ h => h) ?_
          refine VL.neq rfl rfl ?_
          refine VL.case (fun h20_2 => ?_) (fun h20_2 => ?_)
          · refine VL.nil ?_
            refine VX.next ?_
            refine VC.yes rfl ?_
            refine VC.seq ?_
            refine VC.region ?_
            refine VL.build0 (cs := cat (itemV (item0) none 0 none 0)) built87 ?_
            refine VL.store (L := itemL) (qs := (itemV (item0) none 0 none 0)) (ps' := (itemV (item0) none 0 none 0)) 2 0 28 rfl rfl rfl (.inl kd87) rfl rfl (itemV_len item0_ok) (itemV_ok1 item0 none 0 none 0) rfl rfl ?_
            refine VL.turn (G' := Own _ (blk g5 87 itemL [[.int .u8 ((Itm.mk (takeN (openP l) 1) 0 0 letter0 bundle0 object0).kind)], [.int .u8 (takeN ((openP (l)).drop 1) 1)], [.int .u8 (takeN (((openP (l)).drop 1).drop 1) 1)], [.int .u8 ((Itm.mk (takeN (openP l) 1) 0 0 letter0 bundle0 object0).letter.src)], [.int .u8 ((Itm.mk (takeN (openP l) 1) 0 0 letter0 bundle0 object0).letter.dst)], ((Itm.mk (takeN (openP l) 1) 0 0 letter0 bundle0 object0).letter.header.session).map bv, [.bool ((Itm.mk (takeN (openP l) 1) 0 0 letter0 bundle0 object0).letter.header.first)], ((Itm.mk (takeN (openP l) 1) 0 0 letter0 bundle0 object0).letter.header.agree).map bv, ((Itm.mk (takeN (openP l) 1) 0 0 letter0 bundle0 object0).letter.header.signer).map bv, ((Itm.mk (takeN (openP l) 1) 0 0 letter0 bundle0 object0).letter.header.base).map bv, [.int .u16 ((Itm.mk (takeN (openP l) 1) 0 0 letter0 bundle0 object0).letter.header.id)], ((Itm.mk (takeN (openP l) 1) 0 0 letter0 bundle0 object0).letter.header.ratchet).map bv, [.int .u16 ((Itm.mk (takeN (openP l) 1) 0 0 letter0 bundle0 object0).letter.header.n)], [.int .u16 ((Itm.mk (takeN (openP l) 1) 0 0 letter0 bundle0 object0).letter.header.prev)], [.slice none ([]).length 0], [.int .u8 ((Itm.mk (takeN (openP l) 1) 0 0 letter0 bundle0 object0).bundle.device)], ((Itm.mk (takeN (openP l) 1) 0 0 letter0 bundle0 object0).bundle.agree).map bv, ((Itm.mk (takeN (openP l) 1) 0 0 letter0 bundle0 object0).bundle.signer).map bv, [.int .u16 ((Itm.mk (takeN (openP l) 1) 0 0 letter0 bundle0 object0).bundle.id)], ((Itm.mk (takeN (openP l) 1) 0 0 letter0 bundle0 object0).bundle.once).map bv, ((Itm.mk (takeN (openP l) 1) 0 0 letter0 bundle0 object0).bundle.sig).map bv, [.int .u8 ((Itm.mk (takeN (openP l) 1) 0 0 letter0 bundle0 object0).object.server)], [.int .u8 ((Itm.mk (takeN (openP l) 1) 0 0 letter0 bundle0 object0).object.n)], ((Itm.mk (takeN (openP l) 1) 0 0 letter0 bundle0 object0).object.key).map bv, [.int .u32 ((Itm.mk (takeN (openP l) 1) 0 0 letter0 bundle0 object0).object.since)], [.int .u32 ((Itm.mk (takeN (openP l) 1) 0 0 letter0 bundle0 object0).object.till)], ((Itm.mk (takeN (openP l) 1) 0 0 letter0 bundle0 object0).object.sig).map bv, [.slice none ([]).length 0]] :: rch g2 ((((openP (l)).drop 1).drop 1).drop 1) (endW ((((openP (l)).drop 1).drop 1).drop 1) (failW (lenW (((openP (l)).drop 1).drop 1) (lenW ((openP (l)).drop 1) (lenW (openP (l)) (openW (l)) 1) 1) 1) (0))) :: blk g1 87 itemL (itemV (item0) none 0 none 0) :: H)) (fun _ h => h) ?_
            refine VL.assign rfl ?_
            refine VL.nil ?_
            refine VX.next ?_
            refine VC.ret ?_
            refine VX.then_ret ?_
            refine VX.ret_cell (cs := cat (itemV (item0) none 0 none 0)) 2 rfl rfl rfl (by rw [cat_size (itemV_len item0_ok)]; exact kd87) (fun _ h => h) rfl rfl (fun we hw => ?_)
            obtain ⟨hn1, _⟩ := item_w2 h3_4 (.inr h11_0)
            obtain ⟨e1, e2⟩ := itemW_none (by omega) (by omega) h20_2 hn1
            exact ⟨none, 0, none, 0, by rw [e1]; exact congrArg (fun n : Nat => Value.tuple #[_, .int .i64 (n : Int)]) (e2).symm, hw.drop.drop.drop.sub (fun _ hs => by repeat (first | exact hs | apply List.mem_cons_of_mem)), by rw [e1]; exact Arr.none, by rw [e1]; exact Arr.none⟩
          · refine VL.nil ?_
            refine VX.next ?_
            refine VC.no rfl ?_
            refine VC.skip ?_
            refine VX.next ?_
            refine VC.seq ?_
            refine VC.region ?_
            refine VL.loads (cs := cat (itemV ((Itm.mk (takeN (openP l) 1) (takeN ((openP l).drop 1) 1) (takeN (((openP l).drop 1).drop 1) 1) letter0 bundle0 object0)) none 0 none 0)) 0 0 28 rfl kd87 (fun _ h => h) rfl rfl rfl rfl ?_
            refine VL.store (L := itemL) (qs := (itemV ((Itm.mk (takeN (openP l) 1) (takeN ((openP l).drop 1) 1) (takeN (((openP l).drop 1).drop 1) 1) letter0 bundle0 object0)) none 0 none 0)) (ps' := (itemV ((Itm.mk (takeN (openP l) 1) (takeN ((openP l).drop 1) 1) (takeN (((openP l).drop 1).drop 1) 1) letter0 bundle0 object0)) none 0 none 0)) 2 0 28 rfl rfl rfl (.inl kd87) rfl rfl (itemV_len (⟨takeN_lt _ 1, (takeN_lt _ 1), (takeN_lt _ 1), letter0_ok, bundle0_ok, object0_ok⟩ : Itm.ok _)) (itemV_ok1 ((Itm.mk (takeN (openP l) 1) (takeN ((openP l).drop 1) 1) (takeN (((openP l).drop 1).drop 1) 1) letter0 bundle0 object0)) none 0 none 0) rfl rfl ?_
            refine VL.turn (G' := Own _ (blk g5 87 itemL [[.int .u8 ((Itm.mk (takeN (openP l) 1) 0 0 letter0 bundle0 object0).kind)], [.int .u8 (takeN ((openP (l)).drop 1) 1)], [.int .u8 (takeN (((openP (l)).drop 1).drop 1) 1)], [.int .u8 ((Itm.mk (takeN (openP l) 1) 0 0 letter0 bundle0 object0).letter.src)], [.int .u8 ((Itm.mk (takeN (openP l) 1) 0 0 letter0 bundle0 object0).letter.dst)], ((Itm.mk (takeN (openP l) 1) 0 0 letter0 bundle0 object0).letter.header.session).map bv, [.bool ((Itm.mk (takeN (openP l) 1) 0 0 letter0 bundle0 object0).letter.header.first)], ((Itm.mk (takeN (openP l) 1) 0 0 letter0 bundle0 object0).letter.header.agree).map bv, ((Itm.mk (takeN (openP l) 1) 0 0 letter0 bundle0 object0).letter.header.signer).map bv, ((Itm.mk (takeN (openP l) 1) 0 0 letter0 bundle0 object0).letter.header.base).map bv, [.int .u16 ((Itm.mk (takeN (openP l) 1) 0 0 letter0 bundle0 object0).letter.header.id)], ((Itm.mk (takeN (openP l) 1) 0 0 letter0 bundle0 object0).letter.header.ratchet).map bv, [.int .u16 ((Itm.mk (takeN (openP l) 1) 0 0 letter0 bundle0 object0).letter.header.n)], [.int .u16 ((Itm.mk (takeN (openP l) 1) 0 0 letter0 bundle0 object0).letter.header.prev)], [.slice none ([]).length 0], [.int .u8 ((Itm.mk (takeN (openP l) 1) 0 0 letter0 bundle0 object0).bundle.device)], ((Itm.mk (takeN (openP l) 1) 0 0 letter0 bundle0 object0).bundle.agree).map bv, ((Itm.mk (takeN (openP l) 1) 0 0 letter0 bundle0 object0).bundle.signer).map bv, [.int .u16 ((Itm.mk (takeN (openP l) 1) 0 0 letter0 bundle0 object0).bundle.id)], ((Itm.mk (takeN (openP l) 1) 0 0 letter0 bundle0 object0).bundle.once).map bv, ((Itm.mk (takeN (openP l) 1) 0 0 letter0 bundle0 object0).bundle.sig).map bv, [.int .u8 ((Itm.mk (takeN (openP l) 1) 0 0 letter0 bundle0 object0).object.server)], [.int .u8 ((Itm.mk (takeN (openP l) 1) 0 0 letter0 bundle0 object0).object.n)], ((Itm.mk (takeN (openP l) 1) 0 0 letter0 bundle0 object0).object.key).map bv, [.int .u32 ((Itm.mk (takeN (openP l) 1) 0 0 letter0 bundle0 object0).object.since)], [.int .u32 ((Itm.mk (takeN (openP l) 1) 0 0 letter0 bundle0 object0).object.till)], ((Itm.mk (takeN (openP l) 1) 0 0 letter0 bundle0 object0).object.sig).map bv, [.slice none ([]).length 0]] :: rch g2 ((((openP (l)).drop 1).drop 1).drop 1) (endW ((((openP (l)).drop 1).drop 1).drop 1) (failW (lenW (((openP (l)).drop 1).drop 1) (lenW ((openP (l)).drop 1) (lenW (openP (l)) (openW (l)) 1) 1) 1) (0))) :: blk g1 87 itemL (itemV ((Itm.mk (takeN (openP l) 1) (takeN ((openP l).drop 1) 1) (takeN (((openP l).drop 1).drop 1) 1) letter0 bundle0 object0)) none 0 none 0) :: H)) (fun _ h => h) ?_
            refine VL.assign rfl ?_
            refine VL.nil ?_
            refine VX.next ?_
            refine VC.ret ?_
            refine VX.ret_cell (cs := cat (itemV ((Itm.mk (takeN (openP l) 1) (takeN ((openP l).drop 1) 1) (takeN (((openP l).drop 1).drop 1) 1) letter0 bundle0 object0)) none 0 none 0)) 2 rfl rfl rfl (by rw [cat_size (itemV_len (⟨takeN_lt _ 1, (takeN_lt _ 1), (takeN_lt _ 1), letter0_ok, bundle0_ok, object0_ok⟩ : Itm.ok _))]; exact kd87) (fun _ h => h) rfl rfl (fun we hw => ?_)
            obtain ⟨hn1, hn2⟩ := item_w2 h3_4 (.inr h11_0)
            obtain ⟨y, e1, e2⟩ := itemW_some (by omega) (by omega) h20_2 hn1
            have e3 := hn2 y e1
            rw [e1, e2, e3]
            exact ⟨_, _, _, _, rfl, hw.drop.drop.drop.sub (fun _ hs => by repeat (first | exact hs | apply List.mem_cons_of_mem)), Arr.none, Arr.none⟩
        · have h11_0 : takeN (openP l) 1 ≠ 4 := by have h : ¬ ((takeN (openP l) 1 : Nat) : Int) = 4 := h11_0; omega
          refine VL.assign rfl ?_
          refine VL.nil ?_
          refine VX.next ?_
          refine VC.no rfl ?_
          refine VC.seq ?_
          refine VC.region ?_
          refine VL.eql rfl rfl ?_
          refine VL.case (fun h13_0 => ?_) (fun h13_0 => ?_)
          · have h13_0 : takeN (openP l) 1 = 3 := by have h : ((takeN (openP l) 1 : Nat) : Int) = 3 := h13_0; omega
            refine VL.assign rfl ?_
            refine VL.nil ?_
            refine VX.next ?_
            refine VC.yes rfl ?_
            refine VC.seq ?_
            refine VC.region ?_
            refine VL.move rfl ?_
            refine VL.call Try.func122 rfl (by decide) rfl (fun w' hw => byte_R (i := 1) rfl hw) (fun v => ?_)
            refine VL.fact fun e26 => ?_
            subst e26
            refine VL.turn (G' := Own _ (blk g5 87 itemL (itemV ((Itm.mk (takeN (openP l) 1) 0 0 letter0 bundle0 object0)) none 0 none 0) :: rch g2 (((openP (l)).drop 1).drop 1) (lenW ((openP (l)).drop 1) (lenW (openP (l)) (openW (l)) 1) 1) :: blk g1 87 itemL (itemV (item0) none 0 none 0) :: H)) (fun _ h => h) ?_
            refine VL.fieldAddr rfl fo87_1 rfl ?_
            refine VL.store (L := itemL) (qs := [[.int .u8 (takeN ((openP (l)).drop 1) 1)]]) (ps' := [[.int .u8 ((Itm.mk (takeN (openP l) 1) 0 0 letter0 bundle0 object0).kind)], [.int .u8 (takeN ((openP (l)).drop 1) 1)], [.int .u8 ((Itm.mk (takeN (openP l) 1) 0 0 letter0 bundle0 object0).peer)], [.int .u8 ((Itm.mk (takeN (openP l) 1) 0 0 letter0 bundle0 object0).letter.src)], [.int .u8 ((Itm.mk (takeN (openP l) 1) 0 0 letter0 bundle0 object0).letter.dst)], ((Itm.mk (takeN (openP l) 1) 0 0 letter0 bundle0 object0).letter.header.session).map bv, [.bool ((Itm.mk (takeN (openP l) 1) 0 0 letter0 bundle0 object0).letter.header.first)], ((Itm.mk (takeN (openP l) 1) 0 0 letter0 bundle0 object0).letter.header.agree).map bv, ((Itm.mk (takeN (openP l) 1) 0 0 letter0 bundle0 object0).letter.header.signer).map bv, ((Itm.mk (takeN (openP l) 1) 0 0 letter0 bundle0 object0).letter.header.base).map bv, [.int .u16 ((Itm.mk (takeN (openP l) 1) 0 0 letter0 bundle0 object0).letter.header.id)], ((Itm.mk (takeN (openP l) 1) 0 0 letter0 bundle0 object0).letter.header.ratchet).map bv, [.int .u16 ((Itm.mk (takeN (openP l) 1) 0 0 letter0 bundle0 object0).letter.header.n)], [.int .u16 ((Itm.mk (takeN (openP l) 1) 0 0 letter0 bundle0 object0).letter.header.prev)], [.slice none ([]).length 0], [.int .u8 ((Itm.mk (takeN (openP l) 1) 0 0 letter0 bundle0 object0).bundle.device)], ((Itm.mk (takeN (openP l) 1) 0 0 letter0 bundle0 object0).bundle.agree).map bv, ((Itm.mk (takeN (openP l) 1) 0 0 letter0 bundle0 object0).bundle.signer).map bv, [.int .u16 ((Itm.mk (takeN (openP l) 1) 0 0 letter0 bundle0 object0).bundle.id)], ((Itm.mk (takeN (openP l) 1) 0 0 letter0 bundle0 object0).bundle.once).map bv, ((Itm.mk (takeN (openP l) 1) 0 0 letter0 bundle0 object0).bundle.sig).map bv, [.int .u8 ((Itm.mk (takeN (openP l) 1) 0 0 letter0 bundle0 object0).object.server)], [.int .u8 ((Itm.mk (takeN (openP l) 1) 0 0 letter0 bundle0 object0).object.n)], ((Itm.mk (takeN (openP l) 1) 0 0 letter0 bundle0 object0).object.key).map bv, [.int .u32 ((Itm.mk (takeN (openP l) 1) 0 0 letter0 bundle0 object0).object.since)], [.int .u32 ((Itm.mk (takeN (openP l) 1) 0 0 letter0 bundle0 object0).object.till)], ((Itm.mk (takeN (openP l) 1) 0 0 letter0 bundle0 object0).object.sig).map bv, [.slice none ([]).length 0]]) 0 1 1 rfl rfl rfl (.inr ⟨kd5, rfl⟩) rfl rfl rfl (by intro u hu; simp [cat] at hu; subst hu; rfl) rfl rfl ?_
            refine VL.turn (G' := Own _ (blk g5 87 itemL [[.int .u8 ((Itm.mk (takeN (openP l) 1) 0 0 letter0 bundle0 object0).kind)], [.int .u8 (takeN ((openP (l)).drop 1) 1)], [.int .u8 ((Itm.mk (takeN (openP l) 1) 0 0 letter0 bundle0 object0).peer)], [.int .u8 ((Itm.mk (takeN (openP l) 1) 0 0 letter0 bundle0 object0).letter.src)], [.int .u8 ((Itm.mk (takeN (openP l) 1) 0 0 letter0 bundle0 object0).letter.dst)], ((Itm.mk (takeN (openP l) 1) 0 0 letter0 bundle0 object0).letter.header.session).map bv, [.bool ((Itm.mk (takeN (openP l) 1) 0 0 letter0 bundle0 object0).letter.header.first)], ((Itm.mk (takeN (openP l) 1) 0 0 letter0 bundle0 object0).letter.header.agree).map bv, ((Itm.mk (takeN (openP l) 1) 0 0 letter0 bundle0 object0).letter.header.signer).map bv, ((Itm.mk (takeN (openP l) 1) 0 0 letter0 bundle0 object0).letter.header.base).map bv, [.int .u16 ((Itm.mk (takeN (openP l) 1) 0 0 letter0 bundle0 object0).letter.header.id)], ((Itm.mk (takeN (openP l) 1) 0 0 letter0 bundle0 object0).letter.header.ratchet).map bv, [.int .u16 ((Itm.mk (takeN (openP l) 1) 0 0 letter0 bundle0 object0).letter.header.n)], [.int .u16 ((Itm.mk (takeN (openP l) 1) 0 0 letter0 bundle0 object0).letter.header.prev)], [.slice none ([]).length 0], [.int .u8 ((Itm.mk (takeN (openP l) 1) 0 0 letter0 bundle0 object0).bundle.device)], ((Itm.mk (takeN (openP l) 1) 0 0 letter0 bundle0 object0).bundle.agree).map bv, ((Itm.mk (takeN (openP l) 1) 0 0 letter0 bundle0 object0).bundle.signer).map bv, [.int .u16 ((Itm.mk (takeN (openP l) 1) 0 0 letter0 bundle0 object0).bundle.id)], ((Itm.mk (takeN (openP l) 1) 0 0 letter0 bundle0 object0).bundle.once).map bv, ((Itm.mk (takeN (openP l) 1) 0 0 letter0 bundle0 object0).bundle.sig).map bv, [.int .u8 ((Itm.mk (takeN (openP l) 1) 0 0 letter0 bundle0 object0).object.server)], [.int .u8 ((Itm.mk (takeN (openP l) 1) 0 0 letter0 bundle0 object0).object.n)], ((Itm.mk (takeN (openP l) 1) 0 0 letter0 bundle0 object0).object.key).map bv, [.int .u32 ((Itm.mk (takeN (openP l) 1) 0 0 letter0 bundle0 object0).object.since)], [.int .u32 ((Itm.mk (takeN (openP l) 1) 0 0 letter0 bundle0 object0).object.till)], ((Itm.mk (takeN (openP l) 1) 0 0 letter0 bundle0 object0).object.sig).map bv, [.slice none ([]).length 0]] :: rch g2 (((openP (l)).drop 1).drop 1) (lenW ((openP (l)).drop 1) (lenW (openP (l)) (openW (l)) 1) 1) :: blk g1 87 itemL (itemV (item0) none 0 none 0) :: H)) (fun _ h => h) ?_
            refine VL.nil ?_
            refine VX.next ?_
            refine VC.region ?_
            refine VL.move rfl ?_
            refine VL.call Try.func124 rfl (by decide) rfl (fun w' hw => piece_R (i := 1) rfl hw) (fun v => ?_)
            refine VL.at (fun w27 h1w => ?_)
            obtain ⟨p28, c29, rfl, hO31, hA30⟩ := h1w
            replace hO31 : Own _ (blk g5 87 itemL [[.int .u8 ((Itm.mk (takeN (openP l) 1) 0 0 letter0 bundle0 object0).kind)], [.int .u8 (takeN ((openP (l)).drop 1) 1)], [.int .u8 ((Itm.mk (takeN (openP l) 1) 0 0 letter0 bundle0 object0).peer)], [.int .u8 ((Itm.mk (takeN (openP l) 1) 0 0 letter0 bundle0 object0).letter.src)], [.int .u8 ((Itm.mk (takeN (openP l) 1) 0 0 letter0 bundle0 object0).letter.dst)], ((Itm.mk (takeN (openP l) 1) 0 0 letter0 bundle0 object0).letter.header.session).map bv, [.bool ((Itm.mk (takeN (openP l) 1) 0 0 letter0 bundle0 object0).letter.header.first)], ((Itm.mk (takeN (openP l) 1) 0 0 letter0 bundle0 object0).letter.header.agree).map bv, ((Itm.mk (takeN (openP l) 1) 0 0 letter0 bundle0 object0).letter.header.signer).map bv, ((Itm.mk (takeN (openP l) 1) 0 0 letter0 bundle0 object0).letter.header.base).map bv, [.int .u16 ((Itm.mk (takeN (openP l) 1) 0 0 letter0 bundle0 object0).letter.header.id)], ((Itm.mk (takeN (openP l) 1) 0 0 letter0 bundle0 object0).letter.header.ratchet).map bv, [.int .u16 ((Itm.mk (takeN (openP l) 1) 0 0 letter0 bundle0 object0).letter.header.n)], [.int .u16 ((Itm.mk (takeN (openP l) 1) 0 0 letter0 bundle0 object0).letter.header.prev)], [.slice none ([]).length 0], [.int .u8 ((Itm.mk (takeN (openP l) 1) 0 0 letter0 bundle0 object0).bundle.device)], ((Itm.mk (takeN (openP l) 1) 0 0 letter0 bundle0 object0).bundle.agree).map bv, ((Itm.mk (takeN (openP l) 1) 0 0 letter0 bundle0 object0).bundle.signer).map bv, [.int .u16 ((Itm.mk (takeN (openP l) 1) 0 0 letter0 bundle0 object0).bundle.id)], ((Itm.mk (takeN (openP l) 1) 0 0 letter0 bundle0 object0).bundle.once).map bv, ((Itm.mk (takeN (openP l) 1) 0 0 letter0 bundle0 object0).bundle.sig).map bv, [.int .u8 ((Itm.mk (takeN (openP l) 1) 0 0 letter0 bundle0 object0).object.server)], [.int .u8 ((Itm.mk (takeN (openP l) 1) 0 0 letter0 bundle0 object0).object.n)], ((Itm.mk (takeN (openP l) 1) 0 0 letter0 bundle0 object0).object.key).map bv, [.int .u32 ((Itm.mk (takeN (openP l) 1) 0 0 letter0 bundle0 object0).object.since)], [.int .u32 ((Itm.mk (takeN (openP l) 1) 0 0 letter0 bundle0 object0).object.till)], ((Itm.mk (takeN (openP l) 1) 0 0 letter0 bundle0 object0).object.sig).map bv, [.slice none ([]).length 0]] :: rch g2 ((((openP (l)).drop 1).drop 1).drop 1) (nextW (((openP (l)).drop 1).drop 1) (lenW ((openP (l)).drop 1) (lenW (openP (l)) (openW (l)) 1) 1)) :: blk g1 87 itemL (itemV (item0) none 0 none 0) :: H) w27 := hO31
            replace hA30 : Bytes (keys (blk g5 87 itemL [[.int .u8 ((Itm.mk (takeN (openP l) 1) 0 0 letter0 bundle0 object0).kind)], [.int .u8 (takeN ((openP (l)).drop 1) 1)], [.int .u8 ((Itm.mk (takeN (openP l) 1) 0 0 letter0 bundle0 object0).peer)], [.int .u8 ((Itm.mk (takeN (openP l) 1) 0 0 letter0 bundle0 object0).letter.src)], [.int .u8 ((Itm.mk (takeN (openP l) 1) 0 0 letter0 bundle0 object0).letter.dst)], ((Itm.mk (takeN (openP l) 1) 0 0 letter0 bundle0 object0).letter.header.session).map bv, [.bool ((Itm.mk (takeN (openP l) 1) 0 0 letter0 bundle0 object0).letter.header.first)], ((Itm.mk (takeN (openP l) 1) 0 0 letter0 bundle0 object0).letter.header.agree).map bv, ((Itm.mk (takeN (openP l) 1) 0 0 letter0 bundle0 object0).letter.header.signer).map bv, ((Itm.mk (takeN (openP l) 1) 0 0 letter0 bundle0 object0).letter.header.base).map bv, [.int .u16 ((Itm.mk (takeN (openP l) 1) 0 0 letter0 bundle0 object0).letter.header.id)], ((Itm.mk (takeN (openP l) 1) 0 0 letter0 bundle0 object0).letter.header.ratchet).map bv, [.int .u16 ((Itm.mk (takeN (openP l) 1) 0 0 letter0 bundle0 object0).letter.header.n)], [.int .u16 ((Itm.mk (takeN (openP l) 1) 0 0 letter0 bundle0 object0).letter.header.prev)], [.slice none ([]).length 0], [.int .u8 ((Itm.mk (takeN (openP l) 1) 0 0 letter0 bundle0 object0).bundle.device)], ((Itm.mk (takeN (openP l) 1) 0 0 letter0 bundle0 object0).bundle.agree).map bv, ((Itm.mk (takeN (openP l) 1) 0 0 letter0 bundle0 object0).bundle.signer).map bv, [.int .u16 ((Itm.mk (takeN (openP l) 1) 0 0 letter0 bundle0 object0).bundle.id)], ((Itm.mk (takeN (openP l) 1) 0 0 letter0 bundle0 object0).bundle.once).map bv, ((Itm.mk (takeN (openP l) 1) 0 0 letter0 bundle0 object0).bundle.sig).map bv, [.int .u8 ((Itm.mk (takeN (openP l) 1) 0 0 letter0 bundle0 object0).object.server)], [.int .u8 ((Itm.mk (takeN (openP l) 1) 0 0 letter0 bundle0 object0).object.n)], ((Itm.mk (takeN (openP l) 1) 0 0 letter0 bundle0 object0).object.key).map bv, [.int .u32 ((Itm.mk (takeN (openP l) 1) 0 0 letter0 bundle0 object0).object.since)], [.int .u32 ((Itm.mk (takeN (openP l) 1) 0 0 letter0 bundle0 object0).object.till)], ((Itm.mk (takeN (openP l) 1) 0 0 letter0 bundle0 object0).object.sig).map bv, [.slice none ([]).length 0]] :: rch g2 ((((openP (l)).drop 1).drop 1).drop 1) (nextW (((openP (l)).drop 1).drop 1) (lenW ((openP (l)).drop 1) (lenW (openP (l)) (openW (l)) 1) 1)) :: blk g1 87 itemL (itemV (item0) none 0 none 0) :: H)) w27 p28 (nextP (((openP (l)).drop 1).drop 1)) c29 := hA30
            refine VL.toOwn hO31 ?_
            refine VL.call Try.func61 rfl (by decide) rfl (fun w' hw => getBundle_w hw (hA30.now (s := ⟨w27, _⟩) Mono.byte hw (by repeat (first | exact List.mem_cons_self .. | apply List.mem_cons_of_mem)))) (fun v => ?_)
            refine VL.fact fun e32 => ?_
            subst e32
            refine VL.move rfl ?_
            refine VL.extract rfl rfl ?_
            refine VL.extract rfl rfl ?_
            refine VL.fieldAddr rfl fo87_4 rfl ?_
            refine VL.store (L := itemL) (qs := (bundleV (((bundleR (nextP (((openP (l)).drop 1).drop 1))).getD bundle0)))) (ps' := [[.int .u8 ((Itm.mk (takeN (openP l) 1) 0 0 letter0 bundle0 object0).kind)], [.int .u8 (takeN ((openP (l)).drop 1) 1)], [.int .u8 ((Itm.mk (takeN (openP l) 1) 0 0 letter0 bundle0 object0).peer)], [.int .u8 ((Itm.mk (takeN (openP l) 1) 0 0 letter0 bundle0 object0).letter.src)], [.int .u8 ((Itm.mk (takeN (openP l) 1) 0 0 letter0 bundle0 object0).letter.dst)], ((Itm.mk (takeN (openP l) 1) 0 0 letter0 bundle0 object0).letter.header.session).map bv, [.bool ((Itm.mk (takeN (openP l) 1) 0 0 letter0 bundle0 object0).letter.header.first)], ((Itm.mk (takeN (openP l) 1) 0 0 letter0 bundle0 object0).letter.header.agree).map bv, ((Itm.mk (takeN (openP l) 1) 0 0 letter0 bundle0 object0).letter.header.signer).map bv, ((Itm.mk (takeN (openP l) 1) 0 0 letter0 bundle0 object0).letter.header.base).map bv, [.int .u16 ((Itm.mk (takeN (openP l) 1) 0 0 letter0 bundle0 object0).letter.header.id)], ((Itm.mk (takeN (openP l) 1) 0 0 letter0 bundle0 object0).letter.header.ratchet).map bv, [.int .u16 ((Itm.mk (takeN (openP l) 1) 0 0 letter0 bundle0 object0).letter.header.n)], [.int .u16 ((Itm.mk (takeN (openP l) 1) 0 0 letter0 bundle0 object0).letter.header.prev)], [.slice none ([]).length 0], [.int .u8 (((bundleR (nextP (((openP (l)).drop 1).drop 1))).getD bundle0).device)], (((bundleR (nextP (((openP (l)).drop 1).drop 1))).getD bundle0).agree).map bv, (((bundleR (nextP (((openP (l)).drop 1).drop 1))).getD bundle0).signer).map bv, [.int .u16 (((bundleR (nextP (((openP (l)).drop 1).drop 1))).getD bundle0).id)], (((bundleR (nextP (((openP (l)).drop 1).drop 1))).getD bundle0).once).map bv, (((bundleR (nextP (((openP (l)).drop 1).drop 1))).getD bundle0).sig).map bv, [.int .u8 ((Itm.mk (takeN (openP l) 1) 0 0 letter0 bundle0 object0).object.server)], [.int .u8 ((Itm.mk (takeN (openP l) 1) 0 0 letter0 bundle0 object0).object.n)], ((Itm.mk (takeN (openP l) 1) 0 0 letter0 bundle0 object0).object.key).map bv, [.int .u32 ((Itm.mk (takeN (openP l) 1) 0 0 letter0 bundle0 object0).object.since)], [.int .u32 ((Itm.mk (takeN (openP l) 1) 0 0 letter0 bundle0 object0).object.till)], ((Itm.mk (takeN (openP l) 1) 0 0 letter0 bundle0 object0).object.sig).map bv, [.slice none ([]).length 0]]) 0 15 6 rfl rfl rfl (.inl kd82) rfl rfl (bundleV_len (bundleR_ok (nextP (((openP (l)).drop 1).drop 1)))) (bundleV_ok1 (((bundleR (nextP (((openP (l)).drop 1).drop 1))).getD bundle0))) rfl rfl ?_
            refine VL.turn (G' := Own _ (blk g5 87 itemL [[.int .u8 ((Itm.mk (takeN (openP l) 1) 0 0 letter0 bundle0 object0).kind)], [.int .u8 (takeN ((openP (l)).drop 1) 1)], [.int .u8 ((Itm.mk (takeN (openP l) 1) 0 0 letter0 bundle0 object0).peer)], [.int .u8 ((Itm.mk (takeN (openP l) 1) 0 0 letter0 bundle0 object0).letter.src)], [.int .u8 ((Itm.mk (takeN (openP l) 1) 0 0 letter0 bundle0 object0).letter.dst)], ((Itm.mk (takeN (openP l) 1) 0 0 letter0 bundle0 object0).letter.header.session).map bv, [.bool ((Itm.mk (takeN (openP l) 1) 0 0 letter0 bundle0 object0).letter.header.first)], ((Itm.mk (takeN (openP l) 1) 0 0 letter0 bundle0 object0).letter.header.agree).map bv, ((Itm.mk (takeN (openP l) 1) 0 0 letter0 bundle0 object0).letter.header.signer).map bv, ((Itm.mk (takeN (openP l) 1) 0 0 letter0 bundle0 object0).letter.header.base).map bv, [.int .u16 ((Itm.mk (takeN (openP l) 1) 0 0 letter0 bundle0 object0).letter.header.id)], ((Itm.mk (takeN (openP l) 1) 0 0 letter0 bundle0 object0).letter.header.ratchet).map bv, [.int .u16 ((Itm.mk (takeN (openP l) 1) 0 0 letter0 bundle0 object0).letter.header.n)], [.int .u16 ((Itm.mk (takeN (openP l) 1) 0 0 letter0 bundle0 object0).letter.header.prev)], [.slice none ([]).length 0], [.int .u8 (((bundleR (nextP (((openP (l)).drop 1).drop 1))).getD bundle0).device)], (((bundleR (nextP (((openP (l)).drop 1).drop 1))).getD bundle0).agree).map bv, (((bundleR (nextP (((openP (l)).drop 1).drop 1))).getD bundle0).signer).map bv, [.int .u16 (((bundleR (nextP (((openP (l)).drop 1).drop 1))).getD bundle0).id)], (((bundleR (nextP (((openP (l)).drop 1).drop 1))).getD bundle0).once).map bv, (((bundleR (nextP (((openP (l)).drop 1).drop 1))).getD bundle0).sig).map bv, [.int .u8 ((Itm.mk (takeN (openP l) 1) 0 0 letter0 bundle0 object0).object.server)], [.int .u8 ((Itm.mk (takeN (openP l) 1) 0 0 letter0 bundle0 object0).object.n)], ((Itm.mk (takeN (openP l) 1) 0 0 letter0 bundle0 object0).object.key).map bv, [.int .u32 ((Itm.mk (takeN (openP l) 1) 0 0 letter0 bundle0 object0).object.since)], [.int .u32 ((Itm.mk (takeN (openP l) 1) 0 0 letter0 bundle0 object0).object.till)], ((Itm.mk (takeN (openP l) 1) 0 0 letter0 bundle0 object0).object.sig).map bv, [.slice none ([]).length 0]] :: rch g2 ((((openP (l)).drop 1).drop 1).drop 1) (nextW (((openP (l)).drop 1).drop 1) (lenW ((openP (l)).drop 1) (lenW (openP (l)) (openW (l)) 1) 1)) :: blk g1 87 itemL (itemV (item0) none 0 none 0) :: H)) (fun _ h => h) ?_
            refine VL.assign rfl ?_
            refine VL.nil ?_
            refine VX.block_normal ?_
            refine VX.next ?_
            refine VC.seq ?_
            refine VC.region ?_
            refine VL.move rfl ?_
            refine VL.move rfl ?_
            refine VL.call Try.func125 rfl (by decide) rfl (fun w' hw => fail_R (i := 1) rfl hw (if (bundleR (nextP (((openP (l)).drop 1).drop 1))).isSome then 0 else 141)) (fun v => ?_)
            refine VL.fact fun e33 => ?_
            subst e33
            refine VL.turn (G' := Own _ (blk g5 87 itemL [[.int .u8 ((Itm.mk (takeN (openP l) 1) 0 0 letter0 bundle0 object0).kind)], [.int .u8 (takeN ((openP (l)).drop 1) 1)], [.int .u8 ((Itm.mk (takeN (openP l) 1) 0 0 letter0 bundle0 object0).peer)], [.int .u8 ((Itm.mk (takeN (openP l) 1) 0 0 letter0 bundle0 object0).letter.src)], [.int .u8 ((Itm.mk (takeN (openP l) 1) 0 0 letter0 bundle0 object0).letter.dst)], ((Itm.mk (takeN (openP l) 1) 0 0 letter0 bundle0 object0).letter.header.session).map bv, [.bool ((Itm.mk (takeN (openP l) 1) 0 0 letter0 bundle0 object0).letter.header.first)], ((Itm.mk (takeN (openP l) 1) 0 0 letter0 bundle0 object0).letter.header.agree).map bv, ((Itm.mk (takeN (openP l) 1) 0 0 letter0 bundle0 object0).letter.header.signer).map bv, ((Itm.mk (takeN (openP l) 1) 0 0 letter0 bundle0 object0).letter.header.base).map bv, [.int .u16 ((Itm.mk (takeN (openP l) 1) 0 0 letter0 bundle0 object0).letter.header.id)], ((Itm.mk (takeN (openP l) 1) 0 0 letter0 bundle0 object0).letter.header.ratchet).map bv, [.int .u16 ((Itm.mk (takeN (openP l) 1) 0 0 letter0 bundle0 object0).letter.header.n)], [.int .u16 ((Itm.mk (takeN (openP l) 1) 0 0 letter0 bundle0 object0).letter.header.prev)], [.slice none ([]).length 0], [.int .u8 (((bundleR (nextP (((openP (l)).drop 1).drop 1))).getD bundle0).device)], (((bundleR (nextP (((openP (l)).drop 1).drop 1))).getD bundle0).agree).map bv, (((bundleR (nextP (((openP (l)).drop 1).drop 1))).getD bundle0).signer).map bv, [.int .u16 (((bundleR (nextP (((openP (l)).drop 1).drop 1))).getD bundle0).id)], (((bundleR (nextP (((openP (l)).drop 1).drop 1))).getD bundle0).once).map bv, (((bundleR (nextP (((openP (l)).drop 1).drop 1))).getD bundle0).sig).map bv, [.int .u8 ((Itm.mk (takeN (openP l) 1) 0 0 letter0 bundle0 object0).object.server)], [.int .u8 ((Itm.mk (takeN (openP l) 1) 0 0 letter0 bundle0 object0).object.n)], ((Itm.mk (takeN (openP l) 1) 0 0 letter0 bundle0 object0).object.key).map bv, [.int .u32 ((Itm.mk (takeN (openP l) 1) 0 0 letter0 bundle0 object0).object.since)], [.int .u32 ((Itm.mk (takeN (openP l) 1) 0 0 letter0 bundle0 object0).object.till)], ((Itm.mk (takeN (openP l) 1) 0 0 letter0 bundle0 object0).object.sig).map bv, [.slice none ([]).length 0]] :: rch g2 ((((openP (l)).drop 1).drop 1).drop 1) (failW (nextW (((openP (l)).drop 1).drop 1) (lenW ((openP (l)).drop 1) (lenW (openP (l)) (openW (l)) 1) 1)) (if (bundleR (nextP (((openP (l)).drop 1).drop 1))).isSome then 0 else 141)) :: blk g1 87 itemL (itemV (item0) none 0 none 0) :: H)) (fun _ h => h) ?_
            refine VL.nil ?_
            refine VX.next ?_
            refine VC.seq ?_
            refine VC.seq ?_
            refine VC.region ?_
            refine VL.move rfl ?_
            refine VL.call Try.func126 rfl (by decide) rfl (fun w' hw => end_R (i := 1) rfl hw) (fun v => ?_)
            refine VL.fact fun e34 => ?_
            subst e34
            refine VL.turn (G' := Own _ (blk g5 87 itemL [[.int .u8 ((Itm.mk (takeN (openP l) 1) 0 0 letter0 bundle0 object0).kind)], [.int .u8 (takeN ((openP (l)).drop 1) 1)], [.int .u8 ((Itm.mk (takeN (openP l) 1) 0 0 letter0 bundle0 object0).peer)], [.int .u8 ((Itm.mk (takeN (openP l) 1) 0 0 letter0 bundle0 object0).letter.src)], [.int .u8 ((Itm.mk (takeN (openP l) 1) 0 0 letter0 bundle0 object0).letter.dst)], ((Itm.mk (takeN (openP l) 1) 0 0 letter0 bundle0 object0).letter.header.session).map bv, [.bool ((Itm.mk (takeN (openP l) 1) 0 0 letter0 bundle0 object0).letter.header.first)], ((Itm.mk (takeN (openP l) 1) 0 0 letter0 bundle0 object0).letter.header.agree).map bv, ((Itm.mk (takeN (openP l) 1) 0 0 letter0 bundle0 object0).letter.header.signer).map bv, ((Itm.mk (takeN (openP l) 1) 0 0 letter0 bundle0 object0).letter.header.base).map bv, [.int .u16 ((Itm.mk (takeN (openP l) 1) 0 0 letter0 bundle0 object0).letter.header.id)], ((Itm.mk (takeN (openP l) 1) 0 0 letter0 bundle0 object0).letter.header.ratchet).map bv, [.int .u16 ((Itm.mk (takeN (openP l) 1) 0 0 letter0 bundle0 object0).letter.header.n)], [.int .u16 ((Itm.mk (takeN (openP l) 1) 0 0 letter0 bundle0 object0).letter.header.prev)], [.slice none ([]).length 0], [.int .u8 (((bundleR (nextP (((openP (l)).drop 1).drop 1))).getD bundle0).device)], (((bundleR (nextP (((openP (l)).drop 1).drop 1))).getD bundle0).agree).map bv, (((bundleR (nextP (((openP (l)).drop 1).drop 1))).getD bundle0).signer).map bv, [.int .u16 (((bundleR (nextP (((openP (l)).drop 1).drop 1))).getD bundle0).id)], (((bundleR (nextP (((openP (l)).drop 1).drop 1))).getD bundle0).once).map bv, (((bundleR (nextP (((openP (l)).drop 1).drop 1))).getD bundle0).sig).map bv, [.int .u8 ((Itm.mk (takeN (openP l) 1) 0 0 letter0 bundle0 object0).object.server)], [.int .u8 ((Itm.mk (takeN (openP l) 1) 0 0 letter0 bundle0 object0).object.n)], ((Itm.mk (takeN (openP l) 1) 0 0 letter0 bundle0 object0).object.key).map bv, [.int .u32 ((Itm.mk (takeN (openP l) 1) 0 0 letter0 bundle0 object0).object.since)], [.int .u32 ((Itm.mk (takeN (openP l) 1) 0 0 letter0 bundle0 object0).object.till)], ((Itm.mk (takeN (openP l) 1) 0 0 letter0 bundle0 object0).object.sig).map bv, [.slice none ([]).length 0]] :: rch g2 ((((openP (l)).drop 1).drop 1).drop 1) (endW ((((openP (l)).drop 1).drop 1).drop 1) (failW (nextW (((openP (l)).drop 1).drop 1) (lenW ((openP (l)).drop 1) (lenW (openP (l)) (openW (l)) 1) 1)) (if (bundleR (nextP (((openP (l)).drop 1).drop 1))).isSome then 0 else 141))) :: blk g1 87 itemL (itemV (item0) none 0 none 0) :: H)) (fun _ h => h) ?_
            refine VL.neq rfl rfl ?_
            refine VL.case (fun h20_2 => ?_) (fun h20_2 => ?_)
            · refine VL.nil ?_
              refine VX.next ?_
              refine VC.yes rfl ?_
              refine VC.seq ?_
              refine VC.region ?_
              refine VL.build0 (cs := cat (itemV (item0) none 0 none 0)) built87 ?_
              refine VL.store (L := itemL) (qs := (itemV (item0) none 0 none 0)) (ps' := (itemV (item0) none 0 none 0)) 2 0 28 rfl rfl rfl (.inl kd87) rfl rfl (itemV_len item0_ok) (itemV_ok1 item0 none 0 none 0) rfl rfl ?_
              refine VL.turn (G' := Own _ (blk g5 87 itemL [[.int .u8 ((Itm.mk (takeN (openP l) 1) 0 0 letter0 bundle0 object0).kind)], [.int .u8 (takeN ((openP (l)).drop 1) 1)], [.int .u8 ((Itm.mk (takeN (openP l) 1) 0 0 letter0 bundle0 object0).peer)], [.int .u8 ((Itm.mk (takeN (openP l) 1) 0 0 letter0 bundle0 object0).letter.src)], [.int .u8 ((Itm.mk (takeN (openP l) 1) 0 0 letter0 bundle0 object0).letter.dst)], ((Itm.mk (takeN (openP l) 1) 0 0 letter0 bundle0 object0).letter.header.session).map bv, [.bool ((Itm.mk (takeN (openP l) 1) 0 0 letter0 bundle0 object0).letter.header.first)], ((Itm.mk (takeN (openP l) 1) 0 0 letter0 bundle0 object0).letter.header.agree).map bv, ((Itm.mk (takeN (openP l) 1) 0 0 letter0 bundle0 object0).letter.header.signer).map bv, ((Itm.mk (takeN (openP l) 1) 0 0 letter0 bundle0 object0).letter.header.base).map bv, [.int .u16 ((Itm.mk (takeN (openP l) 1) 0 0 letter0 bundle0 object0).letter.header.id)], ((Itm.mk (takeN (openP l) 1) 0 0 letter0 bundle0 object0).letter.header.ratchet).map bv, [.int .u16 ((Itm.mk (takeN (openP l) 1) 0 0 letter0 bundle0 object0).letter.header.n)], [.int .u16 ((Itm.mk (takeN (openP l) 1) 0 0 letter0 bundle0 object0).letter.header.prev)], [.slice none ([]).length 0], [.int .u8 (((bundleR (nextP (((openP (l)).drop 1).drop 1))).getD bundle0).device)], (((bundleR (nextP (((openP (l)).drop 1).drop 1))).getD bundle0).agree).map bv, (((bundleR (nextP (((openP (l)).drop 1).drop 1))).getD bundle0).signer).map bv, [.int .u16 (((bundleR (nextP (((openP (l)).drop 1).drop 1))).getD bundle0).id)], (((bundleR (nextP (((openP (l)).drop 1).drop 1))).getD bundle0).once).map bv, (((bundleR (nextP (((openP (l)).drop 1).drop 1))).getD bundle0).sig).map bv, [.int .u8 ((Itm.mk (takeN (openP l) 1) 0 0 letter0 bundle0 object0).object.server)], [.int .u8 ((Itm.mk (takeN (openP l) 1) 0 0 letter0 bundle0 object0).object.n)], ((Itm.mk (takeN (openP l) 1) 0 0 letter0 bundle0 object0).object.key).map bv, [.int .u32 ((Itm.mk (takeN (openP l) 1) 0 0 letter0 bundle0 object0).object.since)], [.int .u32 ((Itm.mk (takeN (openP l) 1) 0 0 letter0 bundle0 object0).object.till)], ((Itm.mk (takeN (openP l) 1) 0 0 letter0 bundle0 object0).object.sig).map bv, [.slice none ([]).length 0]] :: rch g2 ((((openP (l)).drop 1).drop 1).drop 1) (endW ((((openP (l)).drop 1).drop 1).drop 1) (failW (nextW (((openP (l)).drop 1).drop 1) (lenW ((openP (l)).drop 1) (lenW (openP (l)) (openW (l)) 1) 1)) (if (bundleR (nextP (((openP (l)).drop 1).drop 1))).isSome then 0 else 141))) :: blk g1 87 itemL (itemV (item0) none 0 none 0) :: H)) (fun _ h => h) ?_
              refine VL.assign rfl ?_
              refine VL.nil ?_
              refine VX.next ?_
              refine VC.ret ?_
              refine VX.then_ret ?_
              refine VX.ret_cell (cs := cat (itemV (item0) none 0 none 0)) 2 rfl rfl rfl (by rw [cat_size (itemV_len item0_ok)]; exact kd87) (fun _ h => h) rfl rfl (fun we hw => ?_)
              obtain ⟨hn1, _⟩ := item_w3 h3_4 h13_0
              obtain ⟨e1, e2⟩ := itemW_none (by omega) (by omega) h20_2 hn1
              exact ⟨none, 0, none, 0, by rw [e1]; exact congrArg (fun n : Nat => Value.tuple #[_, .int .i64 (n : Int)]) (e2).symm, hw.drop.drop.drop.sub (fun _ hs => by repeat (first | exact hs | apply List.mem_cons_of_mem)), by rw [e1]; exact Arr.none, by rw [e1]; exact Arr.none⟩
            · refine VL.nil ?_
              refine VX.next ?_
              refine VC.no rfl ?_
              refine VC.skip ?_
              refine VX.next ?_
              refine VC.seq ?_
              refine VC.region ?_
              refine VL.loads (cs := cat (itemV ((Itm.mk (takeN (openP l) 1) (takeN ((openP l).drop 1) 1) 0 letter0 ((bundleR (nextP (((openP l).drop 1).drop 1))).getD bundle0) object0)) none 0 none 0)) 0 0 28 rfl kd87 (fun _ h => h) rfl rfl rfl rfl ?_
              refine VL.store (L := itemL) (qs := (itemV ((Itm.mk (takeN (openP l) 1) (takeN ((openP l).drop 1) 1) 0 letter0 ((bundleR (nextP (((openP l).drop 1).drop 1))).getD bundle0) object0)) none 0 none 0)) (ps' := (itemV ((Itm.mk (takeN (openP l) 1) (takeN ((openP l).drop 1) 1) 0 letter0 ((bundleR (nextP (((openP l).drop 1).drop 1))).getD bundle0) object0)) none 0 none 0)) 2 0 28 rfl rfl rfl (.inl kd87) rfl rfl (itemV_len (⟨takeN_lt _ 1, (takeN_lt _ 1), (show (0 : Nat) < 256 by decide), letter0_ok, (bundleR_ok _), object0_ok⟩ : Itm.ok _)) (itemV_ok1 ((Itm.mk (takeN (openP l) 1) (takeN ((openP l).drop 1) 1) 0 letter0 ((bundleR (nextP (((openP l).drop 1).drop 1))).getD bundle0) object0)) none 0 none 0) rfl rfl ?_
              refine VL.turn (G' := Own _ (blk g5 87 itemL [[.int .u8 ((Itm.mk (takeN (openP l) 1) 0 0 letter0 bundle0 object0).kind)], [.int .u8 (takeN ((openP (l)).drop 1) 1)], [.int .u8 ((Itm.mk (takeN (openP l) 1) 0 0 letter0 bundle0 object0).peer)], [.int .u8 ((Itm.mk (takeN (openP l) 1) 0 0 letter0 bundle0 object0).letter.src)], [.int .u8 ((Itm.mk (takeN (openP l) 1) 0 0 letter0 bundle0 object0).letter.dst)], ((Itm.mk (takeN (openP l) 1) 0 0 letter0 bundle0 object0).letter.header.session).map bv, [.bool ((Itm.mk (takeN (openP l) 1) 0 0 letter0 bundle0 object0).letter.header.first)], ((Itm.mk (takeN (openP l) 1) 0 0 letter0 bundle0 object0).letter.header.agree).map bv, ((Itm.mk (takeN (openP l) 1) 0 0 letter0 bundle0 object0).letter.header.signer).map bv, ((Itm.mk (takeN (openP l) 1) 0 0 letter0 bundle0 object0).letter.header.base).map bv, [.int .u16 ((Itm.mk (takeN (openP l) 1) 0 0 letter0 bundle0 object0).letter.header.id)], ((Itm.mk (takeN (openP l) 1) 0 0 letter0 bundle0 object0).letter.header.ratchet).map bv, [.int .u16 ((Itm.mk (takeN (openP l) 1) 0 0 letter0 bundle0 object0).letter.header.n)], [.int .u16 ((Itm.mk (takeN (openP l) 1) 0 0 letter0 bundle0 object0).letter.header.prev)], [.slice none ([]).length 0], [.int .u8 (((bundleR (nextP (((openP (l)).drop 1).drop 1))).getD bundle0).device)], (((bundleR (nextP (((openP (l)).drop 1).drop 1))).getD bundle0).agree).map bv, (((bundleR (nextP (((openP (l)).drop 1).drop 1))).getD bundle0).signer).map bv, [.int .u16 (((bundleR (nextP (((openP (l)).drop 1).drop 1))).getD bundle0).id)], (((bundleR (nextP (((openP (l)).drop 1).drop 1))).getD bundle0).once).map bv, (((bundleR (nextP (((openP (l)).drop 1).drop 1))).getD bundle0).sig).map bv, [.int .u8 ((Itm.mk (takeN (openP l) 1) 0 0 letter0 bundle0 object0).object.server)], [.int .u8 ((Itm.mk (takeN (openP l) 1) 0 0 letter0 bundle0 object0).object.n)], ((Itm.mk (takeN (openP l) 1) 0 0 letter0 bundle0 object0).object.key).map bv, [.int .u32 ((Itm.mk (takeN (openP l) 1) 0 0 letter0 bundle0 object0).object.since)], [.int .u32 ((Itm.mk (takeN (openP l) 1) 0 0 letter0 bundle0 object0).object.till)], ((Itm.mk (takeN (openP l) 1) 0 0 letter0 bundle0 object0).object.sig).map bv, [.slice none ([]).length 0]] :: rch g2 ((((openP (l)).drop 1).drop 1).drop 1) (endW ((((openP (l)).drop 1).drop 1).drop 1) (failW (nextW (((openP (l)).drop 1).drop 1) (lenW ((openP (l)).drop 1) (lenW (openP (l)) (openW (l)) 1) 1)) (if (bundleR (nextP (((openP (l)).drop 1).drop 1))).isSome then 0 else 141))) :: blk g1 87 itemL (itemV ((Itm.mk (takeN (openP l) 1) (takeN ((openP l).drop 1) 1) 0 letter0 ((bundleR (nextP (((openP l).drop 1).drop 1))).getD bundle0) object0)) none 0 none 0) :: H)) (fun _ h => h) ?_
              refine VL.assign rfl ?_
              refine VL.nil ?_
              refine VX.next ?_
              refine VC.ret ?_
              refine VX.ret_cell (cs := cat (itemV ((Itm.mk (takeN (openP l) 1) (takeN ((openP l).drop 1) 1) 0 letter0 ((bundleR (nextP (((openP l).drop 1).drop 1))).getD bundle0) object0)) none 0 none 0)) 2 rfl rfl rfl (by rw [cat_size (itemV_len (⟨takeN_lt _ 1, (takeN_lt _ 1), (show (0 : Nat) < 256 by decide), letter0_ok, (bundleR_ok _), object0_ok⟩ : Itm.ok _))]; exact kd87) (fun _ h => h) rfl rfl (fun we hw => ?_)
              obtain ⟨hn1, hn2⟩ := item_w3 h3_4 h13_0
              obtain ⟨y, e1, e2⟩ := itemW_some (by omega) (by omega) h20_2 hn1
              have e3 := hn2 y e1
              have e4 := h13_0
              rw [e1, e2, e3]
              exact ⟨_, _, _, _, by rw [e4]; rfl, hw.drop.drop.drop.sub (fun _ hs => by repeat (first | exact hs | apply List.mem_cons_of_mem)), Arr.none, Arr.none⟩
          · have h13_0 : takeN (openP l) 1 ≠ 3 := by have h : ¬ ((takeN (openP l) 1 : Nat) : Int) = 3 := h13_0; omega
            refine VL.assign rfl ?_
            refine VL.nil ?_
            refine VX.next ?_
            refine VC.no rfl ?_
            refine VC.seq ?_
            refine VC.seq ?_
            refine VC.region ?_
            refine VL.eql rfl rfl ?_
            refine VL.case (fun h16_0 => ?_) (fun h16_0 => ?_)
            · have h16_0 : takeN (openP l) 1 = 5 := by have h : ((takeN (openP l) 1 : Nat) : Int) = 5 := h16_0; omega
              refine VL.assign rfl ?_
              refine VL.nil ?_
              refine VX.next ?_
              refine VC.yes rfl ?_
              refine VC.skip ?_
              refine VX.next ?_
              refine VC.yes rfl ?_
              refine VC.region ?_
              refine VL.move rfl ?_
              refine VL.call Try.func124 rfl (by decide) rfl (fun w' hw => piece_R (i := 1) rfl hw) (fun v => ?_)
              refine VL.at (fun w35 h1w => ?_)
              obtain ⟨p36, c37, rfl, hO39, hA38⟩ := h1w
              replace hO39 : Own _ (blk g5 87 itemL (itemV ((Itm.mk (takeN (openP l) 1) 0 0 letter0 bundle0 object0)) none 0 none 0) :: rch g2 (((openP (l)).drop 1).drop 1) (nextW ((openP (l)).drop 1) (lenW (openP (l)) (openW (l)) 1)) :: blk g1 87 itemL (itemV (item0) none 0 none 0) :: H) w35 := hO39
              replace hA38 : Bytes (keys (blk g5 87 itemL (itemV ((Itm.mk (takeN (openP l) 1) 0 0 letter0 bundle0 object0)) none 0 none 0) :: rch g2 (((openP (l)).drop 1).drop 1) (nextW ((openP (l)).drop 1) (lenW (openP (l)) (openW (l)) 1)) :: blk g1 87 itemL (itemV (item0) none 0 none 0) :: H)) w35 p36 (nextP ((openP (l)).drop 1)) c37 := hA38
              refine VL.toOwn hO39 ?_
              refine VL.call Try.func71 rfl (by decide) rfl (fun w' hw => getObject_w hw (hA38.now (s := ⟨w35, _⟩) Mono.byte hw (by repeat (first | exact List.mem_cons_self .. | apply List.mem_cons_of_mem)))) (fun v => ?_)
              refine VL.at (fun w40 h1w => ?_)
              obtain ⟨p42, c43, rfl, hO41, hA44⟩ := h1w
              refine VL.toOwn hO41 ?_
              refine VL.move rfl ?_
              refine VL.extract rfl rfl ?_
              refine VL.extract rfl rfl ?_
              refine VL.fieldAddr rfl fo87_5 rfl ?_
              refine VL.store (L := itemL) (qs := (objectV (((objectR (nextP ((openP (l)).drop 1))).getD object0)) p42 c43)) (ps' := [[.int .u8 ((Itm.mk (takeN (openP l) 1) 0 0 letter0 bundle0 object0).kind)], [.int .u8 ((Itm.mk (takeN (openP l) 1) 0 0 letter0 bundle0 object0).asker)], [.int .u8 ((Itm.mk (takeN (openP l) 1) 0 0 letter0 bundle0 object0).peer)], [.int .u8 ((Itm.mk (takeN (openP l) 1) 0 0 letter0 bundle0 object0).letter.src)], [.int .u8 ((Itm.mk (takeN (openP l) 1) 0 0 letter0 bundle0 object0).letter.dst)], ((Itm.mk (takeN (openP l) 1) 0 0 letter0 bundle0 object0).letter.header.session).map bv, [.bool ((Itm.mk (takeN (openP l) 1) 0 0 letter0 bundle0 object0).letter.header.first)], ((Itm.mk (takeN (openP l) 1) 0 0 letter0 bundle0 object0).letter.header.agree).map bv, ((Itm.mk (takeN (openP l) 1) 0 0 letter0 bundle0 object0).letter.header.signer).map bv, ((Itm.mk (takeN (openP l) 1) 0 0 letter0 bundle0 object0).letter.header.base).map bv, [.int .u16 ((Itm.mk (takeN (openP l) 1) 0 0 letter0 bundle0 object0).letter.header.id)], ((Itm.mk (takeN (openP l) 1) 0 0 letter0 bundle0 object0).letter.header.ratchet).map bv, [.int .u16 ((Itm.mk (takeN (openP l) 1) 0 0 letter0 bundle0 object0).letter.header.n)], [.int .u16 ((Itm.mk (takeN (openP l) 1) 0 0 letter0 bundle0 object0).letter.header.prev)], [.slice none ([]).length 0], [.int .u8 ((Itm.mk (takeN (openP l) 1) 0 0 letter0 bundle0 object0).bundle.device)], ((Itm.mk (takeN (openP l) 1) 0 0 letter0 bundle0 object0).bundle.agree).map bv, ((Itm.mk (takeN (openP l) 1) 0 0 letter0 bundle0 object0).bundle.signer).map bv, [.int .u16 ((Itm.mk (takeN (openP l) 1) 0 0 letter0 bundle0 object0).bundle.id)], ((Itm.mk (takeN (openP l) 1) 0 0 letter0 bundle0 object0).bundle.once).map bv, ((Itm.mk (takeN (openP l) 1) 0 0 letter0 bundle0 object0).bundle.sig).map bv, [.int .u8 (((objectR (nextP ((openP (l)).drop 1))).getD object0).server)], [.int .u8 (((objectR (nextP ((openP (l)).drop 1))).getD object0).n)], (((objectR (nextP ((openP (l)).drop 1))).getD object0).key).map bv, [.int .u32 (((objectR (nextP ((openP (l)).drop 1))).getD object0).since)], [.int .u32 (((objectR (nextP ((openP (l)).drop 1))).getD object0).till)], (((objectR (nextP ((openP (l)).drop 1))).getD object0).sig).map bv, [.slice p42 (((objectR (nextP ((openP (l)).drop 1))).getD object0).vouches).length c43]]) 0 21 7 rfl rfl rfl (.inl kd85) rfl rfl (objectV_len (objectR_ok (nextP ((openP (l)).drop 1)))) (objectV_ok1 (((objectR (nextP ((openP (l)).drop 1))).getD object0)) p42 c43) rfl rfl ?_
              refine VL.turn (G' := Own _ (blk g5 87 itemL [[.int .u8 ((Itm.mk (takeN (openP l) 1) 0 0 letter0 bundle0 object0).kind)], [.int .u8 ((Itm.mk (takeN (openP l) 1) 0 0 letter0 bundle0 object0).asker)], [.int .u8 ((Itm.mk (takeN (openP l) 1) 0 0 letter0 bundle0 object0).peer)], [.int .u8 ((Itm.mk (takeN (openP l) 1) 0 0 letter0 bundle0 object0).letter.src)], [.int .u8 ((Itm.mk (takeN (openP l) 1) 0 0 letter0 bundle0 object0).letter.dst)], ((Itm.mk (takeN (openP l) 1) 0 0 letter0 bundle0 object0).letter.header.session).map bv, [.bool ((Itm.mk (takeN (openP l) 1) 0 0 letter0 bundle0 object0).letter.header.first)], ((Itm.mk (takeN (openP l) 1) 0 0 letter0 bundle0 object0).letter.header.agree).map bv, ((Itm.mk (takeN (openP l) 1) 0 0 letter0 bundle0 object0).letter.header.signer).map bv, ((Itm.mk (takeN (openP l) 1) 0 0 letter0 bundle0 object0).letter.header.base).map bv, [.int .u16 ((Itm.mk (takeN (openP l) 1) 0 0 letter0 bundle0 object0).letter.header.id)], ((Itm.mk (takeN (openP l) 1) 0 0 letter0 bundle0 object0).letter.header.ratchet).map bv, [.int .u16 ((Itm.mk (takeN (openP l) 1) 0 0 letter0 bundle0 object0).letter.header.n)], [.int .u16 ((Itm.mk (takeN (openP l) 1) 0 0 letter0 bundle0 object0).letter.header.prev)], [.slice none ([]).length 0], [.int .u8 ((Itm.mk (takeN (openP l) 1) 0 0 letter0 bundle0 object0).bundle.device)], ((Itm.mk (takeN (openP l) 1) 0 0 letter0 bundle0 object0).bundle.agree).map bv, ((Itm.mk (takeN (openP l) 1) 0 0 letter0 bundle0 object0).bundle.signer).map bv, [.int .u16 ((Itm.mk (takeN (openP l) 1) 0 0 letter0 bundle0 object0).bundle.id)], ((Itm.mk (takeN (openP l) 1) 0 0 letter0 bundle0 object0).bundle.once).map bv, ((Itm.mk (takeN (openP l) 1) 0 0 letter0 bundle0 object0).bundle.sig).map bv, [.int .u8 (((objectR (nextP ((openP (l)).drop 1))).getD object0).server)], [.int .u8 (((objectR (nextP ((openP (l)).drop 1))).getD object0).n)], (((objectR (nextP ((openP (l)).drop 1))).getD object0).key).map bv, [.int .u32 (((objectR (nextP ((openP (l)).drop 1))).getD object0).since)], [.int .u32 (((objectR (nextP ((openP (l)).drop 1))).getD object0).till)], (((objectR (nextP ((openP (l)).drop 1))).getD object0).sig).map bv, [.slice p42 (((objectR (nextP ((openP (l)).drop 1))).getD object0).vouches).length c43]] :: rch g2 (((openP (l)).drop 1).drop 1) (nextW ((openP (l)).drop 1) (lenW (openP (l)) (openW (l)) 1)) :: blk g1 87 itemL (itemV (item0) none 0 none 0) :: H)) (fun _ h => h) ?_
              refine VL.assign rfl ?_
              refine VL.nil ?_
              refine VX.block_normal ?_
              refine VX.next ?_
              refine VC.seq ?_
              refine VC.region ?_
              refine VL.move rfl ?_
              refine VL.move rfl ?_
              refine VL.call Try.func125 rfl (by decide) rfl (fun w' hw => fail_R (i := 1) rfl hw (if (objectR (nextP ((openP (l)).drop 1))).isSome then 0 else 141)) (fun v => ?_)
              refine VL.fact fun e45 => ?_
              subst e45
              refine VL.turn (G' := Own _ (blk g5 87 itemL [[.int .u8 ((Itm.mk (takeN (openP l) 1) 0 0 letter0 bundle0 object0).kind)], [.int .u8 ((Itm.mk (takeN (openP l) 1) 0 0 letter0 bundle0 object0).asker)], [.int .u8 ((Itm.mk (takeN (openP l) 1) 0 0 letter0 bundle0 object0).peer)], [.int .u8 ((Itm.mk (takeN (openP l) 1) 0 0 letter0 bundle0 object0).letter.src)], [.int .u8 ((Itm.mk (takeN (openP l) 1) 0 0 letter0 bundle0 object0).letter.dst)], ((Itm.mk (takeN (openP l) 1) 0 0 letter0 bundle0 object0).letter.header.session).map bv, [.bool ((Itm.mk (takeN (openP l) 1) 0 0 letter0 bundle0 object0).letter.header.first)], ((Itm.mk (takeN (openP l) 1) 0 0 letter0 bundle0 object0).letter.header.agree).map bv, ((Itm.mk (takeN (openP l) 1) 0 0 letter0 bundle0 object0).letter.header.signer).map bv, ((Itm.mk (takeN (openP l) 1) 0 0 letter0 bundle0 object0).letter.header.base).map bv, [.int .u16 ((Itm.mk (takeN (openP l) 1) 0 0 letter0 bundle0 object0).letter.header.id)], ((Itm.mk (takeN (openP l) 1) 0 0 letter0 bundle0 object0).letter.header.ratchet).map bv, [.int .u16 ((Itm.mk (takeN (openP l) 1) 0 0 letter0 bundle0 object0).letter.header.n)], [.int .u16 ((Itm.mk (takeN (openP l) 1) 0 0 letter0 bundle0 object0).letter.header.prev)], [.slice none ([]).length 0], [.int .u8 ((Itm.mk (takeN (openP l) 1) 0 0 letter0 bundle0 object0).bundle.device)], ((Itm.mk (takeN (openP l) 1) 0 0 letter0 bundle0 object0).bundle.agree).map bv, ((Itm.mk (takeN (openP l) 1) 0 0 letter0 bundle0 object0).bundle.signer).map bv, [.int .u16 ((Itm.mk (takeN (openP l) 1) 0 0 letter0 bundle0 object0).bundle.id)], ((Itm.mk (takeN (openP l) 1) 0 0 letter0 bundle0 object0).bundle.once).map bv, ((Itm.mk (takeN (openP l) 1) 0 0 letter0 bundle0 object0).bundle.sig).map bv, [.int .u8 (((objectR (nextP ((openP (l)).drop 1))).getD object0).server)], [.int .u8 (((objectR (nextP ((openP (l)).drop 1))).getD object0).n)], (((objectR (nextP ((openP (l)).drop 1))).getD object0).key).map bv, [.int .u32 (((objectR (nextP ((openP (l)).drop 1))).getD object0).since)], [.int .u32 (((objectR (nextP ((openP (l)).drop 1))).getD object0).till)], (((objectR (nextP ((openP (l)).drop 1))).getD object0).sig).map bv, [.slice p42 (((objectR (nextP ((openP (l)).drop 1))).getD object0).vouches).length c43]] :: rch g2 (((openP (l)).drop 1).drop 1) (failW (nextW ((openP (l)).drop 1) (lenW (openP (l)) (openW (l)) 1)) (if (objectR (nextP ((openP (l)).drop 1))).isSome then 0 else 141)) :: blk g1 87 itemL (itemV (item0) none 0 none 0) :: H)) (fun _ h => h) ?_
              refine VL.nil ?_
              refine VX.next ?_
              refine VC.seq ?_
              refine VC.seq ?_
              refine VC.region ?_
              refine VL.move rfl ?_
              refine VL.call Try.func126 rfl (by decide) rfl (fun w' hw => end_R (i := 1) rfl hw) (fun v => ?_)
              refine VL.fact fun e46 => ?_
              subst e46
              refine VL.turn (G' := Own _ (blk g5 87 itemL [[.int .u8 ((Itm.mk (takeN (openP l) 1) 0 0 letter0 bundle0 object0).kind)], [.int .u8 ((Itm.mk (takeN (openP l) 1) 0 0 letter0 bundle0 object0).asker)], [.int .u8 ((Itm.mk (takeN (openP l) 1) 0 0 letter0 bundle0 object0).peer)], [.int .u8 ((Itm.mk (takeN (openP l) 1) 0 0 letter0 bundle0 object0).letter.src)], [.int .u8 ((Itm.mk (takeN (openP l) 1) 0 0 letter0 bundle0 object0).letter.dst)], ((Itm.mk (takeN (openP l) 1) 0 0 letter0 bundle0 object0).letter.header.session).map bv, [.bool ((Itm.mk (takeN (openP l) 1) 0 0 letter0 bundle0 object0).letter.header.first)], ((Itm.mk (takeN (openP l) 1) 0 0 letter0 bundle0 object0).letter.header.agree).map bv, ((Itm.mk (takeN (openP l) 1) 0 0 letter0 bundle0 object0).letter.header.signer).map bv, ((Itm.mk (takeN (openP l) 1) 0 0 letter0 bundle0 object0).letter.header.base).map bv, [.int .u16 ((Itm.mk (takeN (openP l) 1) 0 0 letter0 bundle0 object0).letter.header.id)], ((Itm.mk (takeN (openP l) 1) 0 0 letter0 bundle0 object0).letter.header.ratchet).map bv, [.int .u16 ((Itm.mk (takeN (openP l) 1) 0 0 letter0 bundle0 object0).letter.header.n)], [.int .u16 ((Itm.mk (takeN (openP l) 1) 0 0 letter0 bundle0 object0).letter.header.prev)], [.slice none ([]).length 0], [.int .u8 ((Itm.mk (takeN (openP l) 1) 0 0 letter0 bundle0 object0).bundle.device)], ((Itm.mk (takeN (openP l) 1) 0 0 letter0 bundle0 object0).bundle.agree).map bv, ((Itm.mk (takeN (openP l) 1) 0 0 letter0 bundle0 object0).bundle.signer).map bv, [.int .u16 ((Itm.mk (takeN (openP l) 1) 0 0 letter0 bundle0 object0).bundle.id)], ((Itm.mk (takeN (openP l) 1) 0 0 letter0 bundle0 object0).bundle.once).map bv, ((Itm.mk (takeN (openP l) 1) 0 0 letter0 bundle0 object0).bundle.sig).map bv, [.int .u8 (((objectR (nextP ((openP (l)).drop 1))).getD object0).server)], [.int .u8 (((objectR (nextP ((openP (l)).drop 1))).getD object0).n)], (((objectR (nextP ((openP (l)).drop 1))).getD object0).key).map bv, [.int .u32 (((objectR (nextP ((openP (l)).drop 1))).getD object0).since)], [.int .u32 (((objectR (nextP ((openP (l)).drop 1))).getD object0).till)], (((objectR (nextP ((openP (l)).drop 1))).getD object0).sig).map bv, [.slice p42 (((objectR (nextP ((openP (l)).drop 1))).getD object0).vouches).length c43]] :: rch g2 (((openP (l)).drop 1).drop 1) (endW (((openP (l)).drop 1).drop 1) (failW (nextW ((openP (l)).drop 1) (lenW (openP (l)) (openW (l)) 1)) (if (objectR (nextP ((openP (l)).drop 1))).isSome then 0 else 141))) :: blk g1 87 itemL (itemV (item0) none 0 none 0) :: H)) (fun _ h => h) ?_
              refine VL.neq rfl rfl ?_
              refine VL.case (fun h20_2 => ?_) (fun h20_2 => ?_)
              · refine VL.nil ?_
                refine VX.next ?_
                refine VC.yes rfl ?_
                refine VC.seq ?_
                refine VC.region ?_
                refine VL.build0 (cs := cat (itemV (item0) none 0 none 0)) built87 ?_
                refine VL.store (L := itemL) (qs := (itemV (item0) none 0 none 0)) (ps' := (itemV (item0) none 0 none 0)) 2 0 28 rfl rfl rfl (.inl kd87) rfl rfl (itemV_len item0_ok) (itemV_ok1 item0 none 0 none 0) rfl rfl ?_
                refine VL.turn (G' := Own _ (blk g5 87 itemL [[.int .u8 ((Itm.mk (takeN (openP l) 1) 0 0 letter0 bundle0 object0).kind)], [.int .u8 ((Itm.mk (takeN (openP l) 1) 0 0 letter0 bundle0 object0).asker)], [.int .u8 ((Itm.mk (takeN (openP l) 1) 0 0 letter0 bundle0 object0).peer)], [.int .u8 ((Itm.mk (takeN (openP l) 1) 0 0 letter0 bundle0 object0).letter.src)], [.int .u8 ((Itm.mk (takeN (openP l) 1) 0 0 letter0 bundle0 object0).letter.dst)], ((Itm.mk (takeN (openP l) 1) 0 0 letter0 bundle0 object0).letter.header.session).map bv, [.bool ((Itm.mk (takeN (openP l) 1) 0 0 letter0 bundle0 object0).letter.header.first)], ((Itm.mk (takeN (openP l) 1) 0 0 letter0 bundle0 object0).letter.header.agree).map bv, ((Itm.mk (takeN (openP l) 1) 0 0 letter0 bundle0 object0).letter.header.signer).map bv, ((Itm.mk (takeN (openP l) 1) 0 0 letter0 bundle0 object0).letter.header.base).map bv, [.int .u16 ((Itm.mk (takeN (openP l) 1) 0 0 letter0 bundle0 object0).letter.header.id)], ((Itm.mk (takeN (openP l) 1) 0 0 letter0 bundle0 object0).letter.header.ratchet).map bv, [.int .u16 ((Itm.mk (takeN (openP l) 1) 0 0 letter0 bundle0 object0).letter.header.n)], [.int .u16 ((Itm.mk (takeN (openP l) 1) 0 0 letter0 bundle0 object0).letter.header.prev)], [.slice none ([]).length 0], [.int .u8 ((Itm.mk (takeN (openP l) 1) 0 0 letter0 bundle0 object0).bundle.device)], ((Itm.mk (takeN (openP l) 1) 0 0 letter0 bundle0 object0).bundle.agree).map bv, ((Itm.mk (takeN (openP l) 1) 0 0 letter0 bundle0 object0).bundle.signer).map bv, [.int .u16 ((Itm.mk (takeN (openP l) 1) 0 0 letter0 bundle0 object0).bundle.id)], ((Itm.mk (takeN (openP l) 1) 0 0 letter0 bundle0 object0).bundle.once).map bv, ((Itm.mk (takeN (openP l) 1) 0 0 letter0 bundle0 object0).bundle.sig).map bv, [.int .u8 (((objectR (nextP ((openP (l)).drop 1))).getD object0).server)], [.int .u8 (((objectR (nextP ((openP (l)).drop 1))).getD object0).n)], (((objectR (nextP ((openP (l)).drop 1))).getD object0).key).map bv, [.int .u32 (((objectR (nextP ((openP (l)).drop 1))).getD object0).since)], [.int .u32 (((objectR (nextP ((openP (l)).drop 1))).getD object0).till)], (((objectR (nextP ((openP (l)).drop 1))).getD object0).sig).map bv, [.slice p42 (((objectR (nextP ((openP (l)).drop 1))).getD object0).vouches).length c43]] :: rch g2 (((openP (l)).drop 1).drop 1) (endW (((openP (l)).drop 1).drop 1) (failW (nextW ((openP (l)).drop 1) (lenW (openP (l)) (openW (l)) 1)) (if (objectR (nextP ((openP (l)).drop 1))).isSome then 0 else 141))) :: blk g1 87 itemL (itemV (item0) none 0 none 0) :: H)) (fun _ h => h) ?_
                refine VL.assign rfl ?_
                refine VL.nil ?_
                refine VX.next ?_
                refine VC.ret ?_
                refine VX.then_ret ?_
                refine VX.ret_cell (cs := cat (itemV (item0) none 0 none 0)) 2 rfl rfl rfl (by rw [cat_size (itemV_len item0_ok)]; exact kd87) (fun _ h => h) rfl rfl (fun we hw => ?_)
                obtain ⟨hn1, _⟩ := item_w5 h3_4 (.inl h16_0)
                obtain ⟨e1, e2⟩ := itemW_none (by omega) (by omega) h20_2 hn1
                exact ⟨none, 0, none, 0, by rw [e1]; exact congrArg (fun n : Nat => Value.tuple #[_, .int .i64 (n : Int)]) (e2).symm, hw.drop.drop.drop.sub (fun _ hs => by repeat (first | exact hs | apply List.mem_cons_of_mem)), by rw [e1]; exact Arr.none, by rw [e1]; exact Arr.none⟩
              · refine VL.nil ?_
                refine VX.next ?_
                refine VC.no rfl ?_
                refine VC.skip ?_
                refine VX.next ?_
                refine VC.seq ?_
                refine VC.region ?_
                refine VL.loads (cs := cat (itemV ((Itm.mk (takeN (openP l) 1) 0 0 letter0 bundle0 ((objectR (nextP ((openP l).drop 1))).getD object0))) none 0 p42 c43)) 0 0 28 rfl kd87 (fun _ h => h) rfl rfl rfl rfl ?_
                refine VL.store (L := itemL) (qs := (itemV ((Itm.mk (takeN (openP l) 1) 0 0 letter0 bundle0 ((objectR (nextP ((openP l).drop 1))).getD object0))) none 0 p42 c43)) (ps' := (itemV ((Itm.mk (takeN (openP l) 1) 0 0 letter0 bundle0 ((objectR (nextP ((openP l).drop 1))).getD object0))) none 0 p42 c43)) 2 0 28 rfl rfl rfl (.inl kd87) rfl rfl (itemV_len (⟨takeN_lt _ 1, (show (0 : Nat) < 256 by decide), (show (0 : Nat) < 256 by decide), letter0_ok, bundle0_ok, (objectR_ok _)⟩ : Itm.ok _)) (itemV_ok1 ((Itm.mk (takeN (openP l) 1) 0 0 letter0 bundle0 ((objectR (nextP ((openP l).drop 1))).getD object0))) none 0 p42 c43) rfl rfl ?_
                refine VL.turn (G' := Own _ (blk g5 87 itemL [[.int .u8 ((Itm.mk (takeN (openP l) 1) 0 0 letter0 bundle0 object0).kind)], [.int .u8 ((Itm.mk (takeN (openP l) 1) 0 0 letter0 bundle0 object0).asker)], [.int .u8 ((Itm.mk (takeN (openP l) 1) 0 0 letter0 bundle0 object0).peer)], [.int .u8 ((Itm.mk (takeN (openP l) 1) 0 0 letter0 bundle0 object0).letter.src)], [.int .u8 ((Itm.mk (takeN (openP l) 1) 0 0 letter0 bundle0 object0).letter.dst)], ((Itm.mk (takeN (openP l) 1) 0 0 letter0 bundle0 object0).letter.header.session).map bv, [.bool ((Itm.mk (takeN (openP l) 1) 0 0 letter0 bundle0 object0).letter.header.first)], ((Itm.mk (takeN (openP l) 1) 0 0 letter0 bundle0 object0).letter.header.agree).map bv, ((Itm.mk (takeN (openP l) 1) 0 0 letter0 bundle0 object0).letter.header.signer).map bv, ((Itm.mk (takeN (openP l) 1) 0 0 letter0 bundle0 object0).letter.header.base).map bv, [.int .u16 ((Itm.mk (takeN (openP l) 1) 0 0 letter0 bundle0 object0).letter.header.id)], ((Itm.mk (takeN (openP l) 1) 0 0 letter0 bundle0 object0).letter.header.ratchet).map bv, [.int .u16 ((Itm.mk (takeN (openP l) 1) 0 0 letter0 bundle0 object0).letter.header.n)], [.int .u16 ((Itm.mk (takeN (openP l) 1) 0 0 letter0 bundle0 object0).letter.header.prev)], [.slice none ([]).length 0], [.int .u8 ((Itm.mk (takeN (openP l) 1) 0 0 letter0 bundle0 object0).bundle.device)], ((Itm.mk (takeN (openP l) 1) 0 0 letter0 bundle0 object0).bundle.agree).map bv, ((Itm.mk (takeN (openP l) 1) 0 0 letter0 bundle0 object0).bundle.signer).map bv, [.int .u16 ((Itm.mk (takeN (openP l) 1) 0 0 letter0 bundle0 object0).bundle.id)], ((Itm.mk (takeN (openP l) 1) 0 0 letter0 bundle0 object0).bundle.once).map bv, ((Itm.mk (takeN (openP l) 1) 0 0 letter0 bundle0 object0).bundle.sig).map bv, [.int .u8 (((objectR (nextP ((openP (l)).drop 1))).getD object0).server)], [.int .u8 (((objectR (nextP ((openP (l)).drop 1))).getD object0).n)], (((objectR (nextP ((openP (l)).drop 1))).getD object0).key).map bv, [.int .u32 (((objectR (nextP ((openP (l)).drop 1))).getD object0).since)], [.int .u32 (((objectR (nextP ((openP (l)).drop 1))).getD object0).till)], (((objectR (nextP ((openP (l)).drop 1))).getD object0).sig).map bv, [.slice p42 (((objectR (nextP ((openP (l)).drop 1))).getD object0).vouches).length c43]] :: rch g2 (((openP (l)).drop 1).drop 1) (endW (((openP (l)).drop 1).drop 1) (failW (nextW ((openP (l)).drop 1) (lenW (openP (l)) (openW (l)) 1)) (if (objectR (nextP ((openP (l)).drop 1))).isSome then 0 else 141))) :: blk g1 87 itemL (itemV ((Itm.mk (takeN (openP l) 1) 0 0 letter0 bundle0 ((objectR (nextP ((openP l).drop 1))).getD object0))) none 0 p42 c43) :: H)) (fun _ h => h) ?_
                refine VL.assign rfl ?_
                refine VL.nil ?_
                refine VX.next ?_
                refine VC.ret ?_
                refine VX.ret_cell (cs := cat (itemV ((Itm.mk (takeN (openP l) 1) 0 0 letter0 bundle0 ((objectR (nextP ((openP l).drop 1))).getD object0))) none 0 p42 c43)) 2 rfl rfl rfl (by rw [cat_size (itemV_len (⟨takeN_lt _ 1, (show (0 : Nat) < 256 by decide), (show (0 : Nat) < 256 by decide), letter0_ok, bundle0_ok, (objectR_ok _)⟩ : Itm.ok _))]; exact kd87) (fun _ h => h) rfl rfl (fun we hw => ?_)
                obtain ⟨hn1, hn2⟩ := item_w5 h3_4 (.inl h16_0)
                obtain ⟨y, e1, e2⟩ := itemW_some (by omega) (by omega) h20_2 hn1
                have e3 := hn2 y e1
                rw [e1, e2, e3]
                exact ⟨_, _, _, _, rfl, hw.drop.drop.drop.sub (fun _ hs => by repeat (first | exact hs | apply List.mem_cons_of_mem)), Arr.none, (hA44.now (s := ⟨w40, _⟩) Mono_vouch hw.drop.drop.drop (by repeat (first | exact List.mem_cons_self .. | apply List.mem_cons_of_mem)))⟩
            · have h16_0 : takeN (openP l) 1 ≠ 5 := by have h : ¬ ((takeN (openP l) 1 : Nat) : Int) = 5 := h16_0; omega
              refine VL.assign rfl ?_
              refine VL.nil ?_
              refine VX.next ?_
              refine VC.no rfl ?_
              refine VC.region ?_
              refine VL.eql rfl rfl ?_
              refine VL.case (fun h17_0 => ?_) (fun h17_0 => ?_)
              · have h17_0 : takeN (openP l) 1 = 6 := by have h : ((takeN (openP l) 1 : Nat) : Int) = 6 := h17_0; omega
                refine VL.assign rfl ?_
                refine VL.nil ?_
                refine VX.next ?_
                refine VC.yes rfl ?_
                refine VC.region ?_
                refine VL.move rfl ?_
                refine VL.call Try.func124 rfl (by decide) rfl (fun w' hw => piece_R (i := 1) rfl hw) (fun v => ?_)
                refine VL.at (fun w47 h1w => ?_)
                obtain ⟨p48, c49, rfl, hO51, hA50⟩ := h1w
                replace hO51 : Own _ (blk g5 87 itemL (itemV ((Itm.mk (takeN (openP l) 1) 0 0 letter0 bundle0 object0)) none 0 none 0) :: rch g2 (((openP (l)).drop 1).drop 1) (nextW ((openP (l)).drop 1) (lenW (openP (l)) (openW (l)) 1)) :: blk g1 87 itemL (itemV (item0) none 0 none 0) :: H) w47 := hO51
                replace hA50 : Bytes (keys (blk g5 87 itemL (itemV ((Itm.mk (takeN (openP l) 1) 0 0 letter0 bundle0 object0)) none 0 none 0) :: rch g2 (((openP (l)).drop 1).drop 1) (nextW ((openP (l)).drop 1) (lenW (openP (l)) (openW (l)) 1)) :: blk g1 87 itemL (itemV (item0) none 0 none 0) :: H)) w47 p48 (nextP ((openP (l)).drop 1)) c49 := hA50
                refine VL.toOwn hO51 ?_
                refine VL.call Try.func71 rfl (by decide) rfl (fun w' hw => getObject_w hw (hA50.now (s := ⟨w47, _⟩) Mono.byte hw (by repeat (first | exact List.mem_cons_self .. | apply List.mem_cons_of_mem)))) (fun v => ?_)
                refine VL.at (fun w52 h1w => ?_)
                obtain ⟨p54, c55, rfl, hO53, hA56⟩ := h1w
                refine VL.toOwn hO53 ?_
                refine VL.move rfl ?_
                refine VL.extract rfl rfl ?_
                refine VL.extract rfl rfl ?_
                refine VL.fieldAddr rfl fo87_5 rfl ?_
                refine VL.store (L := itemL) (qs := (objectV (((objectR (nextP ((openP (l)).drop 1))).getD object0)) p54 c55)) (ps' := [[.int .u8 ((Itm.mk (takeN (openP l) 1) 0 0 letter0 bundle0 object0).kind)], [.int .u8 ((Itm.mk (takeN (openP l) 1) 0 0 letter0 bundle0 object0).asker)], [.int .u8 ((Itm.mk (takeN (openP l) 1) 0 0 letter0 bundle0 object0).peer)], [.int .u8 ((Itm.mk (takeN (openP l) 1) 0 0 letter0 bundle0 object0).letter.src)], [.int .u8 ((Itm.mk (takeN (openP l) 1) 0 0 letter0 bundle0 object0).letter.dst)], ((Itm.mk (takeN (openP l) 1) 0 0 letter0 bundle0 object0).letter.header.session).map bv, [.bool ((Itm.mk (takeN (openP l) 1) 0 0 letter0 bundle0 object0).letter.header.first)], ((Itm.mk (takeN (openP l) 1) 0 0 letter0 bundle0 object0).letter.header.agree).map bv, ((Itm.mk (takeN (openP l) 1) 0 0 letter0 bundle0 object0).letter.header.signer).map bv, ((Itm.mk (takeN (openP l) 1) 0 0 letter0 bundle0 object0).letter.header.base).map bv, [.int .u16 ((Itm.mk (takeN (openP l) 1) 0 0 letter0 bundle0 object0).letter.header.id)], ((Itm.mk (takeN (openP l) 1) 0 0 letter0 bundle0 object0).letter.header.ratchet).map bv, [.int .u16 ((Itm.mk (takeN (openP l) 1) 0 0 letter0 bundle0 object0).letter.header.n)], [.int .u16 ((Itm.mk (takeN (openP l) 1) 0 0 letter0 bundle0 object0).letter.header.prev)], [.slice none ([]).length 0], [.int .u8 ((Itm.mk (takeN (openP l) 1) 0 0 letter0 bundle0 object0).bundle.device)], ((Itm.mk (takeN (openP l) 1) 0 0 letter0 bundle0 object0).bundle.agree).map bv, ((Itm.mk (takeN (openP l) 1) 0 0 letter0 bundle0 object0).bundle.signer).map bv, [.int .u16 ((Itm.mk (takeN (openP l) 1) 0 0 letter0 bundle0 object0).bundle.id)], ((Itm.mk (takeN (openP l) 1) 0 0 letter0 bundle0 object0).bundle.once).map bv, ((Itm.mk (takeN (openP l) 1) 0 0 letter0 bundle0 object0).bundle.sig).map bv, [.int .u8 (((objectR (nextP ((openP (l)).drop 1))).getD object0).server)], [.int .u8 (((objectR (nextP ((openP (l)).drop 1))).getD object0).n)], (((objectR (nextP ((openP (l)).drop 1))).getD object0).key).map bv, [.int .u32 (((objectR (nextP ((openP (l)).drop 1))).getD object0).since)], [.int .u32 (((objectR (nextP ((openP (l)).drop 1))).getD object0).till)], (((objectR (nextP ((openP (l)).drop 1))).getD object0).sig).map bv, [.slice p54 (((objectR (nextP ((openP (l)).drop 1))).getD object0).vouches).length c55]]) 0 21 7 rfl rfl rfl (.inl kd85) rfl rfl (objectV_len (objectR_ok (nextP ((openP (l)).drop 1)))) (objectV_ok1 (((objectR (nextP ((openP (l)).drop 1))).getD object0)) p54 c55) rfl rfl ?_
                refine VL.turn (G' := Own _ (blk g5 87 itemL [[.int .u8 ((Itm.mk (takeN (openP l) 1) 0 0 letter0 bundle0 object0).kind)], [.int .u8 ((Itm.mk (takeN (openP l) 1) 0 0 letter0 bundle0 object0).asker)], [.int .u8 ((Itm.mk (takeN (openP l) 1) 0 0 letter0 bundle0 object0).peer)], [.int .u8 ((Itm.mk (takeN (openP l) 1) 0 0 letter0 bundle0 object0).letter.src)], [.int .u8 ((Itm.mk (takeN (openP l) 1) 0 0 letter0 bundle0 object0).letter.dst)], ((Itm.mk (takeN (openP l) 1) 0 0 letter0 bundle0 object0).letter.header.session).map bv, [.bool ((Itm.mk (takeN (openP l) 1) 0 0 letter0 bundle0 object0).letter.header.first)], ((Itm.mk (takeN (openP l) 1) 0 0 letter0 bundle0 object0).letter.header.agree).map bv, ((Itm.mk (takeN (openP l) 1) 0 0 letter0 bundle0 object0).letter.header.signer).map bv, ((Itm.mk (takeN (openP l) 1) 0 0 letter0 bundle0 object0).letter.header.base).map bv, [.int .u16 ((Itm.mk (takeN (openP l) 1) 0 0 letter0 bundle0 object0).letter.header.id)], ((Itm.mk (takeN (openP l) 1) 0 0 letter0 bundle0 object0).letter.header.ratchet).map bv, [.int .u16 ((Itm.mk (takeN (openP l) 1) 0 0 letter0 bundle0 object0).letter.header.n)], [.int .u16 ((Itm.mk (takeN (openP l) 1) 0 0 letter0 bundle0 object0).letter.header.prev)], [.slice none ([]).length 0], [.int .u8 ((Itm.mk (takeN (openP l) 1) 0 0 letter0 bundle0 object0).bundle.device)], ((Itm.mk (takeN (openP l) 1) 0 0 letter0 bundle0 object0).bundle.agree).map bv, ((Itm.mk (takeN (openP l) 1) 0 0 letter0 bundle0 object0).bundle.signer).map bv, [.int .u16 ((Itm.mk (takeN (openP l) 1) 0 0 letter0 bundle0 object0).bundle.id)], ((Itm.mk (takeN (openP l) 1) 0 0 letter0 bundle0 object0).bundle.once).map bv, ((Itm.mk (takeN (openP l) 1) 0 0 letter0 bundle0 object0).bundle.sig).map bv, [.int .u8 (((objectR (nextP ((openP (l)).drop 1))).getD object0).server)], [.int .u8 (((objectR (nextP ((openP (l)).drop 1))).getD object0).n)], (((objectR (nextP ((openP (l)).drop 1))).getD object0).key).map bv, [.int .u32 (((objectR (nextP ((openP (l)).drop 1))).getD object0).since)], [.int .u32 (((objectR (nextP ((openP (l)).drop 1))).getD object0).till)], (((objectR (nextP ((openP (l)).drop 1))).getD object0).sig).map bv, [.slice p54 (((objectR (nextP ((openP (l)).drop 1))).getD object0).vouches).length c55]] :: rch g2 (((openP (l)).drop 1).drop 1) (nextW ((openP (l)).drop 1) (lenW (openP (l)) (openW (l)) 1)) :: blk g1 87 itemL (itemV (item0) none 0 none 0) :: H)) (fun _ h => h) ?_
                refine VL.assign rfl ?_
                refine VL.nil ?_
                refine VX.block_normal ?_
                refine VX.next ?_
                refine VC.seq ?_
                refine VC.region ?_
                refine VL.move rfl ?_
                refine VL.move rfl ?_
                refine VL.call Try.func125 rfl (by decide) rfl (fun w' hw => fail_R (i := 1) rfl hw (if (objectR (nextP ((openP (l)).drop 1))).isSome then 0 else 141)) (fun v => ?_)
                refine VL.fact fun e57 => ?_
                subst e57
                refine VL.turn (G' := Own _ (blk g5 87 itemL [[.int .u8 ((Itm.mk (takeN (openP l) 1) 0 0 letter0 bundle0 object0).kind)], [.int .u8 ((Itm.mk (takeN (openP l) 1) 0 0 letter0 bundle0 object0).asker)], [.int .u8 ((Itm.mk (takeN (openP l) 1) 0 0 letter0 bundle0 object0).peer)], [.int .u8 ((Itm.mk (takeN (openP l) 1) 0 0 letter0 bundle0 object0).letter.src)], [.int .u8 ((Itm.mk (takeN (openP l) 1) 0 0 letter0 bundle0 object0).letter.dst)], ((Itm.mk (takeN (openP l) 1) 0 0 letter0 bundle0 object0).letter.header.session).map bv, [.bool ((Itm.mk (takeN (openP l) 1) 0 0 letter0 bundle0 object0).letter.header.first)], ((Itm.mk (takeN (openP l) 1) 0 0 letter0 bundle0 object0).letter.header.agree).map bv, ((Itm.mk (takeN (openP l) 1) 0 0 letter0 bundle0 object0).letter.header.signer).map bv, ((Itm.mk (takeN (openP l) 1) 0 0 letter0 bundle0 object0).letter.header.base).map bv, [.int .u16 ((Itm.mk (takeN (openP l) 1) 0 0 letter0 bundle0 object0).letter.header.id)], ((Itm.mk (takeN (openP l) 1) 0 0 letter0 bundle0 object0).letter.header.ratchet).map bv, [.int .u16 ((Itm.mk (takeN (openP l) 1) 0 0 letter0 bundle0 object0).letter.header.n)], [.int .u16 ((Itm.mk (takeN (openP l) 1) 0 0 letter0 bundle0 object0).letter.header.prev)], [.slice none ([]).length 0], [.int .u8 ((Itm.mk (takeN (openP l) 1) 0 0 letter0 bundle0 object0).bundle.device)], ((Itm.mk (takeN (openP l) 1) 0 0 letter0 bundle0 object0).bundle.agree).map bv, ((Itm.mk (takeN (openP l) 1) 0 0 letter0 bundle0 object0).bundle.signer).map bv, [.int .u16 ((Itm.mk (takeN (openP l) 1) 0 0 letter0 bundle0 object0).bundle.id)], ((Itm.mk (takeN (openP l) 1) 0 0 letter0 bundle0 object0).bundle.once).map bv, ((Itm.mk (takeN (openP l) 1) 0 0 letter0 bundle0 object0).bundle.sig).map bv, [.int .u8 (((objectR (nextP ((openP (l)).drop 1))).getD object0).server)], [.int .u8 (((objectR (nextP ((openP (l)).drop 1))).getD object0).n)], (((objectR (nextP ((openP (l)).drop 1))).getD object0).key).map bv, [.int .u32 (((objectR (nextP ((openP (l)).drop 1))).getD object0).since)], [.int .u32 (((objectR (nextP ((openP (l)).drop 1))).getD object0).till)], (((objectR (nextP ((openP (l)).drop 1))).getD object0).sig).map bv, [.slice p54 (((objectR (nextP ((openP (l)).drop 1))).getD object0).vouches).length c55]] :: rch g2 (((openP (l)).drop 1).drop 1) (failW (nextW ((openP (l)).drop 1) (lenW (openP (l)) (openW (l)) 1)) (if (objectR (nextP ((openP (l)).drop 1))).isSome then 0 else 141)) :: blk g1 87 itemL (itemV (item0) none 0 none 0) :: H)) (fun _ h => h) ?_
                refine VL.nil ?_
                refine VX.next ?_
                refine VC.seq ?_
                refine VC.seq ?_
                refine VC.region ?_
                refine VL.move rfl ?_
                refine VL.call Try.func126 rfl (by decide) rfl (fun w' hw => end_R (i := 1) rfl hw) (fun v => ?_)
                refine VL.fact fun e58 => ?_
                subst e58
                refine VL.turn (G' := Own _ (blk g5 87 itemL [[.int .u8 ((Itm.mk (takeN (openP l) 1) 0 0 letter0 bundle0 object0).kind)], [.int .u8 ((Itm.mk (takeN (openP l) 1) 0 0 letter0 bundle0 object0).asker)], [.int .u8 ((Itm.mk (takeN (openP l) 1) 0 0 letter0 bundle0 object0).peer)], [.int .u8 ((Itm.mk (takeN (openP l) 1) 0 0 letter0 bundle0 object0).letter.src)], [.int .u8 ((Itm.mk (takeN (openP l) 1) 0 0 letter0 bundle0 object0).letter.dst)], ((Itm.mk (takeN (openP l) 1) 0 0 letter0 bundle0 object0).letter.header.session).map bv, [.bool ((Itm.mk (takeN (openP l) 1) 0 0 letter0 bundle0 object0).letter.header.first)], ((Itm.mk (takeN (openP l) 1) 0 0 letter0 bundle0 object0).letter.header.agree).map bv, ((Itm.mk (takeN (openP l) 1) 0 0 letter0 bundle0 object0).letter.header.signer).map bv, ((Itm.mk (takeN (openP l) 1) 0 0 letter0 bundle0 object0).letter.header.base).map bv, [.int .u16 ((Itm.mk (takeN (openP l) 1) 0 0 letter0 bundle0 object0).letter.header.id)], ((Itm.mk (takeN (openP l) 1) 0 0 letter0 bundle0 object0).letter.header.ratchet).map bv, [.int .u16 ((Itm.mk (takeN (openP l) 1) 0 0 letter0 bundle0 object0).letter.header.n)], [.int .u16 ((Itm.mk (takeN (openP l) 1) 0 0 letter0 bundle0 object0).letter.header.prev)], [.slice none ([]).length 0], [.int .u8 ((Itm.mk (takeN (openP l) 1) 0 0 letter0 bundle0 object0).bundle.device)], ((Itm.mk (takeN (openP l) 1) 0 0 letter0 bundle0 object0).bundle.agree).map bv, ((Itm.mk (takeN (openP l) 1) 0 0 letter0 bundle0 object0).bundle.signer).map bv, [.int .u16 ((Itm.mk (takeN (openP l) 1) 0 0 letter0 bundle0 object0).bundle.id)], ((Itm.mk (takeN (openP l) 1) 0 0 letter0 bundle0 object0).bundle.once).map bv, ((Itm.mk (takeN (openP l) 1) 0 0 letter0 bundle0 object0).bundle.sig).map bv, [.int .u8 (((objectR (nextP ((openP (l)).drop 1))).getD object0).server)], [.int .u8 (((objectR (nextP ((openP (l)).drop 1))).getD object0).n)], (((objectR (nextP ((openP (l)).drop 1))).getD object0).key).map bv, [.int .u32 (((objectR (nextP ((openP (l)).drop 1))).getD object0).since)], [.int .u32 (((objectR (nextP ((openP (l)).drop 1))).getD object0).till)], (((objectR (nextP ((openP (l)).drop 1))).getD object0).sig).map bv, [.slice p54 (((objectR (nextP ((openP (l)).drop 1))).getD object0).vouches).length c55]] :: rch g2 (((openP (l)).drop 1).drop 1) (endW (((openP (l)).drop 1).drop 1) (failW (nextW ((openP (l)).drop 1) (lenW (openP (l)) (openW (l)) 1)) (if (objectR (nextP ((openP (l)).drop 1))).isSome then 0 else 141))) :: blk g1 87 itemL (itemV (item0) none 0 none 0) :: H)) (fun _ h => h) ?_
                refine VL.neq rfl rfl ?_
                refine VL.case (fun h20_2 => ?_) (fun h20_2 => ?_)
                · refine VL.nil ?_
                  refine VX.next ?_
                  refine VC.yes rfl ?_
                  refine VC.seq ?_
                  refine VC.region ?_
                  refine VL.build0 (cs := cat (itemV (item0) none 0 none 0)) built87 ?_
                  refine VL.store (L := itemL) (qs := (itemV (item0) none 0 none 0)) (ps' := (itemV (item0) none 0 none 0)) 2 0 28 rfl rfl rfl (.inl kd87) rfl rfl (itemV_len item0_ok) (itemV_ok1 item0 none 0 none 0) rfl rfl ?_
                  refine VL.turn (G' := Own _ (blk g5 87 itemL [[.int .u8 ((Itm.mk (takeN (openP l) 1) 0 0 letter0 bundle0 object0).kind)], [.int .u8 ((Itm.mk (takeN (openP l) 1) 0 0 letter0 bundle0 object0).asker)], [.int .u8 ((Itm.mk (takeN (openP l) 1) 0 0 letter0 bundle0 object0).peer)], [.int .u8 ((Itm.mk (takeN (openP l) 1) 0 0 letter0 bundle0 object0).letter.src)], [.int .u8 ((Itm.mk (takeN (openP l) 1) 0 0 letter0 bundle0 object0).letter.dst)], ((Itm.mk (takeN (openP l) 1) 0 0 letter0 bundle0 object0).letter.header.session).map bv, [.bool ((Itm.mk (takeN (openP l) 1) 0 0 letter0 bundle0 object0).letter.header.first)], ((Itm.mk (takeN (openP l) 1) 0 0 letter0 bundle0 object0).letter.header.agree).map bv, ((Itm.mk (takeN (openP l) 1) 0 0 letter0 bundle0 object0).letter.header.signer).map bv, ((Itm.mk (takeN (openP l) 1) 0 0 letter0 bundle0 object0).letter.header.base).map bv, [.int .u16 ((Itm.mk (takeN (openP l) 1) 0 0 letter0 bundle0 object0).letter.header.id)], ((Itm.mk (takeN (openP l) 1) 0 0 letter0 bundle0 object0).letter.header.ratchet).map bv, [.int .u16 ((Itm.mk (takeN (openP l) 1) 0 0 letter0 bundle0 object0).letter.header.n)], [.int .u16 ((Itm.mk (takeN (openP l) 1) 0 0 letter0 bundle0 object0).letter.header.prev)], [.slice none ([]).length 0], [.int .u8 ((Itm.mk (takeN (openP l) 1) 0 0 letter0 bundle0 object0).bundle.device)], ((Itm.mk (takeN (openP l) 1) 0 0 letter0 bundle0 object0).bundle.agree).map bv, ((Itm.mk (takeN (openP l) 1) 0 0 letter0 bundle0 object0).bundle.signer).map bv, [.int .u16 ((Itm.mk (takeN (openP l) 1) 0 0 letter0 bundle0 object0).bundle.id)], ((Itm.mk (takeN (openP l) 1) 0 0 letter0 bundle0 object0).bundle.once).map bv, ((Itm.mk (takeN (openP l) 1) 0 0 letter0 bundle0 object0).bundle.sig).map bv, [.int .u8 (((objectR (nextP ((openP (l)).drop 1))).getD object0).server)], [.int .u8 (((objectR (nextP ((openP (l)).drop 1))).getD object0).n)], (((objectR (nextP ((openP (l)).drop 1))).getD object0).key).map bv, [.int .u32 (((objectR (nextP ((openP (l)).drop 1))).getD object0).since)], [.int .u32 (((objectR (nextP ((openP (l)).drop 1))).getD object0).till)], (((objectR (nextP ((openP (l)).drop 1))).getD object0).sig).map bv, [.slice p54 (((objectR (nextP ((openP (l)).drop 1))).getD object0).vouches).length c55]] :: rch g2 (((openP (l)).drop 1).drop 1) (endW (((openP (l)).drop 1).drop 1) (failW (nextW ((openP (l)).drop 1) (lenW (openP (l)) (openW (l)) 1)) (if (objectR (nextP ((openP (l)).drop 1))).isSome then 0 else 141))) :: blk g1 87 itemL (itemV (item0) none 0 none 0) :: H)) (fun _ h => h) ?_
                  refine VL.assign rfl ?_
                  refine VL.nil ?_
                  refine VX.next ?_
                  refine VC.ret ?_
                  refine VX.then_ret ?_
                  refine VX.ret_cell (cs := cat (itemV (item0) none 0 none 0)) 2 rfl rfl rfl (by rw [cat_size (itemV_len item0_ok)]; exact kd87) (fun _ h => h) rfl rfl (fun we hw => ?_)
                  obtain ⟨hn1, _⟩ := item_w5 h3_4 (.inr h17_0)
                  obtain ⟨e1, e2⟩ := itemW_none (by omega) (by omega) h20_2 hn1
                  exact ⟨none, 0, none, 0, by rw [e1]; exact congrArg (fun n : Nat => Value.tuple #[_, .int .i64 (n : Int)]) (e2).symm, hw.drop.drop.drop.sub (fun _ hs => by repeat (first | exact hs | apply List.mem_cons_of_mem)), by rw [e1]; exact Arr.none, by rw [e1]; exact Arr.none⟩
                · refine VL.nil ?_
                  refine VX.next ?_
                  refine VC.no rfl ?_
                  refine VC.skip ?_
                  refine VX.next ?_
                  refine VC.seq ?_
                  refine VC.region ?_
                  refine VL.loads (cs := cat (itemV ((Itm.mk (takeN (openP l) 1) 0 0 letter0 bundle0 ((objectR (nextP ((openP l).drop 1))).getD object0))) none 0 p54 c55)) 0 0 28 rfl kd87 (fun _ h => h) rfl rfl rfl rfl ?_
                  refine VL.store (L := itemL) (qs := (itemV ((Itm.mk (takeN (openP l) 1) 0 0 letter0 bundle0 ((objectR (nextP ((openP l).drop 1))).getD object0))) none 0 p54 c55)) (ps' := (itemV ((Itm.mk (takeN (openP l) 1) 0 0 letter0 bundle0 ((objectR (nextP ((openP l).drop 1))).getD object0))) none 0 p54 c55)) 2 0 28 rfl rfl rfl (.inl kd87) rfl rfl (itemV_len (⟨takeN_lt _ 1, (show (0 : Nat) < 256 by decide), (show (0 : Nat) < 256 by decide), letter0_ok, bundle0_ok, (objectR_ok _)⟩ : Itm.ok _)) (itemV_ok1 ((Itm.mk (takeN (openP l) 1) 0 0 letter0 bundle0 ((objectR (nextP ((openP l).drop 1))).getD object0))) none 0 p54 c55) rfl rfl ?_
                  refine VL.turn (G' := Own _ (blk g5 87 itemL [[.int .u8 ((Itm.mk (takeN (openP l) 1) 0 0 letter0 bundle0 object0).kind)], [.int .u8 ((Itm.mk (takeN (openP l) 1) 0 0 letter0 bundle0 object0).asker)], [.int .u8 ((Itm.mk (takeN (openP l) 1) 0 0 letter0 bundle0 object0).peer)], [.int .u8 ((Itm.mk (takeN (openP l) 1) 0 0 letter0 bundle0 object0).letter.src)], [.int .u8 ((Itm.mk (takeN (openP l) 1) 0 0 letter0 bundle0 object0).letter.dst)], ((Itm.mk (takeN (openP l) 1) 0 0 letter0 bundle0 object0).letter.header.session).map bv, [.bool ((Itm.mk (takeN (openP l) 1) 0 0 letter0 bundle0 object0).letter.header.first)], ((Itm.mk (takeN (openP l) 1) 0 0 letter0 bundle0 object0).letter.header.agree).map bv, ((Itm.mk (takeN (openP l) 1) 0 0 letter0 bundle0 object0).letter.header.signer).map bv, ((Itm.mk (takeN (openP l) 1) 0 0 letter0 bundle0 object0).letter.header.base).map bv, [.int .u16 ((Itm.mk (takeN (openP l) 1) 0 0 letter0 bundle0 object0).letter.header.id)], ((Itm.mk (takeN (openP l) 1) 0 0 letter0 bundle0 object0).letter.header.ratchet).map bv, [.int .u16 ((Itm.mk (takeN (openP l) 1) 0 0 letter0 bundle0 object0).letter.header.n)], [.int .u16 ((Itm.mk (takeN (openP l) 1) 0 0 letter0 bundle0 object0).letter.header.prev)], [.slice none ([]).length 0], [.int .u8 ((Itm.mk (takeN (openP l) 1) 0 0 letter0 bundle0 object0).bundle.device)], ((Itm.mk (takeN (openP l) 1) 0 0 letter0 bundle0 object0).bundle.agree).map bv, ((Itm.mk (takeN (openP l) 1) 0 0 letter0 bundle0 object0).bundle.signer).map bv, [.int .u16 ((Itm.mk (takeN (openP l) 1) 0 0 letter0 bundle0 object0).bundle.id)], ((Itm.mk (takeN (openP l) 1) 0 0 letter0 bundle0 object0).bundle.once).map bv, ((Itm.mk (takeN (openP l) 1) 0 0 letter0 bundle0 object0).bundle.sig).map bv, [.int .u8 (((objectR (nextP ((openP (l)).drop 1))).getD object0).server)], [.int .u8 (((objectR (nextP ((openP (l)).drop 1))).getD object0).n)], (((objectR (nextP ((openP (l)).drop 1))).getD object0).key).map bv, [.int .u32 (((objectR (nextP ((openP (l)).drop 1))).getD object0).since)], [.int .u32 (((objectR (nextP ((openP (l)).drop 1))).getD object0).till)], (((objectR (nextP ((openP (l)).drop 1))).getD object0).sig).map bv, [.slice p54 (((objectR (nextP ((openP (l)).drop 1))).getD object0).vouches).length c55]] :: rch g2 (((openP (l)).drop 1).drop 1) (endW (((openP (l)).drop 1).drop 1) (failW (nextW ((openP (l)).drop 1) (lenW (openP (l)) (openW (l)) 1)) (if (objectR (nextP ((openP (l)).drop 1))).isSome then 0 else 141))) :: blk g1 87 itemL (itemV ((Itm.mk (takeN (openP l) 1) 0 0 letter0 bundle0 ((objectR (nextP ((openP l).drop 1))).getD object0))) none 0 p54 c55) :: H)) (fun _ h => h) ?_
                  refine VL.assign rfl ?_
                  refine VL.nil ?_
                  refine VX.next ?_
                  refine VC.ret ?_
                  refine VX.ret_cell (cs := cat (itemV ((Itm.mk (takeN (openP l) 1) 0 0 letter0 bundle0 ((objectR (nextP ((openP l).drop 1))).getD object0))) none 0 p54 c55)) 2 rfl rfl rfl (by rw [cat_size (itemV_len (⟨takeN_lt _ 1, (show (0 : Nat) < 256 by decide), (show (0 : Nat) < 256 by decide), letter0_ok, bundle0_ok, (objectR_ok _)⟩ : Itm.ok _))]; exact kd87) (fun _ h => h) rfl rfl (fun we hw => ?_)
                  obtain ⟨hn1, hn2⟩ := item_w5 h3_4 (.inr h17_0)
                  obtain ⟨y, e1, e2⟩ := itemW_some (by omega) (by omega) h20_2 hn1
                  have e3 := hn2 y e1
                  rw [e1, e2, e3]
                  exact ⟨_, _, _, _, rfl, hw.drop.drop.drop.sub (fun _ hs => by repeat (first | exact hs | apply List.mem_cons_of_mem)), Arr.none, (hA56.now (s := ⟨w52, _⟩) Mono_vouch hw.drop.drop.drop (by repeat (first | exact List.mem_cons_self .. | apply List.mem_cons_of_mem)))⟩
              · have h17_0 : takeN (openP l) 1 ≠ 6 := by have h : ¬ ((takeN (openP l) 1 : Nat) : Int) = 6 := h17_0; omega
                refine VL.assign rfl ?_
                refine VL.nil ?_
                refine VX.next ?_
                refine VC.no rfl ?_
                refine VC.seq ?_
                refine VC.region ?_
                refine VL.build0 (cs := cat (itemV (item0) none 0 none 0)) built87 ?_
                refine VL.store (L := itemL) (qs := (itemV (item0) none 0 none 0)) (ps' := (itemV (item0) none 0 none 0)) 2 0 28 rfl rfl rfl (.inl kd87) rfl rfl (itemV_len item0_ok) (itemV_ok1 item0 none 0 none 0) rfl rfl ?_
                refine VL.turn (G' := Own _ (blk g5 87 itemL (itemV ((Itm.mk (takeN (openP l) 1) 0 0 letter0 bundle0 object0)) none 0 none 0) :: rch g2 ((openP (l)).drop 1) (lenW (openP (l)) (openW (l)) 1) :: blk g1 87 itemL (itemV (item0) none 0 none 0) :: H)) (fun _ h => h) ?_
                refine VL.assign rfl ?_
                refine VL.nil ?_
                refine VX.next ?_
                refine VC.ret ?_
                refine VX.block_ret ?_
                refine VX.then_ret ?_
                refine VX.ret_cell (cs := cat (itemV (item0) none 0 none 0)) 2 rfl rfl rfl (by rw [cat_size (itemV_len item0_ok)]; exact kd87) (fun _ h => h) rfl rfl (fun we hw => ?_)
                obtain ⟨e1, e2⟩ := item_none h3_4 h8_0 h10_0 h13_0 h11_0 h16_0 h17_0
                exact ⟨none, 0, none, 0, by rw [e1]; exact congrArg (fun n : Nat => Value.tuple #[_, .int .i64 (n : Int)]) (e2).symm, hw.drop.drop.drop.sub (fun _ hs => by repeat (first | exact hs | apply List.mem_cons_of_mem)), by rw [e1]; exact Arr.none, by rw [e1]; exact Arr.none⟩

end Go.Proofs.Ytcfecmoagfgnaaa

/- Calls as cells. -/
namespace Go.Proofs.Ytcfecmoagfgnaaa
open Go.Vc Go.Pl

structure Cal where
  kind : Nat
  seq : Nat
  peer : Nat
  mark : Nat
  bundles : List Bundle
  letter : Letter
structure Cal.ok (x : Cal) : Prop where
  kind : x.kind < 256
  seq : x.seq < 65536
  peer : x.peer < 256
  mark : x.mark < 65536
  bundles : ∀ b ∈ x.bundles, b.ok
  letter : x.letter.ok
/-- The one that the law tries. -/
def cal1 : Cal := ⟨4, 1, 1, 0, [], letter0⟩
theorem cal1_ok : cal1.ok := ⟨by decide, by decide, by decide, by decide, by simp [cal1], letter0_ok⟩
def item2 : Itm := ⟨2, 1, 2, letter0, bundle0, object0⟩
theorem item2_ok : item2.ok := ⟨by decide, by decide, by decide, letter0_ok, bundle0_ok, object0_ok⟩

abbrev calV (x : Cal) (q : Option Addr) (d : Nat) (p : Option Addr) (c : Nat) : List (List Value) := [[.int .u8 x.kind], [.int .u16 x.seq], [.int .u8 x.peer], [.int .u16 x.mark], [.slice q x.bundles.length d], [.int .u8 x.letter.src], [.int .u8 x.letter.dst], x.letter.header.session.map bv, [.bool x.letter.header.first], x.letter.header.agree.map bv, x.letter.header.signer.map bv, x.letter.header.base.map bv, [.int .u16 x.letter.header.id], x.letter.header.ratchet.map bv, [.int .u16 x.letter.header.n], [.int .u16 x.letter.header.prev], [.slice p x.letter.body.length c]]
abbrev calL : List Nat := [1, 1, 1, 1, 1, 1, 1, 32, 1, 32, 32, 32, 1, 32, 1, 1, 1]
abbrev calZ : List (List Value) := [[.int .u8 0], [.int .u16 0], [.int .u8 0], [.int .u16 0], [.slice none 0 0], cat (letterV letter0 none 0)]
abbrev calFL : List Nat := [1, 1, 1, 1, 1, 167]
theorem plan110 : planOf Try.prog 110 = some (placesL 0 calFL, (cat calZ).toArray) := by kernel_rfl
theorem calV_len {x : Cal} (h : x.ok) {q : Option Addr} {d : Nat} {p : Option Addr} {c : Nat} : (calV x q d p c).map List.length = calL := by simp [h.letter.header.session, h.letter.header.agree, h.letter.header.signer, h.letter.header.base, h.letter.header.ratchet]
end Go.Proofs.Ytcfecmoagfgnaaa

/- Struct arguments, opened. -/
namespace Go.Proofs.Ytcfecmoagfgnaaa
open Go.Vc Go.Pl

open Go.ChangeShapes Go.WideShapes Go.ChangeAt Go.RowKit
section
variable {Hh : Type} {enc : TypeId × Value → Hh} {P : Program} {W : World} {t : TypeId}
def natR (k : IntKind) (b : Nat) : Rel Nat := fun _ _ vs n => n < b ∧ vs = [.int k n]
def arrR (n : Nat) : Rel (List UInt8) := fun _ _ vs l => l.length = n ∧ vs = l.map bv
theorem openNat {k : IntKind} {b : Nat} (hb : ∀ n : Int, (Lit.int k n).wf = true → 0 ≤ n ∧ n < b) (ht : P.underlying t = some (.int k)) : Opens enc P W t (natR k b) := by
  intro fuel cs x h
  cases fuel with
  | zero => simp [DataW.trod] at h
  | succ n =>
    unfold DataW.trod at h
    rw [ht] at h
    split at h <;> simp_all
    rename_i k0 k n' heq
    subst heq
    obtain ⟨⟨rfl, hw⟩, _⟩ := h
    obtain ⟨h1, h2⟩ := hb _ hw
    refine ⟨n'.toNat, by omega, ?_⟩
    rw [Int.toNat_of_nonneg h1]
theorem openU8 (ht : P.underlying t = some (.int .u8)) : Opens enc P W t (natR .u8 256) := openNat (fun n h => by have := bounds_u8 h; omega) ht
theorem openU32 (ht : P.underlying t = some (.int .u32)) : Opens enc P W t (natR .u32 4294967296) := openNat (fun n h => by have := bounds_u32 h; omega) ht
theorem openArr {n : Nat} {e : TypeId} (ht : P.underlying t = some (.array n e)) (he : P.underlying e = some (.int .u8)) (hc : P.cellsOf e = 1) (hn : P.cellsOf t = n) : Opens enc P W t (arrR n) := by
  intro fuel cs x h
  obtain ⟨xs, m, rfl, _, hl, hxl, hx⟩ := DataW.trod_array ht h
  rw [hn] at hl
  rw [hc] at hx
  have each : ∀ i, i < n → ∃ b : UInt8, (cs.drop (i * 1)).take 1 = [bv b] := by
    intro i hi
    have h1 := hx i hi
    rw [List.getElem?_eq_getElem (by omega)] at h1
    exact Opens.u8 (enc := enc) (W := W) he _ _ _ h1
  obtain ⟨l, h1, h2⟩ := pick_list n each
  refine ⟨l, h1, ?_⟩
  refine List.ext_getElem? fun i => ?_
  rw [List.getElem?_map]
  by_cases hi : i < n
  · have e1 := h2 i (l[i]'(by omega)) (List.getElem?_eq_getElem (by omega))
    rw [List.getElem?_eq_getElem (l := l) (by omega)]
    have e2 : ((cs.drop (i * 1)).take 1)[0]? = some (bv (l[i]'(by omega))) := by rw [e1]; rfl
    rw [List.getElem?_take_of_lt (by decide), List.getElem?_drop] at e2
    simpa using e2
  · rw [List.getElem?_eq_none (by omega), List.getElem?_eq_none (by omega)]; rfl
def FieldsAt (enc : TypeId × Value → Hh) (P : Program) (W : World) (fuel : Nat) (cs : List Value) : List (TypeId × Nat × Nat) → Prop
  | [] => True
  | e :: r => (∃ z, DataW.trod enc P W 0 (fun _ => true) true fuel e.1 ((cs.drop e.2.1).take e.2.2) = some z) ∧ FieldsAt enc P W fuel cs r
theorem openFields {fs : Array Field} {fuel : Nat} {cs : List Value} {x : DataW Hh × List MemPlace} (L : List (TypeId × Nat × Nat)) (ht : P.underlying t = some (.struct fs)) (hL : fs.toList.map (fun f => (f.type, f.offset, P.cellsOf f.type)) = L) (h : DataW.trod enc P W 0 (fun _ => true) true fuel t cs = some x) :
    cs.length = P.cellsOf t ∧ ∃ m, FieldsAt enc P W m cs L := by
  obtain ⟨xs, m, _, _, hl, hxl, hx⟩ := DataW.trod_struct ht h
  refine ⟨hl, m, ?_⟩
  subst hL
  have key : ∀ (gs : List Field), (∀ f ∈ gs, ∃ z, DataW.trod enc P W 0 (fun _ => true) true m f.type ((cs.drop f.offset).take (P.cellsOf f.type)) = some z) → FieldsAt enc P W m cs (gs.map (fun f => (f.type, f.offset, P.cellsOf f.type))) := by
    intro gs
    induction gs with
    | nil => intro _; trivial
    | cons g r ih => intro hg; exact ⟨hg g (by simp), ih fun f hf => hg f (by simp [hf])⟩
  refine key _ fun f hf => ?_
  obtain ⟨i, hi⟩ := List.mem_iff_getElem?.1 hf
  have hlt : i < xs.length := by
    have := (List.getElem?_eq_some_iff.1 hi).1
    simp at this hxl; omega
  have h1 := hx i f (by simpa using hi)
  rw [List.getElem?_eq_getElem hlt] at h1
  exact ⟨_, h1⟩
/-- Cells, cut where the fields begin. -/
theorem cutCells {cs a : List Value} (o n : Nat) (h : (cs.drop o).take n = a) : cs.drop o = a ++ cs.drop (o + n) := by
  rw [← h, ← List.drop_drop, List.take_append_drop]
theorem Opens.struct {fs : Array Field} {X : Type} {R : Rel X} {r : Reach} {base : Nat} {v : Value} {d : DataW Hh} {ps : List MemPlace} (ht : P.underlying t = some (.struct fs)) (h : Opens enc P W t R) (hval : Value.okWide P W r base t v) (hd : DataW.Trod enc P W 0 (fun _ => true) true t v d ps) :
    ∃ cs y, v = .agg cs.toArray ∧ R [] W cs y := by
  obtain ⟨fuel, hf⟩ := hd
  obtain ⟨y, hy⟩ := h _ _ _ hf
  unfold Value.okWide at hval
  rw [ht] at hval
  obtain ⟨cs, rfl, _⟩ := hval
  exact ⟨cs.toList, y, by simp, by simpa [Value.cells] using hy⟩
end
section
variable {Hh : Type} {enc : TypeId × Value → Hh} {W : World}

theorem open202 : Opens enc Try.prog W 202 vouchR := by
  intro fuel cs x h
  obtain ⟨hl, m, hz0, hz1, _⟩ := openFields [(5, 0, 1), (80, 1, 64)] Try.underlying202 (by kernel_rfl) h
  rw [show Try.prog.cellsOf 202 = 65 by kernel_rfl] at hl
  obtain ⟨z0, hz0⟩ := hz0
  obtain ⟨y0, ho0, hy0⟩ := (openU8 Try.underlying5) _ _ _ hz0
  obtain ⟨z1, hz1⟩ := hz1
  obtain ⟨y1, ho1, hy1⟩ := (openArr (n := 64) Try.underlying80 Try.underlying5 (by kernel_rfl) (by kernel_rfl)) _ _ _ hz1
  refine ⟨⟨y0, y1⟩, ⟨ho0, ho1⟩, ?_⟩
  have e0 : cs = cs.drop 0 := rfl
  have f0 := cutCells 0 1 hy0
  have f1 := cutCells 1 64 hy1
  have fe : cs.drop 65 = [] := List.drop_eq_nil_of_le (by omega)
  rw [e0, f0, f1, fe]
  simp only [cat, List.append_assoc, List.append_nil, List.nil_append]
theorem vouch_at {vs : List Vouch} {p : Option Addr} {c : Nat} (h : Arr 65 vouchR [] W p vs c) {i : Nat} {v : Vouch} (hi : vs[i]? = some v) : v.ok := by
  obtain ⟨vs, a, _, _, h1, _⟩ := h.cell hi
  exact h1.1
def objectR' : Rel Object := fun K w vs x => ∃ p c, x.ok ∧ vs = cat (objectV x p c) ∧ Arr 65 vouchR K w p x.vouches c
theorem open85 : Opens enc Try.prog W 85 objectR' := by
  intro fuel cs x h
  obtain ⟨hl, m, hz0, hz1, hz2, hz3, hz4, hz5, hz6, _⟩ := openFields [(5, 0, 1), (5, 1, 1), (44, 2, 32), (48, 34, 1), (48, 35, 1), (80, 36, 64), (83, 100, 1)] Try.underlying85 (by kernel_rfl) h
  rw [show Try.prog.cellsOf 85 = 101 by kernel_rfl] at hl
  obtain ⟨z0, hz0⟩ := hz0
  obtain ⟨y0, ho0, hy0⟩ := (openU8 Try.underlying5) _ _ _ hz0
  obtain ⟨z1, hz1⟩ := hz1
  obtain ⟨y1, ho1, hy1⟩ := (openU8 Try.underlying5) _ _ _ hz1
  obtain ⟨z2, hz2⟩ := hz2
  obtain ⟨y2, ho2, hy2⟩ := (openArr (n := 32) Try.underlying44 Try.underlying5 (by kernel_rfl) (by kernel_rfl)) _ _ _ hz2
  obtain ⟨z3, hz3⟩ := hz3
  obtain ⟨y3, ho3, hy3⟩ := (openU32 Try.underlying48) _ _ _ hz3
  obtain ⟨z4, hz4⟩ := hz4
  obtain ⟨y4, ho4, hy4⟩ := (openU32 Try.underlying48) _ _ _ hz4
  obtain ⟨z5, hz5⟩ := hz5
  obtain ⟨y5, ho5, hy5⟩ := (openArr (n := 64) Try.underlying80 Try.underlying5 (by kernel_rfl) (by kernel_rfl)) _ _ _ hz5
  obtain ⟨z6, hz6⟩ := hz6
  obtain ⟨y6, p6, c6, hy6, hA6⟩ := (Opens.slice (sz := 65) Try.underlying83 (by kernel_rfl) (by decide) open202) _ _ _ hz6
  have hvs : ∀ v ∈ y6, v.ok := fun v hv => by
    obtain ⟨i, hi⟩ := List.mem_iff_getElem?.1 hv
    exact vouch_at hA6 hi
  refine ⟨⟨y0, y1, y2, y3, y4, y5, y6⟩, p6, c6, ⟨ho0, ho1, ho2, ho3, ho4, ho5, hvs⟩, ?_, hA6⟩
  have e0 : cs = cs.drop 0 := rfl
  have f0 := cutCells 0 1 hy0
  have f1 := cutCells 1 1 hy1
  have f2 := cutCells 2 32 hy2
  have f3 := cutCells 34 1 hy3
  have f4 := cutCells 35 1 hy4
  have f5 := cutCells 36 64 hy5
  have f6 := cutCells 100 1 hy6
  have fe : cs.drop 101 = [] := List.drop_eq_nil_of_le (by omega)
  rw [e0, f0, f1, f2, f3, f4, f5, f6, fe]
  simp only [cat, List.append_assoc, List.append_nil, List.nil_append]
end
end Go.Proofs.Ytcfecmoagfgnaaa

/- Lists of items; replies: their bytes; what bytes are read as. -/
namespace Go.Proofs.Ytcfecmoagfgnaaa
open Go.Vc Go.Pl

structure Rep where
  seq : Nat
  tag : Nat
  mark : Nat
  items : List Itm
structure Rep.ok (x : Rep) : Prop where
  seq : x.seq < 65536
  tag : x.tag < 256
  mark : x.mark < 65536
  items : ∀ i ∈ x.items, i.ok
structure Trn where
  seq : Nat
  items : List Itm
structure Trn.ok (x : Trn) : Prop where
  seq : x.seq < 65536
  items : ∀ i ∈ x.items, i.ok
def restItems (c : List (List UInt8)) : Option (List Itm) :=
  if c.length ≤ 4 ∧ ∀ p ∈ c, (itemR p).isSome = true then some (c.map fun p => (itemR p).getD item0) else none
/-! The loop that reads items. -/
def IInv (c : List (List UInt8)) (why0 : Nat) (xs : List Itm) (ps : List (List UInt8)) (why : Nat) : Prop :=
  (∀ x ∈ xs, x.ok) ∧ xs.length ≤ 4 ∧ ((why = why0 ∧ ∃ d, c = d ++ ps ∧ d.map itemR = xs.map some) ∨ (why = 141 ∧ ∃ p ∈ c, itemR p = none))
theorem IInv.start (c : List (List UInt8)) (why0 : Nat) : IInv c why0 [] c why0 := ⟨by simp, by simp, .inl ⟨rfl, [], rfl, rfl⟩⟩
theorem IInv.step {c : List (List UInt8)} {xs : List Itm} {p : List UInt8} {r : List (List UInt8)} (h : IInv c 0 xs (p :: r) 0) (h4 : xs.length < 4) : IInv c 0 (xs ++ [(itemR p).getD item0]) r (if (itemR p).isSome then 0 else 141) := by
  obtain ⟨h1, h2, h3⟩ := h
  refine ⟨fun b hb => ?_, by simp; omega, ?_⟩
  · rcases List.mem_append.1 hb with hb | hb
    · exact h1 b hb
    · rw [List.mem_singleton] at hb; subst hb; exact itemR_ok p
  · rcases h3 with ⟨_, d, hd, hm⟩ | ⟨h, _⟩
    · cases hp : itemR p with
      | none => exact .inr ⟨rfl, p, by rw [hd]; simp, hp⟩
      | some b => exact .inl ⟨rfl, d ++ [p], by rw [hd]; simp, by simp [hm, hp]⟩
    · cases h
theorem IInv.done {c : List (List UInt8)} {why0 : Nat} (h0 : why0 = 0 ∨ why0 = 141) {xs : List Itm} {ps : List (List UInt8)} {why : Nat} (h : IInv c why0 xs ps why) (hx : ps = [] ∨ 4 ≤ xs.length ∨ why ≠ 0) : endW ps why = (if why0 = 0 ∧ (restItems c).isSome = true then 0 else 141) ∧ (why0 = 0 → ∀ ys, restItems c = some ys → ys = xs) := by
  obtain ⟨h1, h2, h3⟩ := h
  rcases h3 with ⟨rfl, d, hd, hm⟩ | ⟨rfl, p, hp, hpn⟩
  · rcases h0 with rfl | rfl
    · have hlen : d.length = xs.length := by have := congrArg List.length hm; simpa using this
      by_cases hps : ps = []
      · subst hps
        rw [List.append_nil] at hd
        have hall : ∀ p ∈ d, (itemR p).isSome = true := fun p hp => by
          have : itemR p ∈ xs.map some := by rw [← hm]; exact List.mem_map.2 ⟨p, hp, rfl⟩
          obtain ⟨b, _, e⟩ := List.mem_map.1 this
          rw [← e]; rfl
        have e2 : d.map (fun p => (itemR p).getD item0) = xs := by
          have := congrArg (List.map fun o : Option Itm => o.getD item0) hm
          rw [List.map_map, List.map_map] at this
          refine this.trans ?_
          conv => rhs; rw [← List.map_id xs]
          exact List.map_congr_left fun _ _ => rfl
        have hr : restItems c = some xs := by
          unfold restItems
          rw [hd, if_pos ⟨by omega, hall⟩, e2]
        rw [hr]
        exact ⟨rfl, fun _ ys hy => (Option.some.inj hy).symm⟩
      · have h9 : 4 ≤ xs.length := by
          rcases hx with hx | hx | hx
          · exact absurd hx hps
          · exact hx
          · exact absurd rfl hx
        have hpl : 0 < ps.length := List.length_pos_iff.2 hps
        have hr : restItems c = none := by
          unfold restItems
          exact if_neg (fun h => by have h1 := h.1; rw [hd, List.length_append] at h1; omega)
        rw [hr]
        refine ⟨?_, fun _ ys hy => by cases hy⟩
        unfold endW
        rw [if_neg hps]; rfl
    · exact ⟨(endW_141 _).trans (if_neg (fun h => by cases h.1)).symm, fun h => by cases h⟩
  · have hr : restItems c = none := by
      unfold restItems
      exact if_neg (fun h => by have := h.2 p hp; rw [hpn] at this; cases this)
    rw [hr]
    exact ⟨(endW_141 _).trans (if_neg (fun h => by cases h.2)).symm, fun _ ys hy => by cases hy⟩
end Go.Proofs.Ytcfecmoagfgnaaa

/- wire: the law that is alive. -/
namespace Go.Proofs.Ytcfecmoagfgnaaa
open Go.Vc Go.Pl

theorem putCal1_w {S : List Snap} {H : List Chunk} {w : World} (ho : Own S H w) : Calls Try.prog 76 #[.agg (cat (calV cal1 none 0 none 0)).toArray] w (RetO S H none) := by
  have hx3 : cal1.mark < 65536 := by decide
  have hx1 : cal1.kind < 256 := by decide
  have hx2 : cal1.seq < 65536 := by decide
  refine enter (G := Own (⟨w, keys H⟩ :: S) H) ho.keep Try.func76 rfl Try.ntmps76 rfl ?_
  refine VC.seq ?_
  refine VC.region ?_
  refine VL.box (L := calL) (ps := (calV (cal1) none 0 none 0)) rfl rfl (calV_len cal1_ok) (fun g1 => ?_)
  refine VL.assign rfl ?_
  refine VL.assign rfl ?_
  refine VL.nil ?_
  refine VX.next ?_
  refine VC.seq ?_
  refine VC.region ?_
  refine VL.build (zs := [[.slice none 0 0], [.bool false]]) [] plan181 rfl trivial rfl ?_
  refine VL.box (L := [1, 1]) (ps := [[rowV none 0 0], [.bool false]]) rfl rfl rfl (fun g2 => ?_)
  refine VL.turn (fun w' hw => Own.newW hw) ?_
  refine VL.assign rfl ?_
  refine VL.nil ?_
  refine VX.next ?_
  refine VC.seq ?_
  refine VC.region ?_
  refine VL.move rfl ?_
  refine VL.fieldAddr rfl fo110_0 rfl ?_
  refine VL.load (v := .int .u8 (cal1.kind)) 2 0 rfl kd5 (fun _ h => h) rfl rfl rfl ?_
  refine VL.conv (by rw [Try.underlying5]; rfl) Try.underlying22 rfl (inr_u64 (by omega)) ?_
  refine VL.call Try.func116 rfl (by decide) rfl (fun w' hw => num_w hw (by simp only [List.length_append, List.length_cons, List.length_nil, List.length_map]; omega) (cal1.kind) (fits_small (by omega)) 1 (by decide) (by decide) (fits1 (by omega))) (fun v => ?_)
  refine VL.fact fun e5 => ?_
  subst e5
  refine VL.ex fun gp3 => VL.ex fun c4 => ?_
  refine VL.nil ?_
  refine VX.next ?_
  refine VC.seq ?_
  refine VC.region ?_
  refine VL.move rfl ?_
  refine VL.fieldAddr rfl fo110_1 rfl ?_
  refine VL.load (v := .int .u16 (cal1.seq)) 2 1 rfl kd68 (fun _ h => h) rfl rfl rfl ?_
  refine VL.conv (by rw [Try.underlying68]; rfl) Try.underlying22 rfl (inr_u64 (by omega)) ?_
  refine VL.call Try.func116 rfl (by decide) rfl (fun w' hw => num_w hw (by simp only [List.length_append, List.length_cons, List.length_nil, List.length_map]; omega) (cal1.seq) (fits_small (by omega)) 2 (by decide) (by decide) (fits2 (by omega))) (fun v => ?_)
  refine VL.fact fun e8 => ?_
  subst e8
  refine VL.ex fun gp6 => VL.ex fun c7 => ?_
  refine VL.nil ?_
  refine VX.next ?_
  refine VC.seq ?_
  refine VC.seq ?_
  refine VC.region ?_
  refine VL.fieldAddr rfl fo110_4 rfl ?_
  refine VL.load (v := .slice none ([]).length 0) 2 4 rfl kd108 (fun _ h => h) rfl rfl rfl ?_
  refine VL.len Try.underlying108 rfl rfl ?_
  refine VL.gtr rfl rfl ?_
  refine VL.no (by decide) ?_
  refine VL.nil ?_
  refine VX.next ?_
  refine VC.no rfl ?_
  refine VC.skip ?_
  refine VX.next ?_
  refine VC.seq ?_
  refine VC.seq ?_
  refine VC.region ?_
  refine VL.fieldAddr rfl fo110_0 rfl ?_
  refine VL.load (v := .int .u8 (cal1.kind)) 2 0 rfl kd5 (fun _ h => h) rfl rfl rfl ?_
  refine VL.nil ?_
  refine VX.next ?_
  refine VC.block ?_
  refine VC.seq ?_
  refine VC.region ?_
  refine VL.eql rfl rfl ?_
  refine VL.no (by decide) ?_
  refine VL.assign rfl ?_
  refine VL.nil ?_
  refine VX.next ?_
  refine VC.no rfl ?_
  refine VC.seq ?_
  refine VC.region ?_
  refine VL.eql rfl rfl ?_
  refine VL.no (by decide) ?_
  refine VL.assign rfl ?_
  refine VL.nil ?_
  refine VX.next ?_
  refine VC.no rfl ?_
  refine VC.seq ?_
  refine VC.region ?_
  refine VL.eql rfl rfl ?_
  refine VL.no (by decide) ?_
  refine VL.assign rfl ?_
  refine VL.nil ?_
  refine VX.next ?_
  refine VC.no rfl ?_
  refine VC.seq ?_
  refine VC.region ?_
  refine VL.eql rfl rfl ?_
  refine VL.yes (by decide) ?_
  refine VL.assign rfl ?_
  refine VL.nil ?_
  refine VX.next ?_
  refine VC.yes rfl ?_
  refine VC.seq ?_
  refine VC.region ?_
  refine VL.move rfl ?_
  refine VL.fieldAddr rfl fo110_3 rfl ?_
  refine VL.load (v := .int .u16 (cal1.mark)) 2 3 rfl kd68 (fun _ h => h) rfl rfl rfl ?_
  refine VL.conv (by rw [Try.underlying68]; rfl) Try.underlying22 rfl (inr_u64 (by omega)) ?_
  refine VL.call Try.func116 rfl (by decide) rfl (fun w' hw => num_w hw (by simp only [List.length_append, List.length_cons, List.length_nil, List.length_map]; omega) (cal1.mark) (fits_small (by omega)) 2 (by decide) (by decide) (fits2 (by omega))) (fun v => ?_)
  refine VL.fact fun e11 => ?_
  subst e11
  refine VL.ex fun gp9 => VL.ex fun c10 => ?_
  refine VL.nil ?_
  refine VX.next ?_
  refine VC.region ?_
  refine VL.fieldAddr rfl fo110_3 rfl ?_
  refine VL.store (L := calL) (qs := [[.int .u16 (0)]]) (ps' := [[.int .u8 (cal1.kind)], [.int .u16 (cal1.seq)], [.int .u8 (cal1.peer)], [.int .u16 (0)], [.slice none ([]).length 0], [.int .u8 (cal1.letter.src)], [.int .u8 (cal1.letter.dst)], (cal1.letter.header.session).map bv, [.bool cal1.letter.header.first], (cal1.letter.header.agree).map bv, (cal1.letter.header.signer).map bv, (cal1.letter.header.base).map bv, [.int .u16 (cal1.letter.header.id)], (cal1.letter.header.ratchet).map bv, [.int .u16 (cal1.letter.header.n)], [.int .u16 (cal1.letter.header.prev)], [.slice none ([]).length 0]]) 2 3 1 rfl rfl rfl (.inr ⟨kd68, rfl⟩) rfl rfl rfl (by intro u hu; simp [cat] at hu; subst hu; rfl) rfl rfl ?_
  refine VL.turn (G' := Own _ (wblk g2 gp9 c10 ((((([] : List (List UInt8)) ++ [be 1 (cal1.kind)]) ++ [be 2 (cal1.seq)]) ++ [be 2 (cal1.mark)])).length false :: brow gp9 c10 ((((([] : List (List UInt8)) ++ [be 1 (cal1.kind)]) ++ [be 2 (cal1.seq)]) ++ [be 2 (cal1.mark)])) :: blk g1 110 calL [[.int .u8 (cal1.kind)], [.int .u16 (cal1.seq)], [.int .u8 (cal1.peer)], [.int .u16 (0)], [.slice none ([]).length 0], [.int .u8 (cal1.letter.src)], [.int .u8 (cal1.letter.dst)], (cal1.letter.header.session).map bv, [.bool cal1.letter.header.first], (cal1.letter.header.agree).map bv, (cal1.letter.header.signer).map bv, (cal1.letter.header.base).map bv, [.int .u16 (cal1.letter.header.id)], (cal1.letter.header.ratchet).map bv, [.int .u16 (cal1.letter.header.n)], [.int .u16 (cal1.letter.header.prev)], [.slice none ([]).length 0]] :: H)) (fun _ h => h) ?_
  refine VL.nil ?_
  refine VX.block_normal ?_
  refine VX.next ?_
  refine VC.seq ?_
  refine VC.seq ?_
  refine VC.region ?_
  refine VL.fieldAddr rfl fo110_2 rfl ?_
  refine VL.load (v := .int .u8 (cal1.peer)) 2 2 rfl kd5 (fun _ h => h) rfl rfl rfl ?_
  refine VL.neq rfl rfl ?_
  refine VL.yes (by decide) ?_
  refine VL.move rfl ?_
  refine VL.pass rfl rfl rfl rfl rfl ?_
  refine VL.pass rfl rfl rfl rfl rfl ?_
  refine VL.pass rfl rfl rfl rfl rfl ?_
  refine VL.pick_t rfl rfl ?_
  refine VL.move rfl ?_
  refine VL.pass rfl rfl rfl rfl rfl ?_
  refine VL.pass rfl rfl rfl rfl rfl ?_
  refine VL.pass rfl rfl rfl rfl rfl ?_
  refine VL.pass rfl rfl rfl rfl rfl ?_
  refine VL.pick_t rfl rfl ?_
  refine VL.move rfl ?_
  refine VL.pass rfl rfl rfl rfl rfl ?_
  refine VL.pass rfl rfl rfl rfl rfl ?_
  refine VL.pass rfl rfl rfl rfl rfl ?_
  refine VL.pass rfl rfl rfl rfl rfl ?_
  refine VL.pick_t rfl rfl ?_
  refine VL.nil ?_
  refine VX.next ?_
  refine VC.yes rfl ?_
  refine VC.seq ?_
  refine VC.region ?_
  refine VL.assign rfl ?_
  refine VL.assign rfl ?_
  refine VL.nil ?_
  refine VX.next ?_
  refine VC.ret ?_
  refine VX.then_ret ?_
  refine VX.ret2 rfl rfl rfl (fun we hw => ?_)
  exact postO (rfl) ⟨none, 0, rfl, hw.drop.drop.drop.sub (fun _ hs => by repeat (first | exact hs | apply List.mem_cons_of_mem)), Arr.none⟩

theorem item2_O : itemO item2 = some [3, 0, 1, 2, 0, 1, 1, 0, 1, 2] := by decide +kernel
theorem item2_R : itemR [3, 0, 1, 2, 0, 1, 1, 0, 1, 2] = some item2 := itemR_iff.2 ⟨item2_ok, item2_O⟩
theorem item2_W : itemW [3, 0, 1, 2, 0, 1, 1, 0, 1, 2] = 0 := by unfold itemW; rw [item2_R]; rfl
theorem item7_W : itemW [1, 0, 1, 7] = 140 := by decide +kernel
theorem putItem2_w {S : List Snap} {H : List Chunk} {w : World} (ho : Own S H w) : Calls Try.prog 56 #[.agg (cat (itemV item2 none 0 none 0)).toArray] w (RetO S H (some [3, 0, 1, 2, 0, 1, 1, 0, 1, 2])) := by
  have h := putItem_w ho item2_ok (p := none) (c := 0) Arr.none (q := none) (d := 0) Arr.none
  rw [item2_O] at h
  exact h
theorem getItem2_w {S : List Snap} {H : List Chunk} {w : World} (ho : Own S H w) {p : Option Addr} {c : Nat} (hA : Bytes (keys H) w p [3, 0, 1, 2, 0, 1, 1, 0, 1, 2] c) : Calls Try.prog 58 #[.slice p ([3, 0, 1, 2, 0, 1, 1, 0, 1, 2] : List UInt8).length c] w (Ret fun v w' => ∃ p c q d, v = .tuple #[.agg (cat (itemV item2 p c q d)).toArray, .int .i64 ((0 : Nat) : Int)] ∧ Own S H w') := by
  have h := getItem_w ho hA
  rw [item2_R, item2_W] at h
  exact h.mono (Ret.mono fun v w' ⟨p, c, q, d, h1, h2, _⟩ => ⟨p, c, q, d, h1, h2⟩)
theorem getItem7_w {S : List Snap} {H : List Chunk} {w : World} (ho : Own S H w) {p : Option Addr} {c : Nat} (hA : Bytes (keys H) w p [1, 0, 1, 7] c) : Calls Try.prog 58 #[.slice p ([1, 0, 1, 7] : List UInt8).length c] w (Ret fun v w' => ∃ x p c q d, x.ok ∧ v = .tuple #[.agg (cat (itemV x p c q d)).toArray, .int .i64 ((140 : Nat) : Int)] ∧ Own S H w') := by
  have h := getItem_w ho hA
  rw [item7_W] at h
  exact h.mono (Ret.mono fun v w' ⟨p, c, q, d, h1, h2, _⟩ => ⟨_, p, c, q, d, itemR_ok _, h1, h2⟩)

theorem alive_w {S : List Snap} {H : List Chunk} {w : World} (ho : Own S H w) : Calls Try.prog 49 #[] w (Ret fun v w' => v = .bool true ∧ Own S H w') := by
  refine enter (G := Own (⟨w, keys H⟩ :: S) H) ho.keep Try.func49 rfl Try.ntmps49 rfl ?_
  refine VC.seq ?_
  refine VC.region ?_
  refine VL.assign rfl ?_
  refine VL.nil ?_
  refine VX.next ?_
  refine VC.seq ?_
  refine VC.region ?_
  refine VL.build (zs := itemZ) (L := itemFL) [(0, [.int .u8 (2)]), (1, [.int .u8 (1)]), (2, [.int .u8 (2)])] plan87 rfl ⟨⟨rfl, ⟨_, rfl, rfl⟩, rfl⟩, ⟨⟨rfl, ⟨_, rfl, rfl⟩, rfl⟩, ⟨⟨rfl, ⟨_, rfl, rfl⟩, rfl⟩, trivial⟩⟩⟩ rfl ?_
  refine VL.newv (v' := .agg (cat (itemV (item2) none 0 none 0)).toArray) (by kernel_rfl) ?_
  refine VL.call Try.func56 rfl (by decide) rfl (fun w' hw => putItem2_w hw) (fun v => ?_)
  refine VL.at (fun w1 h1w => ?_)
  obtain ⟨p2, c3, rfl, hO5, hA4⟩ := h1w
  replace hA4 : Bytes _ w1 p2 [3, 0, 1, 2, 0, 1, 1, 0, 1, 2] c3 := hA4
  refine VL.toOwn hO5 ?_
  refine VL.move rfl ?_
  refine VL.extract rfl rfl ?_
  refine VL.extract rfl rfl ?_
  refine VL.assign rfl ?_
  refine VL.assign rfl ?_
  refine VL.nil ?_
  refine VX.next ?_
  refine VC.seq ?_
  refine VC.region ?_
  refine VL.move rfl ?_
  refine VL.call Try.func58 rfl (by decide) rfl (fun w' hw => getItem2_w hw (hA4.now (s := ⟨w1, _⟩) Mono.byte hw (by repeat (first | exact List.mem_cons_self .. | apply List.mem_cons_of_mem)))) (fun v => ?_)
  refine VL.ex fun p6 => VL.ex fun c7 => VL.ex fun q8 => VL.ex fun d9 => ?_
  refine VL.fact fun e10 => ?_
  subst e10
  refine VL.move rfl ?_
  refine VL.extract rfl rfl ?_
  refine VL.extract rfl rfl ?_
  refine VL.alloc (L := itemL) (ps := (itemV (item0) none 0 none 0)) zero87 rfl rfl (fun g11 => ?_)
  refine VL.store (L := itemL) (qs := (itemV (item2) p6 c7 q8 d9)) (ps' := (itemV (item2) p6 c7 q8 d9)) 0 0 28 rfl rfl rfl (.inl kd87) rfl rfl (itemV_len item2_ok) (itemV_ok1 item2 p6 c7 q8 d9) rfl rfl ?_
  refine VL.turn (G' := Own _ (blk g11 87 itemL (itemV (item2) p6 c7 q8 d9) :: H)) (fun _ h => h) ?_
  refine VL.assign rfl ?_
  refine VL.nil ?_
  refine VX.next ?_
  refine VC.seq ?_
  refine VC.region ?_
  refine VL.lit el24 rfl rfl rfl (by simp [Value.cells]) (ok1_bytes [1, 0, 1, 7]) (fun g12 => ?_)
  refine VL.letBytes [1, 0, 1, 7] rfl rfl (fun w13 hO14 hA15 => ?_)
  refine VL.call Try.func58 rfl (by decide) rfl (fun w' hw => getItem7_w hw (hA15.now (s := ⟨w13, _⟩) Mono.byte hw (by repeat (first | exact List.mem_cons_self .. | apply List.mem_cons_of_mem)))) (fun v => ?_)
  refine VL.ex fun x7 => ?_
  refine VL.ex fun p16 => VL.ex fun c17 => VL.ex fun q18 => VL.ex fun d19 => ?_
  refine VL.fact fun hx7 => ?_
  refine VL.fact fun e20 => ?_
  subst e20
  refine VL.move rfl ?_
  refine VL.extract rfl rfl ?_
  refine VL.extract rfl rfl ?_
  refine VL.alloc (L := itemL) (ps := (itemV (item0) none 0 none 0)) zero87 rfl rfl (fun g21 => ?_)
  refine VL.store (L := itemL) (qs := (itemV (x7) p16 c17 q18 d19)) (ps' := (itemV (x7) p16 c17 q18 d19)) 0 0 28 rfl rfl rfl (.inl kd87) rfl rfl (itemV_len hx7) (itemV_ok1 x7 p16 c17 q18 d19) rfl rfl ?_
  refine VL.turn (G' := Own _ (blk g21 87 itemL (itemV (x7) p16 c17 q18 d19) :: blk g11 87 itemL (itemV (item2) p6 c7 q8 d9) :: H)) (fun _ h => h) ?_
  refine VL.assign rfl ?_
  refine VL.nil ?_
  refine VX.next ?_
  refine VC.seq ?_
  refine VC.region ?_
  refine VL.build (zs := calZ) (L := calFL) [(0, [.int .u8 (4)]), (1, [.int .u16 (1)]), (2, [.int .u8 (1)])] plan110 rfl ⟨⟨rfl, ⟨_, rfl, rfl⟩, rfl⟩, ⟨⟨rfl, ⟨_, rfl, rfl⟩, rfl⟩, ⟨⟨rfl, ⟨_, rfl, rfl⟩, rfl⟩, trivial⟩⟩⟩ rfl ?_
  refine VL.newv (v' := .agg (cat (calV (cal1) none 0 none 0)).toArray) rfl ?_
  refine VL.call Try.func76 rfl (by decide) rfl (fun w' hw => putCal1_w hw) (fun v => ?_)
  refine VL.at (fun w22 h1w => ?_)
  obtain ⟨p23, c24, rfl, hO26, hA25⟩ := h1w
  replace hA25 : Bytes _ w22 p23 [] c24 := hA25
  refine VL.toOwn hO26 ?_
  refine VL.move rfl ?_
  refine VL.extract rfl rfl ?_
  refine VL.extract rfl rfl ?_
  refine VL.assign rfl ?_
  refine VL.assign rfl ?_
  refine VL.nil ?_
  refine VX.next ?_
  refine VC.seq ?_
  refine VC.region ?_
  refine VL.move rfl ?_
  refine VL.move rfl ?_
  refine VL.go rfl rfl rfl ?_
  refine VL.move rfl ?_
  refine VL.go rfl rfl rfl ?_
  refine VL.str (s := ⟨w1, _⟩) Try.underlying24 Try.underlying5 Try.underlying9 (l := [3, 0, 1, 2, 0, 1, 1, 0, 1, 2]) rfl (fun _ h => h) (by repeat (first | exact List.mem_cons_self .. | apply List.mem_cons_of_mem)) hA4 ?_
  refine VL.go rfl rfl rfl ?_
  refine VL.eqls rfl rfl ?_
  refine VL.yes (by rfl) ?_
  refine VL.pick_t rfl rfl ?_
  refine VL.move rfl ?_
  refine VL.go rfl rfl rfl ?_
  refine VL.move rfl ?_
  refine VL.go rfl rfl rfl ?_
  refine VL.eql rfl rfl ?_
  refine VL.yes (by decide) ?_
  refine VL.pick_t rfl rfl ?_
  refine VL.move rfl ?_
  refine VL.go rfl rfl rfl ?_
  refine VL.fieldAddr rfl fo87_2 rfl ?_
  refine VL.go rfl rfl rfl ?_
  refine VL.load (v := .int .u8 (item2.peer)) 1 2 rfl kd5 (fun _ h => h) rfl rfl rfl ?_
  refine VL.go rfl rfl rfl ?_
  refine VL.eql rfl rfl ?_
  refine VL.yes (by decide) ?_
  refine VL.pick_t rfl rfl ?_
  refine VL.move rfl ?_
  refine VL.go rfl rfl rfl ?_
  refine VL.move rfl ?_
  refine VL.go rfl rfl rfl ?_
  refine VL.eql rfl rfl ?_
  refine VL.yes (by decide) ?_
  refine VL.pick_t rfl rfl ?_
  refine VL.move rfl ?_
  refine VL.go rfl rfl rfl ?_
  refine VL.move rfl ?_
  refine VL.go rfl rfl rfl ?_
  refine VL.not rfl ?_
  refine VL.pick_t rfl rfl ?_
  refine VL.assign rfl ?_
  refine VL.nil ?_
  refine VX.next ?_
  refine VC.ret ?_
  refine VX.ret1 rfl rfl (fun we hw => ?_)
  exact ⟨rfl, hw.drop.drop.sub (fun _ hs => by repeat (first | exact hs | apply List.mem_cons_of_mem))⟩

end Go.Proofs.Ytcfecmoagfgnaaa

/- The reference: letters. -/
namespace Go.Proofs.Ytcfecmoagfgnaaa
open Go.Vc Go.Pl

theorem num_S {S : List Snap} {H : List Chunk} {w : World} (ho : Own S H w) (m k : Nat) (hm : m ≤ 4294967295) (h1 : 1 ≤ k) (h8 : k ≤ 8) (hf : Fits k m) : Calls Try.prog 108 #[.int .i64 m, .int .i64 k] w (Ret fun v w' => ∃ p c, v = .slice p (be k m).length c ∧ Own S H w' ∧ Bytes (keys H) w' p (be k m) c) :=
  calls_mono (num_any ho m k hm h1 h8 hf) fun v w' ⟨h1, p, c, e, hA⟩ => ⟨p, c, by rw [be_length]; exact e, h1, hA⟩
theorem join_O {S : List Snap} {H : List Chunk} {w : World} (ho : Own S H w) {p : Option Addr} {ls : List (List UInt8)} {c : Nat} (hA : Arr 1 bytesR (keys H) w p ls c) : Calls Try.prog 31 #[.slice p ls.length c] w (RetO S H (joinO ls true)) := by
  refine calls_mono (refJoin_any ho hA) fun v w' ⟨h1, h2⟩ => ?_
  rcases h2 with ⟨h3, p, c, e, hA⟩ | ⟨h3, e⟩
  · rw [joinO_some h3 rfl]
    exact ⟨p, c, e, h1, hA⟩
  · rw [joinO_none fun h => h3 h.1]
    exact ⟨none, 0, e, h1, Arr.none⟩
end Go.Proofs.Ytcfecmoagfgnaaa

/- A row of slices that the call keeps in its hand. -/
namespace Go.Vc
open Go.Proofs.Ytcfecmoagfgnaaa
section
variable {P : Program} {n : Nat} {Q : Exit → Act → World → Prop} {σ : Sl} {ops : Array Oper} {rest : List Oper} {d : Nat} {ty : TypeId} {pos : String} {aft : Array Edge} {S : List Snap} {H : List Chunk}
theorem VL.litB {t : TypeId} {by_ : Nat} {z : Value} {len : Nat} {parts : List (Nat × Operand)} {vs : List Value} (ls : List (List UInt8)) (hE : Elem P t 24 1 by_ z) (hlen : Nat.ble (len * 1) 16777216 = true) (hk : parts.length = len)
    (hp : evps σ 0 parts = some vs) (hv : ∀ v ∈ vs, v.cells.size = 1) (h1 : ok1 (vs.flatMap (·.cells.toList))) (hm : len = ls.length)
    (hr : ∀ g w, Own S (row 24 1 (some g) len len (vs.flatMap (·.cells.toList)) :: H) w → RowOf (keys (row 24 1 (some g) len len (vs.flatMap (·.cells.toList)) :: H)) w (vs.flatMap (·.cells.toList)) ls)
    (h : ∀ v, VL P n ops Q rest ((d, v) :: σ) (fun w' => ∃ g, v = rowV (some g) len len ∧ Own S (brow (some g) len ls :: H) w')) (hdn : Nat.blt d n = true := by rfl) : VL P n ops Q (⟨some d, .buildSlice t len parts.toArray, ty, pos, aft, none⟩ :: rest) σ (Own S H) :=
  VL.lit hE hlen hk hp hv h1 (fun g => VL.turn (fun w' hw => ⟨g, rfl, hw.asArr (Mono.slice Mono.byte) hm ((hr g w' hw).at_)⟩) (h (rowV (some g) len len))) hdn
/-- An array in an element of a slice, as a slice. -/
theorem VL.sliceIn {X : Type} {R : Rel X} {sz c : Nat} {xs : List X} {p : Option Addr} {K : List Nat} {w' : World} {G : World → Prop} {t e : TypeId} {m o : Nat} {x : Operand} {y : X} (j i : Nat) (l : List UInt8) (ht : P.underlying t = some (.array m e)) (he : ((P.info? e).map (·.size)).isSome = true) (hx : ev σ x = some (pAt p o)) (hA : Arr sz R K w' p xs c)
    (hj : xs[j]? = some y) (ho : o = j * sz + i) (hl : l.length = m) (hm : m ≤ maxLen) (hr : ∀ vs, R K w' vs y → (vs.drop i).take m = l.map bv)
    (h : ∀ q, Bytes K w' (some q) l m → VL P n ops Q rest ((d, .slice (some q) l.length m) :: σ) G) (hdn : Nat.blt d n = true := by rfl) : VL P n ops Q (⟨some d, .slice t x none none none, ty, pos, aft, none⟩ :: rest) σ G := by
  have hn := (List.getElem?_eq_some_iff.1 hj).1
  obtain ⟨a, rfl⟩ := hA.isAt (by omega)
  have hc0 : 0 < c := by have := hA.le; omega
  obtain ⟨h1, h2, h3, cs, el, fr, hg, hcs⟩ := hA.at_ a rfl hc0
  obtain ⟨vs, hvl, hvr, hvc⟩ := hcs j y hj
  have hB : Bytes K w' (some ⟨a.block, a.off + o, none⟩) l m := by
    refine ⟨by omega, hm, fun e => (by cases e), fun a' ea _ => ?_⟩
    cases ea
    refine ⟨rfl, h2, h3, cs, el, fr, hg, fun k b hk => ⟨[bv b], rfl, rfl, fun q v hv => ?_⟩⟩
    have hq : q = 0 := by have := (List.getElem?_eq_some_iff.1 hv).1; simp at this; exact this
    subst hq
    simp at hv; subst hv
    have hkl := (List.getElem?_eq_some_iff.1 hk).1
    have e1 : ((vs.drop i).take m)[k]? = some (bv b) := by rw [hr vs hvr, List.getElem?_map, hk]; rfl
    rw [List.getElem?_take_of_lt (by omega), List.getElem?_drop] at e1
    have := hvc (i + k) (bv b) e1
    rw [show (⟨a.block, a.off + o, none⟩ : Addr).off + (k * 1 + 0) = a.off + (j * sz + (i + k)) by show a.off + o + (k * 1 + 0) = _; omega]
    exact this
  have := h ⟨a.block, a.off + o, none⟩ hB
  rw [hl] at this
  exact VL.sliceArrAt ht he (by rw [hx]; rfl) this hdn
theorem bytesR_ok1 : ∀ (K : List Nat) (w : World) (vs : List Value) (y : List UInt8), bytesR K w vs y → ok1 vs := by
  rintro K w vs y ⟨p, c, rfl, _⟩ u hu
  simp at hu; subst hu; rfl
end
end Go.Vc

/- The reference: objects; one against the other. -/
namespace Go.Proofs.Ytcfecmoagfgnaaa
open Go.Vc Go.Pl

theorem bytes_B {S : List Snap} {H : List Chunk} {w : World} (ho : Own S H w) {p q : Option Addr} {l k : List UInt8} {c d : Nat} (hA : Bytes (keys H) w p l c) (hB : Bytes (keys H) w q k d) : Calls Try.prog 27 #[.slice p l.length c, .slice q k.length d] w (Ret fun v w' => ∃ b : Bool, v = .bool b ∧ (b = true ↔ l = k) ∧ Own S H w') :=
  calls_mono (bytes_any ho hA hB) fun v w' ⟨h1, h2⟩ => ⟨decide (l = k), h2, by simp, h1⟩
theorem vouch_sig {K : List Nat} {w : World} {v : Vouch} {vs : List Value} (h : vouchR K w vs v) : (vs.drop 1).take 64 = v.sig.map bv := by
  obtain ⟨hv, rfl⟩ := h
  have : (v.sig.map bv).length = 64 := by rw [List.length_map]; exact hv.sig
  simp [cat, List.take_of_length_le, this]
theorem object_iff {x y : Object} : y = x ↔ x.server = y.server ∧ x.n = y.n ∧ x.key = y.key ∧ x.since = y.since ∧ x.till = y.till ∧ x.sig = y.sig ∧ x.vouches = y.vouches := by
  constructor
  · rintro rfl; exact ⟨rfl, rfl, rfl, rfl, rfl, rfl, rfl⟩
  · rintro ⟨h1, h2, h3, h4, h5, h6, h7⟩
    cases x; cases y
    simp only at h1 h2 h3 h4 h5 h6 h7
    subst h1 h2 h3 h4 h5 h6 h7; rfl
theorem sameObjects_g {S : List Snap} {H : List Chunk} {w : World} (ho : Own S H w) {x y : Object} (hx : x.ok) {q : Option Addr} {d : Nat} (hV : Arr 65 vouchR (keys H) w q x.vouches d) (hy : y.ok) {p : Option Addr} {c : Nat} (hU : Arr 65 vouchR (keys H) w p y.vouches c) : Calls Try.prog 72 #[.agg (cat (objectV x q d)).toArray, .agg (cat (objectV y p c)).toArray] w (Ret fun v w' => ∃ b : Bool, v = .bool b ∧ (b = true ↔ y = x) ∧ Own S H w') := by
  have hsm1 := hV.small
  refine enter (G := Own (⟨w, keys H⟩ :: S) H) ho.keep Try.func72 rfl Try.ntmps72 rfl ?_
  refine VC.seq ?_
  refine VC.region ?_
  refine VL.box (L := objectL) (ps := (objectV (x) q d)) rfl rfl (objectV_len hx) (fun g1 => ?_)
  refine VL.box (L := objectL) (ps := (objectV (y) p c)) rfl rfl (objectV_len hy) (fun g2 => ?_)
  refine VL.assign rfl ?_
  refine VL.nil ?_
  refine VX.next ?_
  refine VC.seq ?_
  refine VC.seq ?_
  refine VC.region ?_
  refine VL.fieldAddr rfl fo85_0 rfl ?_
  refine VL.load (v := .int .u8 (x.server)) 1 0 rfl kd5 (fun _ h => h) rfl rfl rfl ?_
  refine VL.fieldAddr rfl fo85_0 rfl ?_
  refine VL.load (v := .int .u8 (y.server)) 0 0 rfl kd5 (fun _ h => h) rfl rfl rfl ?_
  refine VL.neq rfl rfl ?_
  refine VL.case (fun h1_4 => ?_) (fun h1_4 => ?_)
  · have h1_4 : ¬ x.server = y.server := by omega
    refine VL.move rfl ?_
    refine VL.pass rfl rfl rfl rfl rfl ?_
    refine VL.pass rfl rfl rfl rfl rfl ?_
    refine VL.pass rfl rfl rfl rfl rfl ?_
    refine VL.pass rfl rfl rfl rfl rfl ?_
    refine VL.pass rfl rfl rfl rfl rfl ?_
    refine VL.pick_t rfl rfl ?_
    refine VL.move rfl ?_
    refine VL.pass rfl rfl rfl rfl rfl ?_
    refine VL.pass rfl rfl rfl rfl rfl ?_
    refine VL.pass rfl rfl rfl rfl rfl ?_
    refine VL.pass rfl rfl rfl rfl rfl ?_
    refine VL.pass rfl rfl rfl rfl rfl ?_
    refine VL.pick_t rfl rfl ?_
    refine VL.move rfl ?_
    refine VL.pass rfl rfl rfl rfl rfl ?_
    refine VL.pass rfl rfl rfl rfl rfl ?_
    refine VL.pass rfl rfl rfl rfl rfl ?_
    refine VL.pass rfl rfl rfl rfl rfl ?_
    refine VL.pass rfl rfl rfl rfl rfl ?_
    refine VL.pick_t rfl rfl ?_
    refine VL.move rfl ?_
    refine VL.pass rfl rfl rfl rfl rfl ?_
    refine VL.pass rfl rfl rfl rfl rfl ?_
    refine VL.pass rfl rfl rfl rfl rfl ?_
    refine VL.pass rfl rfl rfl rfl rfl ?_
    refine VL.pass rfl rfl rfl rfl rfl ?_
    refine VL.pick_t rfl rfl ?_
    refine VL.move rfl ?_
    refine VL.pass rfl rfl rfl rfl rfl ?_
    refine VL.pass rfl rfl rfl rfl rfl ?_
    refine VL.pass rfl rfl rfl rfl rfl ?_
    refine VL.pass rfl rfl rfl rfl rfl ?_
    refine VL.pass rfl rfl rfl rfl rfl ?_
    refine VL.pick_t rfl rfl ?_
    refine VL.move rfl ?_
    refine VL.pass rfl rfl rfl rfl rfl ?_
    refine VL.pass rfl rfl rfl rfl rfl ?_
    refine VL.pass rfl rfl rfl rfl rfl ?_
    refine VL.pass rfl rfl rfl rfl rfl ?_
    refine VL.pass rfl rfl rfl rfl rfl ?_
    refine VL.pass rfl rfl rfl rfl rfl ?_
    refine VL.pass rfl rfl rfl rfl rfl ?_
    refine VL.pick_t rfl rfl ?_
    refine VL.nil ?_
    refine VX.next ?_
    refine VC.yes rfl ?_
    refine VC.seq ?_
    refine VC.region ?_
    refine VL.assign rfl ?_
    refine VL.nil ?_
    refine VX.next ?_
    refine VC.ret ?_
    refine VX.then_ret ?_
    refine VX.ret1 rfl rfl (fun we hw => ?_)
    refine ⟨false, rfl, ?_, hw.drop.drop.sub (fun _ hs => by repeat (first | exact hs | apply List.mem_cons_of_mem))⟩
    rw [object_iff]
    simp [h1_4]
  · have h1_4 : x.server = y.server := by omega
    refine VL.move rfl ?_
    refine VL.go rfl rfl rfl ?_
    refine VL.fieldAddr rfl fo85_1 rfl ?_
    refine VL.go rfl rfl rfl ?_
    refine VL.load (v := .int .u8 (x.n)) 1 1 rfl kd5 (fun _ h => h) rfl rfl rfl ?_
    refine VL.go rfl rfl rfl ?_
    refine VL.fieldAddr rfl fo85_1 rfl ?_
    refine VL.go rfl rfl rfl ?_
    refine VL.load (v := .int .u8 (y.n)) 0 1 rfl kd5 (fun _ h => h) rfl rfl rfl ?_
    refine VL.go rfl rfl rfl ?_
    refine VL.neq rfl rfl ?_
    refine VL.case (fun h1_10 => ?_) (fun h1_10 => ?_)
    · have h1_10 : ¬ x.n = y.n := by omega
      refine VL.pick_f rfl rfl ?_
      refine VL.move rfl ?_
      refine VL.pass rfl rfl rfl rfl rfl ?_
      refine VL.pass rfl rfl rfl rfl rfl ?_
      refine VL.pass rfl rfl rfl rfl rfl ?_
      refine VL.pass rfl rfl rfl rfl rfl ?_
      refine VL.pass rfl rfl rfl rfl rfl ?_
      refine VL.pick_t rfl rfl ?_
      refine VL.move rfl ?_
      refine VL.pass rfl rfl rfl rfl rfl ?_
      refine VL.pass rfl rfl rfl rfl rfl ?_
      refine VL.pass rfl rfl rfl rfl rfl ?_
      refine VL.pass rfl rfl rfl rfl rfl ?_
      refine VL.pass rfl rfl rfl rfl rfl ?_
      refine VL.pick_t rfl rfl ?_
      refine VL.move rfl ?_
      refine VL.pass rfl rfl rfl rfl rfl ?_
      refine VL.pass rfl rfl rfl rfl rfl ?_
      refine VL.pass rfl rfl rfl rfl rfl ?_
      refine VL.pass rfl rfl rfl rfl rfl ?_
      refine VL.pass rfl rfl rfl rfl rfl ?_
      refine VL.pick_t rfl rfl ?_
      refine VL.move rfl ?_
      refine VL.pass rfl rfl rfl rfl rfl ?_
      refine VL.pass rfl rfl rfl rfl rfl ?_
      refine VL.pass rfl rfl rfl rfl rfl ?_
      refine VL.pass rfl rfl rfl rfl rfl ?_
      refine VL.pass rfl rfl rfl rfl rfl ?_
      refine VL.pick_t rfl rfl ?_
      refine VL.move rfl ?_
      refine VL.pass rfl rfl rfl rfl rfl ?_
      refine VL.pass rfl rfl rfl rfl rfl ?_
      refine VL.pass rfl rfl rfl rfl rfl ?_
      refine VL.pass rfl rfl rfl rfl rfl ?_
      refine VL.pass rfl rfl rfl rfl rfl ?_
      refine VL.pass rfl rfl rfl rfl rfl ?_
      refine VL.pass rfl rfl rfl rfl rfl ?_
      refine VL.pick_t rfl rfl ?_
      refine VL.nil ?_
      refine VX.next ?_
      refine VC.yes rfl ?_
      refine VC.seq ?_
      refine VC.region ?_
      refine VL.assign rfl ?_
      refine VL.nil ?_
      refine VX.next ?_
      refine VC.ret ?_
      refine VX.then_ret ?_
      refine VX.ret1 rfl rfl (fun we hw => ?_)
      refine ⟨false, rfl, ?_, hw.drop.drop.sub (fun _ hs => by repeat (first | exact hs | apply List.mem_cons_of_mem))⟩
      rw [object_iff]
      simp [h1_4, h1_10]
    · have h1_10 : x.n = y.n := by omega
      refine VL.pick_f rfl rfl ?_
      refine VL.move rfl ?_
      refine VL.go rfl rfl rfl ?_
      refine VL.fieldAddr rfl fo85_2 rfl ?_
      refine VL.go rfl rfl rfl ?_
      refine VL.loads (cs := (x.key).map bv) 1 2 1 rfl kd44 (fun _ h => h) rfl rfl rfl rfl ?_
      refine VL.go rfl rfl rfl ?_
      refine VL.fieldAddr rfl fo85_2 rfl ?_
      refine VL.go rfl rfl rfl ?_
      refine VL.loads (cs := (y.key).map bv) 0 2 1 rfl kd44 (fun _ h => h) rfl rfl rfl rfl ?_
      refine VL.go rfl rfl rfl ?_
      refine VL.neT guard44 rfl rfl (eqKey 9998 hx.key hy.key) (fun b h1_17 => ?_)
      cases b
      · have h1_17 := mt h1_17.2 (by decide)
        refine VL.pick_f rfl rfl ?_
        refine VL.move rfl ?_
        refine VL.pass rfl rfl rfl rfl rfl ?_
        refine VL.pass rfl rfl rfl rfl rfl ?_
        refine VL.pass rfl rfl rfl rfl rfl ?_
        refine VL.pass rfl rfl rfl rfl rfl ?_
        refine VL.pass rfl rfl rfl rfl rfl ?_
        refine VL.pick_t rfl rfl ?_
        refine VL.move rfl ?_
        refine VL.pass rfl rfl rfl rfl rfl ?_
        refine VL.pass rfl rfl rfl rfl rfl ?_
        refine VL.pass rfl rfl rfl rfl rfl ?_
        refine VL.pass rfl rfl rfl rfl rfl ?_
        refine VL.pass rfl rfl rfl rfl rfl ?_
        refine VL.pick_t rfl rfl ?_
        refine VL.move rfl ?_
        refine VL.pass rfl rfl rfl rfl rfl ?_
        refine VL.pass rfl rfl rfl rfl rfl ?_
        refine VL.pass rfl rfl rfl rfl rfl ?_
        refine VL.pass rfl rfl rfl rfl rfl ?_
        refine VL.pass rfl rfl rfl rfl rfl ?_
        refine VL.pick_t rfl rfl ?_
        refine VL.move rfl ?_
        refine VL.pass rfl rfl rfl rfl rfl ?_
        refine VL.pass rfl rfl rfl rfl rfl ?_
        refine VL.pass rfl rfl rfl rfl rfl ?_
        refine VL.pass rfl rfl rfl rfl rfl ?_
        refine VL.pass rfl rfl rfl rfl rfl ?_
        refine VL.pass rfl rfl rfl rfl rfl ?_
        refine VL.pass rfl rfl rfl rfl rfl ?_
        refine VL.pick_t rfl rfl ?_
        refine VL.nil ?_
        refine VX.next ?_
        refine VC.yes rfl ?_
        refine VC.seq ?_
        refine VC.region ?_
        refine VL.assign rfl ?_
        refine VL.nil ?_
        refine VX.next ?_
        refine VC.ret ?_
        refine VX.then_ret ?_
        refine VX.ret1 rfl rfl (fun we hw => ?_)
        refine ⟨false, rfl, ?_, hw.drop.drop.sub (fun _ hs => by repeat (first | exact hs | apply List.mem_cons_of_mem))⟩
        rw [object_iff]
        simp [h1_4, h1_10, h1_17]
      · have h1_17 := h1_17.1 rfl
        refine VL.pick_f rfl rfl ?_
        refine VL.move rfl ?_
        refine VL.go rfl rfl rfl ?_
        refine VL.fieldAddr rfl fo85_3 rfl ?_
        refine VL.go rfl rfl rfl ?_
        refine VL.load (v := .int .u32 (x.since)) 1 3 rfl kd48 (fun _ h => h) rfl rfl rfl ?_
        refine VL.go rfl rfl rfl ?_
        refine VL.fieldAddr rfl fo85_3 rfl ?_
        refine VL.go rfl rfl rfl ?_
        refine VL.load (v := .int .u32 (y.since)) 0 3 rfl kd48 (fun _ h => h) rfl rfl rfl ?_
        refine VL.go rfl rfl rfl ?_
        refine VL.neq rfl rfl ?_
        refine VL.case (fun h1_24 => ?_) (fun h1_24 => ?_)
        · have h1_24 : ¬ x.since = y.since := by omega
          refine VL.pick_f rfl rfl ?_
          refine VL.move rfl ?_
          refine VL.pass rfl rfl rfl rfl rfl ?_
          refine VL.pass rfl rfl rfl rfl rfl ?_
          refine VL.pass rfl rfl rfl rfl rfl ?_
          refine VL.pass rfl rfl rfl rfl rfl ?_
          refine VL.pass rfl rfl rfl rfl rfl ?_
          refine VL.pick_t rfl rfl ?_
          refine VL.move rfl ?_
          refine VL.pass rfl rfl rfl rfl rfl ?_
          refine VL.pass rfl rfl rfl rfl rfl ?_
          refine VL.pass rfl rfl rfl rfl rfl ?_
          refine VL.pass rfl rfl rfl rfl rfl ?_
          refine VL.pass rfl rfl rfl rfl rfl ?_
          refine VL.pick_t rfl rfl ?_
          refine VL.move rfl ?_
          refine VL.pass rfl rfl rfl rfl rfl ?_
          refine VL.pass rfl rfl rfl rfl rfl ?_
          refine VL.pass rfl rfl rfl rfl rfl ?_
          refine VL.pass rfl rfl rfl rfl rfl ?_
          refine VL.pass rfl rfl rfl rfl rfl ?_
          refine VL.pass rfl rfl rfl rfl rfl ?_
          refine VL.pass rfl rfl rfl rfl rfl ?_
          refine VL.pick_t rfl rfl ?_
          refine VL.nil ?_
          refine VX.next ?_
          refine VC.yes rfl ?_
          refine VC.seq ?_
          refine VC.region ?_
          refine VL.assign rfl ?_
          refine VL.nil ?_
          refine VX.next ?_
          refine VC.ret ?_
          refine VX.then_ret ?_
          refine VX.ret1 rfl rfl (fun we hw => ?_)
          refine ⟨false, rfl, ?_, hw.drop.drop.sub (fun _ hs => by repeat (first | exact hs | apply List.mem_cons_of_mem))⟩
          rw [object_iff]
          simp [h1_4, h1_10, h1_17, h1_24]
        · have h1_24 : x.since = y.since := by omega
          refine VL.pick_f rfl rfl ?_
          refine VL.move rfl ?_
          refine VL.go rfl rfl rfl ?_
          refine VL.fieldAddr rfl fo85_4 rfl ?_
          refine VL.go rfl rfl rfl ?_
          refine VL.load (v := .int .u32 (x.till)) 1 4 rfl kd48 (fun _ h => h) rfl rfl rfl ?_
          refine VL.go rfl rfl rfl ?_
          refine VL.fieldAddr rfl fo85_4 rfl ?_
          refine VL.go rfl rfl rfl ?_
          refine VL.load (v := .int .u32 (y.till)) 0 4 rfl kd48 (fun _ h => h) rfl rfl rfl ?_
          refine VL.go rfl rfl rfl ?_
          refine VL.neq rfl rfl ?_
          refine VL.case (fun h1_31 => ?_) (fun h1_31 => ?_)
          · have h1_31 : ¬ x.till = y.till := by omega
            refine VL.pick_f rfl rfl ?_
            refine VL.move rfl ?_
            refine VL.pass rfl rfl rfl rfl rfl ?_
            refine VL.pass rfl rfl rfl rfl rfl ?_
            refine VL.pass rfl rfl rfl rfl rfl ?_
            refine VL.pass rfl rfl rfl rfl rfl ?_
            refine VL.pass rfl rfl rfl rfl rfl ?_
            refine VL.pick_t rfl rfl ?_
            refine VL.move rfl ?_
            refine VL.pass rfl rfl rfl rfl rfl ?_
            refine VL.pass rfl rfl rfl rfl rfl ?_
            refine VL.pass rfl rfl rfl rfl rfl ?_
            refine VL.pass rfl rfl rfl rfl rfl ?_
            refine VL.pass rfl rfl rfl rfl rfl ?_
            refine VL.pass rfl rfl rfl rfl rfl ?_
            refine VL.pass rfl rfl rfl rfl rfl ?_
            refine VL.pick_t rfl rfl ?_
            refine VL.nil ?_
            refine VX.next ?_
            refine VC.yes rfl ?_
            refine VC.seq ?_
            refine VC.region ?_
            refine VL.assign rfl ?_
            refine VL.nil ?_
            refine VX.next ?_
            refine VC.ret ?_
            refine VX.then_ret ?_
            refine VX.ret1 rfl rfl (fun we hw => ?_)
            refine ⟨false, rfl, ?_, hw.drop.drop.sub (fun _ hs => by repeat (first | exact hs | apply List.mem_cons_of_mem))⟩
            rw [object_iff]
            simp [h1_4, h1_10, h1_17, h1_24, h1_31]
          · have h1_31 : x.till = y.till := by omega
            refine VL.pick_f rfl rfl ?_
            refine VL.move rfl ?_
            refine VL.go rfl rfl rfl ?_
            refine VL.fieldAddr rfl fo85_5 rfl ?_
            refine VL.go rfl rfl rfl ?_
            refine VL.loads (cs := (x.sig).map bv) 1 5 1 rfl kd80 (fun _ h => h) rfl rfl rfl rfl ?_
            refine VL.go rfl rfl rfl ?_
            refine VL.fieldAddr rfl fo85_5 rfl ?_
            refine VL.go rfl rfl rfl ?_
            refine VL.loads (cs := (y.sig).map bv) 0 5 1 rfl kd80 (fun _ h => h) rfl rfl rfl rfl ?_
            refine VL.go rfl rfl rfl ?_
            refine VL.neT guard80 rfl rfl (eqSig 9998 hx.sig hy.sig) (fun b h1_38 => ?_)
            cases b
            · have h1_38 := mt h1_38.2 (by decide)
              refine VL.pick_f rfl rfl ?_
              refine VL.move rfl ?_
              refine VL.pass rfl rfl rfl rfl rfl ?_
              refine VL.pass rfl rfl rfl rfl rfl ?_
              refine VL.pass rfl rfl rfl rfl rfl ?_
              refine VL.pass rfl rfl rfl rfl rfl ?_
              refine VL.pass rfl rfl rfl rfl rfl ?_
              refine VL.pass rfl rfl rfl rfl rfl ?_
              refine VL.pass rfl rfl rfl rfl rfl ?_
              refine VL.pick_t rfl rfl ?_
              refine VL.nil ?_
              refine VX.next ?_
              refine VC.yes rfl ?_
              refine VC.seq ?_
              refine VC.region ?_
              refine VL.assign rfl ?_
              refine VL.nil ?_
              refine VX.next ?_
              refine VC.ret ?_
              refine VX.then_ret ?_
              refine VX.ret1 rfl rfl (fun we hw => ?_)
              refine ⟨false, rfl, ?_, hw.drop.drop.sub (fun _ hs => by repeat (first | exact hs | apply List.mem_cons_of_mem))⟩
              rw [object_iff]
              simp [h1_4, h1_10, h1_17, h1_24, h1_31, h1_38]
            · have h1_38 := h1_38.1 rfl
              refine VL.pick_f rfl rfl ?_
              refine VL.move rfl ?_
              refine VL.go rfl rfl rfl ?_
              refine VL.fieldAddr rfl fo85_6 rfl ?_
              refine VL.go rfl rfl rfl ?_
              refine VL.load (v := .slice q (x.vouches).length d) 1 6 rfl kd83 (fun _ h => h) rfl rfl rfl ?_
              refine VL.go rfl rfl rfl ?_
              refine VL.len Try.underlying83 rfl rfl ?_
              refine VL.go rfl rfl rfl ?_
              refine VL.fieldAddr rfl fo85_6 rfl ?_
              refine VL.go rfl rfl rfl ?_
              refine VL.load (v := .slice p (y.vouches).length c) 0 6 rfl kd83 (fun _ h => h) rfl rfl rfl ?_
              refine VL.go rfl rfl rfl ?_
              refine VL.len Try.underlying83 rfl rfl ?_
              refine VL.go rfl rfl rfl ?_
              refine VL.neq rfl rfl ?_
              refine VL.case (fun h1_47 => ?_) (fun h1_47 => ?_)
              · have h1_47 : ¬ x.vouches.length = y.vouches.length := by omega
                refine VL.pick_f rfl rfl ?_
                refine VL.nil ?_
                refine VX.next ?_
                refine VC.yes rfl ?_
                refine VC.seq ?_
                refine VC.region ?_
                refine VL.assign rfl ?_
                refine VL.nil ?_
                refine VX.next ?_
                refine VC.ret ?_
                refine VX.then_ret ?_
                refine VX.ret1 rfl rfl (fun we hw => ?_)
                exact ⟨false, rfl, ⟨fun h => absurd h (by decide), fun h => absurd (congrArg List.length (object_iff.1 h).2.2.2.2.2.2) h1_47⟩, hw.drop.drop.sub (fun _ hs => by repeat (first | exact hs | apply List.mem_cons_of_mem))⟩
              · have h1_47 : x.vouches.length = y.vouches.length := by omega
                refine VL.pick_f rfl rfl ?_
                refine VL.nil ?_
                refine VX.next ?_
                refine VC.no rfl ?_
                refine VC.skip ?_
                refine VX.next ?_
                refine VC.seq ?_
                refine VC.seq ?_
                refine VC.region ?_
                refine VL.assign rfl ?_
                refine VL.nil ?_
                refine VX.next ?_
                refine VC.block ?_
                refine VC.loop (X := Nat) (fun i => [(2, .pointer (some ⟨g1, 0, none⟩)), (3, .pointer (some ⟨g2, 0, none⟩)), (5, .int .i64 (i : Int))]) (fun i w' => (i ≤ x.vouches.length ∧ ∀ j, j < i → x.vouches[j]? = y.vouches[j]?) ∧ Own (⟨w, keys H⟩ :: S) (blk g2 85 objectL (objectV (y) p c) :: blk g1 85 objectL (objectV (x) q d) :: H) w') (fun i => x.vouches.length - i) 0 ⟨rfl, rfl, rfl, trivial⟩ (fun w' h => ⟨⟨Nat.zero_le _, fun j hj => absurd hj (Nat.not_lt_zero _)⟩, h.sub (fun _ hs => by repeat (first | exact hs | apply List.mem_cons_of_mem))⟩) (fun i => VC.fact fun ⟨hi, hall⟩ => ?_)
                · skip
                  refine VC.seq ?_
                  refine VC.seq ?_
                  refine VC.region ?_
                  refine VL.move rfl ?_
                  refine VL.fieldAddr rfl fo85_6 rfl ?_
                  refine VL.load (v := .slice q (x.vouches).length d) 1 6 rfl kd83 (fun _ h => h) rfl rfl rfl ?_
                  refine VL.len Try.underlying83 rfl rfl ?_
                  refine VL.lss rfl rfl ?_
                  refine VL.case (fun h4 => ?_) (fun h4 => ?_)
                  · have hlt : i < x.vouches.length := by omega
                    have hlt2 : i < y.vouches.length := by omega
                    refine VL.nil ?_
                    refine VX.next ?_
                    refine VC.yes rfl ?_
                    refine VC.skip ?_
                    refine VX.next ?_
                    refine VC.seq ?_
                    refine VC.block ?_
                    refine VC.seq ?_
                    by_cases hv : x.vouches[i]'hlt = y.vouches[i]'hlt2
                    · apply VC.anyTA 10 1011 (F := [eqF _, eqF _, eqF _, eqF _, eqF _, eqF _, eqF _, eqF _, eqF _, eqF _]) [⟨[], [2]⟩, ⟨[(62, 0)], []⟩, ⟨[], [5]⟩, ⟨[(63, 1), (64, 2)], []⟩, ⟨[(65, 3)], []⟩, ⟨[], [3]⟩, ⟨[(67, 5)], []⟩, ⟨[], [5]⟩, ⟨[(68, 6), (69, 7)], []⟩, ⟨[(70, 8)], []⟩] [(66, 4), (71, 9)] [0, 1, 2, 3, 4, 5, 6, 7, 8, 9, 10, 11, 12, 13, 14, 15, 16, 17, 18, 19, 20, 21, 22, 23, 24, 25, 26, 27, 28, 29, 30, 31, 32, 33, 34, 35, 36, 37, 38, 39, 40, 41, 42, 43, 44, 45, 46, 47, 48, 49, 50, 51, 52, 53, 54, 55, 56, 57, 58, 59, 60, 61, 72] rfl (by kernel_rfl) (by kernel_rfl) rfl rfl (by kernel_rfl) (by kernel_rfl) (by kernel_rfl) rfl ?obs6 ?end6
                      case obs6 =>
                        refine Obs.cons ?_ ?_
                        · refine obS (by kernel_rfl) rfl rfl (fun ph6 w6 hO6 => ?_)
                          refine VL.fieldAddr rfl fo85_6 rfl ?_
                          exact VL.finS hO6 rfl rfl
                        refine Obs.cons ?_ ?_
                        · refine ob (by kernel_rfl) rfl (by kernel_rfl) rfl (fun w6 hO6 => ?_)
                          rintro _ rfl
                          refine VL.load (v := .slice q (x.vouches).length d) 1 6 rfl kd83 (fun _ e => e ▸ hO6) rfl rfl rfl ?_
                          exact VL.finS hO6 rfl rfl
                        refine Obs.cons ?_ ?_
                        · refine obS (by kernel_rfl) rfl rfl (fun ph6 w6 hO6 => ?_)
                          refine VL.move rfl ?_
                          exact VL.finS hO6 rfl rfl
                        refine Obs.cons ?_ ?_
                        · refine obS (by kernel_rfl) rfl rfl (fun ph6 w6 hO6 => ?_)
                          rintro _ rfl _ rfl
                          refine VL.index (xs := x.vouches) rfl rfl Try.underlying83 sz83 hV (by omega) (by have hi := hlt; omega) ?_
                          exact VL.finS hO6 rfl rfl
                        refine Obs.cons ?_ ?_
                        · refine ob (by kernel_rfl) rfl (by kernel_rfl) rfl (fun w6 hO6 => ?_)
                          rintro _ rfl
                          refine VL.elems (s := ⟨w, _⟩) (m := 65) (i) 0 rfl kd202 (fun _ e => e ▸ hO6) (by repeat (first | exact List.mem_cons_self .. | apply List.mem_cons_of_mem)) hV (List.getElem?_eq_getElem hlt) (by simp) (by decide) (fun vs hl hr => ?_)
                          obtain ⟨hy4, rfl⟩ := hr
                          refine VL.newv (v' := .agg (cat (vouchV (x.vouches[i]'hlt))).toArray) (by rw [List.drop_zero, List.take_of_length_le (by rw [hl]; decide)]) ?_
                          exact VL.finS hO6 rfl rfl
                        refine Obs.cons ?_ ?_
                        · refine obS (by kernel_rfl) rfl rfl (fun ph6 w6 hO6 => ?_)
                          refine VL.fieldAddr rfl fo85_6 rfl ?_
                          exact VL.finS hO6 rfl rfl
                        refine Obs.cons ?_ ?_
                        · refine ob (by kernel_rfl) rfl (by kernel_rfl) rfl (fun w6 hO6 => ?_)
                          rintro _ rfl
                          refine VL.load (v := .slice p (y.vouches).length c) 0 6 rfl kd83 (fun _ e => e ▸ hO6) rfl rfl rfl ?_
                          exact VL.finS hO6 rfl rfl
                        refine Obs.cons ?_ ?_
                        · refine obS (by kernel_rfl) rfl rfl (fun ph6 w6 hO6 => ?_)
                          refine VL.move rfl ?_
                          exact VL.finS hO6 rfl rfl
                        refine Obs.cons ?_ ?_
                        · refine obS (by kernel_rfl) rfl rfl (fun ph6 w6 hO6 => ?_)
                          rintro _ rfl _ rfl
                          refine VL.index (xs := y.vouches) rfl rfl Try.underlying83 sz83 hU (by omega) (by have hi := hlt2; omega) ?_
                          exact VL.finS hO6 rfl rfl
                        refine Obs.cons ?_ ?_
                        · refine ob (by kernel_rfl) rfl (by kernel_rfl) rfl (fun w6 hO6 => ?_)
                          rintro _ rfl
                          refine VL.elems (s := ⟨w, _⟩) (m := 65) (i) 0 rfl kd202 (fun _ e => e ▸ hO6) (by repeat (first | exact List.mem_cons_self .. | apply List.mem_cons_of_mem)) hU (List.getElem?_eq_getElem hlt2) (by simp) (by decide) (fun vs hl hr => ?_)
                          obtain ⟨hy6, rfl⟩ := hr
                          refine VL.newv (v' := .agg (cat (vouchV (y.vouches[i]'hlt2))).toArray) (by rw [List.drop_zero, List.take_of_length_le (by rw [hl]; decide)]) ?_
                          exact VL.finS hO6 rfl rfl
                        exact Obs.nil
                      case end6 =>
                        intro w6 hO6
                        rintro _ rfl _ rfl
                        refine VL.toOwn hO6 ?_
                        refine VL.neT guard202 rfl rfl (eqVouch (hx.vouches _ (List.getElem_mem hlt)) (hy.vouches _ (List.getElem_mem hlt2))) (fun b h => ?_)
                        obtain rfl : b = true := h.2 hv
                        refine VL.nil ?_
                        refine VX.next ?_
                        refine VC.no rfl ?_
                        refine VC.skip ?_
                        refine VX.block_normal ?_
                        refine VX.next ?_
                        refine VC.region ?_
                        refine VL.move rfl ?_
                        refine VL.add rfl rfl (by have hsm := hV.small; simp only [InR]; omega) ?_
                        refine VL.assign rfl ?_
                        refine VL.nil ?_
                        refine VX.round (i + 1) ⟨rfl, rfl, rfl, trivial⟩ (fun w' h => ⟨⟨by omega, fun j hj => ?_⟩, h.sub (fun _ hs => by repeat (first | exact hs | apply List.mem_cons_of_mem))⟩) (by show x.vouches.length - (i + 1) < x.vouches.length - i; omega)
                        by_cases hji : j < i
                        · exact hall j hji
                        · obtain rfl : j = i := by omega
                          rw [List.getElem?_eq_getElem hlt, List.getElem?_eq_getElem hlt2, hv]
                    · apply VC.anyTA 10 1011 (F := [eqF _, eqF _, eqF _, eqF _, eqF _, eqF _, eqF _, eqF _, eqF _, eqF _]) [⟨[], [2]⟩, ⟨[(62, 0)], []⟩, ⟨[], [5]⟩, ⟨[(63, 1), (64, 2)], []⟩, ⟨[(65, 3)], []⟩, ⟨[], [3]⟩, ⟨[(67, 5)], []⟩, ⟨[], [5]⟩, ⟨[(68, 6), (69, 7)], []⟩, ⟨[(70, 8)], []⟩] [(66, 4), (71, 9)] [0, 1, 2, 3, 4, 5, 6, 7, 8, 9, 10, 11, 12, 13, 14, 15, 16, 17, 18, 19, 20, 21, 22, 23, 24, 25, 26, 27, 28, 29, 30, 31, 32, 33, 34, 35, 36, 37, 38, 39, 40, 41, 42, 43, 44, 45, 46, 47, 48, 49, 50, 51, 52, 53, 54, 55, 56, 57, 58, 59, 60, 61, 72] rfl (by kernel_rfl) (by kernel_rfl) rfl rfl (by kernel_rfl) (by kernel_rfl) (by kernel_rfl) rfl ?obs6 ?end6
                      case obs6 =>
                        refine Obs.cons ?_ ?_
                        · refine obS (by kernel_rfl) rfl rfl (fun ph6 w6 hO6 => ?_)
                          refine VL.fieldAddr rfl fo85_6 rfl ?_
                          exact VL.finS hO6 rfl rfl
                        refine Obs.cons ?_ ?_
                        · refine ob (by kernel_rfl) rfl (by kernel_rfl) rfl (fun w6 hO6 => ?_)
                          rintro _ rfl
                          refine VL.load (v := .slice q (x.vouches).length d) 1 6 rfl kd83 (fun _ e => e ▸ hO6) rfl rfl rfl ?_
                          exact VL.finS hO6 rfl rfl
                        refine Obs.cons ?_ ?_
                        · refine obS (by kernel_rfl) rfl rfl (fun ph6 w6 hO6 => ?_)
                          refine VL.move rfl ?_
                          exact VL.finS hO6 rfl rfl
                        refine Obs.cons ?_ ?_
                        · refine obS (by kernel_rfl) rfl rfl (fun ph6 w6 hO6 => ?_)
                          rintro _ rfl _ rfl
                          refine VL.index (xs := x.vouches) rfl rfl Try.underlying83 sz83 hV (by omega) (by have hi := hlt; omega) ?_
                          exact VL.finS hO6 rfl rfl
                        refine Obs.cons ?_ ?_
                        · refine ob (by kernel_rfl) rfl (by kernel_rfl) rfl (fun w6 hO6 => ?_)
                          rintro _ rfl
                          refine VL.elems (s := ⟨w, _⟩) (m := 65) (i) 0 rfl kd202 (fun _ e => e ▸ hO6) (by repeat (first | exact List.mem_cons_self .. | apply List.mem_cons_of_mem)) hV (List.getElem?_eq_getElem hlt) (by simp) (by decide) (fun vs hl hr => ?_)
                          obtain ⟨hy8, rfl⟩ := hr
                          refine VL.newv (v' := .agg (cat (vouchV (x.vouches[i]'hlt))).toArray) (by rw [List.drop_zero, List.take_of_length_le (by rw [hl]; decide)]) ?_
                          exact VL.finS hO6 rfl rfl
                        refine Obs.cons ?_ ?_
                        · refine obS (by kernel_rfl) rfl rfl (fun ph6 w6 hO6 => ?_)
                          refine VL.fieldAddr rfl fo85_6 rfl ?_
                          exact VL.finS hO6 rfl rfl
                        refine Obs.cons ?_ ?_
                        · refine ob (by kernel_rfl) rfl (by kernel_rfl) rfl (fun w6 hO6 => ?_)
                          rintro _ rfl
                          refine VL.load (v := .slice p (y.vouches).length c) 0 6 rfl kd83 (fun _ e => e ▸ hO6) rfl rfl rfl ?_
                          exact VL.finS hO6 rfl rfl
                        refine Obs.cons ?_ ?_
                        · refine obS (by kernel_rfl) rfl rfl (fun ph6 w6 hO6 => ?_)
                          refine VL.move rfl ?_
                          exact VL.finS hO6 rfl rfl
                        refine Obs.cons ?_ ?_
                        · refine obS (by kernel_rfl) rfl rfl (fun ph6 w6 hO6 => ?_)
                          rintro _ rfl _ rfl
                          refine VL.index (xs := y.vouches) rfl rfl Try.underlying83 sz83 hU (by omega) (by have hi := hlt2; omega) ?_
                          exact VL.finS hO6 rfl rfl
                        refine Obs.cons ?_ ?_
                        · refine ob (by kernel_rfl) rfl (by kernel_rfl) rfl (fun w6 hO6 => ?_)
                          rintro _ rfl
                          refine VL.elems (s := ⟨w, _⟩) (m := 65) (i) 0 rfl kd202 (fun _ e => e ▸ hO6) (by repeat (first | exact List.mem_cons_self .. | apply List.mem_cons_of_mem)) hU (List.getElem?_eq_getElem hlt2) (by simp) (by decide) (fun vs hl hr => ?_)
                          obtain ⟨hy10, rfl⟩ := hr
                          refine VL.newv (v' := .agg (cat (vouchV (y.vouches[i]'hlt2))).toArray) (by rw [List.drop_zero, List.take_of_length_le (by rw [hl]; decide)]) ?_
                          exact VL.finS hO6 rfl rfl
                        exact Obs.nil
                      case end6 =>
                        intro w6 hO6
                        rintro _ rfl _ rfl
                        refine VL.toOwn hO6 ?_
                        refine VL.neT guard202 rfl rfl (eqVouch (hx.vouches _ (List.getElem_mem hlt)) (hy.vouches _ (List.getElem_mem hlt2))) (fun b h => ?_)
                        obtain rfl : b = false := by cases b with
                          | false => rfl
                          | true => exact absurd (h.1 rfl) hv
                        refine VL.nil ?_
                        refine VX.next ?_
                        refine VC.yes rfl ?_
                        refine VC.seq ?_
                        refine VC.region ?_
                        refine VL.assign rfl ?_
                        refine VL.nil ?_
                        refine VX.next ?_
                        refine VC.ret ?_
                        refine VX.block_ret ?_
                        refine VX.then_ret ?_
                        refine VX.then_ret ?_
                        refine VX.block_ret ?_
                        refine VX.then_ret ?_
                        refine VX.ret1 rfl rfl (fun we hw => ?_)
                        refine ⟨false, rfl, ⟨fun h => absurd h (by decide), fun h => absurd (object_iff.1 h).2.2.2.2.2.2 fun e => hv ?_⟩, hw.drop.drop.sub (fun _ hs => by repeat (first | exact hs | apply List.mem_cons_of_mem))⟩
                        have e1 := congrArg (fun l : List Vouch => l[i]?) e
                        simp only [List.getElem?_eq_getElem hlt, List.getElem?_eq_getElem hlt2] at e1
                        exact Option.some.inj e1
                  · obtain rfl : i = x.vouches.length := by omega
                    refine VL.nil ?_
                    refine VX.next ?_
                    refine VC.no rfl ?_
                    refine VC.exit ?_
                    refine VX.then_exit ?_
                    refine VX.then_exit ?_
                    refine VX.block_here ?_
                    refine VX.next ?_
                    refine VC.seq ?_
                    refine VC.region ?_
                    refine VL.assign rfl ?_
                    refine VL.nil ?_
                    refine VX.next ?_
                    refine VC.ret ?_
                    refine VX.ret1 rfl rfl (fun we hw => ?_)
                    refine ⟨true, rfl, ⟨fun _ => object_iff.2 ⟨h1_4, h1_10, h1_17, h1_24, h1_31, h1_38, List.ext_getElem? fun k => ?_⟩, fun _ => rfl⟩, hw.drop.drop.sub (fun _ hs => by repeat (first | exact hs | apply List.mem_cons_of_mem))⟩
                    by_cases hk : k < x.vouches.length
                    · exact hall k (by omega)
                    · rw [List.getElem?_eq_none (by omega), List.getElem?_eq_none (by omega)]

end Go.Proofs.Ytcfecmoagfgnaaa

/- The reference: bundles, objects, items. -/
namespace Go.Proofs.Ytcfecmoagfgnaaa
open Go.Vc Go.Pl

theorem refObject_w {S : List Snap} {H : List Chunk} {w : World} (ho : Own S H w) {x : Object} (hx : x.ok) {q : Option Addr} {d : Nat} (hV : Arr 65 vouchR (keys H) w q x.vouches d) : Calls Try.prog 66 #[.agg (cat (objectV x q d)).toArray] w (RetO S H (objectO x)) := by
  have hx1 := hx.server
  have hx2 := hx.n
  have hx3 := hx.since
  have hx4 := hx.till
  refine enter (G := Own (⟨w, keys H⟩ :: S) H) ho.keep Try.func66 rfl Try.ntmps66 rfl ?_
  refine VC.seq ?_
  refine VC.region ?_
  refine VL.box (L := objectL) (ps := (objectV (x) q d)) rfl rfl (objectV_len hx) (fun g1 => ?_)
  refine VL.assign rfl ?_
  refine VL.assign rfl ?_
  refine VL.nil ?_
  refine VX.next ?_
  refine VC.seq ?_
  refine VC.seq ?_
  refine VC.region ?_
  refine VL.fieldAddr rfl fo85_6 rfl ?_
  refine VL.load (v := .slice q (x.vouches).length d) 0 6 rfl kd83 (fun _ h => h) rfl rfl rfl ?_
  refine VL.len Try.underlying83 rfl rfl ?_
  refine VL.gtr rfl rfl ?_
  refine VL.case (fun h1_3 => ?_) (fun h1_3 => ?_)
  · refine VL.nil ?_
    refine VX.next ?_
    refine VC.yes rfl ?_
    refine VC.seq ?_
    refine VC.region ?_
    refine VL.assign rfl ?_
    refine VL.assign rfl ?_
    refine VL.nil ?_
    refine VX.next ?_
    refine VC.ret ?_
    refine VX.then_ret ?_
    refine VX.ret2 rfl rfl rfl (fun we hw => ?_)
    exact postO ((show (none : Option (List UInt8)) = objectO x from (if_neg (by omega)).symm)) ⟨none, 0, rfl, hw.drop.sub (fun _ hs => by repeat (first | exact hs | apply List.mem_cons_of_mem)), Arr.none⟩
  · refine VL.nil ?_
    refine VX.next ?_
    refine VC.no rfl ?_
    refine VC.skip ?_
    refine VX.next ?_
    refine VC.seq ?_
    refine VC.letCells 0 rfl (fun w2 hO4 hF3 => ?_)
    apply VC.anyTA 18 1020 (F := [eqF _, eqF _, capF (be 1 (x.server)) 1, eqF _, eqF _, capF (be 1 (x.n)) 1, eqF _, eqF _, eqF _, eqF _, eqF _, bytesF (be 4 (x.since)), eqF _, eqF _, eqF _, bytesF (be 4 (x.till)), eqF _, eqF _]) [⟨[], [1]⟩, ⟨[(11, 0)], []⟩, ⟨[(12, 1)], []⟩, ⟨[], [1]⟩, ⟨[(14, 3)], []⟩, ⟨[(15, 4)], []⟩, ⟨[], [1]⟩, ⟨[(17, 6)], []⟩, ⟨[], [1]⟩, ⟨[(19, 8)], []⟩, ⟨[(20, 9)], []⟩, ⟨[(21, 10)], []⟩, ⟨[], [1]⟩, ⟨[(23, 12)], []⟩, ⟨[(24, 13)], []⟩, ⟨[(25, 14)], []⟩, ⟨[], [1]⟩, ⟨[(27, 16)], []⟩] [(13, 2), (16, 5), (18, 7), (22, 11), (26, 15), (28, 17)] [0, 1, 2, 3, 4, 5, 6, 7, 8, 9, 10, 29, 30, 31, 32, 33, 34, 35, 36, 37, 38, 39, 40, 41, 42, 43, 44, 45, 46, 47, 48, 49, 50, 51, 52, 53, 54, 55, 56, 57, 58] rfl (by kernel_rfl) (by kernel_rfl) rfl rfl (by kernel_rfl) (by kernel_rfl) (by kernel_rfl) rfl ?obs3 ?end3
    case obs3 =>
      refine Obs.cons ?_ ?_
      · refine obS (by kernel_rfl) rfl rfl (fun ph3 w3 hO3 => ?_)
        refine VL.fieldAddr rfl fo85_0 rfl ?_
        exact VL.finS hO3 rfl rfl
      refine Obs.cons ?_ ?_
      · refine obS (by kernel_rfl) rfl rfl (fun ph3 w3 hO3 => ?_)
        rintro _ rfl
        refine VL.loadF (s := ⟨w2, _⟩) (v := .int .u8 (x.server)) 0 rfl kd5 hF3 (fun _ e => e ▸ Still.ok hO3 (by repeat (first | exact List.mem_cons_self .. | apply List.mem_cons_of_mem))) rfl rfl ?_
        exact VL.finS hO3 rfl rfl
      refine Obs.cons ?_ ?_
      · refine ob (by kernel_rfl) rfl (by kernel_rfl) rfl (fun w3 hO3 => ?_)
        rintro _ rfl
        refine VL.toOwn hO3 ?_
        refine VL.litByte (m := x.server) el24 rfl (by have hm := hx.server; omega) (fun g5 w6 hO7 hA8 => ?_)
        exact VL.finO rfl (fun _ h => h.sub (fun _ hs => by repeat (first | exact hs | apply List.mem_cons_of_mem))) (fun _ h => ⟨_, rfl, (hA8.now (s := ⟨w6, _⟩) Mono.byte h (by repeat (first | exact List.mem_cons_self .. | apply List.mem_cons_of_mem)))⟩)
      refine Obs.cons ?_ ?_
      · refine obS (by kernel_rfl) rfl rfl (fun ph3 w3 hO3 => ?_)
        refine VL.fieldAddr rfl fo85_1 rfl ?_
        exact VL.finS hO3 rfl rfl
      refine Obs.cons ?_ ?_
      · refine obS (by kernel_rfl) rfl rfl (fun ph3 w3 hO3 => ?_)
        rintro _ rfl
        refine VL.loadF (s := ⟨w2, _⟩) (v := .int .u8 (x.n)) 1 rfl kd5 hF3 (fun _ e => e ▸ Still.ok hO3 (by repeat (first | exact List.mem_cons_self .. | apply List.mem_cons_of_mem))) rfl rfl ?_
        exact VL.finS hO3 rfl rfl
      refine Obs.cons ?_ ?_
      · refine ob (by kernel_rfl) rfl (by kernel_rfl) rfl (fun w3 hO3 => ?_)
        rintro _ rfl
        refine VL.toOwn hO3 ?_
        refine VL.litByte (m := x.n) el24 rfl (by have hm := hx.n; omega) (fun g9 w10 hO11 hA12 => ?_)
        exact VL.finO rfl (fun _ h => h.sub (fun _ hs => by repeat (first | exact hs | apply List.mem_cons_of_mem))) (fun _ h => ⟨_, rfl, (hA12.now (s := ⟨w10, _⟩) Mono.byte h (by repeat (first | exact List.mem_cons_self .. | apply List.mem_cons_of_mem)))⟩)
      refine Obs.cons ?_ ?_
      · refine obS (by kernel_rfl) rfl rfl (fun ph3 w3 hO3 => ?_)
        refine VL.fieldAddr rfl fo85_2 rfl ?_
        exact VL.finS hO3 rfl rfl
      refine Obs.cons ?_ ?_
      · refine obS (by kernel_rfl) rfl rfl (fun ph3 w3 hO3 => ?_)
        rintro _ rfl
        refine VL.sliceArrAt Try.underlying44 (by kernel_rfl) rfl ?_
        refine VL.newv (v' := .slice (some ⟨g1, 2, none⟩) (x.key).length 32) (by rw [hx.key]) ?_
        exact VL.finS hO3 rfl rfl
      refine Obs.cons ?_ ?_
      · refine obS (by kernel_rfl) rfl rfl (fun ph3 w3 hO3 => ?_)
        refine VL.fieldAddr rfl fo85_3 rfl ?_
        exact VL.finS hO3 rfl rfl
      refine Obs.cons ?_ ?_
      · refine obS (by kernel_rfl) rfl rfl (fun ph3 w3 hO3 => ?_)
        rintro _ rfl
        refine VL.loadF (s := ⟨w2, _⟩) (v := .int .u32 (x.since)) 3 rfl kd48 hF3 (fun _ e => e ▸ Still.ok hO3 (by repeat (first | exact List.mem_cons_self .. | apply List.mem_cons_of_mem))) rfl rfl ?_
        exact VL.finS hO3 rfl rfl
      refine Obs.cons ?_ ?_
      · refine obS (by kernel_rfl) rfl rfl (fun ph3 w3 hO3 => ?_)
        rintro _ rfl
        refine VL.conv (by rw [Try.underlying48]; rfl) Try.underlying3 rfl (by simp only [InR]; omega) ?_
        exact VL.finS hO3 rfl rfl
      refine Obs.cons ?_ ?_
      · refine ob (by kernel_rfl) rfl (by kernel_rfl) rfl (fun w3 hO3 => ?_)
        rintro _ rfl
        refine VL.toOwn hO3 ?_
        refine VL.call Try.func108 rfl (by decide) rfl (fun w' hw => num_S hw (x.since) 4 (by omega) (by decide) (by decide) (fits4 (by omega))) (fun v => ?_)
        refine VL.at (fun w13 h1w => ?_)
        obtain ⟨p14, c15, rfl, hO17, hA16⟩ := h1w
        refine VL.toOwn hO17 ?_
        exact VL.finO rfl (fun _ h => h.sub (fun _ hs => by repeat (first | exact hs | apply List.mem_cons_of_mem))) (fun _ h => ⟨_, _, rfl, (hA16.now (s := ⟨w13, _⟩) Mono.byte h (by repeat (first | exact List.mem_cons_self .. | apply List.mem_cons_of_mem)))⟩)
      refine Obs.cons ?_ ?_
      · refine obS (by kernel_rfl) rfl rfl (fun ph3 w3 hO3 => ?_)
        refine VL.fieldAddr rfl fo85_4 rfl ?_
        exact VL.finS hO3 rfl rfl
      refine Obs.cons ?_ ?_
      · refine obS (by kernel_rfl) rfl rfl (fun ph3 w3 hO3 => ?_)
        rintro _ rfl
        refine VL.loadF (s := ⟨w2, _⟩) (v := .int .u32 (x.till)) 4 rfl kd48 hF3 (fun _ e => e ▸ Still.ok hO3 (by repeat (first | exact List.mem_cons_self .. | apply List.mem_cons_of_mem))) rfl rfl ?_
        exact VL.finS hO3 rfl rfl
      refine Obs.cons ?_ ?_
      · refine obS (by kernel_rfl) rfl rfl (fun ph3 w3 hO3 => ?_)
        rintro _ rfl
        refine VL.conv (by rw [Try.underlying48]; rfl) Try.underlying3 rfl (by simp only [InR]; omega) ?_
        exact VL.finS hO3 rfl rfl
      refine Obs.cons ?_ ?_
      · refine ob (by kernel_rfl) rfl (by kernel_rfl) rfl (fun w3 hO3 => ?_)
        rintro _ rfl
        refine VL.toOwn hO3 ?_
        refine VL.call Try.func108 rfl (by decide) rfl (fun w' hw => num_S hw (x.till) 4 (by omega) (by decide) (by decide) (fits4 (by omega))) (fun v => ?_)
        refine VL.at (fun w18 h1w => ?_)
        obtain ⟨p19, c20, rfl, hO22, hA21⟩ := h1w
        refine VL.toOwn hO22 ?_
        exact VL.finO rfl (fun _ h => h.sub (fun _ hs => by repeat (first | exact hs | apply List.mem_cons_of_mem))) (fun _ h => ⟨_, _, rfl, (hA21.now (s := ⟨w18, _⟩) Mono.byte h (by repeat (first | exact List.mem_cons_self .. | apply List.mem_cons_of_mem)))⟩)
      refine Obs.cons ?_ ?_
      · refine obS (by kernel_rfl) rfl rfl (fun ph3 w3 hO3 => ?_)
        refine VL.fieldAddr rfl fo85_5 rfl ?_
        exact VL.finS hO3 rfl rfl
      refine Obs.cons ?_ ?_
      · refine obS (by kernel_rfl) rfl rfl (fun ph3 w3 hO3 => ?_)
        rintro _ rfl
        refine VL.sliceArrAt Try.underlying80 (by kernel_rfl) rfl ?_
        refine VL.newv (v' := .slice (some ⟨g1, 36, none⟩) (x.sig).length 64) (by rw [hx.sig]) ?_
        exact VL.finS hO3 rfl rfl
      exact Obs.nil
    case end3 =>
      intro w3 hO3
      rintro _ ⟨p3_2, rfl, hA3_2⟩ _ ⟨p3_5, rfl, hA3_5⟩ _ rfl _ ⟨p3_11, c3_11, rfl, hA3_11⟩ _ ⟨p3_15, c3_15, rfl, hA3_15⟩ _ rfl
      refine VL.toOwn hO3 ?_
      refine VL.litB [be 1 (x.server), be 1 (x.n), x.key, be 4 (x.since), be 4 (x.till), x.sig] el31 rfl rfl rfl (by simp [Value.cells]) (by intro u hu; simp [Value.cells] at hu; rcases hu with rfl | rfl | rfl | rfl | rfl | rfl <;> rfl) rfl (fun _ w' hw => ⟨⟨_, _, rfl, (hA3_2.now (s := ⟨w3, _⟩) Mono.byte hw (by repeat (first | exact List.mem_cons_self .. | apply List.mem_cons_of_mem)))⟩, ⟨⟨_, _, rfl, (hA3_5.now (s := ⟨w3, _⟩) Mono.byte hw (by repeat (first | exact List.mem_cons_self .. | apply List.mem_cons_of_mem)))⟩, ⟨⟨_, _, rfl, ((hF3.bytes 2 2 rfl rfl hx.key rfl).now (s := ⟨w2, _⟩) Mono.byte hw (by repeat (first | exact List.mem_cons_self .. | apply List.mem_cons_of_mem)))⟩, ⟨⟨_, _, rfl, (hA3_11.now (s := ⟨w3, _⟩) Mono.byte hw (by repeat (first | exact List.mem_cons_self .. | apply List.mem_cons_of_mem)))⟩, ⟨⟨_, _, rfl, (hA3_15.now (s := ⟨w3, _⟩) Mono.byte hw (by repeat (first | exact List.mem_cons_self .. | apply List.mem_cons_of_mem)))⟩, ⟨⟨_, _, rfl, ((hF3.bytes 5 36 rfl rfl hx.sig rfl).now (s := ⟨w2, _⟩) Mono.byte hw (by repeat (first | exact List.mem_cons_self .. | apply List.mem_cons_of_mem)))⟩, trivial⟩⟩⟩⟩⟩⟩) (fun v => ?_)
      refine VL.ex fun g23 => VL.fact fun e24 => ?_
      subst e24
      refine VL.assign rfl ?_
      refine VL.nil ?_
      refine VX.next ?_
      refine VC.seq ?_
      refine VC.seq ?_
      refine VC.region ?_
      refine VL.assign rfl ?_
      refine VL.nil ?_
      refine VX.next ?_
      refine VC.block ?_
      refine VC.loop (X := Nat × Option Nat × Nat) (fun (i, gp, c) => [(1, .pointer (some ⟨g1, 0, none⟩)), (4, rowV gp (objectP0 x ++ (x.vouches.take i).map vouchB).length c), (5, .int .i64 (i : Int))]) (fun (i, gp, c) w' => i ≤ x.vouches.length ∧ Own (⟨w2, keys H⟩ :: ⟨w, keys H⟩ :: S) (brow gp c ((objectP0 x ++ (x.vouches.take i).map vouchB)) :: H) w') (fun (i, _) => x.vouches.length - i) (0, (some g23), 6) ⟨rfl, rfl, rfl, trivial⟩ (fun w' h => ⟨Nat.zero_le _, h.sub (fun _ hs => by repeat (first | exact hs | apply List.mem_cons_of_mem))⟩) (fun (i, gp, c) => VC.fact fun hi => ?_)
      · have hpl : (objectP0 x).length = 6 := rfl
        have htk : (List.take i x.vouches).length ≤ i := List.length_take_le _ _
        refine VC.seq ?_
        refine VC.seq ?_
        refine VC.region ?_
        refine VL.move rfl ?_
        refine VL.fieldAddr rfl fo85_6 rfl ?_
        refine VL.loadF (s := ⟨w2, _⟩) (v := .slice q (x.vouches).length d) 6 rfl kd83 hF3 (fun _ h => (h.after (by repeat (first | exact List.mem_cons_self .. | apply List.mem_cons_of_mem))).1) rfl rfl ?_
        refine VL.len Try.underlying83 rfl rfl ?_
        refine VL.lss rfl rfl ?_
        refine VL.case (fun h5 => ?_) (fun h5 => ?_)
        · have hlt : i < x.vouches.length := by omega
          refine VL.nil ?_
          refine VX.next ?_
          refine VC.yes rfl ?_
          refine VC.skip ?_
          refine VX.next ?_
          refine VC.seq ?_
          refine VC.block ?_
          refine VC.seq ?_
          refine VC.region ?_
          refine VL.fieldAddr rfl fo85_6 rfl ?_
          refine VL.loadF (s := ⟨w2, _⟩) (v := .slice q (x.vouches).length d) 6 rfl kd83 hF3 (fun _ h => (h.after (by repeat (first | exact List.mem_cons_self .. | apply List.mem_cons_of_mem))).1) rfl rfl ?_
          refine VL.move rfl ?_
          refine VL.index (xs := x.vouches) rfl rfl Try.underlying83 sz83 hV (by omega) (by have hi := hlt; omega) ?_
          refine VL.fieldAt rfl (by obtain ⟨a, ha⟩ := hV.isAt (by have hi := hlt; omega); rw [ha]; rfl) fo202_0 ?_
          refine VL.elem (s := ⟨w, _⟩) (i) 0 rfl kd5 (fun _ h => h) (by repeat (first | exact List.mem_cons_self .. | apply List.mem_cons_of_mem)) Mono_vouch hV (List.getElem?_eq_getElem hlt) (by simp) (by decide) (fun vs v hl hr hv => ?_)
          obtain ⟨hy25, rfl⟩ := hr
          have ehy25 : v = .int .u8 ((x.vouches[i]'hlt).notary : Nat) := (Option.some.inj (hv.symm.trans rfl))
          subst ehy25
          refine VL.litByte (m := (x.vouches[i]'hlt).notary) el24 rfl (by have hm := (hx.vouches _ (List.getElem_mem hlt)).notary; omega) (fun g26 w27 hO28 hA29 => ?_)
          refine VL.assign rfl ?_
          refine VL.nil ?_
          refine VX.next ?_
          refine VC.region ?_
          refine VL.move rfl ?_
          refine VL.move rfl ?_
          refine VL.fieldAddr rfl fo85_6 rfl ?_
          refine VL.loadF (s := ⟨w2, _⟩) (v := .slice q (x.vouches).length d) 6 rfl kd83 hF3 (fun _ h => (h.after (by repeat (first | exact List.mem_cons_self .. | apply List.mem_cons_of_mem))).1) rfl rfl ?_
          refine VL.move rfl ?_
          refine VL.index (xs := x.vouches) rfl rfl Try.underlying83 sz83 hV (by omega) (by have hi := hlt; omega) ?_
          refine VL.fieldAt rfl (by obtain ⟨a, ha⟩ := hV.isAt (by have hi := hlt; omega); rw [ha]; rfl) fo202_1 ?_
          refine VL.sliceIn (i) 1 ((x.vouches[i]'hlt).sig) Try.underlying80 (by kernel_rfl) rfl hV (List.getElem?_eq_getElem hlt) (by simp) (hx.vouches _ (List.getElem_mem hlt)).sig (by decide) (fun vs hr => vouch_sig hr) (fun q30 hA31 => ?_)
          refine VL.appendFull el24 rfl rfl rfl (by simp only [be_length]; omega) (by have hl := (hx.vouches _ (List.getElem_mem hlt)).sig; omega) (by simp only [be_length]; have hl := (hx.vouches _ (List.getElem_mem hlt)).sig; omega) (by simp only [be_length]; have hl := (hx.vouches _ (List.getElem_mem hlt)).sig; omega) (fun _ hw => (hA29.now (s := ⟨w27, _⟩) Mono.byte hw (by repeat (first | exact List.mem_cons_self .. | apply List.mem_cons_of_mem)))) (fun _ hw => (hA31.now (s := ⟨w, _⟩) Mono.byte hw (by repeat (first | exact List.mem_cons_self .. | apply List.mem_cons_of_mem)))) (fun g32 c36 w33 hO34 hA35 => ?_)
          refine VL.lit el31 rfl rfl rfl (by simp [Value.cells]) (by intro u hu; simp [Value.cells] at hu; rcases hu with rfl <;> rfl) (fun g37 => ?_)
          refine VL.letRowS [(be 1 ((x.vouches[i]'hlt).notary) ++ (x.vouches[i]'hlt).sig)] rfl (fun w' hw => ⟨⟨_, _, rfl, (hA35.now (s := ⟨w33, _⟩) Mono.byte hw (by repeat (first | exact List.mem_cons_self .. | apply List.mem_cons_of_mem)))⟩, trivial⟩) (fun w38 hO39 hA40 => ?_)
          refine VL.appends (R := bytesR) (hR := Mono.slice Mono.byte) (ys := (objectP0 x ++ (x.vouches.take i).map vouchB)) (zs := [(be 1 ((x.vouches[i]'hlt).notary) ++ (x.vouches[i]'hlt).sig)]) 0 el31 rfl rfl rfl (fun _ h => h) rfl (fun _ hw => (hA40.now (s := ⟨w38, _⟩) (Mono.slice Mono.byte) hw (by repeat (first | exact List.mem_cons_self .. | apply List.mem_cons_of_mem)))) bytesR_ok1 (by simp only [List.length_append, List.length_cons, List.length_nil, List.length_map]; omega) (fun g41 c42 => ?_) (by simp only [List.length_append, List.length_cons, List.length_nil, List.length_map]; omega)
          refine VL.turn (G' := Own _ (brow g41 c42 (((objectP0 x ++ (x.vouches.take i).map vouchB) ++ [(be 1 ((x.vouches[i]'hlt).notary) ++ (x.vouches[i]'hlt).sig)])) :: H)) (fun _ h => h) ?_
          refine VL.assign rfl ?_
          refine VL.nil ?_
          refine VX.block_normal ?_
          refine VX.next ?_
          refine VC.region ?_
          refine VL.move rfl ?_
          refine VL.add rfl rfl (by simp only [InR]; omega) ?_
          refine VL.assign rfl ?_
          refine VL.nil ?_
          have el : objectP0 x ++ (x.vouches.take i).map vouchB ++ [be 1 (x.vouches[i]'hlt).notary ++ (x.vouches[i]'hlt).sig] = objectP0 x ++ (x.vouches.take (i + 1)).map vouchB := by rw [← vouch_next hlt, List.append_assoc]
          refine VX.round (i + 1, g41, c42) ⟨rfl, congrArg (fun l : List (List UInt8) => some (rowV g41 l.length c42)) el, rfl, trivial⟩ (fun w' h => ⟨by omega, ?_⟩) (by show x.vouches.length - (i + 1) < x.vouches.length - i; omega)
          rw [← el]
          exact h.sub (fun _ hs => by repeat (first | exact hs | apply List.mem_cons_of_mem))
        · have hie : i = x.vouches.length := by omega
          refine VL.nil ?_
          refine VX.next ?_
          refine VC.no rfl ?_
          refine VC.exit ?_
          refine VX.then_exit ?_
          refine VX.then_exit ?_
          refine VX.block_here ?_
          refine VX.next ?_
          refine VC.seq ?_
          refine VC.letArr (fun wr hOr hAr => ?_)
          refine VC.region ?_
          refine VL.move rfl ?_
          refine VL.call Try.func31 rfl (by decide) rfl (fun w' hw => join_O (ls := (objectP0 x ++ (x.vouches.take i).map vouchB)) hw (hAr.now (s := ⟨wr, _⟩) (Mono.slice Mono.byte) hw (by repeat (first | exact List.mem_cons_self .. | apply List.mem_cons_of_mem)))) (fun v => ?_)
          refine VL.at (fun w43 h1w => ?_)
          obtain ⟨p44, c45, rfl, hO47, hA46⟩ := h1w
          refine VL.toOwn hO47 ?_
          refine VL.extract rfl rfl ?_
          refine VL.extract rfl rfl ?_
          refine VL.assign rfl ?_
          refine VL.assign rfl ?_
          refine VL.nil ?_
          refine VX.next ?_
          refine VC.ret ?_
          refine VX.ret2 rfl rfl rfl (fun we hw => ?_)
          exact postO ((show joinO (objectP0 x ++ (x.vouches.take i).map vouchB) true = objectO x from by rw [hie, List.take_length]; unfold objectO; rw [if_pos (by omega)]; exact joinO_some (objectP_ok hx (by omega)) rfl)) ⟨p44, c45, rfl, hw.sub (fun _ hs => by repeat (first | exact hs | apply List.mem_cons_of_mem)), (hA46.now (s := ⟨w43, _⟩) Mono.byte hw (by repeat (first | exact List.mem_cons_self .. | apply List.mem_cons_of_mem)))⟩

end Go.Proofs.Ytcfecmoagfgnaaa

/- Calls: their bytes; what bytes are read as. -/
namespace Go.Proofs.Ytcfecmoagfgnaaa
open Go.Vc Go.Pl

/-! The error's number. -/
/-- Where the loop over bundles stands. -/
def CInv (c : List (List UInt8)) (bs : List Bundle) (ps : List (List UInt8)) (e : Nat) : Prop :=
  (∀ b ∈ bs, b.ok) ∧ bs.length ≤ 9 ∧ ((e = 0 ∧ ∃ d, c = d ++ ps ∧ d.map bundleR = bs.map some) ∨ (e = 141 ∧ ∃ p ∈ c, bundleR p = none))
theorem CInv.start (c : List (List UInt8)) : CInv c [] c 0 := ⟨by simp, by simp, .inl ⟨rfl, [], rfl, rfl⟩⟩
theorem CInv.step {c : List (List UInt8)} {bs : List Bundle} {p : List UInt8} {r : List (List UInt8)} (h : CInv c bs (p :: r) 0) (h8 : bs.length ≤ 8) : CInv c (bs ++ [(bundleR p).getD bundle0]) r (if (bundleR p).isSome then 0 else 141) := by
  obtain ⟨h1, h2, h3⟩ := h
  refine ⟨fun b hb => ?_, by simp; omega, ?_⟩
  · rcases List.mem_append.1 hb with hb | hb
    · exact h1 b hb
    · rw [List.mem_singleton] at hb; subst hb; exact bundleR_ok p
  · rcases h3 with ⟨_, d, hd, hm⟩ | ⟨h, _⟩
    · cases hp : bundleR p with
      | none => exact .inr ⟨rfl, p, by rw [hd]; simp, hp⟩
      | some b => exact .inl ⟨rfl, d ++ [p], by rw [hd]; simp, by simp [hm, hp]⟩
    · cases h
end Go.Proofs.Ytcfecmoagfgnaaa

/- wire: bytes of calls. -/
namespace Go.Proofs.Ytcfecmoagfgnaaa
open Go.Vc Go.Pl

theorem Own.rot3 {S : List Snap} {a b c : Chunk} {H : List Chunk} {w : World} (h : Own S (a :: b :: c :: H) w) : Own S (b :: c :: a :: H) w := h.perm (((List.Perm.swap a c H).cons b).trans (List.Perm.swap a b (c :: H)))
theorem Own.drop3 {S : List Snap} {a b c : Chunk} {H : List Chunk} {w : World} (h : Own S (a :: b :: c :: H) w) : Own S (a :: b :: H) w := Own.drop (c := c) (h.perm (((List.Perm.swap a c (b :: H)).trans ((List.Perm.swap b c H).cons a))))
end Go.Proofs.Ytcfecmoagfgnaaa

/- Packets: their bytes; what bytes are read as. -/
namespace Go.Pl

structure Pkt where
  src : Nat
  dst : Nat
  kind : Nat
  chain : List Object
  body : List UInt8
  sig : List UInt8
structure Pkt.ok (x : Pkt) : Prop where
  src : x.src < 256
  dst : x.dst < 256
  kind : x.kind < 256
  chain : ∀ i ∈ x.chain, i.ok
  sig : x.sig.length = 64
def pkt0 : Pkt := ⟨0, 0, 0, [], [], zeros 64⟩
theorem pkt0_ok : pkt0.ok := ⟨by decide, by decide, by decide, by simp [pkt0], rfl⟩

def chainP (xs : List Object) : List (List UInt8) := xs.map fun x => (objectO x).getD []
def chainGood (xs : List Object) : Bool := decide (xs.length ≤ 4) && xs.all fun x => (objectO x).isSome
def chainO (xs : List Object) : Option (List UInt8) := joinO (chainP xs) (chainGood xs)
def kindIn (k : Nat) : Bool := decide (1 ≤ k) && decide (k ≤ 4)
def pktP (x : Pkt) : List (List UInt8) := [be 1 x.src, be 1 x.dst, be 1 x.kind, (chainO x.chain).getD [], x.body, x.sig]
def pktO (x : Pkt) : Option (List UInt8) := joinO (pktP x) ((chainO x.chain).isSome && kindIn x.kind)
def restObjs (c : List (List UInt8)) : Option (List Object) :=
  if c.length ≤ 4 ∧ ∀ p ∈ c, (objectR p).isSome = true then some (c.map fun p => (objectR p).getD object0) else none
def chainR (l : List UInt8) : Option (List Object) := if l = [0] ∨ openP l ≠ [] then restObjs (openP l) else none
abbrev pktK : List (Option Nat) := [some 1, some 1, some 1, none, none, some 64]
/-- The fourth piece and the ones behind it. -/
abbrev at1 (ps : List (List UInt8)) : List (List UInt8) := ps.drop 1
abbrev at2 (ps : List (List UInt8)) : List (List UInt8) := (ps.drop 1).drop 1
abbrev at3 (ps : List (List UInt8)) : List (List UInt8) := ((ps.drop 1).drop 1).drop 1
abbrev at4 (ps : List (List UInt8)) : List (List UInt8) := (((ps.drop 1).drop 1).drop 1).drop 1
abbrev at5 (ps : List (List UInt8)) : List (List UInt8) := ((((ps.drop 1).drop 1).drop 1).drop 1).drop 1
def pktOf (a : List (List UInt8)) (xs : List Object) : Pkt := ⟨takeN a 1, takeN (at1 a) 1, takeN (at2 a) 1, xs, nextP (at4 a), takeB 64 (at5 a)⟩
abbrev pktC (l : List UInt8) : Prop := fitsP pktK (openP l) ∧ (openP l).length = 6 ∧ kindIn (takeN (at2 (openP l)) 1) = true
def pktR (l : List UInt8) : Option Pkt := if pktC l then (chainR (nextP (at3 (openP l)))).map (pktOf (openP l)) else none
/-- The kind is a byte, and none of them. -/
def kindBad (ps : List (List UInt8)) : Prop := 2 < ps.length ∧ (nextP (at2 ps)).length = 1 ∧ kindIn (num (nextP (at2 ps))) = false
instance (ps : List (List UInt8)) : Decidable (kindBad ps) := by unfold kindBad; infer_instance
def pktW (l : List UInt8) : Nat := if (pktR l).isSome then 0 else if kindBad (openP l) then 140 else 141

theorem objects_back {xs : List Object} (h : ∀ x ∈ xs, x.ok) (h2 : ∀ x ∈ xs, (objectO x).isSome = true) : (∀ p ∈ chainP xs, (objectR p).isSome = true) ∧ (chainP xs).map (fun p => (objectR p).getD object0) = xs := by
  have e1 : ∀ x ∈ xs, objectR ((objectO x).getD []) = some x := fun x hx => by
    obtain ⟨l, hl⟩ := Option.isSome_iff_exists.1 (h2 x hx)
    rw [hl]; exact objectR_iff.2 ⟨h x hx, hl⟩
  constructor
  · intro p hp
    obtain ⟨x, hx, rfl⟩ := List.mem_map.1 hp
    rw [e1 x hx]; rfl
  · unfold chainP
    rw [List.map_map]
    conv => rhs; rw [← List.map_id xs]
    refine List.map_congr_left fun x hx => ?_
    show (objectR ((objectO x).getD [])).getD object0 = x
    rw [e1 x hx]; rfl
theorem chainGood_iff {xs : List Object} : chainGood xs = true ↔ xs.length ≤ 4 ∧ ∀ x ∈ xs, (objectO x).isSome = true := by
  unfold chainGood
  rw [Bool.and_eq_true, decide_eq_true_iff, List.all_eq_true]
theorem objectR_ok (l : List UInt8) : ((objectR l).getD object0).ok := by
  cases h : objectR l with
  | none => exact object0_ok
  | some x => exact (objectR_iff.1 h).1
theorem restObjs_iff {c : List (List UInt8)} {xs : List Object} : restObjs c = some xs ↔ (∀ x ∈ xs, x.ok) ∧ chainGood xs = true ∧ chainP xs = c := by
  unfold restObjs
  constructor
  · intro h
    split at h
    · rename_i hc
      cases h
      have e1 : ∀ p ∈ c, objectO ((objectR p).getD object0) = some p := fun p hp => by
        obtain ⟨y, hy⟩ := Option.isSome_iff_exists.1 (hc.2 p hp)
        rw [hy]; exact (objectR_iff.1 hy).2
      refine ⟨fun x hx => ?_, chainGood_iff.2 ⟨by simpa using hc.1, fun x hx => ?_⟩, ?_⟩
      · obtain ⟨p, _, rfl⟩ := List.mem_map.1 hx
        exact objectR_ok p
      · obtain ⟨p, hp, rfl⟩ := List.mem_map.1 hx
        rw [e1 p hp]; rfl
      · unfold chainP
        rw [List.map_map]
        conv => rhs; rw [← List.map_id c]
        refine List.map_congr_left fun p hp => ?_
        show (objectO ((objectR p).getD object0)).getD [] = p
        rw [e1 p hp]; rfl
    · cases h
  · rintro ⟨h1, h2, rfl⟩
    obtain ⟨h3, h4⟩ := chainGood_iff.1 h2
    obtain ⟨h5, h6⟩ := objects_back h1 h4
    rw [if_pos ⟨by unfold chainP; simpa using h3, h5⟩, h6]
theorem openP_zero : openP [0] = [] := rfl
theorem chainR_iff {l : List UInt8} {xs : List Object} : chainR l = some xs ↔ (∀ x ∈ xs, x.ok) ∧ chainO xs = some l := by
  unfold chainR
  constructor
  · intro h
    split at h
    · rename_i hc
      obtain ⟨h1, h2, h3⟩ := restObjs_iff.1 h
      refine ⟨h1, ?_⟩
      unfold chainO
      rcases hc with rfl | hne
      · rw [h3, openP_zero, joinO_some (by decide) h2]; rfl
      · obtain ⟨hj1, hj2⟩ := join_open hne
        rw [h3, joinO_some hj1 h2, hj2]
    · cases h
  · rintro ⟨h1, h2⟩
    obtain ⟨h3, h4, rfl⟩ := joinO_eq h2
    have eo := open_join h3
    rw [if_pos, eo]
    · exact restObjs_iff.2 ⟨h1, h4, rfl⟩
    · cases hc : chainP xs with
      | nil => exact .inl rfl
      | cons a r => right; rw [← hc, eo, hc]; simp
theorem kindIn_of {k : Nat} : kindIn k = true ↔ 1 ≤ k ∧ k ≤ 4 := by unfold kindIn; simp
theorem pktR_iff {l : List UInt8} {x : Pkt} : pktR l = some x ↔ x.ok ∧ pktO x = some l := by
  unfold pktR
  constructor
  · intro h
    split at h
    · rename_i hc
      obtain ⟨xs, hxs, rfl⟩ := Option.map_eq_some_iff.1 h
      obtain ⟨h1, h2⟩ := chainR_iff.1 hxs
      obtain ⟨hf, hl, hk⟩ := hc
      have hne : openP l ≠ [] := fun e => by rw [e] at hl; cases hl
      obtain ⟨hj1, hj2⟩ := join_open hne
      refine ⟨⟨takeN_lt _ 1, takeN_lt _ 1, takeN_lt _ 1, h1, takeB_length _ _⟩, ?_⟩
      have e : pktP (pktOf (openP l) xs) = openP l := by
        unfold pktP pktOf
        simp only
        rw [h2]
        generalize openP l = ps at *
        match ps, hl, hf with
        | [a, b, c, d, e, f], _, hf =>
          have ha := hf.1 1 rfl
          have hb := hf.2.1 1 rfl
          have hc := hf.2.2.1 1 rfl
          have hg := hf.2.2.2.2.2.1 64 rfl
          show [be 1 (takeN [a, b, c, d, e, f] 1), be 1 (takeN [b, c, d, e, f] 1), be 1 (takeN [c, d, e, f] 1), d, e, takeB 64 [f]] = _
          rw [takeN_cons ha, be_take ha, takeN_cons hb, be_take hb, takeN_cons hc, be_take hc, takeB_cons hg]
      unfold pktO
      rw [e, show (pktOf (openP l) xs).chain = xs from rfl, h2, joinO_some hj1 (by rw [show (pktOf (openP l) xs).kind = takeN (at2 (openP l)) 1 from rfl, hk]; rfl), hj2]
    · cases h
  · rintro ⟨h, h2⟩
    obtain ⟨h3, h4, rfl⟩ := joinO_eq h2
    have eo := open_join h3
    rw [Bool.and_eq_true] at h4
    obtain ⟨t, ht⟩ := Option.isSome_iff_exists.1 h4.1
    have hs := h.src
    have hd := h.dst
    have hk := h.kind
    have n1 : takeN (pktP x) 1 = x.src := (takeN_cons (be_length 1 _)).trans (num_be' (by omega))
    have n2 : takeN (at1 (pktP x)) 1 = x.dst := (takeN_cons (be_length 1 _)).trans (num_be' (by omega))
    have n3 : takeN (at2 (pktP x)) 1 = x.kind := (takeN_cons (be_length 1 _)).trans (num_be' (by omega))
    have n4 : nextP (at3 (pktP x)) = t := by show (chainO x.chain).getD [] = t; rw [ht]; rfl
    have n5 : nextP (at4 (pktP x)) = x.body := rfl
    have n6 : takeB 64 (at5 (pktP x)) = x.sig := takeB_cons h.sig
    have hc : pktC (joinB (pktP x)) := by
      unfold pktC
      rw [eo, n3]
      exact ⟨⟨fun n e => by cases e; exact be_length _ _, fun n e => by cases e; exact be_length _ _, fun n e => by cases e; exact be_length _ _, (fun n e => by cases e), (fun n e => by cases e), fun n e => by cases e; exact h.sig, trivial⟩, rfl, h4.2⟩
    rw [if_pos hc, eo, n4, chainR_iff.2 ⟨h.chain, ht⟩]
    show some (pktOf (pktP x) x.chain) = some x
    unfold pktOf
    rw [n1, n2, n3, n5, n6]
theorem pktR_ok (l : List UInt8) : ((pktR l).getD pkt0).ok := by
  cases h : pktR l with
  | none => exact pkt0_ok
  | some x => exact (pktR_iff.1 h).1

/-! The loop that reads objects: c: all pieces; xs: read; ps: left; er: the error. -/
def OInv (c : List (List UInt8)) (why0 : Nat) (xs : List Object) (ps : List (List UInt8)) (why : Nat) : Prop :=
  (∀ x ∈ xs, x.ok) ∧ xs.length ≤ 4 ∧ ((why = why0 ∧ ∃ d, c = d ++ ps ∧ d.map objectR = xs.map some) ∨ (why = 141 ∧ ∃ p ∈ c, objectR p = none))
theorem OInv.start (c : List (List UInt8)) (why0 : Nat) : OInv c why0 [] c why0 := ⟨by simp, by simp, .inl ⟨rfl, [], rfl, rfl⟩⟩
theorem OInv.step {c : List (List UInt8)} {xs : List Object} {p : List UInt8} {r : List (List UInt8)} (h : OInv c 0 xs (p :: r) 0) (h4 : xs.length < 4) : OInv c 0 (xs ++ [(objectR p).getD object0]) r (if (objectR p).isSome then 0 else 141) := by
  obtain ⟨h1, h2, h3⟩ := h
  refine ⟨fun b hb => ?_, by simp; omega, ?_⟩
  · rcases List.mem_append.1 hb with hb | hb
    · exact h1 b hb
    · rw [List.mem_singleton] at hb; subst hb; exact objectR_ok p
  · rcases h3 with ⟨_, d, hd, hm⟩ | ⟨h, _⟩
    · cases hp : objectR p with
      | none => exact .inr ⟨rfl, p, by rw [hd]; simp, hp⟩
      | some b => exact .inl ⟨rfl, d ++ [p], by rw [hd]; simp, by simp [hm, hp]⟩
    · cases h
theorem OInv.done {c : List (List UInt8)} {why0 : Nat} (h0 : why0 = 0 ∨ why0 = 141) {xs : List Object} {ps : List (List UInt8)} {why : Nat} (h : OInv c why0 xs ps why) (hx : ps = [] ∨ 4 ≤ xs.length ∨ why ≠ 0) : endW ps why = (if why0 = 0 ∧ (restObjs c).isSome = true then 0 else 141) ∧ (why0 = 0 → ∀ ys, restObjs c = some ys → ys = xs) := by
  obtain ⟨h1, h2, h3⟩ := h
  rcases h3 with ⟨rfl, d, hd, hm⟩ | ⟨rfl, p, hp, hpn⟩
  · rcases h0 with rfl | rfl
    · have hlen : d.length = xs.length := by have := congrArg List.length hm; simpa using this
      by_cases hps : ps = []
      · subst hps
        rw [List.append_nil] at hd
        have hall : ∀ p ∈ d, (objectR p).isSome = true := fun p hp => by
          have : objectR p ∈ xs.map some := by rw [← hm]; exact List.mem_map.2 ⟨p, hp, rfl⟩
          obtain ⟨b, _, e⟩ := List.mem_map.1 this
          rw [← e]; rfl
        have e2 : d.map (fun p => (objectR p).getD object0) = xs := by
          have := congrArg (List.map fun o : Option Object => o.getD object0) hm
          rw [List.map_map, List.map_map] at this
          refine this.trans ?_
          conv => rhs; rw [← List.map_id xs]
          exact List.map_congr_left fun _ _ => rfl
        have hr : restObjs c = some xs := by
          unfold restObjs
          rw [hd, if_pos ⟨by omega, hall⟩, e2]
        rw [hr]
        exact ⟨rfl, fun _ ys hy => (Option.some.inj hy).symm⟩
      · have h9 : 4 ≤ xs.length := by
          rcases hx with hx | hx | hx
          · exact absurd hx hps
          · exact hx
          · exact absurd rfl hx
        have hpl : 0 < ps.length := List.length_pos_iff.2 hps
        have hr : restObjs c = none := by
          unfold restObjs
          exact if_neg (fun h => by have h1 := h.1; rw [hd, List.length_append] at h1; omega)
        rw [hr]
        refine ⟨?_, fun _ ys hy => by cases hy⟩
        unfold endW
        rw [if_neg hps]; rfl
    · exact ⟨(endW_141 _).trans (if_neg (fun h => by cases h.1)).symm, fun h => by cases h⟩
  · have hr : restObjs c = none := by
      unfold restObjs
      exact if_neg (fun h => by have := h.2 p hp; rw [hpn] at this; cases this)
    rw [hr]
    exact ⟨(endW_141 _).trans (if_neg (fun h => by cases h.2)).symm, fun _ ys hy => by cases hy⟩
/-- What the inner reader says at its end: the pieces' list, or the error. -/
theorem chain_end {l : List UInt8} {c : List (List UInt8)} {why0 : Nat} (hc : (l = [0] ∧ c = [] ∧ why0 = 0) ∨ (l ≠ [0] ∧ c = openP l ∧ why0 = openW l)) {xs : List Object} {ps : List (List UInt8)} {why : Nat} (h : OInv c why0 xs ps why) (hx : ps = [] ∨ 4 ≤ xs.length ∨ why ≠ 0) : endW ps why = (if (chainR l).isSome then 0 else 141) ∧ ∀ ys, chainR l = some ys → ys = xs := by
  rcases hc with ⟨rfl, rfl, rfl⟩ | ⟨hl, rfl, rfl⟩
  · obtain ⟨h1, h2⟩ := h.done (.inl rfl) hx
    have e : chainR [0] = restObjs [] := if_pos (.inl rfl)
    rw [e, h1]
    refine ⟨?_, fun ys hy => h2 rfl ys hy⟩
    cases (restObjs []).isSome <;> rfl
  · rcases openW_cases l with ⟨h1, h2⟩ | ⟨h1, h2⟩
    · have e : chainR l = none := if_neg (by rintro (h | h) <;> contradiction)
      rw [h2] at h
      rw [e, (h.done (.inr rfl) hx).1]
      exact ⟨rfl, fun ys hy => by cases hy⟩
    · have e : chainR l = restObjs (openP l) := if_pos (.inr h1)
      rw [h2] at h
      obtain ⟨h3, h4⟩ := h.done (.inl rfl) hx
      rw [e, h3]
      refine ⟨?_, fun ys hy => h4 rfl ys hy⟩
      cases (restObjs (openP l)).isSome <;> rfl
theorem pkt_why (l : List UInt8) (hk : ¬ kindBad (openP l)) : endW ((at5 (openP l)).drop 1) (lenW (at5 (openP l)) (nextW (at4 (openP l)) (failW (nextW (at3 (openP l)) (lenW (at2 (openP l)) (lenW (at1 (openP l)) (lenW (openP l) (openW l) 1) 1) 1)) (if (chainR (nextP (at3 (openP l)))).isSome then 0 else 141))) 64) = if (pktR l).isSome then 0 else 141 := by
  obtain ⟨h1, h2⟩ := takesW_open (ks := [some 1, some 1, some 1, none]) (by simp) l
  by_cases hf : fitsP [some 1, some 1, some 1, none] (openP l)
  · have e4 : nextW (at3 (openP l)) (lenW (at2 (openP l)) (lenW (at1 (openP l)) (lenW (openP l) (openW l) 1) 1) 1) = 0 := h1 hf
    rw [e4, failW_0]
    unfold pktR pktC
    generalize openP l = ps at *
    match ps, hf with
    | a :: b :: c :: d :: r, hf =>
      have ha := hf.1 1 rfl
      have hb := hf.2.1 1 rfl
      have hc := hf.2.2.1 1 rfl
      show endW (r.drop 1 |>.drop 1) (lenW (r.drop 1) (nextW r (if (chainR d).isSome then 0 else 141)) 64) = if (if fitsP pktK (a :: b :: c :: d :: r) ∧ (a :: b :: c :: d :: r).length = 6 ∧ kindIn (takeN (c :: d :: r) 1) = true then (chainR d).map (pktOf (a :: b :: c :: d :: r)) else none).isSome then 0 else 141
      cases hx : chainR d with
      | none =>
        have e1 : (if (Option.none (α := List Object)).isSome = true then 0 else 141) = 141 := rfl
        rw [e1, nextW_141, lenW_141, endW_141]
        split <;> rfl
      | some xs =>
        have e1 : (if (Option.some xs).isSome = true then 0 else 141) = 0 := rfl
        rw [e1]
        match r with
        | [] => rw [if_neg (show ¬ (fitsP pktK [a, b, c, d] ∧ [a, b, c, d].length = 6 ∧ kindIn (takeN [c, d] 1) = true) from fun h => by have := h.2.1; simp at this)]; rfl
        | [x] => rw [if_neg (show ¬ (fitsP pktK [a, b, c, d, x] ∧ [a, b, c, d, x].length = 6 ∧ kindIn (takeN [c, d, x] 1) = true) from fun h => by have := h.2.1; simp at this)]; rfl
        | x :: s :: t =>
          rw [nextW_cons]
          show endW t (lenW (s :: t) 0 64) = _
          rw [lenW_cons]
          by_cases hs : s.length = 64
          · rw [if_pos hs]
            match t with
            | [] =>
              have hkk : kindIn (takeN [c, d, x, s] 1) = true := by
                rw [takeN_cons hc]
                cases hq : kindIn (num c) with
                | true => rfl
                | false => exact absurd ⟨by simp, hc, hq⟩ hk
              rw [if_pos (show fitsP pktK [a, b, c, d, x, s] ∧ [a, b, c, d, x, s].length = 6 ∧ kindIn (takeN [c, d, x, s] 1) = true from ⟨⟨fun n e => by cases e; exact ha, fun n e => by cases e; exact hb, fun n e => by cases e; exact hc, (fun n e => by cases e), (fun n e => by cases e), fun n e => by cases e; exact hs, trivial⟩, rfl, hkk⟩)]
              rfl
            | y :: u => rw [if_neg (show ¬ (fitsP pktK (a :: b :: c :: d :: x :: s :: y :: u) ∧ (a :: b :: c :: d :: x :: s :: y :: u).length = 6 ∧ kindIn (takeN (c :: d :: x :: s :: y :: u) 1) = true) from fun h => by have := h.2.1; simp at this)]; rfl
          · rw [if_neg hs, endW_141, if_neg (show ¬ (fitsP pktK (a :: b :: c :: d :: x :: s :: t) ∧ (a :: b :: c :: d :: x :: s :: t).length = 6 ∧ kindIn (takeN (c :: d :: x :: s :: t) 1) = true) from fun h => hs (h.1.2.2.2.2.2.1 64 rfl))]; rfl
    | [_, _, _], hf => exact hf.2.2.2.elim
    | [_, _], hf => exact hf.2.2.elim
    | [_], hf => exact hf.2.elim
    | [], hf => exact hf.elim
  · have e4 : nextW (at3 (openP l)) (lenW (at2 (openP l)) (lenW (at1 (openP l)) (lenW (openP l) (openW l) 1) 1) 1) = 141 := h2 hf
    rw [e4, failW_pos (by decide), nextW_141, lenW_141, endW_141]
    have hr : pktR l = none := if_neg (fun h => hf (by
      obtain ⟨h, _⟩ := h
      generalize openP l = ps at *
      match ps, h with
      | a :: b :: c :: d :: r, h => exact ⟨h.1, h.2.1, h.2.2.1, h.2.2.2.1, trivial⟩
      | [_, _, _], hf => exact hf.2.2.2.elim
      | [_, _], hf => exact hf.2.2.elim
      | [_], hf => exact hf.2.elim
      | [], hf => exact hf.elim))
    rw [hr]; rfl
theorem pktW_bad {l : List UInt8} (h : kindBad (openP l)) : pktR l = none ∧ pktW l = 140 := by
  have hr : pktR l = none := if_neg (fun hc => by
    obtain ⟨_, h2, h3⟩ := h
    have h4 := hc.2.2
    unfold takeN at h4
    rw [if_pos h2] at h4
    rw [h4] at h3; cases h3)
  refine ⟨hr, ?_⟩
  unfold pktW
  rw [hr, if_neg (by simp), if_pos h]
theorem pktW_good {l : List UInt8} (h : ¬ kindBad (openP l)) : pktW l = if (pktR l).isSome then 0 else 141 := by
  unfold pktW
  rw [if_neg h]
theorem pkt_is {l : List UInt8} {y : Pkt} (h : pktR l = some y) {xs : List Object} (hx : ∀ ys, chainR (nextP (at3 (openP l))) = some ys → ys = xs) : y = pktOf (openP l) xs := by
  unfold pktR at h
  split at h
  · obtain ⟨ys, hys, rfl⟩ := Option.map_eq_some_iff.1 h
    rw [hx ys hys]
  · cases h
end Go.Pl

/- Packets as cells. -/
namespace Go.Proofs.Ytcfecmoagfgnaaa
open Go.Vc Go.Pl

abbrev pktV (x : Pkt) (q : Option Addr) (d : Nat) (p : Option Addr) (c : Nat) : List (List Value) := [[.int .u8 x.src], [.int .u8 x.dst], [.int .u8 x.kind], [.slice q x.chain.length d], [.slice p x.body.length c], x.sig.map bv]
abbrev pktL : List Nat := [1, 1, 1, 1, 1, 64]
theorem zero118 : (Try.prog.info? 118).bind (·.zero) = some (.agg (cat (pktV pkt0 none 0 none 0)).toArray) := by kernel_rfl
theorem built118 : Try.prog.built 118 [] = some (cat (pktV pkt0 none 0 none 0)).toArray := by kernel_rfl
abbrev pktZ : List (List Value) := [[.int .u8 0], [.int .u8 0], [.int .u8 0], [.slice none 0 0], [.slice none 0 0], (zeros 64).map bv]
abbrev pktFL : List Nat := [1, 1, 1, 1, 1, 64]
theorem plan118 : planOf Try.prog 118 = some (placesL 0 pktFL, (cat pktZ).toArray) := by kernel_rfl
theorem pktV_len {x : Pkt} (h : x.ok) {q : Option Addr} {d : Nat} {p : Option Addr} {c : Nat} : (pktV x q d p c).map List.length = pktL := by simp [h.sig]
theorem pktV_ok1 (x : Pkt) (q : Option Addr) (d : Nat) (p : Option Addr) (c : Nat) : ok1 (cat (pktV x q d p c)) := by
  intro u hu
  rw [cat_eq] at hu
  simp only [List.mem_flatten, List.mem_cons, List.not_mem_nil, or_false] at hu
  obtain ⟨l, hl, hu⟩ := hu
  rcases hl with rfl | rfl | rfl | rfl | rfl | rfl <;> first | (simp only [List.mem_singleton] at hu; subst hu; rfl) | exact ok1_bytes _ u hu
theorem Mono_object : Mono objectR' := fun _ _ _ _ _ ha ⟨p, c, h1, h2, h3⟩ => ⟨p, c, h1, h2, h3.after Mono_vouch ha⟩
theorem el116 : Elem Try.prog 116 85 101 136 (.agg (cat (objectV object0 none 0)).toArray) := ⟨Try.underlying116, by kernel_rfl, by kernel_rfl, by kernel_rfl, by decide⟩
theorem one_object {K : List Nat} {w : World} {v : Object} (hv : v.ok) {q : Option Addr} {d : Nat} (hV : Arr 65 vouchR K w q v.vouches d) (j : Nat) (y : Object) (hj : [v][j]? = some y) : objectR' K w ((([Value.agg (cat (objectV v q d)).toArray].flatMap (·.cells.toList)).drop (j * 101)).take 101) y := by
  have hj0 : j = 0 := by have := (List.getElem?_eq_some_iff.1 hj).1; simp at this; exact this
  subst hj0
  simp at hj; subst hj
  refine ⟨q, d, hv, ?_, hV⟩
  have e : [Value.agg (cat (objectV v q d)).toArray].flatMap (·.cells.toList) = cat (objectV v q d) := by simp [Value.cells]
  rw [e, Nat.zero_mul, List.drop_zero, List.take_of_length_le (by rw [cat_size (objectV_len hv)]; decide)]
theorem newRowO {S : List Snap} {H : List Chunk} {w : World} (h : Own S H w) : Own S (arow 85 101 objectR' Mono_object none 0 ([] : List Object) :: H) w := Own.arow_nil Mono_object 85 101 h
theorem objectR'_ok1 : ∀ (K : List Nat) (w : World) (vs : List Value) (y : Object), objectR' K w vs y → ok1 vs := by
  rintro K w vs y ⟨p, c, _, rfl, _⟩
  exact objectV_ok1 _ _ _

end Go.Proofs.Ytcfecmoagfgnaaa

/- The rules of the walks, continued: ways that meet again. -/
namespace Go.Vc
section
variable {P : Program} {n : Nat} {Q Q' : Exit → Act → World → Prop} {σ : Sl} {G : World → Prop}
/-- Code behind other code is walked once, however many ways lead to it: x: what the ways differ in. -/
theorem VC.join {X : Type} {c y : Code} (τ : X → Sl) (G' : X → World → Prop) (p : X → Prop) (hx : (∀ x, p x → VC P n Q y (τ x) (G' x)) → VC P n (Exit.then (y.wp P Q) Q) c σ G) (hy : ∀ x, p x → VC P n Q y (τ x) (G' x)) : VC P n Q (.seq c y) σ G := VC.seq (hx hy)
theorem VX.join {X : Type} {y : Code} {τ : X → Sl} {G' : X → World → Prop} {p : X → Prop} (h : ∀ x, p x → VC P n Q y (τ x) (G' x)) (x : X) (hp : p x) (hs : sub (τ x) σ) (hG : ∀ w, G w → G' x w) : VX n (Exit.then (y.wp P Q) Q') .normal σ G :=
  fun a w ha hw => h x hp a w (ha.mono hs) (hG w hw)
end
end Go.Vc

