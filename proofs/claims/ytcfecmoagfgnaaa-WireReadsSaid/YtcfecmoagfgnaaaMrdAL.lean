/- The statement WireReads is proved, for every input: part 12 of 27 of the texts that it needs. -/
import Derived.Test.YtcfecmoagfgnaaaMrdAK
/- wire: what bytes are read as: items. -/
namespace Go.Proofs.Ytcfecmoagfgnaaa
open Go.Vc Go.Pl

theorem getItem_w {S : List Snap} {H : List Chunk} {w : World} (ho : Own S H w) {p : Option Addr} {l : List UInt8} {c : Nat} (hA : Bytes (keys H) w p l c) : Calls Try.prog 58 #[.slice p l.length c] w (Ret fun v w' => ∃ p c q d, v = .tuple #[.agg (cat (itemV ((itemR l).getD item0) p c q d)).toArray, .int .i64 ((itemW l : Nat) : Int)] ∧ Own S H w' ∧ Bytes (keys H) w' p ((itemR l).getD item0).letter.body c ∧ Arr 65 vouchR (keys H) w' q ((itemR l).getD item0).object.vouches d) := by
 refine enter (G := Own (⟨w, keys H⟩ :: S) H) ho.keep Try.func58 rfl Try.ntmps58 rfl ?_
 refine VC.sr ?_
 refine VL.alloc (L := itemL) (ps := (itemV (item0) none 0 none 0)) zero87 rfl rfl (fun g1 => ?_)
 refine VL.assign rfl ?_
 refine VL.nn ?_
 refine VC.sr ?_
 refine VL.move rfl ?_
 refine VL.call Try.func121 rfl (by decide) rfl (fun w' hw => open_R hw (hA.nowA (s := ⟨w, _⟩) Mono.byte hw)) (fun v => ?_)
 refine VL.ex fun g2 => VL.fact fun e3 => ?_
 subst e3
 refine VL.assign rfl ?_
 refine VL.nn ?_
 refine VC.sr ?_
 refine VL.move rfl ?_
 refine VL.call Try.func122 rfl (by decide) rfl (fun w' hw => byte_R (i := 0) rfl hw) (fun v => ?_)
 refine VL.fact fun e4 => ?_
 subst e4
 refine VL.set0 ?_
 refine VL.build (zs := itemZ) (L := itemFL) [(0, [.int .u8 (takeN (openP (l)) 1)])] plan87 rfl ⟨⟨rfl, ⟨_, rfl, rfl⟩, rfl⟩, trivial⟩ rfl ?_
 refine VL.newv (v' := .agg (cat (itemV ((Itm.mk (takeN (openP l) 1) 0 0 letter0 bundle0 object0)) none 0 none 0)).toArray) (by kernel_rfl) ?_
 refine VL.alloc (L := itemL) (ps := (itemV (item0) none 0 none 0)) zero87 rfl rfl (fun g5 => ?_)
 refine VL.store (L := itemL) (qs := (itemV ((Itm.mk (takeN (openP l) 1) 0 0 letter0 bundle0 object0)) none 0 none 0)) (ps' := (itemV ((Itm.mk (takeN (openP l) 1) 0 0 letter0 bundle0 object0)) none 0 none 0)) 0 0 28 rfl rfl rfl (.inl kd87) rfl rfl (itemV_len (⟨takeN_lt _ 1, show (0 : Nat) < 256 by decide, show (0 : Nat) < 256 by decide, letter0_ok, bundle0_ok, object0_ok⟩ : Itm.ok _)) (itemV_ok1 ((Itm.mk (takeN (openP l) 1) 0 0 letter0 bundle0 object0)) none 0 none 0) rfl rfl ?_
 refine VL.set0 ?_
 refine VL.nn ?_
 refine VC.seq ?_
 refine VC.sr ?_
 refine VL.move rfl ?_
 refine VL.nilCheck rfl ?_
 refine VL.fieldAddr rfl fo196_1 rfl ?_
 refine loadWhy 1 rfl (fun _ h => h) rfl ?_
 refine VL.neq rfl rfl ?_
 refine VL.case (fun h3_4 => ?_) (fun h3_4 => ?_)
 ·refine VL.nn ?_
  refine VC.yes rfl ?_
  refine VC.seq ?_
  apply VC.anyTA 6 1007 (F := [eqF _, eqF _, eqF _, eqF _, eqF _, eqF _]) [⟨[], []⟩, ⟨[], [4]⟩, ⟨[(18, 1)], []⟩, ⟨[(19, 2)], []⟩, ⟨[(20, 3)], []⟩, ⟨[(17, 0)], [2]⟩] [(21, 4)] [0, 2, 3, 4, 5, 6, 7, 8, 9, 10, 11, 12, 13, 14, 15, 16, 22, 23, 24, 25, 26, 27, 28, 29, 30, 31, 32, 33, 34, 35, 36, 37, 38, 39, 40, 41, 42, 43, 44, 45, 46, 47, 48, 49, 50, 51, 52, 53, 54, 55, 56, 57, 58, 59, 60, 61, 62, 63, 64, 65, 66, 68, 69, 70, 71, 72] rfl (by kernel_rfl) (by kernel_rfl) rfl rfl (by kernel_rfl) (by kernel_rfl) (by kernel_rfl) rfl ?obs4 ?end4
  case obs4 =>
   refine Obs.cons ?_ ?_
   ·refine obS (by kernel_rfl) rfl rfl (fun ph4 w4 hO4 => ?_)
    refine VL.build0 (cs := cat (itemV (item0) none 0 none 0)) built87 ?_
    exact VL.finS hO4 rfl rfl
   refine Obs.cons ?_ ?_
   ·refine obS (by kernel_rfl) rfl rfl (fun ph4 w4 hO4 => ?_)
    refine VL.move rfl ?_
    exact VL.finS hO4 rfl rfl
   refine Obs.cons ?_ ?_
   ·refine obS (by kernel_rfl) rfl rfl (fun ph4 w4 hO4 => ?_)
    rintro _ rfl
    refine VL.nilCheck rfl ?_
    exact VL.finS hO4 rfl rfl
   refine Obs.cons ?_ ?_
   ·refine obS (by kernel_rfl) rfl rfl (fun ph4 w4 hO4 => ?_)
    rintro _ rfl
    refine VL.fieldAddr rfl fo196_1 rfl ?_
    exact VL.finS hO4 rfl rfl
   refine Obs.cons ?_ ?_
   ·refine ob (by kernel_rfl) rfl (by kernel_rfl) rfl (fun w4 hO4 => ?_)
    rintro _ rfl
    refine loadWhy 1 rfl (fun _ e => e ▸ hO4) rfl ?_
    exact VL.finS hO4 rfl rfl
   refine Obs.cons ?_ ?_
   ·refine ob (by kernel_rfl) rfl (by kernel_rfl) rfl (fun w4 hO4 => ?_)
    rintro _ rfl
    refine VL.toOwn hO4 ?_
    refine VL.store (L := itemL) (qs := (itemV (item0) none 0 none 0)) (ps' := (itemV (item0) none 0 none 0)) 2 0 28 rfl rfl rfl (.inl kd87) rfl rfl (itemV_len item0_ok) (itemV_ok1 item0 none 0 none 0) rfl rfl ?_
    refine VL.set2 ?_
    exact VL.finO0 (fun _ h => h) (fun _ h => rfl)
   exact Obs.nil
  case end4 =>
   intro w4 hO4
   rintro _ rfl
   refine VL.toOwn hO4 ?_
   refine VL.assign rfl ?_
   refine VL.nn ?_
   refine VC.ret ?_
   refine VX.then_ret ?_
   refine VX.ret_cell (cs := cat (itemV (item0) none 0 none 0)) 2 rfl rfl rfl (by rw [cat_size (itemV_len item0_ok)]; exact kd87) (fun _ h => h) rfl rfl (fun we hw => ?_)
   obtain ⟨e1, e2⟩ := item_w0 h3_4
   exact ⟨none, 0, none, 0, by rw [e1]; exact congrArg (fun n : Nat => Value.tuple #[_, .int .i64 (n : Int)]) (e2).symm, hw.drop.drop.drop.subA, by rw [e1]; exact Arr.none, by rw [e1]; exact Arr.none⟩
 ·refine VL.nn ?_
  refine VC.no rfl ?_
  refine VC.skip ?_
  refine VX.next ?_
  refine VC.sr ?_
  refine VL.assign rfl ?_
  refine VL.nn ?_
  refine VC.seq ?_
  refine VC.sr ?_
  refine VL.fieldAddr rfl fo87_0 rfl ?_
  refine VL.load (v := .int .u8 ((Itm.mk (takeN (openP l) 1) 0 0 letter0 bundle0 object0).kind)) 0 0 rfl kd5 (fun _ h => h) rfl rfl rfl ?_
  refine VL.nn ?_
  refine VC.block ?_
  refine VC.sr ?_
  refine VL.eql rfl rfl ?_
  refine VL.case (fun h8_0 => ?_) (fun h8_0 => ?_)
  ·have h8_0 : takeN (openP l) 1 = 1 := by have h : ((takeN (openP l) 1 : Nat) : Int) = 1 := h8_0; omega
   refine VL.assign rfl ?_
   refine VL.nn ?_
   refine VC.yes rfl ?_
   refine VC.region ?_
   refine VL.move rfl ?_
   refine VL.call Try.func124 rfl (by decide) rfl (fun w' hw => piece_R (i := 1) rfl hw) (fun v => ?_)
   refine VL.at (fun w6 h1w => ?_)
   obtain ⟨p7, c8, rfl, hO10, hA9⟩ := h1w
   replace hO10 := ownSet1 hO10
   replace hA9 := arrSet1 hA9
   refine VL.toOwn hO10 ?_
   refine VL.call Try.func54 rfl (by decide) rfl (fun w' hw => getLetter_w hw (hA9.nowA (s := ⟨w6, _⟩) Mono.byte hw)) (fun v => ?_)
   refine VL.at (fun w11 h1w => ?_)
   obtain ⟨p13, c14, rfl, hO12, hA15⟩ := h1w
   refine VL.toOwn hO12 ?_
   refine VL.move rfl ?_
   refine VL.extract rfl rfl ?_
   refine VL.extract rfl rfl ?_
   refine VL.fieldAddr rfl fo87_3 rfl ?_
   refine VL.store (L := itemL) (qs := (letterV (((letterR (nextP ((openP (l)).drop 1))).getD letter0)) p13 c14)) 0 3 12 rfl rfl rfl (.inl kd72) rfl rfl (letterV_len (letterR_ok (nextP ((openP (l)).drop 1)))) (letterV_ok1 (((letterR (nextP ((openP (l)).drop 1))).getD letter0)) p13 c14) rfl rfl ?_
   refine VL.set0 ?_
   refine VL.assign rfl ?_
   refine VL.nil ?_
   refine VX.block_normal ?_
   refine VX.next ?_
   refine VC.sr ?_
   refine VL.move rfl ?_
   refine VL.move rfl ?_
   refine VL.call Try.func125 rfl (by decide) rfl (fun w' hw => fail_R (i := 1) rfl hw (if (letterR (nextP ((openP (l)).drop 1))).isSome then 0 else 141)) (fun v => ?_)
   refine VL.fact fun e16 => ?_
   subst e16
   refine VL.set1 ?_
   refine VL.nn ?_
   refine VC.seq ?_
   refine VC.sr ?_
   refine VL.move rfl ?_
   refine VL.call Try.func126 rfl (by decide) rfl (fun w' hw => end_R (i := 1) rfl hw) (fun v => ?_)
   refine VL.fact fun e17 => ?_
   subst e17
   refine VL.set1 ?_
   refine VL.neq rfl rfl ?_
   refine VL.case (fun h20_2 => ?_) (fun h20_2 => ?_)
   ·refine VL.nn ?_
    refine VC.yes rfl ?_
    refine VC.sr ?_
    refine VL.build0 (cs := cat (itemV (item0) none 0 none 0)) built87 ?_
    refine VL.store (L := itemL) (qs := (itemV (item0) none 0 none 0)) (ps' := (itemV (item0) none 0 none 0)) 2 0 28 rfl rfl rfl (.inl kd87) rfl rfl (itemV_len item0_ok) (itemV_ok1 item0 none 0 none 0) rfl rfl ?_
    refine VL.set2 ?_
    refine VL.assign rfl ?_
    refine VL.nn ?_
    refine VC.ret ?_
    refine VX.then_ret ?_
    refine VX.ret_cell (cs := cat (itemV (item0) none 0 none 0)) 2 rfl rfl rfl (by rw [cat_size (itemV_len item0_ok)]; exact kd87) (fun _ h => h) rfl rfl (fun we hw => ?_)
    obtain ⟨hn1, _⟩ := item_w1 h3_4 h8_0
    obtain ⟨e1, e2⟩ := itemW_none (by omega) (by omega) h20_2 hn1
    exact ⟨none, 0, none, 0, by rw [e1]; exact congrArg (fun n : Nat => Value.tuple #[_, .int .i64 (n : Int)]) (e2).symm, hw.drop.drop.drop.subA, by rw [e1]; exact Arr.none, by rw [e1]; exact Arr.none⟩
   ·refine VL.nn ?_
    refine VC.no rfl ?_
    refine VC.skip ?_
    refine VX.next ?_
    refine VC.sr ?_
    refine VL.loads (cs := cat (itemV ((Itm.mk (takeN (openP l) 1) 0 0 ((letterR (nextP ((openP l).drop 1))).getD letter0) bundle0 object0)) p13 c14 none 0)) 0 0 28 rfl kd87 (fun _ h => h) rfl rfl rfl rfl ?_
    refine VL.store (L := itemL) (qs := (itemV ((Itm.mk (takeN (openP l) 1) 0 0 ((letterR (nextP ((openP l).drop 1))).getD letter0) bundle0 object0)) p13 c14 none 0)) (ps' := (itemV ((Itm.mk (takeN (openP l) 1) 0 0 ((letterR (nextP ((openP l).drop 1))).getD letter0) bundle0 object0)) p13 c14 none 0)) 2 0 28 rfl rfl rfl (.inl kd87) rfl rfl (itemV_len (⟨takeN_lt _ 1, (show (0 : Nat) < 256 by decide), (show (0 : Nat) < 256 by decide), (letterR_ok _), bundle0_ok, object0_ok⟩ : Itm.ok _)) (itemV_ok1 ((Itm.mk (takeN (openP l) 1) 0 0 ((letterR (nextP ((openP l).drop 1))).getD letter0) bundle0 object0)) p13 c14 none 0) rfl rfl ?_
    refine VL.set2 ?_
    refine VL.assign rfl ?_
    refine VL.nn ?_
    refine VC.ret ?_
    refine VX.ret_cell (cs := cat (itemV ((Itm.mk (takeN (openP l) 1) 0 0 ((letterR (nextP ((openP l).drop 1))).getD letter0) bundle0 object0)) p13 c14 none 0)) 2 rfl rfl rfl (by rw [cat_size (itemV_len (⟨takeN_lt _ 1, (show (0 : Nat) < 256 by decide), (show (0 : Nat) < 256 by decide), (letterR_ok _), bundle0_ok, object0_ok⟩ : Itm.ok _))]; exact kd87) (fun _ h => h) rfl rfl (fun we hw => ?_)
    obtain ⟨hn1, hn2⟩ := item_w1 h3_4 h8_0
    obtain ⟨y, e1, e2⟩ := itemW_some (by omega) (by omega) h20_2 hn1
    have e3 := hn2 y e1
    have e4 := h8_0
    rw [e1, e2, e3]
    exact ⟨_, _, _, _, by rw [e4]; rfl, hw.drop.drop.drop.subA, (hA15.nowA (s := ⟨w11, _⟩) Mono.byte hw.drop.drop.drop), Arr.none⟩
  ·have h8_0 : takeN (openP l) 1 ≠ 1 := by have h : ¬ ((takeN (openP l) 1 : Nat) : Int) = 1 := h8_0; omega
   refine VL.assign rfl ?_
   refine VL.nn ?_
   refine VC.no rfl ?_
   refine VC.seq ?_
   refine VC.sr ?_
   refine VL.eql rfl rfl ?_
   refine VL.case (fun h10_0 => ?_) (fun h10_0 => ?_)
   ·have h10_0 : takeN (openP l) 1 = 2 := by have h : ((takeN (openP l) 1 : Nat) : Int) = 2 := h10_0; omega
    refine VL.assign rfl ?_
    refine VL.nn ?_
    refine VC.yes rfl ?_
    refine VC.skip ?_
    refine VX.next ?_
    refine VC.yes rfl ?_
    refine VC.region ?_
    refine VL.move rfl ?_
    refine VL.call Try.func122 rfl (by decide) rfl (fun w' hw => byte_R (i := 1) rfl hw) (fun v => ?_)
    refine VL.fact fun e18 => ?_
    subst e18
    refine VL.set1 ?_
    refine VL.move rfl ?_
    refine VL.call Try.func122 rfl (by decide) rfl (fun w' hw => byte_R (i := 1) rfl hw) (fun v => ?_)
    refine VL.fact fun e19 => ?_
    subst e19
    refine VL.set1 ?_
    refine VL.fieldAddr rfl fo87_1 rfl ?_
    refine VL.store (L := itemL) (qs := [[.int .u8 (takeN ((openP (l)).drop 1) 1)]]) 0 1 1 rfl rfl rfl (.inr ⟨kd5, rfl⟩) rfl rfl rfl (by intro u hu; simp [cat] at hu; subst hu; rfl) rfl rfl ?_
    refine VL.set0 ?_
    refine VL.fieldAddr rfl fo87_2 rfl ?_
    refine VL.store (L := itemL) (qs := [[.int .u8 (takeN (((openP (l)).drop 1).drop 1) 1)]]) 0 2 1 rfl rfl rfl (.inr ⟨kd5, rfl⟩) rfl rfl rfl (by intro u hu; simp [cat] at hu; subst hu; rfl) rfl rfl ?_
    refine VL.set0 ?_
    refine VL.nil ?_
    refine VX.block_normal ?_
    refine VX.next ?_
    refine VC.sr ?_
    refine VL.move rfl ?_
    refine VL.move rfl ?_
    refine VL.call Try.func125 rfl (by decide) rfl (fun w' hw => fail_R (i := 1) rfl hw (0)) (fun v => ?_)
    refine VL.fact fun e20 => ?_
    subst e20
    refine VL.set1 ?_
    refine VL.nn ?_
    refine VC.seq ?_
    refine VC.sr ?_
    refine VL.move rfl ?_
    refine VL.call Try.func126 rfl (by decide) rfl (fun w' hw => end_R (i := 1) rfl hw) (fun v => ?_)
    refine VL.fact fun e21 => ?_
    subst e21
    refine VL.set1 ?_
    refine VL.neq rfl rfl ?_
    refine VL.case (fun h20_2 => ?_) (fun h20_2 => ?_)
    ·refine VL.nn ?_
     refine VC.yes rfl ?_
     refine VC.sr ?_
     refine VL.build0 (cs := cat (itemV (item0) none 0 none 0)) built87 ?_
     refine VL.store (L := itemL) (qs := (itemV (item0) none 0 none 0)) (ps' := (itemV (item0) none 0 none 0)) 2 0 28 rfl rfl rfl (.inl kd87) rfl rfl (itemV_len item0_ok) (itemV_ok1 item0 none 0 none 0) rfl rfl ?_
     refine VL.set2 ?_
     refine VL.assign rfl ?_
     refine VL.nn ?_
     refine VC.ret ?_
     refine VX.then_ret ?_
     refine VX.ret_cell (cs := cat (itemV (item0) none 0 none 0)) 2 rfl rfl rfl (by rw [cat_size (itemV_len item0_ok)]; exact kd87) (fun _ h => h) rfl rfl (fun we hw => ?_)
     obtain ⟨hn1, _⟩ := item_w2 h3_4 (.inl h10_0)
     obtain ⟨e1, e2⟩ := itemW_none (by omega) (by omega) h20_2 hn1
     exact ⟨none, 0, none, 0, by rw [e1]; exact congrArg (fun n : Nat => Value.tuple #[_, .int .i64 (n : Int)]) (e2).symm, hw.drop.drop.drop.subA, by rw [e1]; exact Arr.none, by rw [e1]; exact Arr.none⟩
    ·refine VL.nn ?_
     refine VC.no rfl ?_
     refine VC.skip ?_
     refine VX.next ?_
     refine VC.sr ?_
     refine VL.loads (cs := cat (itemV ((Itm.mk (takeN (openP l) 1) (takeN ((openP l).drop 1) 1) (takeN (((openP l).drop 1).drop 1) 1) letter0 bundle0 object0)) none 0 none 0)) 0 0 28 rfl kd87 (fun _ h => h) rfl rfl rfl rfl ?_
     refine VL.store (L := itemL) (qs := (itemV ((Itm.mk (takeN (openP l) 1) (takeN ((openP l).drop 1) 1) (takeN (((openP l).drop 1).drop 1) 1) letter0 bundle0 object0)) none 0 none 0)) (ps' := (itemV ((Itm.mk (takeN (openP l) 1) (takeN ((openP l).drop 1) 1) (takeN (((openP l).drop 1).drop 1) 1) letter0 bundle0 object0)) none 0 none 0)) 2 0 28 rfl rfl rfl (.inl kd87) rfl rfl (itemV_len (⟨takeN_lt _ 1, (takeN_lt _ 1), (takeN_lt _ 1), letter0_ok, bundle0_ok, object0_ok⟩ : Itm.ok _)) (itemV_ok1 ((Itm.mk (takeN (openP l) 1) (takeN ((openP l).drop 1) 1) (takeN (((openP l).drop 1).drop 1) 1) letter0 bundle0 object0)) none 0 none 0) rfl rfl ?_
     refine VL.set2 ?_
     refine VL.assign rfl ?_
     refine VL.nn ?_
     refine VC.ret ?_
     refine VX.ret_cell (cs := cat (itemV ((Itm.mk (takeN (openP l) 1) (takeN ((openP l).drop 1) 1) (takeN (((openP l).drop 1).drop 1) 1) letter0 bundle0 object0)) none 0 none 0)) 2 rfl rfl rfl (by rw [cat_size (itemV_len (⟨takeN_lt _ 1, (takeN_lt _ 1), (takeN_lt _ 1), letter0_ok, bundle0_ok, object0_ok⟩ : Itm.ok _))]; exact kd87) (fun _ h => h) rfl rfl (fun we hw => ?_)
     obtain ⟨hn1, hn2⟩ := item_w2 h3_4 (.inl h10_0)
     obtain ⟨y, e1, e2⟩ := itemW_some (by omega) (by omega) h20_2 hn1
     have e3 := hn2 y e1
     rw [e1, e2, e3]
     exact ⟨_, _, _, _, rfl, hw.drop.drop.drop.subA, Arr.none, Arr.none⟩
   ·have h10_0 : takeN (openP l) 1 ≠ 2 := by have h : ¬ ((takeN (openP l) 1 : Nat) : Int) = 2 := h10_0; omega
    refine VL.assign rfl ?_
    refine VL.nn ?_
    refine VC.no rfl ?_
    refine VC.region ?_
    refine VL.eql rfl rfl ?_
    refine VL.case (fun h11_0 => ?_) (fun h11_0 => ?_)
    ·have h11_0 : takeN (openP l) 1 = 4 := by have h : ((takeN (openP l) 1 : Nat) : Int) = 4 := h11_0; omega
     refine VL.assign rfl ?_
     refine VL.nn ?_
     refine VC.yes rfl ?_
     refine VC.region ?_
     refine VL.move rfl ?_
     refine VL.call Try.func122 rfl (by decide) rfl (fun w' hw => byte_R (i := 1) rfl hw) (fun v => ?_)
     refine VL.fact fun e22 => ?_
     subst e22
     refine VL.set1 ?_
     refine VL.move rfl ?_
     refine VL.call Try.func122 rfl (by decide) rfl (fun w' hw => byte_R (i := 1) rfl hw) (fun v => ?_)
     refine VL.fact fun e23 => ?_
     subst e23
     refine VL.set1 ?_
     refine VL.fieldAddr rfl fo87_1 rfl ?_
     refine VL.store (L := itemL) (qs := [[.int .u8 (takeN ((openP (l)).drop 1) 1)]]) 0 1 1 rfl rfl rfl (.inr ⟨kd5, rfl⟩) rfl rfl rfl (by intro u hu; simp [cat] at hu; subst hu; rfl) rfl rfl ?_
     refine VL.set0 ?_
     refine VL.fieldAddr rfl fo87_2 rfl ?_
     refine VL.store (L := itemL) (qs := [[.int .u8 (takeN (((openP (l)).drop 1).drop 1) 1)]]) 0 2 1 rfl rfl rfl (.inr ⟨kd5, rfl⟩) rfl rfl rfl (by intro u hu; simp [cat] at hu; subst hu; rfl) rfl rfl ?_
     refine VL.set0 ?_
     refine VL.nil ?_
     refine VX.block_normal ?_
     refine VX.next ?_
     refine VC.sr ?_
     refine VL.move rfl ?_
     refine VL.move rfl ?_
     refine VL.call Try.func125 rfl (by decide) rfl (fun w' hw => fail_R (i := 1) rfl hw (0)) (fun v => ?_)
     refine VL.fact fun e24 => ?_
     subst e24
     refine VL.set1 ?_
     refine VL.nn ?_
     refine VC.seq ?_
     refine VC.sr ?_
     refine VL.move rfl ?_
     refine VL.call Try.func126 rfl (by decide) rfl (fun w' hw => end_R (i := 1) rfl hw) (fun v => ?_)
     refine VL.fact fun e25 => ?_
     subst e25
     refine VL.set1 ?_
     refine VL.neq rfl rfl ?_
     refine VL.case (fun h20_2 => ?_) (fun h20_2 => ?_)
     ·refine VL.nn ?_
      refine VC.yes rfl ?_
      refine VC.sr ?_
      refine VL.build0 (cs := cat (itemV (item0) none 0 none 0)) built87 ?_
      refine VL.store (L := itemL) (qs := (itemV (item0) none 0 none 0)) (ps' := (itemV (item0) none 0 none 0)) 2 0 28 rfl rfl rfl (.inl kd87) rfl rfl (itemV_len item0_ok) (itemV_ok1 item0 none 0 none 0) rfl rfl ?_
      refine VL.set2 ?_
      refine VL.assign rfl ?_
      refine VL.nn ?_
      refine VC.ret ?_
      refine VX.then_ret ?_
      refine VX.ret_cell (cs := cat (itemV (item0) none 0 none 0)) 2 rfl rfl rfl (by rw [cat_size (itemV_len item0_ok)]; exact kd87) (fun _ h => h) rfl rfl (fun we hw => ?_)
      obtain ⟨hn1, _⟩ := item_w2 h3_4 (.inr h11_0)
      obtain ⟨e1, e2⟩ := itemW_none (by omega) (by omega) h20_2 hn1
      exact ⟨none, 0, none, 0, by rw [e1]; exact congrArg (fun n : Nat => Value.tuple #[_, .int .i64 (n : Int)]) (e2).symm, hw.drop.drop.drop.subA, by rw [e1]; exact Arr.none, by rw [e1]; exact Arr.none⟩
     ·refine VL.nn ?_
      refine VC.no rfl ?_
      refine VC.skip ?_
      refine VX.next ?_
      refine VC.sr ?_
      refine VL.loads (cs := cat (itemV ((Itm.mk (takeN (openP l) 1) (takeN ((openP l).drop 1) 1) (takeN (((openP l).drop 1).drop 1) 1) letter0 bundle0 object0)) none 0 none 0)) 0 0 28 rfl kd87 (fun _ h => h) rfl rfl rfl rfl ?_
      refine VL.store (L := itemL) (qs := (itemV ((Itm.mk (takeN (openP l) 1) (takeN ((openP l).drop 1) 1) (takeN (((openP l).drop 1).drop 1) 1) letter0 bundle0 object0)) none 0 none 0)) (ps' := (itemV ((Itm.mk (takeN (openP l) 1) (takeN ((openP l).drop 1) 1) (takeN (((openP l).drop 1).drop 1) 1) letter0 bundle0 object0)) none 0 none 0)) 2 0 28 rfl rfl rfl (.inl kd87) rfl rfl (itemV_len (⟨takeN_lt _ 1, (takeN_lt _ 1), (takeN_lt _ 1), letter0_ok, bundle0_ok, object0_ok⟩ : Itm.ok _)) (itemV_ok1 ((Itm.mk (takeN (openP l) 1) (takeN ((openP l).drop 1) 1) (takeN (((openP l).drop 1).drop 1) 1) letter0 bundle0 object0)) none 0 none 0) rfl rfl ?_
      refine VL.set2 ?_
      refine VL.assign rfl ?_
      refine VL.nn ?_
      refine VC.ret ?_
      refine VX.ret_cell (cs := cat (itemV ((Itm.mk (takeN (openP l) 1) (takeN ((openP l).drop 1) 1) (takeN (((openP l).drop 1).drop 1) 1) letter0 bundle0 object0)) none 0 none 0)) 2 rfl rfl rfl (by rw [cat_size (itemV_len (⟨takeN_lt _ 1, (takeN_lt _ 1), (takeN_lt _ 1), letter0_ok, bundle0_ok, object0_ok⟩ : Itm.ok _))]; exact kd87) (fun _ h => h) rfl rfl (fun we hw => ?_)
      obtain ⟨hn1, hn2⟩ := item_w2 h3_4 (.inr h11_0)
      obtain ⟨y, e1, e2⟩ := itemW_some (by omega) (by omega) h20_2 hn1
      have e3 := hn2 y e1
      rw [e1, e2, e3]
      exact ⟨_, _, _, _, rfl, hw.drop.drop.drop.subA, Arr.none, Arr.none⟩
    ·have h11_0 : takeN (openP l) 1 ≠ 4 := by have h : ¬ ((takeN (openP l) 1 : Nat) : Int) = 4 := h11_0; omega
     refine VL.assign rfl ?_
     refine VL.nn ?_
     refine VC.no rfl ?_
     refine VC.sr ?_
     refine VL.eql rfl rfl ?_
     refine VL.case (fun h13_0 => ?_) (fun h13_0 => ?_)
     ·have h13_0 : takeN (openP l) 1 = 3 := by have h : ((takeN (openP l) 1 : Nat) : Int) = 3 := h13_0; omega
      refine VL.assign rfl ?_
      refine VL.nn ?_
      refine VC.yes rfl ?_
      refine VC.sr ?_
      refine VL.move rfl ?_
      refine VL.call Try.func122 rfl (by decide) rfl (fun w' hw => byte_R (i := 1) rfl hw) (fun v => ?_)
      refine VL.fact fun e26 => ?_
      subst e26
      refine VL.set1 ?_
      refine VL.fieldAddr rfl fo87_1 rfl ?_
      refine VL.store (L := itemL) (qs := [[.int .u8 (takeN ((openP (l)).drop 1) 1)]]) 0 1 1 rfl rfl rfl (.inr ⟨kd5, rfl⟩) rfl rfl rfl (by intro u hu; simp [cat] at hu; subst hu; rfl) rfl rfl ?_
      refine VL.set0 ?_
      refine VL.nn ?_
      refine VC.region ?_
      refine VL.move rfl ?_
      refine VL.call Try.func124 rfl (by decide) rfl (fun w' hw => piece_R (i := 1) rfl hw) (fun v => ?_)
      refine VL.at (fun w27 h1w => ?_)
      obtain ⟨p28, c29, rfl, hO31, hA30⟩ := h1w
      replace hO31 := ownSet1 hO31
      replace hA30 := arrSet1 hA30
      refine VL.toOwn hO31 ?_
      refine VL.call Try.func61 rfl (by decide) rfl (fun w' hw => getBundle_w hw (hA30.nowA (s := ⟨w27, _⟩) Mono.byte hw)) (fun v => ?_)
      refine VL.fact fun e32 => ?_
      subst e32
      refine VL.move rfl ?_
      refine VL.extract rfl rfl ?_
      refine VL.extract rfl rfl ?_
      refine VL.fieldAddr rfl fo87_4 rfl ?_
      refine VL.store (L := itemL) (qs := (bundleV (((bundleR (nextP (((openP (l)).drop 1).drop 1))).getD bundle0)))) 0 15 6 rfl rfl rfl (.inl kd82) rfl rfl (bundleV_len (bundleR_ok (nextP (((openP (l)).drop 1).drop 1)))) (bundleV_ok1 (((bundleR (nextP (((openP (l)).drop 1).drop 1))).getD bundle0))) rfl rfl ?_
      refine VL.set0 ?_
      refine VL.assign rfl ?_
      refine VL.nil ?_
      refine VX.block_normal ?_
      refine VX.next ?_
      refine VC.sr ?_
      refine VL.move rfl ?_
      refine VL.move rfl ?_
      refine VL.call Try.func125 rfl (by decide) rfl (fun w' hw => fail_R (i := 1) rfl hw (if (bundleR (nextP (((openP (l)).drop 1).drop 1))).isSome then 0 else 141)) (fun v => ?_)
      refine VL.fact fun e33 => ?_
      subst e33
      refine VL.set1 ?_
      refine VL.nn ?_
      refine VC.seq ?_
      refine VC.sr ?_
      refine VL.move rfl ?_
      refine VL.call Try.func126 rfl (by decide) rfl (fun w' hw => end_R (i := 1) rfl hw) (fun v => ?_)
      refine VL.fact fun e34 => ?_
      subst e34
      refine VL.set1 ?_
      refine VL.neq rfl rfl ?_
      refine VL.case (fun h20_2 => ?_) (fun h20_2 => ?_)
      ·refine VL.nn ?_
       refine VC.yes rfl ?_
       refine VC.sr ?_
       refine VL.build0 (cs := cat (itemV (item0) none 0 none 0)) built87 ?_
       refine VL.store (L := itemL) (qs := (itemV (item0) none 0 none 0)) (ps' := (itemV (item0) none 0 none 0)) 2 0 28 rfl rfl rfl (.inl kd87) rfl rfl (itemV_len item0_ok) (itemV_ok1 item0 none 0 none 0) rfl rfl ?_
       refine VL.set2 ?_
       refine VL.assign rfl ?_
       refine VL.nn ?_
       refine VC.ret ?_
       refine VX.then_ret ?_
       refine VX.ret_cell (cs := cat (itemV (item0) none 0 none 0)) 2 rfl rfl rfl (by rw [cat_size (itemV_len item0_ok)]; exact kd87) (fun _ h => h) rfl rfl (fun we hw => ?_)
       obtain ⟨hn1, _⟩ := item_w3 h3_4 h13_0
       obtain ⟨e1, e2⟩ := itemW_none (by omega) (by omega) h20_2 hn1
       exact ⟨none, 0, none, 0, by rw [e1]; exact congrArg (fun n : Nat => Value.tuple #[_, .int .i64 (n : Int)]) (e2).symm, hw.drop.drop.drop.subA, by rw [e1]; exact Arr.none, by rw [e1]; exact Arr.none⟩
      ·refine VL.nn ?_
       refine VC.no rfl ?_
       refine VC.skip ?_
       refine VX.next ?_
       refine VC.sr ?_
       refine VL.loads (cs := cat (itemV ((Itm.mk (takeN (openP l) 1) (takeN ((openP l).drop 1) 1) 0 letter0 ((bundleR (nextP (((openP l).drop 1).drop 1))).getD bundle0) object0)) none 0 none 0)) 0 0 28 rfl kd87 (fun _ h => h) rfl rfl rfl rfl ?_
       refine VL.store (L := itemL) (qs := (itemV ((Itm.mk (takeN (openP l) 1) (takeN ((openP l).drop 1) 1) 0 letter0 ((bundleR (nextP (((openP l).drop 1).drop 1))).getD bundle0) object0)) none 0 none 0)) (ps' := (itemV ((Itm.mk (takeN (openP l) 1) (takeN ((openP l).drop 1) 1) 0 letter0 ((bundleR (nextP (((openP l).drop 1).drop 1))).getD bundle0) object0)) none 0 none 0)) 2 0 28 rfl rfl rfl (.inl kd87) rfl rfl (itemV_len (⟨takeN_lt _ 1, (takeN_lt _ 1), (show (0 : Nat) < 256 by decide), letter0_ok, (bundleR_ok _), object0_ok⟩ : Itm.ok _)) (itemV_ok1 ((Itm.mk (takeN (openP l) 1) (takeN ((openP l).drop 1) 1) 0 letter0 ((bundleR (nextP (((openP l).drop 1).drop 1))).getD bundle0) object0)) none 0 none 0) rfl rfl ?_
       refine VL.set2 ?_
       refine VL.assign rfl ?_
       refine VL.nn ?_
       refine VC.ret ?_
       refine VX.ret_cell (cs := cat (itemV ((Itm.mk (takeN (openP l) 1) (takeN ((openP l).drop 1) 1) 0 letter0 ((bundleR (nextP (((openP l).drop 1).drop 1))).getD bundle0) object0)) none 0 none 0)) 2 rfl rfl rfl (by rw [cat_size (itemV_len (⟨takeN_lt _ 1, (takeN_lt _ 1), (show (0 : Nat) < 256 by decide), letter0_ok, (bundleR_ok _), object0_ok⟩ : Itm.ok _))]; exact kd87) (fun _ h => h) rfl rfl (fun we hw => ?_)
       obtain ⟨hn1, hn2⟩ := item_w3 h3_4 h13_0
       obtain ⟨y, e1, e2⟩ := itemW_some (by omega) (by omega) h20_2 hn1
       have e3 := hn2 y e1
       have e4 := h13_0
       rw [e1, e2, e3]
       exact ⟨_, _, _, _, by rw [e4]; rfl, hw.drop.drop.drop.subA, Arr.none, Arr.none⟩
     ·have h13_0 : takeN (openP l) 1 ≠ 3 := by have h : ¬ ((takeN (openP l) 1 : Nat) : Int) = 3 := h13_0; omega
      refine VL.assign rfl ?_
      refine VL.nn ?_
      refine VC.no rfl ?_
      refine VC.seq ?_
      refine VC.sr ?_
      refine VL.eql rfl rfl ?_
      refine VL.case (fun h16_0 => ?_) (fun h16_0 => ?_)
      ·have h16_0 : takeN (openP l) 1 = 5 := by have h : ((takeN (openP l) 1 : Nat) : Int) = 5 := h16_0; omega
       refine VL.assign rfl ?_
       refine VL.nn ?_
       refine VC.yes rfl ?_
       refine VC.skip ?_
       refine VX.next ?_
       refine VC.yes rfl ?_
       refine VC.region ?_
       refine VL.move rfl ?_
       refine VL.call Try.func124 rfl (by decide) rfl (fun w' hw => piece_R (i := 1) rfl hw) (fun v => ?_)
       refine VL.at (fun w35 h1w => ?_)
       obtain ⟨p36, c37, rfl, hO39, hA38⟩ := h1w
       replace hO39 := ownSet1 hO39
       replace hA38 := arrSet1 hA38
       refine VL.toOwn hO39 ?_
       refine VL.call Try.func71 rfl (by decide) rfl (fun w' hw => getObject_w hw (hA38.nowA (s := ⟨w35, _⟩) Mono.byte hw)) (fun v => ?_)
       refine VL.at (fun w40 h1w => ?_)
       obtain ⟨p42, c43, rfl, hO41, hA44⟩ := h1w
       refine VL.toOwn hO41 ?_
       refine VL.move rfl ?_
       refine VL.extract rfl rfl ?_
       refine VL.extract rfl rfl ?_
       refine VL.fieldAddr rfl fo87_5 rfl ?_
       refine VL.store (L := itemL) (qs := (objectV (((objectR (nextP ((openP (l)).drop 1))).getD object0)) p42 c43)) 0 21 7 rfl rfl rfl (.inl kd85) rfl rfl (objectV_len (objectR_ok (nextP ((openP (l)).drop 1)))) (objectV_ok1 (((objectR (nextP ((openP (l)).drop 1))).getD object0)) p42 c43) rfl rfl ?_
       refine VL.set0 ?_
       refine VL.assign rfl ?_
       refine VL.nil ?_
       refine VX.block_normal ?_
       refine VX.next ?_
       refine VC.sr ?_
       refine VL.move rfl ?_
       refine VL.move rfl ?_
       refine VL.call Try.func125 rfl (by decide) rfl (fun w' hw => fail_R (i := 1) rfl hw (if (objectR (nextP ((openP (l)).drop 1))).isSome then 0 else 141)) (fun v => ?_)
       refine VL.fact fun e45 => ?_
       subst e45
       refine VL.set1 ?_
       refine VL.nn ?_
       refine VC.seq ?_
       refine VC.sr ?_
       refine VL.move rfl ?_
       refine VL.call Try.func126 rfl (by decide) rfl (fun w' hw => end_R (i := 1) rfl hw) (fun v => ?_)
       refine VL.fact fun e46 => ?_
       subst e46
       refine VL.set1 ?_
       refine VL.neq rfl rfl ?_
       refine VL.case (fun h20_2 => ?_) (fun h20_2 => ?_)
       ·refine VL.nn ?_
        refine VC.yes rfl ?_
        refine VC.sr ?_
        refine VL.build0 (cs := cat (itemV (item0) none 0 none 0)) built87 ?_
        refine VL.store (L := itemL) (qs := (itemV (item0) none 0 none 0)) (ps' := (itemV (item0) none 0 none 0)) 2 0 28 rfl rfl rfl (.inl kd87) rfl rfl (itemV_len item0_ok) (itemV_ok1 item0 none 0 none 0) rfl rfl ?_
        refine VL.set2 ?_
        refine VL.assign rfl ?_
        refine VL.nn ?_
        refine VC.ret ?_
        refine VX.then_ret ?_
        refine VX.ret_cell (cs := cat (itemV (item0) none 0 none 0)) 2 rfl rfl rfl (by rw [cat_size (itemV_len item0_ok)]; exact kd87) (fun _ h => h) rfl rfl (fun we hw => ?_)
        obtain ⟨hn1, _⟩ := item_w5 h3_4 (.inl h16_0)
        obtain ⟨e1, e2⟩ := itemW_none (by omega) (by omega) h20_2 hn1
        exact ⟨none, 0, none, 0, by rw [e1]; exact congrArg (fun n : Nat => Value.tuple #[_, .int .i64 (n : Int)]) (e2).symm, hw.drop.drop.drop.subA, by rw [e1]; exact Arr.none, by rw [e1]; exact Arr.none⟩
       ·refine VL.nn ?_
        refine VC.no rfl ?_
        refine VC.skip ?_
        refine VX.next ?_
        refine VC.sr ?_
        refine VL.loads (cs := cat (itemV ((Itm.mk (takeN (openP l) 1) 0 0 letter0 bundle0 ((objectR (nextP ((openP l).drop 1))).getD object0))) none 0 p42 c43)) 0 0 28 rfl kd87 (fun _ h => h) rfl rfl rfl rfl ?_
        refine VL.store (L := itemL) (qs := (itemV ((Itm.mk (takeN (openP l) 1) 0 0 letter0 bundle0 ((objectR (nextP ((openP l).drop 1))).getD object0))) none 0 p42 c43)) (ps' := (itemV ((Itm.mk (takeN (openP l) 1) 0 0 letter0 bundle0 ((objectR (nextP ((openP l).drop 1))).getD object0))) none 0 p42 c43)) 2 0 28 rfl rfl rfl (.inl kd87) rfl rfl (itemV_len (⟨takeN_lt _ 1, (show (0 : Nat) < 256 by decide), (show (0 : Nat) < 256 by decide), letter0_ok, bundle0_ok, (objectR_ok _)⟩ : Itm.ok _)) (itemV_ok1 ((Itm.mk (takeN (openP l) 1) 0 0 letter0 bundle0 ((objectR (nextP ((openP l).drop 1))).getD object0))) none 0 p42 c43) rfl rfl ?_
        refine VL.set2 ?_
        refine VL.assign rfl ?_
        refine VL.nn ?_
        refine VC.ret ?_
        refine VX.ret_cell (cs := cat (itemV ((Itm.mk (takeN (openP l) 1) 0 0 letter0 bundle0 ((objectR (nextP ((openP l).drop 1))).getD object0))) none 0 p42 c43)) 2 rfl rfl rfl (by rw [cat_size (itemV_len (⟨takeN_lt _ 1, (show (0 : Nat) < 256 by decide), (show (0 : Nat) < 256 by decide), letter0_ok, bundle0_ok, (objectR_ok _)⟩ : Itm.ok _))]; exact kd87) (fun _ h => h) rfl rfl (fun we hw => ?_)
        obtain ⟨hn1, hn2⟩ := item_w5 h3_4 (.inl h16_0)
        obtain ⟨y, e1, e2⟩ := itemW_some (by omega) (by omega) h20_2 hn1
        have e3 := hn2 y e1
        rw [e1, e2, e3]
        exact ⟨_, _, _, _, rfl, hw.drop.drop.drop.subA, Arr.none, (hA44.nowA (s := ⟨w40, _⟩) Mono_vouch hw.drop.drop.drop)⟩
      ·have h16_0 : takeN (openP l) 1 ≠ 5 := by have h : ¬ ((takeN (openP l) 1 : Nat) : Int) = 5 := h16_0; omega
       refine VL.assign rfl ?_
       refine VL.nn ?_
       refine VC.no rfl ?_
       refine VC.region ?_
       refine VL.eql rfl rfl ?_
       refine VL.case (fun h17_0 => ?_) (fun h17_0 => ?_)
       ·have h17_0 : takeN (openP l) 1 = 6 := by have h : ((takeN (openP l) 1 : Nat) : Int) = 6 := h17_0; omega
        refine VL.assign rfl ?_
        refine VL.nn ?_
        refine VC.yes rfl ?_
        refine VC.region ?_
        refine VL.move rfl ?_
        refine VL.call Try.func124 rfl (by decide) rfl (fun w' hw => piece_R (i := 1) rfl hw) (fun v => ?_)
        refine VL.at (fun w47 h1w => ?_)
        obtain ⟨p48, c49, rfl, hO51, hA50⟩ := h1w
        replace hO51 := ownSet1 hO51
        replace hA50 := arrSet1 hA50
        refine VL.toOwn hO51 ?_
        refine VL.call Try.func71 rfl (by decide) rfl (fun w' hw => getObject_w hw (hA50.nowA (s := ⟨w47, _⟩) Mono.byte hw)) (fun v => ?_)
        refine VL.at (fun w52 h1w => ?_)
        obtain ⟨p54, c55, rfl, hO53, hA56⟩ := h1w
        refine VL.toOwn hO53 ?_
        refine VL.move rfl ?_
        refine VL.extract rfl rfl ?_
        refine VL.extract rfl rfl ?_
        refine VL.fieldAddr rfl fo87_5 rfl ?_
        refine VL.store (L := itemL) (qs := (objectV (((objectR (nextP ((openP (l)).drop 1))).getD object0)) p54 c55)) 0 21 7 rfl rfl rfl (.inl kd85) rfl rfl (objectV_len (objectR_ok (nextP ((openP (l)).drop 1)))) (objectV_ok1 (((objectR (nextP ((openP (l)).drop 1))).getD object0)) p54 c55) rfl rfl ?_
        refine VL.set0 ?_
        refine VL.assign rfl ?_
        refine VL.nil ?_
        refine VX.block_normal ?_
        refine VX.next ?_
        refine VC.sr ?_
        refine VL.move rfl ?_
        refine VL.move rfl ?_
        refine VL.call Try.func125 rfl (by decide) rfl (fun w' hw => fail_R (i := 1) rfl hw (if (objectR (nextP ((openP (l)).drop 1))).isSome then 0 else 141)) (fun v => ?_)
        refine VL.fact fun e57 => ?_
        subst e57
        refine VL.set1 ?_
        refine VL.nn ?_
        refine VC.seq ?_
        refine VC.sr ?_
        refine VL.move rfl ?_
        refine VL.call Try.func126 rfl (by decide) rfl (fun w' hw => end_R (i := 1) rfl hw) (fun v => ?_)
        refine VL.fact fun e58 => ?_
        subst e58
        refine VL.set1 ?_
        refine VL.neq rfl rfl ?_
        refine VL.case (fun h20_2 => ?_) (fun h20_2 => ?_)
        ·refine VL.nn ?_
         refine VC.yes rfl ?_
         refine VC.sr ?_
         refine VL.build0 (cs := cat (itemV (item0) none 0 none 0)) built87 ?_
         refine VL.store (L := itemL) (qs := (itemV (item0) none 0 none 0)) (ps' := (itemV (item0) none 0 none 0)) 2 0 28 rfl rfl rfl (.inl kd87) rfl rfl (itemV_len item0_ok) (itemV_ok1 item0 none 0 none 0) rfl rfl ?_
         refine VL.set2 ?_
         refine VL.assign rfl ?_
         refine VL.nn ?_
         refine VC.ret ?_
         refine VX.then_ret ?_
         refine VX.ret_cell (cs := cat (itemV (item0) none 0 none 0)) 2 rfl rfl rfl (by rw [cat_size (itemV_len item0_ok)]; exact kd87) (fun _ h => h) rfl rfl (fun we hw => ?_)
         obtain ⟨hn1, _⟩ := item_w5 h3_4 (.inr h17_0)
         obtain ⟨e1, e2⟩ := itemW_none (by omega) (by omega) h20_2 hn1
         exact ⟨none, 0, none, 0, by rw [e1]; exact congrArg (fun n : Nat => Value.tuple #[_, .int .i64 (n : Int)]) (e2).symm, hw.drop.drop.drop.subA, by rw [e1]; exact Arr.none, by rw [e1]; exact Arr.none⟩
        ·refine VL.nn ?_
         refine VC.no rfl ?_
         refine VC.skip ?_
         refine VX.next ?_
         refine VC.sr ?_
         refine VL.loads (cs := cat (itemV ((Itm.mk (takeN (openP l) 1) 0 0 letter0 bundle0 ((objectR (nextP ((openP l).drop 1))).getD object0))) none 0 p54 c55)) 0 0 28 rfl kd87 (fun _ h => h) rfl rfl rfl rfl ?_
         refine VL.store (L := itemL) (qs := (itemV ((Itm.mk (takeN (openP l) 1) 0 0 letter0 bundle0 ((objectR (nextP ((openP l).drop 1))).getD object0))) none 0 p54 c55)) (ps' := (itemV ((Itm.mk (takeN (openP l) 1) 0 0 letter0 bundle0 ((objectR (nextP ((openP l).drop 1))).getD object0))) none 0 p54 c55)) 2 0 28 rfl rfl rfl (.inl kd87) rfl rfl (itemV_len (⟨takeN_lt _ 1, (show (0 : Nat) < 256 by decide), (show (0 : Nat) < 256 by decide), letter0_ok, bundle0_ok, (objectR_ok _)⟩ : Itm.ok _)) (itemV_ok1 ((Itm.mk (takeN (openP l) 1) 0 0 letter0 bundle0 ((objectR (nextP ((openP l).drop 1))).getD object0))) none 0 p54 c55) rfl rfl ?_
         refine VL.set2 ?_
         refine VL.assign rfl ?_
         refine VL.nn ?_
         refine VC.ret ?_
         refine VX.ret_cell (cs := cat (itemV ((Itm.mk (takeN (openP l) 1) 0 0 letter0 bundle0 ((objectR (nextP ((openP l).drop 1))).getD object0))) none 0 p54 c55)) 2 rfl rfl rfl (by rw [cat_size (itemV_len (⟨takeN_lt _ 1, (show (0 : Nat) < 256 by decide), (show (0 : Nat) < 256 by decide), letter0_ok, bundle0_ok, (objectR_ok _)⟩ : Itm.ok _))]; exact kd87) (fun _ h => h) rfl rfl (fun we hw => ?_)
         obtain ⟨hn1, hn2⟩ := item_w5 h3_4 (.inr h17_0)
         obtain ⟨y, e1, e2⟩ := itemW_some (by omega) (by omega) h20_2 hn1
         have e3 := hn2 y e1
         rw [e1, e2, e3]
         exact ⟨_, _, _, _, rfl, hw.drop.drop.drop.subA, Arr.none, (hA56.nowA (s := ⟨w52, _⟩) Mono_vouch hw.drop.drop.drop)⟩
       ·have h17_0 : takeN (openP l) 1 ≠ 6 := by have h : ¬ ((takeN (openP l) 1 : Nat) : Int) = 6 := h17_0; omega
        refine VL.assign rfl ?_
        refine VL.nn ?_
        refine VC.no rfl ?_
        refine VC.sr ?_
        refine VL.build0 (cs := cat (itemV (item0) none 0 none 0)) built87 ?_
        refine VL.store (L := itemL) (qs := (itemV (item0) none 0 none 0)) (ps' := (itemV (item0) none 0 none 0)) 2 0 28 rfl rfl rfl (.inl kd87) rfl rfl (itemV_len item0_ok) (itemV_ok1 item0 none 0 none 0) rfl rfl ?_
        refine VL.set2 ?_
        refine VL.assign rfl ?_
        refine VL.nn ?_
        refine VC.ret ?_
        refine VX.block_ret ?_
        refine VX.then_ret ?_
        refine VX.ret_cell (cs := cat (itemV (item0) none 0 none 0)) 2 rfl rfl rfl (by rw [cat_size (itemV_len item0_ok)]; exact kd87) (fun _ h => h) rfl rfl (fun we hw => ?_)
        obtain ⟨e1, e2⟩ := item_none h3_4 h8_0 h10_0 h13_0 h11_0 h16_0 h17_0
        exact ⟨none, 0, none, 0, by rw [e1]; exact congrArg (fun n : Nat => Value.tuple #[_, .int .i64 (n : Int)]) (e2).symm, hw.drop.drop.drop.subA, by rw [e1]; exact Arr.none, by rw [e1]; exact Arr.none⟩

end Go.Proofs.Ytcfecmoagfgnaaa

/- Calls as cells. -/
namespace Go.Proofs.Ytcfecmoagfgnaaa
open Go.Vc Go.Pl

structure Cal where
  kind : Nat
  seq : Nat
  peer : Nat
  mark : Nat
  bundles : List Bundle
  letter : Letter
structure Cal.ok (x : Cal) : Prop where
  kind : x.kind < 256
  seq : x.seq < 65536
  peer : x.peer < 256
  mark : x.mark < 65536
  bundles : ∀ b ∈ x.bundles, b.ok
  letter : x.letter.ok
def cal0 : Cal := ⟨0, 0, 0, 0, [], letter0⟩
theorem cal0_ok : cal0.ok := ⟨by decide, by decide, by decide, by decide, by simp [cal0], letter0_ok⟩
/-- The one that the law tries. -/
def cal1 : Cal := ⟨4, 1, 1, 0, [], letter0⟩
theorem cal1_ok : cal1.ok := ⟨by decide, by decide, by decide, by decide, by simp [cal1], letter0_ok⟩
def item2 : Itm := ⟨2, 1, 2, letter0, bundle0, object0⟩
theorem item2_ok : item2.ok := ⟨by decide, by decide, by decide, letter0_ok, bundle0_ok, object0_ok⟩

abbrev calV (x : Cal) (q : Option Addr) (d : Nat) (p : Option Addr) (c : Nat) : List (List Value) := [[.int .u8 x.kind], [.int .u16 x.seq], [.int .u8 x.peer], [.int .u16 x.mark], [.slice q x.bundles.length d], [.int .u8 x.letter.src], [.int .u8 x.letter.dst], x.letter.header.session.map bv, [.bool x.letter.header.first], x.letter.header.agree.map bv, x.letter.header.signer.map bv, x.letter.header.base.map bv, [.int .u16 x.letter.header.id], x.letter.header.ratchet.map bv, [.int .u16 x.letter.header.n], [.int .u16 x.letter.header.prev], [.slice p x.letter.body.length c]]
abbrev calL : List Nat := [1, 1, 1, 1, 1, 1, 1, 32, 1, 32, 32, 32, 1, 32, 1, 1, 1]
theorem zero110 : (Try.prog.info? 110).bind (·.zero) = some (.agg (cat (calV cal0 none 0 none 0)).toArray) := by kernel_rfl
theorem built110 : Try.prog.built 110 [] = some (cat (calV cal0 none 0 none 0)).toArray := by kernel_rfl
abbrev calZ : List (List Value) := [[.int .u8 0], [.int .u16 0], [.int .u8 0], [.int .u16 0], [.slice none 0 0], cat (letterV letter0 none 0)]
abbrev calFL : List Nat := [1, 1, 1, 1, 1, 167]
theorem plan110 : planOf Try.prog 110 = some (placesL 0 calFL, (cat calZ).toArray) := by kernel_rfl
theorem calV_len {x : Cal} (h : x.ok) {q : Option Addr} {d : Nat} {p : Option Addr} {c : Nat} : (calV x q d p c).map List.length = calL := by simp [h.letter.header.session, h.letter.header.agree, h.letter.header.signer, h.letter.header.base, h.letter.header.ratchet]
theorem calV_ok1 (x : Cal) (q : Option Addr) (d : Nat) (p : Option Addr) (c : Nat) : ok1 (cat (calV x q d p c)) := by
 intro u hu
 rw [cat_eq] at hu
 simp only [List.mem_flatten, List.mem_cons, List.not_mem_nil, or_false] at hu
 obtain ⟨l, hl, hu⟩ := hu
 rcases hl with rfl | rfl | rfl | rfl | rfl | rfl | rfl | rfl | rfl | rfl | rfl | rfl | rfl | rfl | rfl | rfl | rfl <;> first | (simp only [List.mem_singleton] at hu; subst hu; rfl) | exact ok1_bytes _ u hu
end Go.Proofs.Ytcfecmoagfgnaaa

/- Struct arguments, opened. -/
namespace Go.Proofs.Ytcfecmoagfgnaaa
open Go.Vc Go.Pl

open Go.ChangeShapes Go.WideShapes Go.ChangeAt Go.RowKit
section
variable {Hh : Type} {enc : TypeId × Value → Hh} {P : Program} {W : World} {t : TypeId}
theorem Opens.struct {fs : Array Field} {X : Type} {R : Rel X} {r : Reach} {base : Nat} {v : Value} {d : DataW Hh} {ps : List MemPlace} (ht : P.underlying t = some (.struct fs)) (h : Opens enc P W t R) (hval : Value.okWide P W r base t v) (hd : DataW.Trod enc P W 0 (fun _ => true) true t v d ps) :
  ∃ cs y, v = .agg cs.toArray ∧ R [] W cs y := by
 obtain ⟨fuel, hf⟩ := hd
 obtain ⟨y, hy⟩ := h _ _ _ hf
 unfold Value.okWide at hval
 rw [ht] at hval
 obtain ⟨cs, rfl, _⟩ := hval
 exact ⟨cs.toList, y, by simp, by simpa [Value.cells] using hy⟩
end
section
variable {Hh : Type} {enc : TypeId × Value → Hh} {W : World}

def bundleR' : Rel Bundle := fun _ _ vs x => x.ok ∧ vs = cat (bundleV x)
def objectR' : Rel Object := fun K w vs x => ∃ p c, x.ok ∧ vs = cat (objectV x p c) ∧ Arr 65 vouchR K w p x.vouches c
def itemR' : Rel Itm := fun K w vs x => ∃ p c q d, x.ok ∧ vs = cat (itemV x p c q d) ∧ Bytes K w p x.letter.body c ∧ Arr 65 vouchR K w q x.object.vouches d
end
end Go.Proofs.Ytcfecmoagfgnaaa

/- Lists of items; replies: their bytes; what bytes are read as. -/
namespace Go.Proofs.Ytcfecmoagfgnaaa
open Go.Vc Go.Pl

structure Rep where
  seq : Nat
  tag : Nat
  mark : Nat
  items : List Itm
structure Rep.ok (x : Rep) : Prop where
  seq : x.seq < 65536
  tag : x.tag < 256
  mark : x.mark < 65536
  items : ∀ i ∈ x.items, i.ok
structure Trn where
  seq : Nat
  items : List Itm
structure Trn.ok (x : Trn) : Prop where
  seq : x.seq < 65536
  items : ∀ i ∈ x.items, i.ok
def rep0 : Rep := ⟨0, 0, 0, []⟩
theorem rep0_ok : rep0.ok := ⟨by decide, by decide, by decide, by simp [rep0]⟩
def trn0 : Trn := ⟨0, []⟩
theorem trn0_ok : trn0.ok := ⟨by decide, by simp [trn0]⟩

def itemsP (xs : List Itm) : List (List UInt8) := xs.map fun x => (itemO x).getD []
def itemsGood (xs : List Itm) : Bool := decide (xs.length ≤ 4) && xs.all fun x => (itemO x).isSome
def repP (x : Rep) : List (List UInt8) := [be 2 x.seq, be 1 x.tag, be 2 x.mark]
def repO (x : Rep) : Option (List UInt8) := joinO (repP x ++ itemsP x.items) (itemsGood x.items)
def trnO (x : Trn) : Option (List UInt8) := joinO ([be 2 x.seq] ++ itemsP x.items) (itemsGood x.items)
def restItems (c : List (List UInt8)) : Option (List Itm) :=
  if c.length ≤ 4 ∧ ∀ p ∈ c, (itemR p).isSome = true then some (c.map fun p => (itemR p).getD item0) else none
abbrev repK : List (Option Nat) := [some 2, some 1, some 2]
def repR (l : List UInt8) : Option Rep :=
  if fitsP repK (openP l) then (restItems ((((openP l).drop 1).drop 1).drop 1)).map fun xs => ⟨takeN (openP l) 2, takeN ((openP l).drop 1) 1, takeN (((openP l).drop 1).drop 1) 2, xs⟩ else none
def trnR (l : List UInt8) : Option Trn :=
  if fitsP [some 2] (openP l) then (restItems ((openP l).drop 1)).map fun xs => ⟨takeN (openP l) 2, xs⟩ else none

theorem restItems_iff {c : List (List UInt8)} {xs : List Itm} : restItems c = some xs ↔ (∀ x ∈ xs, x.ok) ∧ itemsGood xs = true ∧ itemsP xs = c := by
 unfold restItems
 constructor
 ·intro h
  split at h
  ·rename_i hc
   cases h
   have e1 : ∀ p ∈ c, itemO ((itemR p).getD item0) = some p := fun p hp => by
    obtain ⟨y, hy⟩ := Option.isSome_iff_exists.1 (hc.2 p hp)
    rw [hy]; exact (itemR_iff.1 hy).2
   refine ⟨fun x hx => ?_, ?_, ?_⟩
   ·obtain ⟨p, _, rfl⟩ := List.mem_map.1 hx
    exact itemR_ok p
   ·unfold itemsGood
    rw [Bool.and_eq_true, decide_eq_true_iff, List.all_eq_true]
    refine ⟨by simpa using hc.1, fun x hx => ?_⟩
    obtain ⟨p, hp, rfl⟩ := List.mem_map.1 hx
    rw [e1 p hp]; rfl
   ·unfold itemsP
    rw [List.map_map]
    conv => rhs; rw [← List.map_id c]
    refine List.map_congr_left fun p hp => ?_
    show (itemO ((itemR p).getD item0)).getD [] = p
    rw [e1 p hp]; rfl
  ·cases h
 ·rintro ⟨h1, h2, rfl⟩
  unfold itemsGood at h2
  rw [Bool.and_eq_true, decide_eq_true_iff, List.all_eq_true] at h2
  have e1 : ∀ x ∈ xs, itemR ((itemO x).getD []) = some x := fun x hx => by
   obtain ⟨l, hl⟩ := Option.isSome_iff_exists.1 (h2.2 x hx)
   rw [hl]; exact itemR_iff.2 ⟨h1 x hx, hl⟩
  unfold itemsP
  rw [if_pos ⟨by simpa using h2.1, fun p hp => by
   obtain ⟨x, hx, rfl⟩ := List.mem_map.1 hp
   rw [e1 x hx]; rfl⟩, List.map_map]
  have e2 : xs.map ((fun p => (itemR p).getD item0) ∘ fun x => (itemO x).getD []) = xs := by
   conv => rhs; rw [← List.map_id xs]
   refine List.map_congr_left fun x hx => ?_
   show (itemR ((itemO x).getD [])).getD item0 = x
   rw [e1 x hx]; rfl
  rw [e2]
theorem repR_iff {l : List UInt8} {x : Rep} : repR l = some x ↔ x.ok ∧ repO x = some l := by
 unfold repR
 constructor
 ·intro h
  split at h
  ·rename_i hf
   obtain ⟨xs, hxs, rfl⟩ := Option.map_eq_some_iff.1 h
   obtain ⟨h1, h2, h3⟩ := restItems_iff.1 hxs
   have hne : openP l ≠ [] := fun e => by rw [e] at hf; exact hf.elim
   obtain ⟨hj1, hj2⟩ := join_open hne
   refine ⟨⟨takeN_lt _ 2, takeN_lt _ 1, takeN_lt _ 2, h1⟩, ?_⟩
   have e : repP ⟨takeN (openP l) 2, takeN ((openP l).drop 1) 1, takeN (((openP l).drop 1).drop 1) 2, xs⟩ ++ itemsP xs = openP l := by
    unfold repP
    rw [h3]
    generalize openP l = ps at *
    match ps, hf with
    | a :: b :: c :: r, hf =>
     have ha := hf.1 2 rfl
     have hb := hf.2.1 1 rfl
     have hc := hf.2.2.1 2 rfl
     show be 2 (takeN (a :: b :: c :: r) 2) :: be 1 (takeN (b :: c :: r) 1) :: be 2 (takeN (c :: r) 2) :: r = _
     rw [takeN_cons ha, be_take ha, takeN_cons hb, be_take hb, takeN_cons hc, be_take hc]
    | [_, _], hf => exact hf.2.2.elim
    | [_], hf => exact hf.2.elim
    | [], hf => exact hf.elim
   unfold repO
   rw [e, joinO_some hj1 h2, hj2]
  ·cases h
 ·rintro ⟨h, h2⟩
  obtain ⟨h3, h4, rfl⟩ := joinO_eq h2
  have eo := open_join h3
  rw [eo]
  have hf : fitsP repK (repP x ++ itemsP x.items) := ⟨fun n e => by cases e; exact be_length _ _, fun n e => by cases e; exact be_length _ _, fun n e => by cases e; exact be_length _ _, trivial⟩
  rw [if_pos hf]
  have hs := h.seq
  have ht := h.tag
  have hm := h.mark
  show (restItems (itemsP x.items)).map (fun xs => (⟨takeN (be 2 x.seq :: be 1 x.tag :: be 2 x.mark :: itemsP x.items) 2, takeN (be 1 x.tag :: be 2 x.mark :: itemsP x.items) 1, takeN (be 2 x.mark :: itemsP x.items) 2, xs⟩ : Rep)) = some x
  rw [restItems_iff.2 ⟨h.items, h4, rfl⟩, takeN_cons (be_length 2 _), takeN_cons (be_length 1 _), takeN_cons (be_length 2 _), num_be' (by omega), num_be' (by omega), num_be' (by omega)]
  rfl
theorem trnR_iff {l : List UInt8} {x : Trn} : trnR l = some x ↔ x.ok ∧ trnO x = some l := by
 unfold trnR
 constructor
 ·intro h
  split at h
  ·rename_i hf
   obtain ⟨xs, hxs, rfl⟩ := Option.map_eq_some_iff.1 h
   obtain ⟨h1, h2, h3⟩ := restItems_iff.1 hxs
   have hne : openP l ≠ [] := fun e => by rw [e] at hf; exact hf.elim
   obtain ⟨hj1, hj2⟩ := join_open hne
   refine ⟨⟨takeN_lt _ 2, h1⟩, ?_⟩
   have e : [be 2 (takeN (openP l) 2)] ++ itemsP xs = openP l := by
    rw [h3]
    generalize openP l = ps at *
    match ps, hf with
    | a :: r, hf =>
     have ha := hf.1 2 rfl
     show be 2 (takeN (a :: r) 2) :: r = _
     rw [takeN_cons ha, be_take ha]
    | [], hf => exact hf.elim
   unfold trnO
   rw [e, joinO_some hj1 h2, hj2]
  ·cases h
 ·rintro ⟨h, h2⟩
  obtain ⟨h3, h4, rfl⟩ := joinO_eq h2
  have eo := open_join h3
  rw [eo]
  have hf : fitsP [some 2] ([be 2 x.seq] ++ itemsP x.items) := ⟨fun n e => by cases e; exact be_length _ _, trivial⟩
  rw [if_pos hf]
  have hs := h.seq
  show (restItems (itemsP x.items)).map (fun xs => (⟨takeN (be 2 x.seq :: itemsP x.items) 2, xs⟩ : Trn)) = some x
  rw [restItems_iff.2 ⟨h.items, h4, rfl⟩, takeN_cons (be_length 2 _), num_be' (by omega)]
  rfl
theorem repR_ok (l : List UInt8) : ((repR l).getD rep0).ok := by
 cases h : repR l with
 | none => exact rep0_ok
 | some x => exact (repR_iff.1 h).1
theorem trnR_ok (l : List UInt8) : ((trnR l).getD trn0).ok := by
 cases h : trnR l with
 | none => exact trn0_ok
 | some x => exact (trnR_iff.1 h).1

/-! The loop that reads items. -/
def IInv (c : List (List UInt8)) (why0 : Nat) (xs : List Itm) (ps : List (List UInt8)) (why : Nat) : Prop :=
  (∀ x ∈ xs, x.ok) ∧ xs.length ≤ 4 ∧ ((why = why0 ∧ ∃ d, c = d ++ ps ∧ d.map itemR = xs.map some) ∨ (why = 141 ∧ ∃ p ∈ c, itemR p = none))
theorem IInv.start (c : List (List UInt8)) (why0 : Nat) : IInv c why0 [] c why0 := ⟨by simp, by simp, .inl ⟨rfl, [], rfl, rfl⟩⟩
theorem IInv.step {c : List (List UInt8)} {xs : List Itm} {p : List UInt8} {r : List (List UInt8)} (h : IInv c 0 xs (p :: r) 0) (h4 : xs.length < 4) : IInv c 0 (xs ++ [(itemR p).getD item0]) r (if (itemR p).isSome then 0 else 141) := by
 obtain ⟨h1, h2, h3⟩ := h
 refine ⟨fun b hb => ?_, by simp; omega, ?_⟩
 ·rcases List.mem_append.1 hb with hb | hb
  ·exact h1 b hb
  ·rw [List.mem_singleton] at hb; subst hb; exact itemR_ok p
 ·rcases h3 with ⟨_, d, hd, hm⟩ | ⟨h, _⟩
  ·cases hp : itemR p with
   | none => exact .inr ⟨rfl, p, by rw [hd]; simp, hp⟩
   | some b => exact .inl ⟨rfl, d ++ [p], by rw [hd]; simp, by simp [hm, hp]⟩
  ·cases h
theorem IInv.done {c : List (List UInt8)} {why0 : Nat} (h0 : why0 = 0 ∨ why0 = 141) {xs : List Itm} {ps : List (List UInt8)} {why : Nat} (h : IInv c why0 xs ps why) (hx : ps = [] ∨ 4 ≤ xs.length ∨ why ≠ 0) : endW ps why = (if why0 = 0 ∧ (restItems c).isSome = true then 0 else 141) ∧ (why0 = 0 → ∀ ys, restItems c = some ys → ys = xs) := by
 obtain ⟨h1, h2, h3⟩ := h
 rcases h3 with ⟨rfl, d, hd, hm⟩ | ⟨rfl, p, hp, hpn⟩
 ·rcases h0 with rfl | rfl
  ·have hlen : d.length = xs.length := by have := congrArg List.length hm; simpa using this
   by_cases hps : ps = []
   ·subst hps
    rw [List.append_nil] at hd
    have hall : ∀ p ∈ d, (itemR p).isSome = true := fun p hp => by
     have : itemR p ∈ xs.map some := by rw [← hm]; exact List.mem_map.2 ⟨p, hp, rfl⟩
     obtain ⟨b, _, e⟩ := List.mem_map.1 this
     rw [← e]; rfl
    have e2 : d.map (fun p => (itemR p).getD item0) = xs := by
     have := congrArg (List.map fun o : Option Itm => o.getD item0) hm
     rw [List.map_map, List.map_map] at this
     refine this.trans ?_
     conv => rhs; rw [← List.map_id xs]
     exact List.map_congr_left fun _ _ => rfl
    have hr : restItems c = some xs := by
     unfold restItems
     rw [hd, if_pos ⟨by omega, hall⟩, e2]
    rw [hr]
    exact ⟨rfl, fun _ ys hy => (Option.some.inj hy).symm⟩
   ·have h9 : 4 ≤ xs.length := by
     rcases hx with hx | hx | hx
     ·exact absurd hx hps
     ·exact hx
     ·exact absurd rfl hx
    have hpl : 0 < ps.length := List.length_pos_iff.2 hps
    have hr : restItems c = none := by
     unfold restItems
     exact if_neg (fun h => by have h1 := h.1; rw [hd, List.length_append] at h1; omega)
    rw [hr]
    refine ⟨?_, fun _ ys hy => by cases hy⟩
    unfold endW
    rw [if_neg hps]; rfl
  ·exact ⟨(endW_141 _).trans (if_neg (fun h => by cases h.1)).symm, fun h => by cases h⟩
 ·have hr : restItems c = none := by
   unfold restItems
   exact if_neg (fun h => by have := h.2 p hp; rw [hpn] at this; cases this)
  rw [hr]
  exact ⟨(endW_141 _).trans (if_neg (fun h => by cases h.2)).symm, fun _ ys hy => by cases hy⟩
theorem Mono_item : Mono itemR' := fun _ _ _ _ _ ha ⟨p, c, q, d, h1, h2, h3, h4⟩ => ⟨p, c, q, d, h1, h2, h3.after Mono.byte ha, h4.after Mono_vouch ha⟩
end Go.Proofs.Ytcfecmoagfgnaaa

/- wire: the law that is alive. -/
namespace Go.Proofs.Ytcfecmoagfgnaaa
open Go.Vc Go.Pl

theorem putCal1_w {S : List Snap} {H : List Chunk} {w : World} (ho : Own S H w) : Calls Try.prog 76 #[.agg (cat (calV cal1 none 0 none 0)).toArray] w (RetO S H none) := by
 have hx3 : cal1.mark < 65536 := by decide
 have hx1 : cal1.kind < 256 := by decide
 have hx2 : cal1.seq < 65536 := by decide
 refine enter (G := Own (⟨w, keys H⟩ :: S) H) ho.keep Try.func76 rfl Try.ntmps76 rfl ?_
 refine VC.sr ?_
 refine VL.box (L := calL) (ps := (calV (cal1) none 0 none 0)) rfl rfl (calV_len cal1_ok) (fun g1 => ?_)
 refine VL.assign rfl ?_
 refine VL.assign rfl ?_
 refine VL.nn ?_
 refine VC.sr ?_
 refine VL.build (zs := [[.slice none 0 0], [.bool false]]) [] plan181 rfl trivial rfl ?_
 refine VL.box (L := [1, 1]) (ps := [[rowV none 0 0], [.bool false]]) rfl rfl rfl (fun g2 => ?_)
 refine VL.turn (fun w' hw => Own.newW hw) ?_
 refine VL.assign rfl ?_
 refine VL.nn ?_
 refine VC.sr ?_
 refine VL.move rfl ?_
 refine VL.fieldAddr rfl fo110_0 rfl ?_
 refine VL.load (v := .int .u8 (cal1.kind)) 2 0 rfl kd5 (fun _ h => h) rfl rfl rfl ?_
 refine VL.conv (by rw [Try.underlying5]; rfl) Try.underlying22 rfl (inr_u64 (by omega)) ?_
 refine VL.call Try.func116 rfl (by decide) rfl (fun w' hw => num_w hw (by simp only [List.length_append, List.length_cons, List.length_nil, List.length_map]; omega) (cal1.kind) (fits_small (by omega)) 1 (by decide) (by decide) (fits1 (by omega))) (fun v => ?_)
 refine VL.fact fun e5 => ?_
 subst e5
 refine VL.ex fun gp3 => VL.ex fun c4 => ?_
 refine VL.nn ?_
 refine VC.sr ?_
 refine VL.move rfl ?_
 refine VL.fieldAddr rfl fo110_1 rfl ?_
 refine VL.load (v := .int .u16 (cal1.seq)) 2 1 rfl kd68 (fun _ h => h) rfl rfl rfl ?_
 refine VL.conv (by rw [Try.underlying68]; rfl) Try.underlying22 rfl (inr_u64 (by omega)) ?_
 refine VL.call Try.func116 rfl (by decide) rfl (fun w' hw => num_w hw (by simp only [List.length_append, List.length_cons, List.length_nil, List.length_map]; omega) (cal1.seq) (fits_small (by omega)) 2 (by decide) (by decide) (fits2 (by omega))) (fun v => ?_)
 refine VL.fact fun e8 => ?_
 subst e8
 refine VL.ex fun gp6 => VL.ex fun c7 => ?_
 refine VL.nn ?_
 refine VC.seq ?_
 refine VC.sr ?_
 refine VL.fieldAddr rfl fo110_4 rfl ?_
 refine VL.load (v := .slice none ([]).length 0) 2 4 rfl kd108 (fun _ h => h) rfl rfl rfl ?_
 refine VL.len Try.underlying108 rfl rfl ?_
 refine VL.gtr rfl rfl ?_
 refine VL.no (by decide) ?_
 refine VL.nn ?_
 refine VC.no rfl ?_
 refine VC.skip ?_
 refine VX.next ?_
 refine VC.seq ?_
 refine VC.sr ?_
 refine VL.fieldAddr rfl fo110_0 rfl ?_
 refine VL.load (v := .int .u8 (cal1.kind)) 2 0 rfl kd5 (fun _ h => h) rfl rfl rfl ?_
 refine VL.nn ?_
 refine VC.block ?_
 refine VC.sr ?_
 refine VL.eql rfl rfl ?_
 refine VL.no (by decide) ?_
 refine VL.assign rfl ?_
 refine VL.nn ?_
 refine VC.no rfl ?_
 refine VC.sr ?_
 refine VL.eql rfl rfl ?_
 refine VL.no (by decide) ?_
 refine VL.assign rfl ?_
 refine VL.nn ?_
 refine VC.no rfl ?_
 refine VC.sr ?_
 refine VL.eql rfl rfl ?_
 refine VL.no (by decide) ?_
 refine VL.assign rfl ?_
 refine VL.nn ?_
 refine VC.no rfl ?_
 refine VC.sr ?_
 refine VL.eql rfl rfl ?_
 refine VL.yes (by decide) ?_
 refine VL.assign rfl ?_
 refine VL.nn ?_
 refine VC.yes rfl ?_
 refine VC.sr ?_
 refine VL.move rfl ?_
 refine VL.fieldAddr rfl fo110_3 rfl ?_
 refine VL.load (v := .int .u16 (cal1.mark)) 2 3 rfl kd68 (fun _ h => h) rfl rfl rfl ?_
 refine VL.conv (by rw [Try.underlying68]; rfl) Try.underlying22 rfl (inr_u64 (by omega)) ?_
 refine VL.call Try.func116 rfl (by decide) rfl (fun w' hw => num_w hw (by simp only [List.length_append, List.length_cons, List.length_nil, List.length_map]; omega) (cal1.mark) (fits_small (by omega)) 2 (by decide) (by decide) (fits2 (by omega))) (fun v => ?_)
 refine VL.fact fun e11 => ?_
 subst e11
 refine VL.ex fun gp9 => VL.ex fun c10 => ?_
 refine VL.nn ?_
 refine VC.region ?_
 refine VL.fieldAddr rfl fo110_3 rfl ?_
 refine VL.store (L := calL) (qs := [[.int .u16 (0)]]) 2 3 1 rfl rfl rfl (.inr ⟨kd68, rfl⟩) rfl rfl rfl (by intro u hu; simp [cat] at hu; subst hu; rfl) rfl rfl ?_
 refine VL.set2 ?_
 refine VL.nil ?_
 refine VX.block_normal ?_
 refine VX.next ?_
 refine VC.seq ?_
 refine VC.sr ?_
 refine VL.fieldAddr rfl fo110_2 rfl ?_
 refine VL.load (v := .int .u8 (cal1.peer)) 2 2 rfl kd5 (fun _ h => h) rfl rfl rfl ?_
 refine VL.neq rfl rfl ?_
 refine VL.yes (by decide) ?_
 refine VL.move rfl ?_
 refine VL.pass rfl rfl rfl rfl rfl ?_
 refine VL.pass rfl rfl rfl rfl rfl ?_
 refine VL.pass rfl rfl rfl rfl rfl ?_
 refine VL.pick_t rfl rfl ?_
 refine VL.move rfl ?_
 refine VL.pass rfl rfl rfl rfl rfl ?_
 refine VL.pass rfl rfl rfl rfl rfl ?_
 refine VL.pass rfl rfl rfl rfl rfl ?_
 refine VL.pass rfl rfl rfl rfl rfl ?_
 refine VL.pick_t rfl rfl ?_
 refine VL.move rfl ?_
 refine VL.pass rfl rfl rfl rfl rfl ?_
 refine VL.pass rfl rfl rfl rfl rfl ?_
 refine VL.pass rfl rfl rfl rfl rfl ?_
 refine VL.pass rfl rfl rfl rfl rfl ?_
 refine VL.pick_t rfl rfl ?_
 refine VL.nn ?_
 refine VC.yes rfl ?_
 refine VC.sr ?_
 refine VL.assign rfl ?_
 refine VL.assign rfl ?_
 refine VL.nn ?_
 refine VC.ret ?_
 refine VX.then_ret ?_
 refine VX.ret2 rfl rfl rfl (fun we hw => ?_)
 exact postO (rfl) ⟨none, 0, rfl, hw.drop.drop.drop.subA, Arr.none⟩

theorem item2_O : itemO item2 = some [3, 0, 1, 2, 0, 1, 1, 0, 1, 2] := by decide +kernel
theorem item2_R : itemR [3, 0, 1, 2, 0, 1, 1, 0, 1, 2] = some item2 := itemR_iff.2 ⟨item2_ok, item2_O⟩
theorem item2_W : itemW [3, 0, 1, 2, 0, 1, 1, 0, 1, 2] = 0 := by unfold itemW; rw [item2_R]; rfl
theorem item7_W : itemW [1, 0, 1, 7] = 140 := by decide +kernel
theorem putItem2_w {S : List Snap} {H : List Chunk} {w : World} (ho : Own S H w) : Calls Try.prog 56 #[.agg (cat (itemV item2 none 0 none 0)).toArray] w (RetO S H (some [3, 0, 1, 2, 0, 1, 1, 0, 1, 2])) := by
 have h := putItem_w ho item2_ok (p := none) (c := 0) Arr.none (q := none) (d := 0) Arr.none
 rw [item2_O] at h
 exact h
theorem getItem2_w {S : List Snap} {H : List Chunk} {w : World} (ho : Own S H w) {p : Option Addr} {c : Nat} (hA : Bytes (keys H) w p [3, 0, 1, 2, 0, 1, 1, 0, 1, 2] c) : Calls Try.prog 58 #[.slice p ([3, 0, 1, 2, 0, 1, 1, 0, 1, 2] : List UInt8).length c] w (Ret fun v w' => ∃ p c q d, v = .tuple #[.agg (cat (itemV item2 p c q d)).toArray, .int .i64 ((0 : Nat) : Int)] ∧ Own S H w') := by
 have h := getItem_w ho hA
 rw [item2_R, item2_W] at h
 exact h.mono (Ret.mono fun v w' ⟨p, c, q, d, h1, h2, _⟩ => ⟨p, c, q, d, h1, h2⟩)
theorem getItem7_w {S : List Snap} {H : List Chunk} {w : World} (ho : Own S H w) {p : Option Addr} {c : Nat} (hA : Bytes (keys H) w p [1, 0, 1, 7] c) : Calls Try.prog 58 #[.slice p ([1, 0, 1, 7] : List UInt8).length c] w (Ret fun v w' => ∃ x p c q d, x.ok ∧ v = .tuple #[.agg (cat (itemV x p c q d)).toArray, .int .i64 ((140 : Nat) : Int)] ∧ Own S H w') := by
 have h := getItem_w ho hA
 rw [item7_W] at h
 exact h.mono (Ret.mono fun v w' ⟨p, c, q, d, h1, h2, _⟩ => ⟨_, p, c, q, d, itemR_ok _, h1, h2⟩)

theorem alive_w {S : List Snap} {H : List Chunk} {w : World} (ho : Own S H w) : Calls Try.prog 49 #[] w (Ret fun v w' => v = .bool true ∧ Own S H w') := by
 refine enter (G := Own (⟨w, keys H⟩ :: S) H) ho.keep Try.func49 rfl Try.ntmps49 rfl ?_
 refine VC.sr ?_
 refine VL.assign rfl ?_
 refine VL.nn ?_
 refine VC.sr ?_
 refine VL.build (zs := itemZ) (L := itemFL) [(0, [.int .u8 (2)]), (1, [.int .u8 (1)]), (2, [.int .u8 (2)])] plan87 rfl ⟨⟨rfl, ⟨_, rfl, rfl⟩, rfl⟩, ⟨⟨rfl, ⟨_, rfl, rfl⟩, rfl⟩, ⟨⟨rfl, ⟨_, rfl, rfl⟩, rfl⟩, trivial⟩⟩⟩ rfl ?_
 refine VL.newv (v' := .agg (cat (itemV (item2) none 0 none 0)).toArray) (by kernel_rfl) ?_
 refine VL.call Try.func56 rfl (by decide) rfl (fun w' hw => putItem2_w hw) (fun v => ?_)
 refine VL.at (fun w1 h1w => ?_)
 obtain ⟨p2, c3, rfl, hO5, hA4⟩ := h1w
 replace hA4 : Bytes _ w1 p2 [3, 0, 1, 2, 0, 1, 1, 0, 1, 2] c3 := hA4
 refine VL.toOwn hO5 ?_
 refine VL.move rfl ?_
 refine VL.extract rfl rfl ?_
 refine VL.extract rfl rfl ?_
 refine VL.assign rfl ?_
 refine VL.assign rfl ?_
 refine VL.nn ?_
 refine VC.sr ?_
 refine VL.move rfl ?_
 refine VL.call Try.func58 rfl (by decide) rfl (fun w' hw => getItem2_w hw (hA4.nowA (s := ⟨w1, _⟩) Mono.byte hw)) (fun v => ?_)
 refine VL.ex fun p6 => VL.ex fun c7 => VL.ex fun q8 => VL.ex fun d9 => ?_
 refine VL.fact fun e10 => ?_
 subst e10
 refine VL.move rfl ?_
 refine VL.extract rfl rfl ?_
 refine VL.extract rfl rfl ?_
 refine VL.alloc (L := itemL) (ps := (itemV (item0) none 0 none 0)) zero87 rfl rfl (fun g11 => ?_)
 refine VL.store (L := itemL) (qs := (itemV (item2) p6 c7 q8 d9)) (ps' := (itemV (item2) p6 c7 q8 d9)) 0 0 28 rfl rfl rfl (.inl kd87) rfl rfl (itemV_len item2_ok) (itemV_ok1 item2 p6 c7 q8 d9) rfl rfl ?_
 refine VL.set0 ?_
 refine VL.assign rfl ?_
 refine VL.nn ?_
 refine VC.sr ?_
 refine VL.lit el24 rfl rfl rfl (by simp [Value.cells]) (ok1_bytes [1, 0, 1, 7]) (fun g12 => ?_)
 refine VL.letBytes [1, 0, 1, 7] rfl rfl (fun w13 hO14 hA15 => ?_)
 refine VL.call Try.func58 rfl (by decide) rfl (fun w' hw => getItem7_w hw (hA15.nowA (s := ⟨w13, _⟩) Mono.byte hw)) (fun v => ?_)
 refine VL.ex fun x7 => ?_
 refine VL.ex fun p16 => VL.ex fun c17 => VL.ex fun q18 => VL.ex fun d19 => ?_
 refine VL.fact fun hx7 => ?_
 refine VL.fact fun e20 => ?_
 subst e20
 refine VL.move rfl ?_
 refine VL.extract rfl rfl ?_
 refine VL.extract rfl rfl ?_
 refine VL.alloc (L := itemL) (ps := (itemV (item0) none 0 none 0)) zero87 rfl rfl (fun g21 => ?_)
 refine VL.store (L := itemL) (qs := (itemV (x7) p16 c17 q18 d19)) (ps' := (itemV (x7) p16 c17 q18 d19)) 0 0 28 rfl rfl rfl (.inl kd87) rfl rfl (itemV_len hx7) (itemV_ok1 x7 p16 c17 q18 d19) rfl rfl ?_
 refine VL.set0 ?_
 refine VL.assign rfl ?_
 refine VL.nn ?_
 refine VC.sr ?_
 refine VL.build (zs := calZ) (L := calFL) [(0, [.int .u8 (4)]), (1, [.int .u16 (1)]), (2, [.int .u8 (1)])] plan110 rfl ⟨⟨rfl, ⟨_, rfl, rfl⟩, rfl⟩, ⟨⟨rfl, ⟨_, rfl, rfl⟩, rfl⟩, ⟨⟨rfl, ⟨_, rfl, rfl⟩, rfl⟩, trivial⟩⟩⟩ rfl ?_
 refine VL.newv (v' := .agg (cat (calV (cal1) none 0 none 0)).toArray) rfl ?_
 refine VL.call Try.func76 rfl (by decide) rfl (fun w' hw => putCal1_w hw) (fun v => ?_)
 refine VL.at (fun w22 h1w => ?_)
 obtain ⟨p23, c24, rfl, hO26, hA25⟩ := h1w
 replace hA25 : Bytes _ w22 p23 [] c24 := hA25
 refine VL.toOwn hO26 ?_
 refine VL.move rfl ?_
 refine VL.extract rfl rfl ?_
 refine VL.extract rfl rfl ?_
 refine VL.assign rfl ?_
 refine VL.assign rfl ?_
 refine VL.nn ?_
 refine VC.sr ?_
 refine VL.move rfl ?_
 refine VL.move rfl ?_
 refine VL.go rfl rfl rfl ?_
 refine VL.move rfl ?_
 refine VL.go rfl rfl rfl ?_
 refine VL.str (s := ⟨w1, _⟩) Try.underlying24 Try.underlying5 Try.underlying9 (l := [3, 0, 1, 2, 0, 1, 1, 0, 1, 2]) rfl (fun _ h => h) (by repeat (first | exact List.mem_cons_self .. | apply List.mem_cons_of_mem)) hA4 ?_
 refine VL.go rfl rfl rfl ?_
 refine VL.eqls rfl rfl ?_
 refine VL.yes (by rfl) ?_
 refine VL.pick_t rfl rfl ?_
 refine VL.move rfl ?_
 refine VL.go rfl rfl rfl ?_
 refine VL.move rfl ?_
 refine VL.go rfl rfl rfl ?_
 refine VL.eql rfl rfl ?_
 refine VL.yes (by decide) ?_
 refine VL.pick_t rfl rfl ?_
 refine VL.move rfl ?_
 refine VL.go rfl rfl rfl ?_
 refine VL.fieldAddr rfl fo87_2 rfl ?_
 refine VL.go rfl rfl rfl ?_
 refine VL.load (v := .int .u8 (item2.peer)) 1 2 rfl kd5 (fun _ h => h) rfl rfl rfl ?_
 refine VL.go rfl rfl rfl ?_
 refine VL.eql rfl rfl ?_
 refine VL.yes (by decide) ?_
 refine VL.pick_t rfl rfl ?_
 refine VL.move rfl ?_
 refine VL.go rfl rfl rfl ?_
 refine VL.move rfl ?_
 refine VL.go rfl rfl rfl ?_
 refine VL.eql rfl rfl ?_
 refine VL.yes (by decide) ?_
 refine VL.pick_t rfl rfl ?_
 refine VL.move rfl ?_
 refine VL.go rfl rfl rfl ?_
 refine VL.move rfl ?_
 refine VL.go rfl rfl rfl ?_
 refine VL.not rfl ?_
 refine VL.pick_t rfl rfl ?_
 refine VL.assign rfl ?_
 refine VL.nn ?_
 refine VC.ret ?_
 refine VX.ret1 rfl rfl (fun we hw => ?_)
 exact ⟨rfl, hw.drop.drop.subA⟩

end Go.Proofs.Ytcfecmoagfgnaaa

