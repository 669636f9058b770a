/- The statement WireTurned is proved, for every input: part 3 of 6 of the texts that it needs. -/
import Derived.Test.YtcfecmoagfgnaaaMturB
/- wire: what bytes are read as: bundles, headers, letters. -/
namespace Go.Proofs.Ytcfecmoagfgnaaa
open Go.Vc Go.Pl

theorem why_none {α : Type} {o : Option α} {n : Nat} (hn : (n : Int) ≠ 0) (h : n = if o.isSome then 0 else 141) : o = none ∧ n = 141 := by
  cases o with
  | none => exact ⟨rfl, h⟩
  | some x => exact absurd (by rw [h]; rfl) hn
theorem why_some {α : Type} {o : Option α} {n : Nat} (hn : ¬ (n : Int) ≠ 0) (h : n = if o.isSome then 0 else 141) : ∃ x, o = some x := by
  cases o with
  | none => exact absurd (show (n : Int) ≠ 0 by rw [h]; exact (by decide : ((141 : Nat) : Int) ≠ 0)) hn
  | some x => exact ⟨x, rfl⟩
theorem bundle_why' (l : List UInt8) : endW ((((((((openP l).drop 1).drop 1).drop 1).drop 1).drop 1)).drop 1) (takesW bundleK (openP l) (openW l)) = if (bundleR l).isSome then 0 else 141 := by
  have := bundle_why l
  simpa only [List.drop_drop] using this
theorem bundleR_of {l : List UInt8} {x : Bundle} (h : bundleR l = some x) : bundleOf (openP l) = x := by
  unfold bundleR at h
  split at h
  · exact Option.some.inj h
  · cases h
theorem bundleR_ok (l : List UInt8) : ((bundleR l).getD bundle0).ok := by
  cases h : bundleR l with
  | none => exact bundle0_ok
  | some x => exact (bundleR_iff.1 h).1
theorem header_why' (l : List UInt8) : endW (((((((((((openP l).drop 1).drop 1).drop 1).drop 1).drop 1)).drop 1).drop 1).drop 1).drop 1) (if (headerO (headerOf (openP l))).isSome = true ∧ firstOf (openP l) ≤ 1 then takesW headerK (openP l) (openW l) else failW (takesW headerK (openP l) (openW l)) 141) = if (headerR l).isSome then 0 else 141 := by
  have := header_why l
  simpa only [List.drop_drop] using this
abbrev headerS (s : List UInt8) : Header := ⟨s, false, zeros 32, zeros 32, zeros 32, 0, zeros 32, 0, 0⟩
theorem headerS_ok {s : List UInt8} (h : s.length = 32) : (headerS s).ok := ⟨h, rfl, rfl, rfl, header0_ok.id, rfl, header0_ok.n, header0_ok.prev⟩
abbrev letterS (a b : Nat) : Letter := ⟨a, b, header0, []⟩
theorem letterS_ok {a b : Nat} (h1 : a < 256) (h2 : b < 256) : (letterS a b).ok := ⟨h1, h2, header0_ok⟩
theorem headerR_of {l : List UInt8} {x : Header} (h : headerR l = some x) : headerOf (openP l) = x := by
  unfold headerR at h
  split at h
  · exact Option.some.inj h
  · cases h
theorem letter_why' (l : List UInt8) : endW ((((openP l).drop 1).drop 1).drop 1 |>.drop 1) (nextW ((((openP l).drop 1).drop 1).drop 1) (failW (takesW letterK (openP l) (openW l)) (if (headerR (nextP (((openP l).drop 1).drop 1))).isSome then 0 else 141))) = if (letterR l).isSome then 0 else 141 := by
  have := letter_why l
  simpa only [List.drop_drop] using this
theorem letterR_of {l : List UInt8} {x : Letter} (h : letterR l = some x) : ∃ hd, headerR (nextP (((openP l).drop 1).drop 1)) = some hd ∧ letterOf (openP l) hd = x := by
  unfold letterR at h
  split at h
  · obtain ⟨hd, h1, h2⟩ := Option.map_eq_some_iff.1 h
    exact ⟨hd, h1, h2⟩
  · cases h
theorem letterR_ok (l : List UInt8) : ((letterR l).getD letter0).ok := by
  cases h : letterR l with
  | none => exact letter0_ok
  | some x => exact (letterR_iff.1 h).1

theorem getBundle_w {S : List Snap} {H : List Chunk} {w : World} (ho : Own S H w) {p : Option Addr} {l : List UInt8} {c : Nat} (hA : Bytes (keys H) w p l c) : Calls Try.prog 61 #[.slice p l.length c] w (Ret fun v w' => v = .tuple #[.agg (cat (bundleV ((bundleR l).getD bundle0))).toArray, .int .i64 (((if (bundleR l).isSome then 0 else 141 : Nat)) : Int)] ∧ Own S H w') := by
  refine enter (G := Own (⟨w, keys H⟩ :: S) H) ho.keep Try.func61 rfl Try.ntmps61 rfl ?_
  refine VC.seq ?_
  refine VC.region ?_
  refine VL.alloc (L := bundleL) (ps := (bundleV (bundle0))) zero82 rfl rfl (fun g1 => ?_)
  refine VL.assign rfl ?_
  refine VL.nil ?_
  refine VX.next ?_
  refine VC.seq ?_
  refine VC.region ?_
  refine VL.move rfl ?_
  refine VL.call Try.func121 rfl (by decide) rfl (fun w' hw => open_R hw (hA.now (s := ⟨w, _⟩) Mono.byte hw (by repeat (first | exact List.mem_cons_self .. | apply List.mem_cons_of_mem)))) (fun v => ?_)
  refine VL.ex fun g2 => VL.fact fun e3 => ?_
  subst e3
  refine VL.assign rfl ?_
  refine VL.nil ?_
  refine VX.next ?_
  refine VC.seq ?_
  refine VC.region ?_
  refine VL.move rfl ?_
  refine VL.call Try.func122 rfl (by decide) rfl (fun w' hw => byte_R (i := 0) rfl hw) (fun v => ?_)
  refine VL.fact fun e4 => ?_
  subst e4
  refine VL.turn (G' := Own _ (rch g2 ((openP (l)).drop 1) (lenW (openP (l)) (openW (l)) 1) :: blk g1 82 bundleL (bundleV (bundle0)) :: H)) (fun _ h => h) ?_
  refine VL.move rfl ?_
  refine VL.call Try.func129 rfl (by decide) rfl (fun w' hw => key_R (i := 0) rfl hw) (fun v => ?_)
  refine VL.fact fun e5 => ?_
  subst e5
  refine VL.turn (G' := Own _ (rch g2 (((openP (l)).drop 1).drop 1) (lenW ((openP (l)).drop 1) (lenW (openP (l)) (openW (l)) 1) 32) :: blk g1 82 bundleL (bundleV (bundle0)) :: H)) (fun _ h => h) ?_
  refine VL.move rfl ?_
  refine VL.call Try.func129 rfl (by decide) rfl (fun w' hw => key_R (i := 0) rfl hw) (fun v => ?_)
  refine VL.fact fun e6 => ?_
  subst e6
  refine VL.turn (G' := Own _ (rch g2 ((((openP (l)).drop 1).drop 1).drop 1) (lenW (((openP (l)).drop 1).drop 1) (lenW ((openP (l)).drop 1) (lenW (openP (l)) (openW (l)) 1) 32) 32) :: blk g1 82 bundleL (bundleV (bundle0)) :: H)) (fun _ h => h) ?_
  refine VL.move rfl ?_
  refine VL.call Try.func130 rfl (by decide) rfl (fun w' hw => short_R (i := 0) rfl hw) (fun v => ?_)
  refine VL.fact fun e7 => ?_
  subst e7
  refine VL.turn (G' := Own _ (rch g2 (((((openP (l)).drop 1).drop 1).drop 1).drop 1) (lenW ((((openP (l)).drop 1).drop 1).drop 1) (lenW (((openP (l)).drop 1).drop 1) (lenW ((openP (l)).drop 1) (lenW (openP (l)) (openW (l)) 1) 32) 32) 2) :: blk g1 82 bundleL (bundleV (bundle0)) :: H)) (fun _ h => h) ?_
  refine VL.move rfl ?_
  refine VL.call Try.func129 rfl (by decide) rfl (fun w' hw => key_R (i := 0) rfl hw) (fun v => ?_)
  refine VL.fact fun e8 => ?_
  subst e8
  refine VL.turn (G' := Own _ (rch g2 ((((((openP (l)).drop 1).drop 1).drop 1).drop 1).drop 1) (lenW (((((openP (l)).drop 1).drop 1).drop 1).drop 1) (lenW ((((openP (l)).drop 1).drop 1).drop 1) (lenW (((openP (l)).drop 1).drop 1) (lenW ((openP (l)).drop 1) (lenW (openP (l)) (openW (l)) 1) 32) 32) 2) 32) :: blk g1 82 bundleL (bundleV (bundle0)) :: H)) (fun _ h => h) ?_
  refine VL.move rfl ?_
  refine VL.call Try.func131 rfl (by decide) rfl (fun w' hw => sig_R (i := 0) rfl hw) (fun v => ?_)
  refine VL.fact fun e9 => ?_
  subst e9
  refine VL.turn (G' := Own _ (rch g2 (((((((openP (l)).drop 1).drop 1).drop 1).drop 1).drop 1).drop 1) (lenW ((((((openP (l)).drop 1).drop 1).drop 1).drop 1).drop 1) (lenW (((((openP (l)).drop 1).drop 1).drop 1).drop 1) (lenW ((((openP (l)).drop 1).drop 1).drop 1) (lenW (((openP (l)).drop 1).drop 1) (lenW ((openP (l)).drop 1) (lenW (openP (l)) (openW (l)) 1) 32) 32) 2) 32) 64) :: blk g1 82 bundleL (bundleV (bundle0)) :: H)) (fun _ h => h) ?_
  refine VL.build (zs := bundleZ) (L := bundleFL) [(0, [.int .u8 (takeN (openP (l)) 1)]), (1, (takeB 32 ((openP (l)).drop 1)).map bv), (2, (takeB 32 (((openP (l)).drop 1).drop 1)).map bv), (3, [.int .u16 (takeN ((((openP (l)).drop 1).drop 1).drop 1) 2)]), (4, (takeB 32 (((((openP (l)).drop 1).drop 1).drop 1).drop 1)).map bv), (5, (takeB 64 ((((((openP (l)).drop 1).drop 1).drop 1).drop 1).drop 1)).map bv)] plan82 rfl ⟨⟨rfl, ⟨_, rfl, rfl⟩, rfl⟩, ⟨⟨rfl, ⟨_, rfl, rfl⟩, (arr_q (takeB_length ((openP (l)).drop 1) 32))⟩, ⟨⟨rfl, ⟨_, rfl, rfl⟩, (arr_q (takeB_length (((openP (l)).drop 1).drop 1) 32))⟩, ⟨⟨rfl, ⟨_, rfl, rfl⟩, rfl⟩, ⟨⟨rfl, ⟨_, rfl, rfl⟩, (arr_q (takeB_length (((((openP (l)).drop 1).drop 1).drop 1).drop 1) 32))⟩, ⟨⟨rfl, ⟨_, rfl, rfl⟩, (arr_q (takeB_length ((((((openP (l)).drop 1).drop 1).drop 1).drop 1).drop 1) 64))⟩, trivial⟩⟩⟩⟩⟩⟩ rfl ?_
  refine VL.newv (v' := .agg (cat (bundleV (bundleOf (openP l)))).toArray) rfl ?_
  refine VL.alloc (L := bundleL) (ps := (bundleV (bundle0))) zero82 rfl rfl (fun g10 => ?_)
  refine VL.store (L := bundleL) (qs := (bundleV (bundleOf (openP l)))) (ps' := (bundleV (bundleOf (openP l)))) 0 0 6 rfl rfl rfl (.inl kd82) rfl rfl (bundleV_len (bundleOf_ok (openP l))) (bundleV_ok1 (bundleOf (openP l))) rfl rfl ?_
  refine VL.turn (G' := Own _ (blk g10 82 bundleL (bundleV (bundleOf (openP l))) :: rch g2 (((((((openP (l)).drop 1).drop 1).drop 1).drop 1).drop 1).drop 1) (lenW ((((((openP (l)).drop 1).drop 1).drop 1).drop 1).drop 1) (lenW (((((openP (l)).drop 1).drop 1).drop 1).drop 1) (lenW ((((openP (l)).drop 1).drop 1).drop 1) (lenW (((openP (l)).drop 1).drop 1) (lenW ((openP (l)).drop 1) (lenW (openP (l)) (openW (l)) 1) 32) 32) 2) 32) 64) :: blk g1 82 bundleL (bundleV (bundle0)) :: H)) (fun _ h => h) ?_
  refine VL.nil ?_
  refine VX.next ?_
  refine VC.seq ?_
  refine VC.seq ?_
  refine VC.region ?_
  refine VL.move rfl ?_
  refine VL.call Try.func126 rfl (by decide) rfl (fun w' hw => end_R (i := 1) rfl hw) (fun v => ?_)
  refine VL.fact fun e11 => ?_
  subst e11
  refine VL.turn (G' := Own _ (blk g10 82 bundleL (bundleV (bundleOf (openP l))) :: rch g2 (((((((openP (l)).drop 1).drop 1).drop 1).drop 1).drop 1).drop 1) (endW (((((((openP (l)).drop 1).drop 1).drop 1).drop 1).drop 1).drop 1) (lenW ((((((openP (l)).drop 1).drop 1).drop 1).drop 1).drop 1) (lenW (((((openP (l)).drop 1).drop 1).drop 1).drop 1) (lenW ((((openP (l)).drop 1).drop 1).drop 1) (lenW (((openP (l)).drop 1).drop 1) (lenW ((openP (l)).drop 1) (lenW (openP (l)) (openW (l)) 1) 32) 32) 2) 32) 64)) :: blk g1 82 bundleL (bundleV (bundle0)) :: H)) (fun _ h => h) ?_
  refine VL.assign rfl ?_
  refine VL.nil ?_
  refine VX.next ?_
  refine VC.seq ?_
  refine VC.region ?_
  refine VL.move rfl ?_
  refine VL.neq rfl rfl ?_
  refine VL.case (fun h4_1 => ?_) (fun h4_1 => ?_)
  · refine VL.nil ?_
    refine VX.next ?_
    refine VC.yes rfl ?_
    refine VC.seq ?_
    refine VC.region ?_
    refine VL.build0 (cs := cat (bundleV (bundle0))) built82 ?_
    refine VL.move rfl ?_
    refine VL.store (L := bundleL) (qs := (bundleV (bundle0))) (ps' := (bundleV (bundle0))) 2 0 6 rfl rfl rfl (.inl kd82) rfl rfl rfl (bundleV_ok1 bundle0) rfl rfl ?_
    refine VL.turn (G' := Own _ (blk g10 82 bundleL (bundleV (bundleOf (openP l))) :: rch g2 (((((((openP (l)).drop 1).drop 1).drop 1).drop 1).drop 1).drop 1) (endW (((((((openP (l)).drop 1).drop 1).drop 1).drop 1).drop 1).drop 1) (lenW ((((((openP (l)).drop 1).drop 1).drop 1).drop 1).drop 1) (lenW (((((openP (l)).drop 1).drop 1).drop 1).drop 1) (lenW ((((openP (l)).drop 1).drop 1).drop 1) (lenW (((openP (l)).drop 1).drop 1) (lenW ((openP (l)).drop 1) (lenW (openP (l)) (openW (l)) 1) 32) 32) 2) 32) 64)) :: blk g1 82 bundleL (bundleV (bundle0)) :: H)) (fun _ h => h) ?_
    refine VL.assign rfl ?_
    refine VL.nil ?_
    refine VX.next ?_
    refine VC.ret ?_
    refine VX.then_ret ?_
    refine VX.ret_cell (cs := cat (bundleV (bundle0))) 2 rfl rfl rfl kd82 (fun _ h => h) rfl rfl (fun we hw => ?_)
    obtain ⟨e1, e2⟩ := why_none h4_1 (bundle_why' l)
    exact ⟨by rw [e1, e2]; rfl, hw.drop.drop.drop.sub (fun _ hs => by repeat (first | exact hs | apply List.mem_cons_of_mem))⟩
  · refine VL.nil ?_
    refine VX.next ?_
    refine VC.no rfl ?_
    refine VC.skip ?_
    refine VX.next ?_
    refine VC.seq ?_
    refine VC.region ?_
    refine VL.loads (cs := cat (bundleV (bundleOf (openP l)))) 0 0 6 rfl kd82 (fun _ h => h) rfl rfl rfl rfl ?_
    refine VL.store (L := bundleL) (qs := (bundleV (bundleOf (openP l)))) (ps' := (bundleV (bundleOf (openP l)))) 2 0 6 rfl rfl rfl (.inl kd82) rfl rfl (bundleV_len (bundleOf_ok (openP l))) (bundleV_ok1 (bundleOf (openP l))) rfl rfl ?_
    refine VL.turn (G' := Own _ (blk g10 82 bundleL (bundleV (bundleOf (openP l))) :: rch g2 (((((((openP (l)).drop 1).drop 1).drop 1).drop 1).drop 1).drop 1) (endW (((((((openP (l)).drop 1).drop 1).drop 1).drop 1).drop 1).drop 1) (lenW ((((((openP (l)).drop 1).drop 1).drop 1).drop 1).drop 1) (lenW (((((openP (l)).drop 1).drop 1).drop 1).drop 1) (lenW ((((openP (l)).drop 1).drop 1).drop 1) (lenW (((openP (l)).drop 1).drop 1) (lenW ((openP (l)).drop 1) (lenW (openP (l)) (openW (l)) 1) 32) 32) 2) 32) 64)) :: blk g1 82 bundleL (bundleV (bundleOf (openP l))) :: H)) (fun _ h => h) ?_
    refine VL.assign rfl ?_
    refine VL.nil ?_
    refine VX.next ?_
    refine VC.ret ?_
    refine VX.ret_cell (cs := cat (bundleV (bundleOf (openP l)))) 2 rfl rfl rfl (by rw [cat_size (bundleV_len (bundleOf_ok (openP l)))]; exact kd82) (fun _ h => h) rfl rfl (fun we hw => ?_)
    obtain ⟨y, e1⟩ := why_some h4_1 (bundle_why' l)
    exact ⟨by rw [e1, bundleR_of e1]; rfl, hw.drop.drop.drop.sub (fun _ hs => by repeat (first | exact hs | apply List.mem_cons_of_mem))⟩

theorem header_w {S : List Snap} {H : List Chunk} {w : World} (ho : Own S H w) {p : Option Addr} {l : List UInt8} {c : Nat} (hA : Bytes (keys H) w p l c) : Calls Try.prog 123 #[.slice p l.length c] w (Ret fun v w' => v = .tuple #[.agg (cat (headerV (headerOf (openP l)))).toArray, .int .i64 (((if (headerR l).isSome then 0 else 141 : Nat)) : Int)] ∧ Own S H w') := by
  refine enter (G := Own (⟨w, keys H⟩ :: S) H) ho.keep Try.func123 rfl Try.ntmps123 rfl ?_
  refine VC.seq ?_
  refine VC.region ?_
  refine VL.alloc (L := headerL) (ps := (headerV (header0))) zero70 rfl rfl (fun g1 => ?_)
  refine VL.assign rfl ?_
  refine VL.nil ?_
  refine VX.next ?_
  refine VC.seq ?_
  refine VC.region ?_
  refine VL.move rfl ?_
  refine VL.call Try.func121 rfl (by decide) rfl (fun w' hw => open_R hw (hA.now (s := ⟨w, _⟩) Mono.byte hw (by repeat (first | exact List.mem_cons_self .. | apply List.mem_cons_of_mem)))) (fun v => ?_)
  refine VL.ex fun g2 => VL.fact fun e3 => ?_
  subst e3
  refine VL.assign rfl ?_
  refine VL.nil ?_
  refine VX.next ?_
  refine VC.seq ?_
  refine VC.region ?_
  refine VL.move rfl ?_
  refine VL.call Try.func129 rfl (by decide) rfl (fun w' hw => key_R (i := 0) rfl hw) (fun v => ?_)
  refine VL.fact fun e4 => ?_
  subst e4
  refine VL.turn (G' := Own _ (rch g2 ((openP (l)).drop 1) (lenW (openP (l)) (openW (l)) 32) :: blk g1 70 headerL (headerV (header0)) :: H)) (fun _ h => h) ?_
  refine VL.build (zs := headerZ) (L := headerFL) [(0, (takeB 32 (openP (l))).map bv)] plan70 rfl ⟨⟨rfl, ⟨_, rfl, rfl⟩, (arr_q (takeB_length (openP (l)) 32))⟩, trivial⟩ rfl ?_
  refine VL.newv (v' := .agg (cat (headerV ((headerS (takeB 32 (openP l)))))).toArray) rfl ?_
  refine VL.alloc (L := headerL) (ps := (headerV (header0))) zero70 rfl rfl (fun g5 => ?_)
  refine VL.store (L := headerL) (qs := (headerV ((headerS (takeB 32 (openP l)))))) (ps' := (headerV ((headerS (takeB 32 (openP l)))))) 0 0 9 rfl rfl rfl (.inl kd70) rfl rfl (headerV_len (headerS_ok (takeB_length (openP l) 32))) (headerV_ok1 ((headerS (takeB 32 (openP l))))) rfl rfl ?_
  refine VL.turn (G' := Own _ (blk g5 70 headerL (headerV ((headerS (takeB 32 (openP l))))) :: rch g2 ((openP (l)).drop 1) (lenW (openP (l)) (openW (l)) 32) :: blk g1 70 headerL (headerV (header0)) :: H)) (fun _ h => h) ?_
  refine VL.nil ?_
  refine VX.next ?_
  refine VC.seq ?_
  refine VC.region ?_
  refine VL.move rfl ?_
  refine VL.call Try.func122 rfl (by decide) rfl (fun w' hw => byte_R (i := 1) rfl hw) (fun v => ?_)
  refine VL.fact fun e6 => ?_
  subst e6
  refine VL.turn (G' := Own _ (blk g5 70 headerL (headerV ((headerS (takeB 32 (openP l))))) :: rch g2 (((openP (l)).drop 1).drop 1) (lenW ((openP (l)).drop 1) (lenW (openP (l)) (openW (l)) 32) 1) :: blk g1 70 headerL (headerV (header0)) :: H)) (fun _ h => h) ?_
  refine VL.assign rfl ?_
  refine VL.nil ?_
  refine VX.next ?_
  refine VC.seq ?_
  refine VC.region ?_
  refine VL.move rfl ?_
  refine VL.eql rfl rfl ?_
  refine VL.newv (v' := .bool (decide (firstOf (openP l) = 1))) (by rw [Value.bool.injEq, decide_eq_decide]; exact natInt) ?_
  refine VL.fieldAddr rfl fo70_1 rfl ?_
  refine VL.store (L := headerL) (qs := [[.bool (decide (firstOf (openP l) = 1))]]) (ps' := [((headerS (takeB 32 (openP l))).session).map bv, [.bool (decide (firstOf (openP l) = 1))], ((headerS (takeB 32 (openP l))).agree).map bv, ((headerS (takeB 32 (openP l))).signer).map bv, ((headerS (takeB 32 (openP l))).base).map bv, [.int .u16 ((headerS (takeB 32 (openP l))).id)], ((headerS (takeB 32 (openP l))).ratchet).map bv, [.int .u16 ((headerS (takeB 32 (openP l))).n)], [.int .u16 ((headerS (takeB 32 (openP l))).prev)]]) 0 1 1 rfl rfl rfl (.inr ⟨kd4, rfl⟩) rfl rfl rfl (by intro u hu; simp [cat] at hu; subst hu; rfl) rfl rfl ?_
  refine VL.turn (G' := Own _ (blk g5 70 headerL [((headerS (takeB 32 (openP l))).session).map bv, [.bool (decide (firstOf (openP l) = 1))], ((headerS (takeB 32 (openP l))).agree).map bv, ((headerS (takeB 32 (openP l))).signer).map bv, ((headerS (takeB 32 (openP l))).base).map bv, [.int .u16 ((headerS (takeB 32 (openP l))).id)], ((headerS (takeB 32 (openP l))).ratchet).map bv, [.int .u16 ((headerS (takeB 32 (openP l))).n)], [.int .u16 ((headerS (takeB 32 (openP l))).prev)]] :: rch g2 (((openP (l)).drop 1).drop 1) (lenW ((openP (l)).drop 1) (lenW (openP (l)) (openW (l)) 32) 1) :: blk g1 70 headerL (headerV (header0)) :: H)) (fun _ h => h) ?_
  refine VL.nil ?_
  refine VX.next ?_
  refine VC.seq ?_
  refine VC.region ?_
  refine VL.move rfl ?_
  refine VL.call Try.func129 rfl (by decide) rfl (fun w' hw => key_R (i := 1) rfl hw) (fun v => ?_)
  refine VL.fact fun e7 => ?_
  subst e7
  refine VL.turn (G' := Own _ (blk g5 70 headerL [((headerS (takeB 32 (openP l))).session).map bv, [.bool (decide (firstOf (openP l) = 1))], ((headerS (takeB 32 (openP l))).agree).map bv, ((headerS (takeB 32 (openP l))).signer).map bv, ((headerS (takeB 32 (openP l))).base).map bv, [.int .u16 ((headerS (takeB 32 (openP l))).id)], ((headerS (takeB 32 (openP l))).ratchet).map bv, [.int .u16 ((headerS (takeB 32 (openP l))).n)], [.int .u16 ((headerS (takeB 32 (openP l))).prev)]] :: rch g2 ((((openP (l)).drop 1).drop 1).drop 1) (lenW (((openP (l)).drop 1).drop 1) (lenW ((openP (l)).drop 1) (lenW (openP (l)) (openW (l)) 32) 1) 32) :: blk g1 70 headerL (headerV (header0)) :: H)) (fun _ h => h) ?_
  refine VL.move rfl ?_
  refine VL.call Try.func129 rfl (by decide) rfl (fun w' hw => key_R (i := 1) rfl hw) (fun v => ?_)
  refine VL.fact fun e8 => ?_
  subst e8
  refine VL.turn (G' := Own _ (blk g5 70 headerL [((headerS (takeB 32 (openP l))).session).map bv, [.bool (decide (firstOf (openP l) = 1))], ((headerS (takeB 32 (openP l))).agree).map bv, ((headerS (takeB 32 (openP l))).signer).map bv, ((headerS (takeB 32 (openP l))).base).map bv, [.int .u16 ((headerS (takeB 32 (openP l))).id)], ((headerS (takeB 32 (openP l))).ratchet).map bv, [.int .u16 ((headerS (takeB 32 (openP l))).n)], [.int .u16 ((headerS (takeB 32 (openP l))).prev)]] :: rch g2 (((((openP (l)).drop 1).drop 1).drop 1).drop 1) (lenW ((((openP (l)).drop 1).drop 1).drop 1) (lenW (((openP (l)).drop 1).drop 1) (lenW ((openP (l)).drop 1) (lenW (openP (l)) (openW (l)) 32) 1) 32) 32) :: blk g1 70 headerL (headerV (header0)) :: H)) (fun _ h => h) ?_
  refine VL.move rfl ?_
  refine VL.call Try.func129 rfl (by decide) rfl (fun w' hw => key_R (i := 1) rfl hw) (fun v => ?_)
  refine VL.fact fun e9 => ?_
  subst e9
  refine VL.turn (G' := Own _ (blk g5 70 headerL [((headerS (takeB 32 (openP l))).session).map bv, [.bool (decide (firstOf (openP l) = 1))], ((headerS (takeB 32 (openP l))).agree).map bv, ((headerS (takeB 32 (openP l))).signer).map bv, ((headerS (takeB 32 (openP l))).base).map bv, [.int .u16 ((headerS (takeB 32 (openP l))).id)], ((headerS (takeB 32 (openP l))).ratchet).map bv, [.int .u16 ((headerS (takeB 32 (openP l))).n)], [.int .u16 ((headerS (takeB 32 (openP l))).prev)]] :: rch g2 ((((((openP (l)).drop 1).drop 1).drop 1).drop 1).drop 1) (lenW (((((openP (l)).drop 1).drop 1).drop 1).drop 1) (lenW ((((openP (l)).drop 1).drop 1).drop 1) (lenW (((openP (l)).drop 1).drop 1) (lenW ((openP (l)).drop 1) (lenW (openP (l)) (openW (l)) 32) 1) 32) 32) 32) :: blk g1 70 headerL (headerV (header0)) :: H)) (fun _ h => h) ?_
  refine VL.move rfl ?_
  refine VL.call Try.func130 rfl (by decide) rfl (fun w' hw => short_R (i := 1) rfl hw) (fun v => ?_)
  refine VL.fact fun e10 => ?_
  subst e10
  refine VL.turn (G' := Own _ (blk g5 70 headerL [((headerS (takeB 32 (openP l))).session).map bv, [.bool (decide (firstOf (openP l) = 1))], ((headerS (takeB 32 (openP l))).agree).map bv, ((headerS (takeB 32 (openP l))).signer).map bv, ((headerS (takeB 32 (openP l))).base).map bv, [.int .u16 ((headerS (takeB 32 (openP l))).id)], ((headerS (takeB 32 (openP l))).ratchet).map bv, [.int .u16 ((headerS (takeB 32 (openP l))).n)], [.int .u16 ((headerS (takeB 32 (openP l))).prev)]] :: rch g2 (((((((openP (l)).drop 1).drop 1).drop 1).drop 1).drop 1).drop 1) (lenW ((((((openP (l)).drop 1).drop 1).drop 1).drop 1).drop 1) (lenW (((((openP (l)).drop 1).drop 1).drop 1).drop 1) (lenW ((((openP (l)).drop 1).drop 1).drop 1) (lenW (((openP (l)).drop 1).drop 1) (lenW ((openP (l)).drop 1) (lenW (openP (l)) (openW (l)) 32) 1) 32) 32) 32) 2) :: blk g1 70 headerL (headerV (header0)) :: H)) (fun _ h => h) ?_
  refine VL.fieldAddr rfl fo70_2 rfl ?_
  refine VL.store (L := headerL) (qs := [(takeB 32 (((openP (l)).drop 1).drop 1)).map bv]) (ps' := [((headerS (takeB 32 (openP l))).session).map bv, [.bool (decide (firstOf (openP l) = 1))], (takeB 32 (((openP (l)).drop 1).drop 1)).map bv, ((headerS (takeB 32 (openP l))).signer).map bv, ((headerS (takeB 32 (openP l))).base).map bv, [.int .u16 ((headerS (takeB 32 (openP l))).id)], ((headerS (takeB 32 (openP l))).ratchet).map bv, [.int .u16 ((headerS (takeB 32 (openP l))).n)], [.int .u16 ((headerS (takeB 32 (openP l))).prev)]]) 0 2 1 rfl rfl rfl (.inl kd44) rfl rfl (arr_len (takeB_length (((openP (l)).drop 1).drop 1) 32)) (ok1_bytes _) rfl rfl ?_
  refine VL.turn (G' := Own _ (blk g5 70 headerL [((headerS (takeB 32 (openP l))).session).map bv, [.bool (decide (firstOf (openP l) = 1))], (takeB 32 (((openP (l)).drop 1).drop 1)).map bv, ((headerS (takeB 32 (openP l))).signer).map bv, ((headerS (takeB 32 (openP l))).base).map bv, [.int .u16 ((headerS (takeB 32 (openP l))).id)], ((headerS (takeB 32 (openP l))).ratchet).map bv, [.int .u16 ((headerS (takeB 32 (openP l))).n)], [.int .u16 ((headerS (takeB 32 (openP l))).prev)]] :: rch g2 (((((((openP (l)).drop 1).drop 1).drop 1).drop 1).drop 1).drop 1) (lenW ((((((openP (l)).drop 1).drop 1).drop 1).drop 1).drop 1) (lenW (((((openP (l)).drop 1).drop 1).drop 1).drop 1) (lenW ((((openP (l)).drop 1).drop 1).drop 1) (lenW (((openP (l)).drop 1).drop 1) (lenW ((openP (l)).drop 1) (lenW (openP (l)) (openW (l)) 32) 1) 32) 32) 32) 2) :: blk g1 70 headerL (headerV (header0)) :: H)) (fun _ h => h) ?_
  refine VL.fieldAddr rfl fo70_3 rfl ?_
  refine VL.store (L := headerL) (qs := [(takeB 32 ((((openP (l)).drop 1).drop 1).drop 1)).map bv]) (ps' := [((headerS (takeB 32 (openP l))).session).map bv, [.bool (decide (firstOf (openP l) = 1))], (takeB 32 (((openP (l)).drop 1).drop 1)).map bv, (takeB 32 ((((openP (l)).drop 1).drop 1).drop 1)).map bv, ((headerS (takeB 32 (openP l))).base).map bv, [.int .u16 ((headerS (takeB 32 (openP l))).id)], ((headerS (takeB 32 (openP l))).ratchet).map bv, [.int .u16 ((headerS (takeB 32 (openP l))).n)], [.int .u16 ((headerS (takeB 32 (openP l))).prev)]]) 0 3 1 rfl rfl rfl (.inl kd44) rfl rfl (arr_len (takeB_length ((((openP (l)).drop 1).drop 1).drop 1) 32)) (ok1_bytes _) rfl rfl ?_
  refine VL.turn (G' := Own _ (blk g5 70 headerL [((headerS (takeB 32 (openP l))).session).map bv, [.bool (decide (firstOf (openP l) = 1))], (takeB 32 (((openP (l)).drop 1).drop 1)).map bv, (takeB 32 ((((openP (l)).drop 1).drop 1).drop 1)).map bv, ((headerS (takeB 32 (openP l))).base).map bv, [.int .u16 ((headerS (takeB 32 (openP l))).id)], ((headerS (takeB 32 (openP l))).ratchet).map bv, [.int .u16 ((headerS (takeB 32 (openP l))).n)], [.int .u16 ((headerS (takeB 32 (openP l))).prev)]] :: rch g2 (((((((openP (l)).drop 1).drop 1).drop 1).drop 1).drop 1).drop 1) (lenW ((((((openP (l)).drop 1).drop 1).drop 1).drop 1).drop 1) (lenW (((((openP (l)).drop 1).drop 1).drop 1).drop 1) (lenW ((((openP (l)).drop 1).drop 1).drop 1) (lenW (((openP (l)).drop 1).drop 1) (lenW ((openP (l)).drop 1) (lenW (openP (l)) (openW (l)) 32) 1) 32) 32) 32) 2) :: blk g1 70 headerL (headerV (header0)) :: H)) (fun _ h => h) ?_
  refine VL.fieldAddr rfl fo70_4 rfl ?_
  refine VL.store (L := headerL) (qs := [(takeB 32 (((((openP (l)).drop 1).drop 1).drop 1).drop 1)).map bv]) (ps' := [((headerS (takeB 32 (openP l))).session).map bv, [.bool (decide (firstOf (openP l) = 1))], (takeB 32 (((openP (l)).drop 1).drop 1)).map bv, (takeB 32 ((((openP (l)).drop 1).drop 1).drop 1)).map bv, (takeB 32 (((((openP (l)).drop 1).drop 1).drop 1).drop 1)).map bv, [.int .u16 ((headerS (takeB 32 (openP l))).id)], ((headerS (takeB 32 (openP l))).ratchet).map bv, [.int .u16 ((headerS (takeB 32 (openP l))).n)], [.int .u16 ((headerS (takeB 32 (openP l))).prev)]]) 0 4 1 rfl rfl rfl (.inl kd44) rfl rfl (arr_len (takeB_length (((((openP (l)).drop 1).drop 1).drop 1).drop 1) 32)) (ok1_bytes _) rfl rfl ?_
  refine VL.turn (G' := Own _ (blk g5 70 headerL [((headerS (takeB 32 (openP l))).session).map bv, [.bool (decide (firstOf (openP l) = 1))], (takeB 32 (((openP (l)).drop 1).drop 1)).map bv, (takeB 32 ((((openP (l)).drop 1).drop 1).drop 1)).map bv, (takeB 32 (((((openP (l)).drop 1).drop 1).drop 1).drop 1)).map bv, [.int .u16 ((headerS (takeB 32 (openP l))).id)], ((headerS (takeB 32 (openP l))).ratchet).map bv, [.int .u16 ((headerS (takeB 32 (openP l))).n)], [.int .u16 ((headerS (takeB 32 (openP l))).prev)]] :: rch g2 (((((((openP (l)).drop 1).drop 1).drop 1).drop 1).drop 1).drop 1) (lenW ((((((openP (l)).drop 1).drop 1).drop 1).drop 1).drop 1) (lenW (((((openP (l)).drop 1).drop 1).drop 1).drop 1) (lenW ((((openP (l)).drop 1).drop 1).drop 1) (lenW (((openP (l)).drop 1).drop 1) (lenW ((openP (l)).drop 1) (lenW (openP (l)) (openW (l)) 32) 1) 32) 32) 32) 2) :: blk g1 70 headerL (headerV (header0)) :: H)) (fun _ h => h) ?_
  refine VL.fieldAddr rfl fo70_5 rfl ?_
  refine VL.store (L := headerL) (qs := [[.int .u16 (takeN ((((((openP (l)).drop 1).drop 1).drop 1).drop 1).drop 1) 2)]]) (ps' := [((headerS (takeB 32 (openP l))).session).map bv, [.bool (decide (firstOf (openP l) = 1))], (takeB 32 (((openP (l)).drop 1).drop 1)).map bv, (takeB 32 ((((openP (l)).drop 1).drop 1).drop 1)).map bv, (takeB 32 (((((openP (l)).drop 1).drop 1).drop 1).drop 1)).map bv, [.int .u16 (takeN ((((((openP (l)).drop 1).drop 1).drop 1).drop 1).drop 1) 2)], ((headerS (takeB 32 (openP l))).ratchet).map bv, [.int .u16 ((headerS (takeB 32 (openP l))).n)], [.int .u16 ((headerS (takeB 32 (openP l))).prev)]]) 0 5 1 rfl rfl rfl (.inr ⟨kd68, rfl⟩) rfl rfl rfl (by intro u hu; simp [cat] at hu; subst hu; rfl) rfl rfl ?_
  refine VL.turn (G' := Own _ (blk g5 70 headerL [((headerS (takeB 32 (openP l))).session).map bv, [.bool (decide (firstOf (openP l) = 1))], (takeB 32 (((openP (l)).drop 1).drop 1)).map bv, (takeB 32 ((((openP (l)).drop 1).drop 1).drop 1)).map bv, (takeB 32 (((((openP (l)).drop 1).drop 1).drop 1).drop 1)).map bv, [.int .u16 (takeN ((((((openP (l)).drop 1).drop 1).drop 1).drop 1).drop 1) 2)], ((headerS (takeB 32 (openP l))).ratchet).map bv, [.int .u16 ((headerS (takeB 32 (openP l))).n)], [.int .u16 ((headerS (takeB 32 (openP l))).prev)]] :: rch g2 (((((((openP (l)).drop 1).drop 1).drop 1).drop 1).drop 1).drop 1) (lenW ((((((openP (l)).drop 1).drop 1).drop 1).drop 1).drop 1) (lenW (((((openP (l)).drop 1).drop 1).drop 1).drop 1) (lenW ((((openP (l)).drop 1).drop 1).drop 1) (lenW (((openP (l)).drop 1).drop 1) (lenW ((openP (l)).drop 1) (lenW (openP (l)) (openW (l)) 32) 1) 32) 32) 32) 2) :: blk g1 70 headerL (headerV (header0)) :: H)) (fun _ h => h) ?_
  refine VL.nil ?_
  refine VX.next ?_
  refine VC.seq ?_
  refine VC.region ?_
  refine VL.move rfl ?_
  refine VL.call Try.func129 rfl (by decide) rfl (fun w' hw => key_R (i := 1) rfl hw) (fun v => ?_)
  refine VL.fact fun e11 => ?_
  subst e11
  refine VL.turn (G' := Own _ (blk g5 70 headerL [((headerS (takeB 32 (openP l))).session).map bv, [.bool (decide (firstOf (openP l) = 1))], (takeB 32 (((openP (l)).drop 1).drop 1)).map bv, (takeB 32 ((((openP (l)).drop 1).drop 1).drop 1)).map bv, (takeB 32 (((((openP (l)).drop 1).drop 1).drop 1).drop 1)).map bv, [.int .u16 (takeN ((((((openP (l)).drop 1).drop 1).drop 1).drop 1).drop 1) 2)], ((headerS (takeB 32 (openP l))).ratchet).map bv, [.int .u16 ((headerS (takeB 32 (openP l))).n)], [.int .u16 ((headerS (takeB 32 (openP l))).prev)]] :: rch g2 ((((((((openP (l)).drop 1).drop 1).drop 1).drop 1).drop 1).drop 1).drop 1) (lenW (((((((openP (l)).drop 1).drop 1).drop 1).drop 1).drop 1).drop 1) (lenW ((((((openP (l)).drop 1).drop 1).drop 1).drop 1).drop 1) (lenW (((((openP (l)).drop 1).drop 1).drop 1).drop 1) (lenW ((((openP (l)).drop 1).drop 1).drop 1) (lenW (((openP (l)).drop 1).drop 1) (lenW ((openP (l)).drop 1) (lenW (openP (l)) (openW (l)) 32) 1) 32) 32) 32) 2) 32) :: blk g1 70 headerL (headerV (header0)) :: H)) (fun _ h => h) ?_
  refine VL.move rfl ?_
  refine VL.call Try.func130 rfl (by decide) rfl (fun w' hw => short_R (i := 1) rfl hw) (fun v => ?_)
  refine VL.fact fun e12 => ?_
  subst e12
  refine VL.turn (G' := Own _ (blk g5 70 headerL [((headerS (takeB 32 (openP l))).session).map bv, [.bool (decide (firstOf (openP l) = 1))], (takeB 32 (((openP (l)).drop 1).drop 1)).map bv, (takeB 32 ((((openP (l)).drop 1).drop 1).drop 1)).map bv, (takeB 32 (((((openP (l)).drop 1).drop 1).drop 1).drop 1)).map bv, [.int .u16 (takeN ((((((openP (l)).drop 1).drop 1).drop 1).drop 1).drop 1) 2)], ((headerS (takeB 32 (openP l))).ratchet).map bv, [.int .u16 ((headerS (takeB 32 (openP l))).n)], [.int .u16 ((headerS (takeB 32 (openP l))).prev)]] :: rch g2 (((((((((openP (l)).drop 1).drop 1).drop 1).drop 1).drop 1).drop 1).drop 1).drop 1) (lenW ((((((((openP (l)).drop 1).drop 1).drop 1).drop 1).drop 1).drop 1).drop 1) (lenW (((((((openP (l)).drop 1).drop 1).drop 1).drop 1).drop 1).drop 1) (lenW ((((((openP (l)).drop 1).drop 1).drop 1).drop 1).drop 1) (lenW (((((openP (l)).drop 1).drop 1).drop 1).drop 1) (lenW ((((openP (l)).drop 1).drop 1).drop 1) (lenW (((openP (l)).drop 1).drop 1) (lenW ((openP (l)).drop 1) (lenW (openP (l)) (openW (l)) 32) 1) 32) 32) 32) 2) 32) 2) :: blk g1 70 headerL (headerV (header0)) :: H)) (fun _ h => h) ?_
  refine VL.move rfl ?_
  refine VL.call Try.func130 rfl (by decide) rfl (fun w' hw => short_R (i := 1) rfl hw) (fun v => ?_)
  refine VL.fact fun e13 => ?_
  subst e13
  refine VL.turn (G' := Own _ (blk g5 70 headerL [((headerS (takeB 32 (openP l))).session).map bv, [.bool (decide (firstOf (openP l) = 1))], (takeB 32 (((openP (l)).drop 1).drop 1)).map bv, (takeB 32 ((((openP (l)).drop 1).drop 1).drop 1)).map bv, (takeB 32 (((((openP (l)).drop 1).drop 1).drop 1).drop 1)).map bv, [.int .u16 (takeN ((((((openP (l)).drop 1).drop 1).drop 1).drop 1).drop 1) 2)], ((headerS (takeB 32 (openP l))).ratchet).map bv, [.int .u16 ((headerS (takeB 32 (openP l))).n)], [.int .u16 ((headerS (takeB 32 (openP l))).prev)]] :: rch g2 ((((((((((openP (l)).drop 1).drop 1).drop 1).drop 1).drop 1).drop 1).drop 1).drop 1).drop 1) (lenW (((((((((openP (l)).drop 1).drop 1).drop 1).drop 1).drop 1).drop 1).drop 1).drop 1) (lenW ((((((((openP (l)).drop 1).drop 1).drop 1).drop 1).drop 1).drop 1).drop 1) (lenW (((((((openP (l)).drop 1).drop 1).drop 1).drop 1).drop 1).drop 1) (lenW ((((((openP (l)).drop 1).drop 1).drop 1).drop 1).drop 1) (lenW (((((openP (l)).drop 1).drop 1).drop 1).drop 1) (lenW ((((openP (l)).drop 1).drop 1).drop 1) (lenW (((openP (l)).drop 1).drop 1) (lenW ((openP (l)).drop 1) (lenW (openP (l)) (openW (l)) 32) 1) 32) 32) 32) 2) 32) 2) 2) :: blk g1 70 headerL (headerV (header0)) :: H)) (fun _ h => h) ?_
  refine VL.fieldAddr rfl fo70_6 rfl ?_
  refine VL.store (L := headerL) (qs := [(takeB 32 (((((((openP (l)).drop 1).drop 1).drop 1).drop 1).drop 1).drop 1)).map bv]) (ps' := [((headerS (takeB 32 (openP l))).session).map bv, [.bool (decide (firstOf (openP l) = 1))], (takeB 32 (((openP (l)).drop 1).drop 1)).map bv, (takeB 32 ((((openP (l)).drop 1).drop 1).drop 1)).map bv, (takeB 32 (((((openP (l)).drop 1).drop 1).drop 1).drop 1)).map bv, [.int .u16 (takeN ((((((openP (l)).drop 1).drop 1).drop 1).drop 1).drop 1) 2)], (takeB 32 (((((((openP (l)).drop 1).drop 1).drop 1).drop 1).drop 1).drop 1)).map bv, [.int .u16 ((headerS (takeB 32 (openP l))).n)], [.int .u16 ((headerS (takeB 32 (openP l))).prev)]]) 0 6 1 rfl rfl rfl (.inl kd44) rfl rfl (arr_len (takeB_length (((((((openP (l)).drop 1).drop 1).drop 1).drop 1).drop 1).drop 1) 32)) (ok1_bytes _) rfl rfl ?_
  refine VL.turn (G' := Own _ (blk g5 70 headerL [((headerS (takeB 32 (openP l))).session).map bv, [.bool (decide (firstOf (openP l) = 1))], (takeB 32 (((openP (l)).drop 1).drop 1)).map bv, (takeB 32 ((((openP (l)).drop 1).drop 1).drop 1)).map bv, (takeB 32 (((((openP (l)).drop 1).drop 1).drop 1).drop 1)).map bv, [.int .u16 (takeN ((((((openP (l)).drop 1).drop 1).drop 1).drop 1).drop 1) 2)], (takeB 32 (((((((openP (l)).drop 1).drop 1).drop 1).drop 1).drop 1).drop 1)).map bv, [.int .u16 ((headerS (takeB 32 (openP l))).n)], [.int .u16 ((headerS (takeB 32 (openP l))).prev)]] :: rch g2 ((((((((((openP (l)).drop 1).drop 1).drop 1).drop 1).drop 1).drop 1).drop 1).drop 1).drop 1) (lenW (((((((((openP (l)).drop 1).drop 1).drop 1).drop 1).drop 1).drop 1).drop 1).drop 1) (lenW ((((((((openP (l)).drop 1).drop 1).drop 1).drop 1).drop 1).drop 1).drop 1) (lenW (((((((openP (l)).drop 1).drop 1).drop 1).drop 1).drop 1).drop 1) (lenW ((((((openP (l)).drop 1).drop 1).drop 1).drop 1).drop 1) (lenW (((((openP (l)).drop 1).drop 1).drop 1).drop 1) (lenW ((((openP (l)).drop 1).drop 1).drop 1) (lenW (((openP (l)).drop 1).drop 1) (lenW ((openP (l)).drop 1) (lenW (openP (l)) (openW (l)) 32) 1) 32) 32) 32) 2) 32) 2) 2) :: blk g1 70 headerL (headerV (header0)) :: H)) (fun _ h => h) ?_
  refine VL.fieldAddr rfl fo70_7 rfl ?_
  refine VL.store (L := headerL) (qs := [[.int .u16 (takeN ((((((((openP (l)).drop 1).drop 1).drop 1).drop 1).drop 1).drop 1).drop 1) 2)]]) (ps' := [((headerS (takeB 32 (openP l))).session).map bv, [.bool (decide (firstOf (openP l) = 1))], (takeB 32 (((openP (l)).drop 1).drop 1)).map bv, (takeB 32 ((((openP (l)).drop 1).drop 1).drop 1)).map bv, (takeB 32 (((((openP (l)).drop 1).drop 1).drop 1).drop 1)).map bv, [.int .u16 (takeN ((((((openP (l)).drop 1).drop 1).drop 1).drop 1).drop 1) 2)], (takeB 32 (((((((openP (l)).drop 1).drop 1).drop 1).drop 1).drop 1).drop 1)).map bv, [.int .u16 (takeN ((((((((openP (l)).drop 1).drop 1).drop 1).drop 1).drop 1).drop 1).drop 1) 2)], [.int .u16 ((headerS (takeB 32 (openP l))).prev)]]) 0 7 1 rfl rfl rfl (.inr ⟨kd68, rfl⟩) rfl rfl rfl (by intro u hu; simp [cat] at hu; subst hu; rfl) rfl rfl ?_
  refine VL.turn (G' := Own _ (blk g5 70 headerL [((headerS (takeB 32 (openP l))).session).map bv, [.bool (decide (firstOf (openP l) = 1))], (takeB 32 (((openP (l)).drop 1).drop 1)).map bv, (takeB 32 ((((openP (l)).drop 1).drop 1).drop 1)).map bv, (takeB 32 (((((openP (l)).drop 1).drop 1).drop 1).drop 1)).map bv, [.int .u16 (takeN ((((((openP (l)).drop 1).drop 1).drop 1).drop 1).drop 1) 2)], (takeB 32 (((((((openP (l)).drop 1).drop 1).drop 1).drop 1).drop 1).drop 1)).map bv, [.int .u16 (takeN ((((((((openP (l)).drop 1).drop 1).drop 1).drop 1).drop 1).drop 1).drop 1) 2)], [.int .u16 ((headerS (takeB 32 (openP l))).prev)]] :: rch g2 ((((((((((openP (l)).drop 1).drop 1).drop 1).drop 1).drop 1).drop 1).drop 1).drop 1).drop 1) (lenW (((((((((openP (l)).drop 1).drop 1).drop 1).drop 1).drop 1).drop 1).drop 1).drop 1) (lenW ((((((((openP (l)).drop 1).drop 1).drop 1).drop 1).drop 1).drop 1).drop 1) (lenW (((((((openP (l)).drop 1).drop 1).drop 1).drop 1).drop 1).drop 1) (lenW ((((((openP (l)).drop 1).drop 1).drop 1).drop 1).drop 1) (lenW (((((openP (l)).drop 1).drop 1).drop 1).drop 1) (lenW ((((openP (l)).drop 1).drop 1).drop 1) (lenW (((openP (l)).drop 1).drop 1) (lenW ((openP (l)).drop 1) (lenW (openP (l)) (openW (l)) 32) 1) 32) 32) 32) 2) 32) 2) 2) :: blk g1 70 headerL (headerV (header0)) :: H)) (fun _ h => h) ?_
  refine VL.fieldAddr rfl fo70_8 rfl ?_
  refine VL.store (L := headerL) (qs := [[.int .u16 (takeN (((((((((openP (l)).drop 1).drop 1).drop 1).drop 1).drop 1).drop 1).drop 1).drop 1) 2)]]) (ps' := [((headerS (takeB 32 (openP l))).session).map bv, [.bool (decide (firstOf (openP l) = 1))], (takeB 32 (((openP (l)).drop 1).drop 1)).map bv, (takeB 32 ((((openP (l)).drop 1).drop 1).drop 1)).map bv, (takeB 32 (((((openP (l)).drop 1).drop 1).drop 1).drop 1)).map bv, [.int .u16 (takeN ((((((openP (l)).drop 1).drop 1).drop 1).drop 1).drop 1) 2)], (takeB 32 (((((((openP (l)).drop 1).drop 1).drop 1).drop 1).drop 1).drop 1)).map bv, [.int .u16 (takeN ((((((((openP (l)).drop 1).drop 1).drop 1).drop 1).drop 1).drop 1).drop 1) 2)], [.int .u16 (takeN (((((((((openP (l)).drop 1).drop 1).drop 1).drop 1).drop 1).drop 1).drop 1).drop 1) 2)]]) 0 8 1 rfl rfl rfl (.inr ⟨kd68, rfl⟩) rfl rfl rfl (by intro u hu; simp [cat] at hu; subst hu; rfl) rfl rfl ?_
  refine VL.turn (G' := Own _ (blk g5 70 headerL [((headerS (takeB 32 (openP l))).session).map bv, [.bool (decide (firstOf (openP l) = 1))], (takeB 32 (((openP (l)).drop 1).drop 1)).map bv, (takeB 32 ((((openP (l)).drop 1).drop 1).drop 1)).map bv, (takeB 32 (((((openP (l)).drop 1).drop 1).drop 1).drop 1)).map bv, [.int .u16 (takeN ((((((openP (l)).drop 1).drop 1).drop 1).drop 1).drop 1) 2)], (takeB 32 (((((((openP (l)).drop 1).drop 1).drop 1).drop 1).drop 1).drop 1)).map bv, [.int .u16 (takeN ((((((((openP (l)).drop 1).drop 1).drop 1).drop 1).drop 1).drop 1).drop 1) 2)], [.int .u16 (takeN (((((((((openP (l)).drop 1).drop 1).drop 1).drop 1).drop 1).drop 1).drop 1).drop 1) 2)]] :: rch g2 ((((((((((openP (l)).drop 1).drop 1).drop 1).drop 1).drop 1).drop 1).drop 1).drop 1).drop 1) (lenW (((((((((openP (l)).drop 1).drop 1).drop 1).drop 1).drop 1).drop 1).drop 1).drop 1) (lenW ((((((((openP (l)).drop 1).drop 1).drop 1).drop 1).drop 1).drop 1).drop 1) (lenW (((((((openP (l)).drop 1).drop 1).drop 1).drop 1).drop 1).drop 1) (lenW ((((((openP (l)).drop 1).drop 1).drop 1).drop 1).drop 1) (lenW (((((openP (l)).drop 1).drop 1).drop 1).drop 1) (lenW ((((openP (l)).drop 1).drop 1).drop 1) (lenW (((openP (l)).drop 1).drop 1) (lenW ((openP (l)).drop 1) (lenW (openP (l)) (openW (l)) 32) 1) 32) 32) 32) 2) 32) 2) 2) :: blk g1 70 headerL (headerV (header0)) :: H)) (fun _ h => h) ?_
  refine VL.nil ?_
  refine VX.next ?_
  refine VC.seq ?_
  refine VC.seq ?_
  refine VC.region ?_
  refine VL.loads (cs := cat (headerV (headerOf (openP l)))) 0 0 9 rfl kd70 (fun _ h => h) rfl rfl rfl rfl ?_
  refine VL.call Try.func52 rfl (by decide) rfl (fun w' hw => headerBytes_w hw (x := headerOf (openP l)) (headerOf_ok (openP l))) (fun v => ?_)
  refine VL.at (fun w14 h1w => ?_)
  obtain ⟨p15, c16, rfl, hO18, hA17⟩ := h1w
  refine VL.toOwn hO18 ?_
  refine VL.move rfl ?_
  refine VL.extract rfl rfl ?_
  refine VL.extract rfl rfl ?_
  refine VL.assign rfl ?_
  refine VL.assign rfl ?_
  refine VL.nil ?_
  refine VX.next ?_
  refine VC.seq ?_
  refine VC.region ?_
  refine VL.move rfl ?_
  cases hs : (headerO (headerOf (openP l))).isSome
  · refine VL.not rfl ?_
    refine VL.move rfl ?_
    refine VL.pass rfl rfl rfl rfl rfl ?_
    refine VL.pass rfl rfl rfl rfl rfl ?_
    refine VL.pick_t rfl rfl ?_
    refine VL.nil ?_
    refine VX.next ?_
    refine VC.yes rfl ?_
    refine VC.region ?_
    refine VL.move rfl ?_
    refine VL.call Try.func125 rfl (by decide) rfl (fun w' hw => fail_R (i := 1) rfl hw (141)) (fun v => ?_)
    refine VL.fact fun e19 => ?_
    subst e19
    refine VL.turn (G' := Own _ (blk g5 70 headerL [((headerS (takeB 32 (openP l))).session).map bv, [.bool (decide (firstOf (openP l) = 1))], (takeB 32 (((openP (l)).drop 1).drop 1)).map bv, (takeB 32 ((((openP (l)).drop 1).drop 1).drop 1)).map bv, (takeB 32 (((((openP (l)).drop 1).drop 1).drop 1).drop 1)).map bv, [.int .u16 (takeN ((((((openP (l)).drop 1).drop 1).drop 1).drop 1).drop 1) 2)], (takeB 32 (((((((openP (l)).drop 1).drop 1).drop 1).drop 1).drop 1).drop 1)).map bv, [.int .u16 (takeN ((((((((openP (l)).drop 1).drop 1).drop 1).drop 1).drop 1).drop 1).drop 1) 2)], [.int .u16 (takeN (((((((((openP (l)).drop 1).drop 1).drop 1).drop 1).drop 1).drop 1).drop 1).drop 1) 2)]] :: rch g2 ((((((((((openP (l)).drop 1).drop 1).drop 1).drop 1).drop 1).drop 1).drop 1).drop 1).drop 1) (failW (lenW (((((((((openP (l)).drop 1).drop 1).drop 1).drop 1).drop 1).drop 1).drop 1).drop 1) (lenW ((((((((openP (l)).drop 1).drop 1).drop 1).drop 1).drop 1).drop 1).drop 1) (lenW (((((((openP (l)).drop 1).drop 1).drop 1).drop 1).drop 1).drop 1) (lenW ((((((openP (l)).drop 1).drop 1).drop 1).drop 1).drop 1) (lenW (((((openP (l)).drop 1).drop 1).drop 1).drop 1) (lenW ((((openP (l)).drop 1).drop 1).drop 1) (lenW (((openP (l)).drop 1).drop 1) (lenW ((openP (l)).drop 1) (lenW (openP (l)) (openW (l)) 32) 1) 32) 32) 32) 2) 32) 2) 2) (141)) :: blk g1 70 headerL (headerV (header0)) :: H)) (fun _ h => h) ?_
    refine VL.nil ?_
    refine VX.next ?_
    refine VC.seq ?_
    refine VC.letCells 0 rfl (fun w20 hO22 hF21 => ?_)
    apply VC.anyTA 3 2 (F := [eqF _, eqF _, lateE _]) [⟨[], [5]⟩, ⟨[], [4]⟩, ⟨[(54, 1)], []⟩] [(53, 0), (55, 2)] [0, 2, 3, 4, 5, 6, 8, 9, 10, 11, 12, 13, 14, 15, 16, 17, 18, 19, 20, 21, 22, 23, 24, 25, 26, 27, 28, 29, 30, 31, 32, 33, 34, 35, 36, 37, 38, 39, 40, 41, 42, 43, 44, 45, 46, 47, 48, 49, 50, 51] rfl (by kernel_rfl) (by kernel_rfl) rfl rfl (by kernel_rfl) (by kernel_rfl) (by kernel_rfl) rfl ?obs10 ?end10
    case obs10 =>
      refine Obs.cons ?_ ?_
      · refine obS (by kernel_rfl) rfl rfl (fun ph10 w10 hO10 => ?_)
        refine VL.loadsF (s := ⟨w20, _⟩) (cs := cat (headerV (headerOf (openP l)))) 0 9 rfl kd70 hF21 (fun _ e => e ▸ Still.ok hO10 (by repeat (first | exact List.mem_cons_self .. | apply List.mem_cons_of_mem))) rfl rfl rfl ?_
        exact VL.finS hO10 rfl rfl
      refine Obs.cons ?_ ?_
      · refine obS (by kernel_rfl) rfl rfl (fun ph10 w10 hO10 => ?_)
        refine VL.move rfl ?_
        exact VL.finS hO10 rfl rfl
      refine Obs.cons ?_ ?_
      · refine obK (by kernel_rfl) rfl (fun w10 hO10 => ?_)
        rintro _ rfl
        refine VL.toOwn hO10 ?_
        refine VL.call Try.func126 rfl (by decide) rfl (fun w' hw => end_R (i := 0) rfl hw) (fun v => ?_)
        exact VL.finC rfl (fun _ h => h.2) (fun _ h => ⟨w10, h⟩)
      exact Obs.nil
    case end10 =>
      intro w10 hO10
      rintro _ rfl _ ⟨wk10, rfl, hK24⟩
      replace hK24 : Own _ (rch g2 ((((((((((openP (l)).drop 1).drop 1).drop 1).drop 1).drop 1).drop 1).drop 1).drop 1).drop 1) (endW ((((((((((openP (l)).drop 1).drop 1).drop 1).drop 1).drop 1).drop 1).drop 1).drop 1).drop 1) (failW (lenW (((((((((openP (l)).drop 1).drop 1).drop 1).drop 1).drop 1).drop 1).drop 1).drop 1) (lenW ((((((((openP (l)).drop 1).drop 1).drop 1).drop 1).drop 1).drop 1).drop 1) (lenW (((((((openP (l)).drop 1).drop 1).drop 1).drop 1).drop 1).drop 1) (lenW ((((((openP (l)).drop 1).drop 1).drop 1).drop 1).drop 1) (lenW (((((openP (l)).drop 1).drop 1).drop 1).drop 1) (lenW ((((openP (l)).drop 1).drop 1).drop 1) (lenW (((openP (l)).drop 1).drop 1) (lenW ((openP (l)).drop 1) (lenW (openP (l)) (openW (l)) 32) 1) 32) 32) 32) 2) 32) 2) 2) (141))) :: blk g1 70 headerL (headerV (header0)) :: H) w10 := hK24
      refine VL.toOwn hK24 ?_
      refine VL.store (L := headerL) (qs := (headerV (headerOf (openP l)))) (ps' := (headerV (headerOf (openP l)))) 1 0 9 rfl rfl rfl (.inl kd70) rfl rfl (headerV_len (headerOf_ok (openP l))) (headerV_ok1 (headerOf (openP l))) rfl rfl ?_
      refine VL.turn (G' := Own _ (rch g2 ((((((((((openP (l)).drop 1).drop 1).drop 1).drop 1).drop 1).drop 1).drop 1).drop 1).drop 1) (endW ((((((((((openP (l)).drop 1).drop 1).drop 1).drop 1).drop 1).drop 1).drop 1).drop 1).drop 1) (failW (lenW (((((((((openP (l)).drop 1).drop 1).drop 1).drop 1).drop 1).drop 1).drop 1).drop 1) (lenW ((((((((openP (l)).drop 1).drop 1).drop 1).drop 1).drop 1).drop 1).drop 1) (lenW (((((((openP (l)).drop 1).drop 1).drop 1).drop 1).drop 1).drop 1) (lenW ((((((openP (l)).drop 1).drop 1).drop 1).drop 1).drop 1) (lenW (((((openP (l)).drop 1).drop 1).drop 1).drop 1) (lenW ((((openP (l)).drop 1).drop 1).drop 1) (lenW (((openP (l)).drop 1).drop 1) (lenW ((openP (l)).drop 1) (lenW (openP (l)) (openW (l)) 32) 1) 32) 32) 32) 2) 32) 2) 2) (141))) :: blk g1 70 headerL (headerV (headerOf (openP l))) :: H)) (fun _ h => h) ?_
      refine VL.assign rfl ?_
      refine VL.nil ?_
      refine VX.next ?_
      refine VC.ret ?_
      refine VX.ret_cell (cs := cat (headerV (headerOf (openP l)))) 1 rfl rfl rfl (by rw [cat_size (headerV_len (headerOf_ok (openP l)))]; exact kd70) (fun _ h => h) rfl rfl (fun we hw => ?_)
      have hc := header_why' l
      rw [show (if (headerO (headerOf (openP l))).isSome = true ∧ firstOf (openP l) ≤ 1 then takesW headerK (openP l) (openW l) else failW (takesW headerK (openP l) (openW l)) 141) = failW (takesW headerK (openP l) (openW l)) 141 from if_neg (fun h => by rw [hs] at h; cases h.1)] at hc
      exact ⟨congrArg (fun n : Nat => Value.tuple #[_, .int .i64 (n : Int)]) hc, hw.drop.drop.sub (fun _ hs => by repeat (first | exact hs | apply List.mem_cons_of_mem))⟩
  · refine VL.not rfl ?_
    refine VL.move rfl ?_
    refine VL.go rfl rfl rfl ?_
    refine VL.move rfl ?_
    refine VL.go rfl rfl rfl ?_
    refine VL.gtr rfl rfl ?_
    refine VL.case (fun h8_4 => ?_) (fun h8_4 => ?_)
    · have h8_4 : ¬ firstOf (openP l) ≤ 1 := fun h => by have h8_4 : (1 : Int) < ((firstOf (openP l) : Nat) : Int) := h8_4; omega
      refine VL.pick_f rfl rfl ?_
      refine VL.nil ?_
      refine VX.next ?_
      refine VC.yes rfl ?_
      refine VC.region ?_
      refine VL.move rfl ?_
      refine VL.call Try.func125 rfl (by decide) rfl (fun w' hw => fail_R (i := 1) rfl hw (141)) (fun v => ?_)
      refine VL.fact fun e25 => ?_
      subst e25
      refine VL.turn (G' := Own _ (blk g5 70 headerL [((headerS (takeB 32 (openP l))).session).map bv, [.bool (decide (firstOf (openP l) = 1))], (takeB 32 (((openP (l)).drop 1).drop 1)).map bv, (takeB 32 ((((openP (l)).drop 1).drop 1).drop 1)).map bv, (takeB 32 (((((openP (l)).drop 1).drop 1).drop 1).drop 1)).map bv, [.int .u16 (takeN ((((((openP (l)).drop 1).drop 1).drop 1).drop 1).drop 1) 2)], (takeB 32 (((((((openP (l)).drop 1).drop 1).drop 1).drop 1).drop 1).drop 1)).map bv, [.int .u16 (takeN ((((((((openP (l)).drop 1).drop 1).drop 1).drop 1).drop 1).drop 1).drop 1) 2)], [.int .u16 (takeN (((((((((openP (l)).drop 1).drop 1).drop 1).drop 1).drop 1).drop 1).drop 1).drop 1) 2)]] :: rch g2 ((((((((((openP (l)).drop 1).drop 1).drop 1).drop 1).drop 1).drop 1).drop 1).drop 1).drop 1) (failW (lenW (((((((((openP (l)).drop 1).drop 1).drop 1).drop 1).drop 1).drop 1).drop 1).drop 1) (lenW ((((((((openP (l)).drop 1).drop 1).drop 1).drop 1).drop 1).drop 1).drop 1) (lenW (((((((openP (l)).drop 1).drop 1).drop 1).drop 1).drop 1).drop 1) (lenW ((((((openP (l)).drop 1).drop 1).drop 1).drop 1).drop 1) (lenW (((((openP (l)).drop 1).drop 1).drop 1).drop 1) (lenW ((((openP (l)).drop 1).drop 1).drop 1) (lenW (((openP (l)).drop 1).drop 1) (lenW ((openP (l)).drop 1) (lenW (openP (l)) (openW (l)) 32) 1) 32) 32) 32) 2) 32) 2) 2) (141)) :: blk g1 70 headerL (headerV (header0)) :: H)) (fun _ h => h) ?_
      refine VL.nil ?_
      refine VX.next ?_
      refine VC.seq ?_
      refine VC.letCells 0 rfl (fun w26 hO28 hF27 => ?_)
      apply VC.anyTA 3 2 (F := [eqF _, eqF _, lateE _]) [⟨[], [5]⟩, ⟨[], [4]⟩, ⟨[(54, 1)], []⟩] [(53, 0), (55, 2)] [0, 2, 3, 4, 5, 6, 8, 9, 10, 11, 12, 13, 14, 15, 16, 17, 18, 19, 20, 21, 22, 23, 24, 25, 26, 27, 28, 29, 30, 31, 32, 33, 34, 35, 36, 37, 38, 39, 40, 41, 42, 43, 44, 45, 46, 47, 48, 49, 50, 51] rfl (by kernel_rfl) (by kernel_rfl) rfl rfl (by kernel_rfl) (by kernel_rfl) (by kernel_rfl) rfl ?obs10 ?end10
      case obs10 =>
        refine Obs.cons ?_ ?_
        · refine obS (by kernel_rfl) rfl rfl (fun ph10 w10 hO10 => ?_)
          refine VL.loadsF (s := ⟨w26, _⟩) (cs := cat (headerV (headerOf (openP l)))) 0 9 rfl kd70 hF27 (fun _ e => e ▸ Still.ok hO10 (by repeat (first | exact List.mem_cons_self .. | apply List.mem_cons_of_mem))) rfl rfl rfl ?_
          exact VL.finS hO10 rfl rfl
        refine Obs.cons ?_ ?_
        · refine obS (by kernel_rfl) rfl rfl (fun ph10 w10 hO10 => ?_)
          refine VL.move rfl ?_
          exact VL.finS hO10 rfl rfl
        refine Obs.cons ?_ ?_
        · refine obK (by kernel_rfl) rfl (fun w10 hO10 => ?_)
          rintro _ rfl
          refine VL.toOwn hO10 ?_
          refine VL.call Try.func126 rfl (by decide) rfl (fun w' hw => end_R (i := 0) rfl hw) (fun v => ?_)
          exact VL.finC rfl (fun _ h => h.2) (fun _ h => ⟨w10, h⟩)
        exact Obs.nil
      case end10 =>
        intro w10 hO10
        rintro _ rfl _ ⟨wk10, rfl, hK30⟩
        replace hK30 : Own _ (rch g2 ((((((((((openP (l)).drop 1).drop 1).drop 1).drop 1).drop 1).drop 1).drop 1).drop 1).drop 1) (endW ((((((((((openP (l)).drop 1).drop 1).drop 1).drop 1).drop 1).drop 1).drop 1).drop 1).drop 1) (failW (lenW (((((((((openP (l)).drop 1).drop 1).drop 1).drop 1).drop 1).drop 1).drop 1).drop 1) (lenW ((((((((openP (l)).drop 1).drop 1).drop 1).drop 1).drop 1).drop 1).drop 1) (lenW (((((((openP (l)).drop 1).drop 1).drop 1).drop 1).drop 1).drop 1) (lenW ((((((openP (l)).drop 1).drop 1).drop 1).drop 1).drop 1) (lenW (((((openP (l)).drop 1).drop 1).drop 1).drop 1) (lenW ((((openP (l)).drop 1).drop 1).drop 1) (lenW (((openP (l)).drop 1).drop 1) (lenW ((openP (l)).drop 1) (lenW (openP (l)) (openW (l)) 32) 1) 32) 32) 32) 2) 32) 2) 2) (141))) :: blk g1 70 headerL (headerV (header0)) :: H) w10 := hK30
        refine VL.toOwn hK30 ?_
        refine VL.store (L := headerL) (qs := (headerV (headerOf (openP l)))) (ps' := (headerV (headerOf (openP l)))) 1 0 9 rfl rfl rfl (.inl kd70) rfl rfl (headerV_len (headerOf_ok (openP l))) (headerV_ok1 (headerOf (openP l))) rfl rfl ?_
        refine VL.turn (G' := Own _ (rch g2 ((((((((((openP (l)).drop 1).drop 1).drop 1).drop 1).drop 1).drop 1).drop 1).drop 1).drop 1) (endW ((((((((((openP (l)).drop 1).drop 1).drop 1).drop 1).drop 1).drop 1).drop 1).drop 1).drop 1) (failW (lenW (((((((((openP (l)).drop 1).drop 1).drop 1).drop 1).drop 1).drop 1).drop 1).drop 1) (lenW ((((((((openP (l)).drop 1).drop 1).drop 1).drop 1).drop 1).drop 1).drop 1) (lenW (((((((openP (l)).drop 1).drop 1).drop 1).drop 1).drop 1).drop 1) (lenW ((((((openP (l)).drop 1).drop 1).drop 1).drop 1).drop 1) (lenW (((((openP (l)).drop 1).drop 1).drop 1).drop 1) (lenW ((((openP (l)).drop 1).drop 1).drop 1) (lenW (((openP (l)).drop 1).drop 1) (lenW ((openP (l)).drop 1) (lenW (openP (l)) (openW (l)) 32) 1) 32) 32) 32) 2) 32) 2) 2) (141))) :: blk g1 70 headerL (headerV (headerOf (openP l))) :: H)) (fun _ h => h) ?_
        refine VL.assign rfl ?_
        refine VL.nil ?_
        refine VX.next ?_
        refine VC.ret ?_
        refine VX.ret_cell (cs := cat (headerV (headerOf (openP l)))) 1 rfl rfl rfl (by rw [cat_size (headerV_len (headerOf_ok (openP l)))]; exact kd70) (fun _ h => h) rfl rfl (fun we hw => ?_)
        have hc := header_why' l
        rw [show (if (headerO (headerOf (openP l))).isSome = true ∧ firstOf (openP l) ≤ 1 then takesW headerK (openP l) (openW l) else failW (takesW headerK (openP l) (openW l)) 141) = failW (takesW headerK (openP l) (openW l)) 141 from if_neg (fun h => h8_4 h.2)] at hc
        exact ⟨congrArg (fun n : Nat => Value.tuple #[_, .int .i64 (n : Int)]) hc, hw.drop.drop.sub (fun _ hs => by repeat (first | exact hs | apply List.mem_cons_of_mem))⟩
    · have h8_4 : firstOf (openP l) ≤ 1 := by have h8_4 : ¬ (1 : Int) < ((firstOf (openP l) : Nat) : Int) := h8_4; omega
      refine VL.pick_f rfl rfl ?_
      refine VL.nil ?_
      refine VX.next ?_
      refine VC.no rfl ?_
      refine VC.skip ?_
      refine VX.next ?_
      refine VC.seq ?_
      refine VC.letCells 0 rfl (fun w31 hO33 hF32 => ?_)
      apply VC.anyTA 3 2 (F := [eqF _, eqF _, lateE _]) [⟨[], [5]⟩, ⟨[], [4]⟩, ⟨[(54, 1)], []⟩] [(53, 0), (55, 2)] [0, 2, 3, 4, 5, 6, 8, 9, 10, 11, 12, 13, 14, 15, 16, 17, 18, 19, 20, 21, 22, 23, 24, 25, 26, 27, 28, 29, 30, 31, 32, 33, 34, 35, 36, 37, 38, 39, 40, 41, 42, 43, 44, 45, 46, 47, 48, 49, 50, 51] rfl (by kernel_rfl) (by kernel_rfl) rfl rfl (by kernel_rfl) (by kernel_rfl) (by kernel_rfl) rfl ?obs10 ?end10
      case obs10 =>
        refine Obs.cons ?_ ?_
        · refine obS (by kernel_rfl) rfl rfl (fun ph10 w10 hO10 => ?_)
          refine VL.loadsF (s := ⟨w31, _⟩) (cs := cat (headerV (headerOf (openP l)))) 0 9 rfl kd70 hF32 (fun _ e => e ▸ Still.ok hO10 (by repeat (first | exact List.mem_cons_self .. | apply List.mem_cons_of_mem))) rfl rfl rfl ?_
          exact VL.finS hO10 rfl rfl
        refine Obs.cons ?_ ?_
        · refine obS (by kernel_rfl) rfl rfl (fun ph10 w10 hO10 => ?_)
          refine VL.move rfl ?_
          exact VL.finS hO10 rfl rfl
        refine Obs.cons ?_ ?_
        · refine obK (by kernel_rfl) rfl (fun w10 hO10 => ?_)
          rintro _ rfl
          refine VL.toOwn hO10 ?_
          refine VL.call Try.func126 rfl (by decide) rfl (fun w' hw => end_R (i := 0) rfl hw) (fun v => ?_)
          exact VL.finC rfl (fun _ h => h.2) (fun _ h => ⟨w10, h⟩)
        exact Obs.nil
      case end10 =>
        intro w10 hO10
        rintro _ rfl _ ⟨wk10, rfl, hK35⟩
        replace hK35 : Own _ (rch g2 ((((((((((openP (l)).drop 1).drop 1).drop 1).drop 1).drop 1).drop 1).drop 1).drop 1).drop 1) (endW ((((((((((openP (l)).drop 1).drop 1).drop 1).drop 1).drop 1).drop 1).drop 1).drop 1).drop 1) (lenW (((((((((openP (l)).drop 1).drop 1).drop 1).drop 1).drop 1).drop 1).drop 1).drop 1) (lenW ((((((((openP (l)).drop 1).drop 1).drop 1).drop 1).drop 1).drop 1).drop 1) (lenW (((((((openP (l)).drop 1).drop 1).drop 1).drop 1).drop 1).drop 1) (lenW ((((((openP (l)).drop 1).drop 1).drop 1).drop 1).drop 1) (lenW (((((openP (l)).drop 1).drop 1).drop 1).drop 1) (lenW ((((openP (l)).drop 1).drop 1).drop 1) (lenW (((openP (l)).drop 1).drop 1) (lenW ((openP (l)).drop 1) (lenW (openP (l)) (openW (l)) 32) 1) 32) 32) 32) 2) 32) 2) 2)) :: blk g1 70 headerL (headerV (header0)) :: H) w10 := hK35
        refine VL.toOwn hK35 ?_
        refine VL.store (L := headerL) (qs := (headerV (headerOf (openP l)))) (ps' := (headerV (headerOf (openP l)))) 1 0 9 rfl rfl rfl (.inl kd70) rfl rfl (headerV_len (headerOf_ok (openP l))) (headerV_ok1 (headerOf (openP l))) rfl rfl ?_
        refine VL.turn (G' := Own _ (rch g2 ((((((((((openP (l)).drop 1).drop 1).drop 1).drop 1).drop 1).drop 1).drop 1).drop 1).drop 1) (endW ((((((((((openP (l)).drop 1).drop 1).drop 1).drop 1).drop 1).drop 1).drop 1).drop 1).drop 1) (lenW (((((((((openP (l)).drop 1).drop 1).drop 1).drop 1).drop 1).drop 1).drop 1).drop 1) (lenW ((((((((openP (l)).drop 1).drop 1).drop 1).drop 1).drop 1).drop 1).drop 1) (lenW (((((((openP (l)).drop 1).drop 1).drop 1).drop 1).drop 1).drop 1) (lenW ((((((openP (l)).drop 1).drop 1).drop 1).drop 1).drop 1) (lenW (((((openP (l)).drop 1).drop 1).drop 1).drop 1) (lenW ((((openP (l)).drop 1).drop 1).drop 1) (lenW (((openP (l)).drop 1).drop 1) (lenW ((openP (l)).drop 1) (lenW (openP (l)) (openW (l)) 32) 1) 32) 32) 32) 2) 32) 2) 2)) :: blk g1 70 headerL (headerV (headerOf (openP l))) :: H)) (fun _ h => h) ?_
        refine VL.assign rfl ?_
        refine VL.nil ?_
        refine VX.next ?_
        refine VC.ret ?_
        refine VX.ret_cell (cs := cat (headerV (headerOf (openP l)))) 1 rfl rfl rfl (by rw [cat_size (headerV_len (headerOf_ok (openP l)))]; exact kd70) (fun _ h => h) rfl rfl (fun we hw => ?_)
        have hc := header_why' l
        rw [show (if (headerO (headerOf (openP l))).isSome = true ∧ firstOf (openP l) ≤ 1 then takesW headerK (openP l) (openW l) else failW (takesW headerK (openP l) (openW l)) 141) = takesW headerK (openP l) (openW l) from if_pos ⟨hs, h8_4⟩] at hc
        exact ⟨congrArg (fun n : Nat => Value.tuple #[_, .int .i64 (n : Int)]) hc, hw.drop.drop.sub (fun _ hs => by repeat (first | exact hs | apply List.mem_cons_of_mem))⟩

theorem getLetter_w {S : List Snap} {H : List Chunk} {w : World} (ho : Own S H w) {p : Option Addr} {l : List UInt8} {c : Nat} (hA : Bytes (keys H) w p l c) : Calls Try.prog 54 #[.slice p l.length c] w (Ret fun v w' => ∃ p c, v = .tuple #[.agg (cat (letterV ((letterR l).getD letter0) p c)).toArray, .int .i64 (((if (letterR l).isSome then 0 else 141 : Nat)) : Int)] ∧ Own S H w' ∧ Bytes (keys H) w' p ((letterR l).getD letter0).body c) := by
  refine enter (G := Own (⟨w, keys H⟩ :: S) H) ho.keep Try.func54 rfl Try.ntmps54 rfl ?_
  refine VC.seq ?_
  refine VC.region ?_
  refine VL.alloc (L := letterL) (ps := (letterV (letter0) none 0)) zero72 rfl rfl (fun g1 => ?_)
  refine VL.assign rfl ?_
  refine VL.nil ?_
  refine VX.next ?_
  refine VC.seq ?_
  refine VC.region ?_
  refine VL.move rfl ?_
  refine VL.call Try.func121 rfl (by decide) rfl (fun w' hw => open_R hw (hA.now (s := ⟨w, _⟩) Mono.byte hw (by repeat (first | exact List.mem_cons_self .. | apply List.mem_cons_of_mem)))) (fun v => ?_)
  refine VL.ex fun g2 => VL.fact fun e3 => ?_
  subst e3
  refine VL.assign rfl ?_
  refine VL.nil ?_
  refine VX.next ?_
  refine VC.seq ?_
  refine VC.region ?_
  refine VL.move rfl ?_
  refine VL.call Try.func122 rfl (by decide) rfl (fun w' hw => byte_R (i := 0) rfl hw) (fun v => ?_)
  refine VL.fact fun e4 => ?_
  subst e4
  refine VL.turn (G' := Own _ (rch g2 ((openP (l)).drop 1) (lenW (openP (l)) (openW (l)) 1) :: blk g1 72 letterL (letterV (letter0) none 0) :: H)) (fun _ h => h) ?_
  refine VL.move rfl ?_
  refine VL.call Try.func122 rfl (by decide) rfl (fun w' hw => byte_R (i := 0) rfl hw) (fun v => ?_)
  refine VL.fact fun e5 => ?_
  subst e5
  refine VL.turn (G' := Own _ (rch g2 (((openP (l)).drop 1).drop 1) (lenW ((openP (l)).drop 1) (lenW (openP (l)) (openW (l)) 1) 1) :: blk g1 72 letterL (letterV (letter0) none 0) :: H)) (fun _ h => h) ?_
  refine VL.build (zs := letterZ) (L := letterFL) [(0, [.int .u8 (takeN (openP (l)) 1)]), (1, [.int .u8 (takeN ((openP (l)).drop 1) 1)])] plan72 rfl ⟨⟨rfl, ⟨_, rfl, rfl⟩, rfl⟩, ⟨⟨rfl, ⟨_, rfl, rfl⟩, rfl⟩, trivial⟩⟩ rfl ?_
  refine VL.newv (v' := .agg (cat (letterV ((letterS (takeN (openP l) 1) (takeN ((openP l).drop 1) 1))) none 0)).toArray) rfl ?_
  refine VL.alloc (L := letterL) (ps := (letterV (letter0) none 0)) zero72 rfl rfl (fun g6 => ?_)
  refine VL.store (L := letterL) (qs := (letterV ((letterS (takeN (openP l) 1) (takeN ((openP l).drop 1) 1))) none 0)) (ps' := (letterV ((letterS (takeN (openP l) 1) (takeN ((openP l).drop 1) 1))) none 0)) 0 0 12 rfl rfl rfl (.inl kd72) rfl rfl (letterV_len (letterS_ok (takeN_lt (openP l) 1) (takeN_lt ((openP l).drop 1) 1))) (letterV_ok1 ((letterS (takeN (openP l) 1) (takeN ((openP l).drop 1) 1))) none 0) rfl rfl ?_
  refine VL.turn (G' := Own _ (blk g6 72 letterL (letterV ((letterS (takeN (openP l) 1) (takeN ((openP l).drop 1) 1))) none 0) :: rch g2 (((openP (l)).drop 1).drop 1) (lenW ((openP (l)).drop 1) (lenW (openP (l)) (openW (l)) 1) 1) :: blk g1 72 letterL (letterV (letter0) none 0) :: H)) (fun _ h => h) ?_
  refine VL.nil ?_
  refine VX.next ?_
  refine VC.seq ?_
  refine VC.region ?_
  refine VL.move rfl ?_
  refine VL.call Try.func124 rfl (by decide) rfl (fun w' hw => piece_R (i := 1) rfl hw) (fun v => ?_)
  refine VL.at (fun w7 h1w => ?_)
  obtain ⟨p8, c9, rfl, hO11, hA10⟩ := h1w
  replace hO11 : Own _ (blk g6 72 letterL (letterV ((letterS (takeN (openP l) 1) (takeN ((openP l).drop 1) 1))) none 0) :: rch g2 ((((openP (l)).drop 1).drop 1).drop 1) (nextW (((openP (l)).drop 1).drop 1) (lenW ((openP (l)).drop 1) (lenW (openP (l)) (openW (l)) 1) 1)) :: blk g1 72 letterL (letterV (letter0) none 0) :: H) w7 := hO11
  replace hA10 : Bytes (keys (blk g6 72 letterL (letterV ((letterS (takeN (openP l) 1) (takeN ((openP l).drop 1) 1))) none 0) :: rch g2 ((((openP (l)).drop 1).drop 1).drop 1) (nextW (((openP (l)).drop 1).drop 1) (lenW ((openP (l)).drop 1) (lenW (openP (l)) (openW (l)) 1) 1)) :: blk g1 72 letterL (letterV (letter0) none 0) :: H)) w7 p8 (nextP (((openP (l)).drop 1).drop 1)) c9 := hA10
  refine VL.toOwn hO11 ?_
  refine VL.call Try.func123 rfl (by decide) rfl (fun w' hw => header_w hw (hA10.now (s := ⟨w7, _⟩) Mono.byte hw (by repeat (first | exact List.mem_cons_self .. | apply List.mem_cons_of_mem)))) (fun v => ?_)
  refine VL.fact fun e12 => ?_
  subst e12
  refine VL.move rfl ?_
  refine VL.extract rfl rfl ?_
  refine VL.extract rfl rfl ?_
  refine VL.alloc (L := headerL) (ps := (headerV (header0))) zero70 rfl rfl (fun g13 => ?_)
  refine VL.store (L := headerL) (qs := (headerV ((headerOf (openP (nextP (((openP (l)).drop 1).drop 1))))))) (ps' := (headerV ((headerOf (openP (nextP (((openP (l)).drop 1).drop 1))))))) 0 0 9 rfl rfl rfl (.inl kd70) rfl rfl (headerV_len (headerOf_ok (openP (nextP (((openP (l)).drop 1).drop 1))))) (headerV_ok1 ((headerOf (openP (nextP (((openP (l)).drop 1).drop 1)))))) rfl rfl ?_
  refine VL.turn (G' := Own _ (blk g13 70 headerL (headerV ((headerOf (openP (nextP (((openP (l)).drop 1).drop 1)))))) :: blk g6 72 letterL (letterV ((letterS (takeN (openP l) 1) (takeN ((openP l).drop 1) 1))) none 0) :: rch g2 ((((openP (l)).drop 1).drop 1).drop 1) (nextW (((openP (l)).drop 1).drop 1) (lenW ((openP (l)).drop 1) (lenW (openP (l)) (openW (l)) 1) 1)) :: blk g1 72 letterL (letterV (letter0) none 0) :: H)) (fun _ h => h) ?_
  refine VL.assign rfl ?_
  refine VL.nil ?_
  refine VX.next ?_
  refine VC.seq ?_
  refine VC.region ?_
  refine VL.move rfl ?_
  refine VL.move rfl ?_
  refine VL.call Try.func125 rfl (by decide) rfl (fun w' hw => fail_R (i := 2) rfl hw (if (headerR (nextP (((openP (l)).drop 1).drop 1))).isSome then 0 else 141)) (fun v => ?_)
  refine VL.fact fun e14 => ?_
  subst e14
  refine VL.turn (G' := Own _ (blk g13 70 headerL (headerV ((headerOf (openP (nextP (((openP (l)).drop 1).drop 1)))))) :: blk g6 72 letterL (letterV ((letterS (takeN (openP l) 1) (takeN ((openP l).drop 1) 1))) none 0) :: rch g2 ((((openP (l)).drop 1).drop 1).drop 1) (failW (nextW (((openP (l)).drop 1).drop 1) (lenW ((openP (l)).drop 1) (lenW (openP (l)) (openW (l)) 1) 1)) (if (headerR (nextP (((openP (l)).drop 1).drop 1))).isSome then 0 else 141)) :: blk g1 72 letterL (letterV (letter0) none 0) :: H)) (fun _ h => h) ?_
  refine VL.nil ?_
  refine VX.next ?_
  refine VC.seq ?_
  refine VC.letCells 0 rfl (fun w15 hO17 hF16 => ?_)
  apply VC.anyTA 4 2 (F := [eqF _, eqF _, lateE _, eqF _]) [⟨[], [6]⟩, ⟨[], [4]⟩, ⟨[(26, 1)], []⟩, ⟨[], [5]⟩] [(25, 0), (27, 2), (28, 3)] [0, 2, 3, 4, 5, 6, 7, 8, 9, 10, 11, 12, 13, 14, 15, 16, 17, 18, 19, 20, 21, 22, 23, 29, 30, 31, 32, 33, 34, 35] rfl (by kernel_rfl) (by kernel_rfl) rfl rfl (by kernel_rfl) (by kernel_rfl) (by kernel_rfl) rfl ?obs5 ?end5
  case obs5 =>
    refine Obs.cons ?_ ?_
    · refine obS (by kernel_rfl) rfl rfl (fun ph5 w5 hO5 => ?_)
      refine VL.loadsF (s := ⟨w15, _⟩) (cs := cat (headerV ((headerOf (openP (nextP (((openP (l)).drop 1).drop 1))))))) 0 9 rfl kd70 hF16 (fun _ e => e ▸ Still.ok hO5 (by repeat (first | exact List.mem_cons_self .. | apply List.mem_cons_of_mem))) rfl rfl rfl ?_
      exact VL.finS hO5 rfl rfl
    refine Obs.cons ?_ ?_
    · refine obS (by kernel_rfl) rfl rfl (fun ph5 w5 hO5 => ?_)
      refine VL.move rfl ?_
      exact VL.finS hO5 rfl rfl
    refine Obs.cons ?_ ?_
    · refine obK (by kernel_rfl) rfl (fun w5 hO5 => ?_)
      rintro _ rfl
      refine VL.toOwn hO5 ?_
      refine VL.call Try.func124 rfl (by decide) rfl (fun w' hw => piece_R (i := 1) rfl hw) (fun v => ?_)
      exact VL.finC rfl (fun _ ⟨_, _, _, h, _⟩ => h) (fun _ h => ⟨w5, h⟩)
    refine Obs.cons ?_ ?_
    · refine obS (by kernel_rfl) rfl rfl (fun ph5 w5 hO5 => ?_)
      refine VL.fieldAddr rfl fo72_2 rfl ?_
      exact VL.finS hO5 rfl rfl
    exact Obs.nil
  case end5 =>
    intro w5 hO5
    rintro _ rfl _ ⟨wk5, p19, c20, rfl, hK23, hA21⟩ _ rfl
    replace hK23 : Own _ (blk g6 72 letterL (letterV ((letterS (takeN (openP l) 1) (takeN ((openP l).drop 1) 1))) none 0) :: rch g2 (((((openP (l)).drop 1).drop 1).drop 1).drop 1) (nextW ((((openP (l)).drop 1).drop 1).drop 1) (failW (nextW (((openP (l)).drop 1).drop 1) (lenW ((openP (l)).drop 1) (lenW (openP (l)) (openW (l)) 1) 1)) (if (headerR (nextP (((openP (l)).drop 1).drop 1))).isSome then 0 else 141))) :: blk g1 72 letterL (letterV (letter0) none 0) :: H) w5 := hK23
    refine VL.toOwn hK23 ?_
    refine VL.store (L := letterL) (qs := (headerV ((headerOf (openP (nextP (((openP (l)).drop 1).drop 1))))))) (ps' := [[.int .u8 ((letterS (takeN (openP l) 1) (takeN ((openP l).drop 1) 1)).src)], [.int .u8 ((letterS (takeN (openP l) 1) (takeN ((openP l).drop 1) 1)).dst)], ((headerOf (openP (nextP (((openP (l)).drop 1).drop 1)))).session).map bv, [.bool ((headerOf (openP (nextP (((openP (l)).drop 1).drop 1)))).first)], ((headerOf (openP (nextP (((openP (l)).drop 1).drop 1)))).agree).map bv, ((headerOf (openP (nextP (((openP (l)).drop 1).drop 1)))).signer).map bv, ((headerOf (openP (nextP (((openP (l)).drop 1).drop 1)))).base).map bv, [.int .u16 ((headerOf (openP (nextP (((openP (l)).drop 1).drop 1)))).id)], ((headerOf (openP (nextP (((openP (l)).drop 1).drop 1)))).ratchet).map bv, [.int .u16 ((headerOf (openP (nextP (((openP (l)).drop 1).drop 1)))).n)], [.int .u16 ((headerOf (openP (nextP (((openP (l)).drop 1).drop 1)))).prev)], [.slice none ([]).length 0]]) 0 2 9 rfl rfl rfl (.inl kd70) rfl rfl (headerV_len (headerOf_ok (openP (nextP (((openP (l)).drop 1).drop 1))))) (headerV_ok1 ((headerOf (openP (nextP (((openP (l)).drop 1).drop 1)))))) rfl rfl ?_
    refine VL.turn (G' := Own _ (blk g6 72 letterL [[.int .u8 ((letterS (takeN (openP l) 1) (takeN ((openP l).drop 1) 1)).src)], [.int .u8 ((letterS (takeN (openP l) 1) (takeN ((openP l).drop 1) 1)).dst)], ((headerOf (openP (nextP (((openP (l)).drop 1).drop 1)))).session).map bv, [.bool ((headerOf (openP (nextP (((openP (l)).drop 1).drop 1)))).first)], ((headerOf (openP (nextP (((openP (l)).drop 1).drop 1)))).agree).map bv, ((headerOf (openP (nextP (((openP (l)).drop 1).drop 1)))).signer).map bv, ((headerOf (openP (nextP (((openP (l)).drop 1).drop 1)))).base).map bv, [.int .u16 ((headerOf (openP (nextP (((openP (l)).drop 1).drop 1)))).id)], ((headerOf (openP (nextP (((openP (l)).drop 1).drop 1)))).ratchet).map bv, [.int .u16 ((headerOf (openP (nextP (((openP (l)).drop 1).drop 1)))).n)], [.int .u16 ((headerOf (openP (nextP (((openP (l)).drop 1).drop 1)))).prev)], [.slice none ([]).length 0]] :: rch g2 (((((openP (l)).drop 1).drop 1).drop 1).drop 1) (nextW ((((openP (l)).drop 1).drop 1).drop 1) (failW (nextW (((openP (l)).drop 1).drop 1) (lenW ((openP (l)).drop 1) (lenW (openP (l)) (openW (l)) 1) 1)) (if (headerR (nextP (((openP (l)).drop 1).drop 1))).isSome then 0 else 141))) :: blk g1 72 letterL (letterV (letter0) none 0) :: H)) (fun _ h => h) ?_
    refine VL.fieldAddr rfl fo72_3 rfl ?_
    refine VL.store (L := letterL) (qs := [[.slice p19 (nextP ((((openP (l)).drop 1).drop 1).drop 1)).length c20]]) (ps' := [[.int .u8 ((letterS (takeN (openP l) 1) (takeN ((openP l).drop 1) 1)).src)], [.int .u8 ((letterS (takeN (openP l) 1) (takeN ((openP l).drop 1) 1)).dst)], ((headerOf (openP (nextP (((openP (l)).drop 1).drop 1)))).session).map bv, [.bool ((headerOf (openP (nextP (((openP (l)).drop 1).drop 1)))).first)], ((headerOf (openP (nextP (((openP (l)).drop 1).drop 1)))).agree).map bv, ((headerOf (openP (nextP (((openP (l)).drop 1).drop 1)))).signer).map bv, ((headerOf (openP (nextP (((openP (l)).drop 1).drop 1)))).base).map bv, [.int .u16 ((headerOf (openP (nextP (((openP (l)).drop 1).drop 1)))).id)], ((headerOf (openP (nextP (((openP (l)).drop 1).drop 1)))).ratchet).map bv, [.int .u16 ((headerOf (openP (nextP (((openP (l)).drop 1).drop 1)))).n)], [.int .u16 ((headerOf (openP (nextP (((openP (l)).drop 1).drop 1)))).prev)], [.slice p19 (nextP ((((openP (l)).drop 1).drop 1).drop 1)).length c20]]) 0 11 1 rfl rfl rfl (.inr ⟨kd24, rfl⟩) rfl rfl rfl (by intro u hu; simp [cat] at hu; subst hu; rfl) rfl rfl ?_
    refine VL.turn (G' := Own _ (blk g6 72 letterL [[.int .u8 ((letterS (takeN (openP l) 1) (takeN ((openP l).drop 1) 1)).src)], [.int .u8 ((letterS (takeN (openP l) 1) (takeN ((openP l).drop 1) 1)).dst)], ((headerOf (openP (nextP (((openP (l)).drop 1).drop 1)))).session).map bv, [.bool ((headerOf (openP (nextP (((openP (l)).drop 1).drop 1)))).first)], ((headerOf (openP (nextP (((openP (l)).drop 1).drop 1)))).agree).map bv, ((headerOf (openP (nextP (((openP (l)).drop 1).drop 1)))).signer).map bv, ((headerOf (openP (nextP (((openP (l)).drop 1).drop 1)))).base).map bv, [.int .u16 ((headerOf (openP (nextP (((openP (l)).drop 1).drop 1)))).id)], ((headerOf (openP (nextP (((openP (l)).drop 1).drop 1)))).ratchet).map bv, [.int .u16 ((headerOf (openP (nextP (((openP (l)).drop 1).drop 1)))).n)], [.int .u16 ((headerOf (openP (nextP (((openP (l)).drop 1).drop 1)))).prev)], [.slice p19 (nextP ((((openP (l)).drop 1).drop 1).drop 1)).length c20]] :: rch g2 (((((openP (l)).drop 1).drop 1).drop 1).drop 1) (nextW ((((openP (l)).drop 1).drop 1).drop 1) (failW (nextW (((openP (l)).drop 1).drop 1) (lenW ((openP (l)).drop 1) (lenW (openP (l)) (openW (l)) 1) 1)) (if (headerR (nextP (((openP (l)).drop 1).drop 1))).isSome then 0 else 141))) :: blk g1 72 letterL (letterV (letter0) none 0) :: H)) (fun _ h => h) ?_
    refine VL.nil ?_
    refine VX.next ?_
    refine VC.seq ?_
    refine VC.seq ?_
    refine VC.region ?_
    refine VL.move rfl ?_
    refine VL.call Try.func126 rfl (by decide) rfl (fun w' hw => end_R (i := 1) rfl hw) (fun v => ?_)
    refine VL.fact fun e24 => ?_
    subst e24
    refine VL.turn (G' := Own _ (blk g6 72 letterL [[.int .u8 ((letterS (takeN (openP l) 1) (takeN ((openP l).drop 1) 1)).src)], [.int .u8 ((letterS (takeN (openP l) 1) (takeN ((openP l).drop 1) 1)).dst)], ((headerOf (openP (nextP (((openP (l)).drop 1).drop 1)))).session).map bv, [.bool ((headerOf (openP (nextP (((openP (l)).drop 1).drop 1)))).first)], ((headerOf (openP (nextP (((openP (l)).drop 1).drop 1)))).agree).map bv, ((headerOf (openP (nextP (((openP (l)).drop 1).drop 1)))).signer).map bv, ((headerOf (openP (nextP (((openP (l)).drop 1).drop 1)))).base).map bv, [.int .u16 ((headerOf (openP (nextP (((openP (l)).drop 1).drop 1)))).id)], ((headerOf (openP (nextP (((openP (l)).drop 1).drop 1)))).ratchet).map bv, [.int .u16 ((headerOf (openP (nextP (((openP (l)).drop 1).drop 1)))).n)], [.int .u16 ((headerOf (openP (nextP (((openP (l)).drop 1).drop 1)))).prev)], [.slice p19 (nextP ((((openP (l)).drop 1).drop 1).drop 1)).length c20]] :: rch g2 (((((openP (l)).drop 1).drop 1).drop 1).drop 1) (endW (((((openP (l)).drop 1).drop 1).drop 1).drop 1) (nextW ((((openP (l)).drop 1).drop 1).drop 1) (failW (nextW (((openP (l)).drop 1).drop 1) (lenW ((openP (l)).drop 1) (lenW (openP (l)) (openW (l)) 1) 1)) (if (headerR (nextP (((openP (l)).drop 1).drop 1))).isSome then 0 else 141)))) :: blk g1 72 letterL (letterV (letter0) none 0) :: H)) (fun _ h => h) ?_
    refine VL.assign rfl ?_
    refine VL.nil ?_
    refine VX.next ?_
    refine VC.seq ?_
    refine VC.region ?_
    refine VL.move rfl ?_
    refine VL.neq rfl rfl ?_
    refine VL.case (fun h7_1 => ?_) (fun h7_1 => ?_)
    · refine VL.nil ?_
      refine VX.next ?_
      refine VC.yes rfl ?_
      refine VC.seq ?_
      refine VC.region ?_
      refine VL.build0 (cs := cat (letterV (letter0) none 0)) built72 ?_
      refine VL.store (L := letterL) (qs := (letterV (letter0) none 0)) (ps' := (letterV (letter0) none 0)) 2 0 12 rfl rfl rfl (.inl kd72) rfl rfl rfl (letterV_ok1 letter0 none 0) rfl rfl ?_
      refine VL.turn (G' := Own _ (blk g6 72 letterL [[.int .u8 ((letterS (takeN (openP l) 1) (takeN ((openP l).drop 1) 1)).src)], [.int .u8 ((letterS (takeN (openP l) 1) (takeN ((openP l).drop 1) 1)).dst)], ((headerOf (openP (nextP (((openP (l)).drop 1).drop 1)))).session).map bv, [.bool ((headerOf (openP (nextP (((openP (l)).drop 1).drop 1)))).first)], ((headerOf (openP (nextP (((openP (l)).drop 1).drop 1)))).agree).map bv, ((headerOf (openP (nextP (((openP (l)).drop 1).drop 1)))).signer).map bv, ((headerOf (openP (nextP (((openP (l)).drop 1).drop 1)))).base).map bv, [.int .u16 ((headerOf (openP (nextP (((openP (l)).drop 1).drop 1)))).id)], ((headerOf (openP (nextP (((openP (l)).drop 1).drop 1)))).ratchet).map bv, [.int .u16 ((headerOf (openP (nextP (((openP (l)).drop 1).drop 1)))).n)], [.int .u16 ((headerOf (openP (nextP (((openP (l)).drop 1).drop 1)))).prev)], [.slice p19 (nextP ((((openP (l)).drop 1).drop 1).drop 1)).length c20]] :: rch g2 (((((openP (l)).drop 1).drop 1).drop 1).drop 1) (endW (((((openP (l)).drop 1).drop 1).drop 1).drop 1) (nextW ((((openP (l)).drop 1).drop 1).drop 1) (failW (nextW (((openP (l)).drop 1).drop 1) (lenW ((openP (l)).drop 1) (lenW (openP (l)) (openW (l)) 1) 1)) (if (headerR (nextP (((openP (l)).drop 1).drop 1))).isSome then 0 else 141)))) :: blk g1 72 letterL (letterV (letter0) none 0) :: H)) (fun _ h => h) ?_
      refine VL.assign rfl ?_
      refine VL.nil ?_
      refine VX.next ?_
      refine VC.ret ?_
      refine VX.then_ret ?_
      refine VX.ret_cell (cs := cat (letterV (letter0) none 0)) 2 rfl rfl rfl kd72 (fun _ h => h) rfl rfl (fun we hw => ?_)
      obtain ⟨e1, e2⟩ := why_none h7_1 (letter_why' l)
      exact ⟨none, 0, by rw [e1]; rfl, hw.drop.drop.drop.sub (fun _ hs => by repeat (first | exact hs | apply List.mem_cons_of_mem)), by rw [e1]; exact Arr.none⟩
    · refine VL.nil ?_
      refine VX.next ?_
      refine VC.no rfl ?_
      refine VC.skip ?_
      refine VX.next ?_
      refine VC.seq ?_
      refine VC.region ?_
      refine VL.loads (cs := cat (letterV (letterOf (openP l) (headerOf (openP (nextP (((openP l).drop 1).drop 1))))) p19 c20)) 0 0 12 rfl kd72 (fun _ h => h) rfl rfl rfl rfl ?_
      refine VL.store (L := letterL) (qs := (letterV (letterOf (openP l) (headerOf (openP (nextP (((openP l).drop 1).drop 1))))) p19 c20)) (ps' := (letterV (letterOf (openP l) (headerOf (openP (nextP (((openP l).drop 1).drop 1))))) p19 c20)) 2 0 12 rfl rfl rfl (.inl kd72) rfl rfl (letterV_len (⟨takeN_lt _ 1, takeN_lt _ 1, headerOf_ok _⟩ : Letter.ok _)) (letterV_ok1 (letterOf (openP l) (headerOf (openP (nextP (((openP l).drop 1).drop 1))))) p19 c20) rfl rfl ?_
      refine VL.turn (G' := Own _ (blk g6 72 letterL [[.int .u8 ((letterS (takeN (openP l) 1) (takeN ((openP l).drop 1) 1)).src)], [.int .u8 ((letterS (takeN (openP l) 1) (takeN ((openP l).drop 1) 1)).dst)], ((headerOf (openP (nextP (((openP (l)).drop 1).drop 1)))).session).map bv, [.bool ((headerOf (openP (nextP (((openP (l)).drop 1).drop 1)))).first)], ((headerOf (openP (nextP (((openP (l)).drop 1).drop 1)))).agree).map bv, ((headerOf (openP (nextP (((openP (l)).drop 1).drop 1)))).signer).map bv, ((headerOf (openP (nextP (((openP (l)).drop 1).drop 1)))).base).map bv, [.int .u16 ((headerOf (openP (nextP (((openP (l)).drop 1).drop 1)))).id)], ((headerOf (openP (nextP (((openP (l)).drop 1).drop 1)))).ratchet).map bv, [.int .u16 ((headerOf (openP (nextP (((openP (l)).drop 1).drop 1)))).n)], [.int .u16 ((headerOf (openP (nextP (((openP (l)).drop 1).drop 1)))).prev)], [.slice p19 (nextP ((((openP (l)).drop 1).drop 1).drop 1)).length c20]] :: rch g2 (((((openP (l)).drop 1).drop 1).drop 1).drop 1) (endW (((((openP (l)).drop 1).drop 1).drop 1).drop 1) (nextW ((((openP (l)).drop 1).drop 1).drop 1) (failW (nextW (((openP (l)).drop 1).drop 1) (lenW ((openP (l)).drop 1) (lenW (openP (l)) (openW (l)) 1) 1)) (if (headerR (nextP (((openP (l)).drop 1).drop 1))).isSome then 0 else 141)))) :: blk g1 72 letterL (letterV (letterOf (openP l) (headerOf (openP (nextP (((openP l).drop 1).drop 1))))) p19 c20) :: H)) (fun _ h => h) ?_
      refine VL.assign rfl ?_
      refine VL.nil ?_
      refine VX.next ?_
      refine VC.ret ?_
      refine VX.ret_cell (cs := cat (letterV (letterOf (openP l) (headerOf (openP (nextP (((openP l).drop 1).drop 1))))) p19 c20)) 2 rfl rfl rfl (by rw [cat_size (letterV_len (⟨takeN_lt _ 1, takeN_lt _ 1, headerOf_ok _⟩ : Letter.ok _))]; exact kd72) (fun _ h => h) rfl rfl (fun we hw => ?_)
      obtain ⟨y, e1⟩ := why_some h7_1 (letter_why' l)
      obtain ⟨hd, e2, e3⟩ := letterR_of e1
      rw [e1, ← e3, ← headerR_of e2]
      exact ⟨_, _, rfl, hw.drop.drop.drop.sub (fun _ hs => by repeat (first | exact hs | apply List.mem_cons_of_mem)), (hA21.now (s := ⟨w5, _⟩) Mono.byte hw.drop.drop.drop (by repeat (first | exact List.mem_cons_self .. | apply List.mem_cons_of_mem)))⟩

end Go.Proofs.Ytcfecmoagfgnaaa

/- wire: bytes of objects. -/
namespace Go.Proofs.Ytcfecmoagfgnaaa
open Go.Vc Go.Pl

theorem vouchB_is (v : Vouch) : be 1 v.notary ++ v.sig = vouchB v := by rw [be_one]; rfl
theorem vouch_next {vs : List Vouch} {i : Nat} (h : i < vs.length) : (vs.take i).map vouchB ++ [be 1 (vs[i]'h).notary ++ (vs[i]'h).sig] = (vs.take (i + 1)).map vouchB := by
  rw [List.take_succ_eq_append_getElem h, List.map_append, vouchB_is]; rfl

theorem putObject_w {S : List Snap} {H : List Chunk} {w : World} (ho : Own S H w) {x : Object} (hx : x.ok) {q : Option Addr} {d : Nat} (hV : Arr 65 vouchR (keys H) w q x.vouches d) : Calls Try.prog 65 #[.agg (cat (objectV x q d)).toArray] w (RetO S H (objectO x)) := by
  have hx1 := hx.server
  have hx2 := hx.n
  have hx3 := hx.since
  have hx4 := hx.till
  refine enter (G := Own (⟨w, keys H⟩ :: S) H) ho.keep Try.func65 rfl Try.ntmps65 rfl ?_
  refine VC.seq ?_
  refine VC.region ?_
  refine VL.box (L := objectL) (ps := (objectV (x) q d)) rfl rfl (objectV_len hx) (fun g1 => ?_)
  refine VL.assign rfl ?_
  refine VL.assign rfl ?_
  refine VL.nil ?_
  refine VX.next ?_
  refine VC.seq ?_
  refine VC.region ?_
  refine VL.fieldAddr rfl fo85_6 rfl ?_
  refine VL.load (v := .slice q (x.vouches).length d) 0 6 rfl kd83 (fun _ h => h) rfl rfl rfl ?_
  refine VL.len Try.underlying83 rfl rfl ?_
  refine VL.gtr rfl rfl ?_
  refine VL.case (fun h1_3 => ?_) (fun h1_3 => ?_)
  · refine VL.build (zs := [[.slice none 0 0], [.bool false]]) [(1, [.bool true])] plan181 rfl ⟨⟨rfl, ⟨_, rfl, rfl⟩, rfl⟩, trivial⟩ rfl ?_
    refine VL.box (L := [1, 1]) (ps := [[rowV none 0 0], [.bool true]]) rfl rfl rfl (fun g2 => ?_)
    refine VL.turn (fun w' hw => Own.newW hw) ?_
    refine VL.assign rfl ?_
    refine VL.nil ?_
    refine VX.next ?_
    refine VC.seq ?_
    refine VC.seq ?_
    refine VC.region ?_
    refine VL.move rfl ?_
    refine VL.nilCheck rfl ?_
    refine VL.fieldAddr rfl fo181_1 rfl ?_
    refine VL.load (v := .bool true) 0 1 rfl kd4 (fun _ h => h) rfl rfl rfl ?_
    refine VL.nil ?_
    refine VX.next ?_
    refine VC.yes rfl ?_
    refine VC.seq ?_
    refine VC.region ?_
    refine VL.assign rfl ?_
    refine VL.assign rfl ?_
    refine VL.nil ?_
    refine VX.next ?_
    refine VC.ret ?_
    refine VX.then_ret ?_
    refine VX.ret2 rfl rfl rfl (fun we hw => ?_)
    exact postO ((show (none : Option (List UInt8)) = objectO x from (if_neg (by omega)).symm)) ⟨none, 0, rfl, hw.drop.drop.drop.sub (fun _ hs => by repeat (first | exact hs | apply List.mem_cons_of_mem)), Arr.none⟩
  · refine VL.build (zs := [[.slice none 0 0], [.bool false]]) [(1, [.bool false])] plan181 rfl ⟨⟨rfl, ⟨_, rfl, rfl⟩, rfl⟩, trivial⟩ rfl ?_
    refine VL.box (L := [1, 1]) (ps := [[rowV none 0 0], [.bool false]]) rfl rfl rfl (fun g3 => ?_)
    refine VL.turn (fun w' hw => Own.newW hw) ?_
    refine VL.assign rfl ?_
    refine VL.nil ?_
    refine VX.next ?_
    refine VC.seq ?_
    refine VC.seq ?_
    refine VC.region ?_
    refine VL.move rfl ?_
    refine VL.nilCheck rfl ?_
    refine VL.fieldAddr rfl fo181_1 rfl ?_
    refine VL.load (v := .bool false) 0 1 rfl kd4 (fun _ h => h) rfl rfl rfl ?_
    refine VL.nil ?_
    refine VX.next ?_
    refine VC.no rfl ?_
    refine VC.skip ?_
    refine VX.next ?_
    refine VC.seq ?_
    refine VC.region ?_
    refine VL.move rfl ?_
    refine VL.fieldAddr rfl fo85_0 rfl ?_
    refine VL.load (v := .int .u8 (x.server)) 2 0 rfl kd5 (fun _ h => h) rfl rfl rfl ?_
    refine VL.conv (by rw [Try.underlying5]; rfl) Try.underlying22 rfl (inr_u64 (by omega)) ?_
    refine VL.call Try.func116 rfl (by decide) rfl (fun w' hw => num_w hw (by simp only [List.length_append, List.length_cons, List.length_nil, List.length_map]; omega) (x.server) (fits_small (by omega)) 1 (by decide) (by decide) (fits1 (by omega))) (fun v => ?_)
    refine VL.fact fun e6 => ?_
    subst e6
    refine VL.ex fun gp4 => VL.ex fun c5 => ?_
    refine VL.nil ?_
    refine VX.next ?_
    refine VC.seq ?_
    refine VC.region ?_
    refine VL.move rfl ?_
    refine VL.fieldAddr rfl fo85_1 rfl ?_
    refine VL.load (v := .int .u8 (x.n)) 2 1 rfl kd5 (fun _ h => h) rfl rfl rfl ?_
    refine VL.conv (by rw [Try.underlying5]; rfl) Try.underlying22 rfl (inr_u64 (by omega)) ?_
    refine VL.call Try.func116 rfl (by decide) rfl (fun w' hw => num_w hw (by simp only [List.length_append, List.length_cons, List.length_nil, List.length_map]; omega) (x.n) (fits_small (by omega)) 1 (by decide) (by decide) (fits1 (by omega))) (fun v => ?_)
    refine VL.fact fun e9 => ?_
    subst e9
    refine VL.ex fun gp7 => VL.ex fun c8 => ?_
    refine VL.nil ?_
    refine VX.next ?_
    refine VC.seq ?_
    refine VC.region ?_
    refine VL.move rfl ?_
    refine VL.fieldAddr rfl fo85_2 rfl ?_
    refine VL.loads (cs := (x.key).map bv) 2 2 1 rfl kd44 (fun _ h => h) rfl rfl rfl rfl ?_
    refine VL.call Try.func119 rfl (by decide) rfl (fun w' hw => key_w hw (by simp only [List.length_append, List.length_cons, List.length_nil, List.length_map]; omega) (l := x.key) hx.key) (fun v => ?_)
    refine VL.fact fun e12 => ?_
    subst e12
    refine VL.ex fun gp10 => VL.ex fun c11 => ?_
    refine VL.nil ?_
    refine VX.next ?_
    refine VC.seq ?_
    refine VC.region ?_
    refine VL.move rfl ?_
    refine VL.fieldAddr rfl fo85_3 rfl ?_
    refine VL.load (v := .int .u32 (x.since)) 2 3 rfl kd48 (fun _ h => h) rfl rfl rfl ?_
    refine VL.conv (by rw [Try.underlying48]; rfl) Try.underlying22 rfl (inr_u64 (by omega)) ?_
    refine VL.call Try.func116 rfl (by decide) rfl (fun w' hw => num_w hw (by simp only [List.length_append, List.length_cons, List.length_nil, List.length_map]; omega) (x.since) (fits_small (by omega)) 4 (by decide) (by decide) (fits4 (by omega))) (fun v => ?_)
    refine VL.fact fun e15 => ?_
    subst e15
    refine VL.ex fun gp13 => VL.ex fun c14 => ?_
    refine VL.nil ?_
    refine VX.next ?_
    refine VC.seq ?_
    refine VC.region ?_
    refine VL.move rfl ?_
    refine VL.fieldAddr rfl fo85_4 rfl ?_
    refine VL.load (v := .int .u32 (x.till)) 2 4 rfl kd48 (fun _ h => h) rfl rfl rfl ?_
    refine VL.conv (by rw [Try.underlying48]; rfl) Try.underlying22 rfl (inr_u64 (by omega)) ?_
    refine VL.call Try.func116 rfl (by decide) rfl (fun w' hw => num_w hw (by simp only [List.length_append, List.length_cons, List.length_nil, List.length_map]; omega) (x.till) (fits_small (by omega)) 4 (by decide) (by decide) (fits4 (by omega))) (fun v => ?_)
    refine VL.fact fun e18 => ?_
    subst e18
    refine VL.ex fun gp16 => VL.ex fun c17 => ?_
    refine VL.nil ?_
    refine VX.next ?_
    refine VC.seq ?_
    refine VC.region ?_
    refine VL.move rfl ?_
    refine VL.fieldAddr rfl fo85_5 rfl ?_
    refine VL.loads (cs := (x.sig).map bv) 2 5 1 rfl kd80 (fun _ h => h) rfl rfl rfl rfl ?_
    refine VL.call Try.func128 rfl (by decide) rfl (fun w' hw => sig_w hw (by simp only [List.length_append, List.length_cons, List.length_nil, List.length_map]; omega) (l := x.sig) hx.sig) (fun v => ?_)
    refine VL.fact fun e21 => ?_
    subst e21
    refine VL.ex fun gp19 => VL.ex fun c20 => ?_
    refine VL.nil ?_
    refine VX.next ?_
    refine VC.seq ?_
    refine VC.seq ?_
    refine VC.region ?_
    refine VL.fieldAddr rfl fo85_6 rfl ?_
    refine VL.load (v := .slice q (x.vouches).length d) 2 6 rfl kd83 (fun _ h => h) rfl rfl rfl ?_
    refine VL.len Try.underlying83 rfl rfl ?_
    refine VL.move rfl ?_
    refine VL.nil ?_
    refine VX.next ?_
    refine VC.block ?_
    refine VC.loop (X := Nat × Option Nat × Nat) (fun (i, gp, c) => [(4, .pointer (some ⟨g3, 0, none⟩)), (46, .slice q x.vouches.length d), (47, .int .i64 x.vouches.length), (48, .int .i64 (i : Int))]) (fun (i, gp, c) w' => i ≤ x.vouches.length ∧ Own (⟨w, keys H⟩ :: S) (wblk g3 gp c ((objectP0 x ++ (x.vouches.take i).map vouchB)).length false :: brow gp c ((objectP0 x ++ (x.vouches.take i).map vouchB)) :: blk g1 85 objectL (objectV (x) q d) :: H) w') (fun (i, _) => x.vouches.length - i) (0, gp19, c20) ⟨rfl, rfl, rfl, rfl, trivial⟩ (fun w' h => ⟨Nat.zero_le _, h⟩) (fun (i, gp, c) => VC.fact fun hi => ?_)
    · have hpl : (objectP0 x).length = 6 := rfl
      have htk : (List.take i x.vouches).length ≤ i := List.length_take_le _ _
      refine VC.seq ?_
      refine VC.region ?_
      refine VL.lss rfl rfl ?_
      refine VL.case (fun h11 => ?_) (fun h11 => ?_)
      · have hlt : i < x.vouches.length := by omega
        refine VL.nil ?_
        refine VX.next ?_
        refine VC.seq ?_
        refine VC.yes rfl ?_
        refine VC.skip ?_
        refine VX.next ?_
        refine VC.seq ?_
        refine VC.block ?_
        refine VC.seq ?_
        refine VC.region ?_
        refine VL.index (xs := x.vouches) rfl rfl Try.underlying83 sz83 hV (by omega) (by have hi := hlt; omega) ?_
        refine VL.elems (s := ⟨w, _⟩) (m := 65) (i) 0 rfl kd202 (fun _ h => h) (by repeat (first | exact List.mem_cons_self .. | apply List.mem_cons_of_mem)) hV (List.getElem?_eq_getElem hlt) (by simp) (by decide) (fun vs hl hr => ?_)
        obtain ⟨hy23, rfl⟩ := hr
        refine VL.newv (v' := .agg (cat (vouchV (x.vouches[i]'hlt))).toArray) (by rw [List.drop_zero, List.take_of_length_le (by rw [hl]; decide)]) ?_
        refine VL.alloc (L := vouchL) (ps := (vouchV (vouch0))) zero202 rfl rfl (fun g24 => ?_)
        refine VL.store (L := vouchL) (qs := (vouchV ((x.vouches[i]'hlt)))) (ps' := (vouchV ((x.vouches[i]'hlt)))) 0 0 2 rfl rfl rfl (.inl kd202) rfl rfl (vouchV_len hy23) (vouchV_ok1 ((x.vouches[i]'hlt))) rfl rfl ?_
        refine VL.turn (G' := Own _ (blk g24 202 vouchL (vouchV ((x.vouches[i]'hlt))) :: wblk g3 gp c ((objectP0 x ++ (x.vouches.take i).map vouchB)).length false :: brow gp c ((objectP0 x ++ (x.vouches.take i).map vouchB)) :: blk g1 85 objectL (objectV (x) q d) :: H)) (fun _ h => h) ?_
        refine VL.nil ?_
        refine VX.next ?_
        refine VC.letCells 0 rfl (fun w25 hO27 hF26 => ?_)
        apply VC.anyTA 7 1008 (F := [eqF _, eqF _, eqF _, capF (be 1 ((x.vouches[i]'hlt).notary)) 1, eqF _, eqF _, bytesF ((be 1 ((x.vouches[i]'hlt).notary) ++ (x.vouches[i]'hlt).sig))]) [⟨[], [4]⟩, ⟨[], [6]⟩, ⟨[(53, 1)], []⟩, ⟨[(54, 2)], []⟩, ⟨[], [6]⟩, ⟨[(56, 4)], []⟩, ⟨[(55, 3), (57, 5)], []⟩] [(52, 0), (58, 6)] [0, 1, 2, 3, 4, 6, 7, 8, 9, 10, 11, 12, 13, 14, 15, 16, 17, 18, 19, 20, 22, 23, 24, 25, 27, 28, 29, 31, 32, 33, 34, 36, 37, 38, 39, 41, 42, 43, 45, 46, 47, 48, 49, 50, 51, 60, 61, 62, 63, 64] rfl (by kernel_rfl) (by kernel_rfl) rfl rfl (by kernel_rfl) (by kernel_rfl) (by kernel_rfl) rfl ?obs13 ?end13
        case obs13 =>
          refine Obs.cons ?_ ?_
          · refine obS (by kernel_rfl) rfl rfl (fun ph13 w13 hO13 => ?_)
            refine VL.move rfl ?_
            exact VL.finS hO13 rfl rfl
          refine Obs.cons ?_ ?_
          · refine obS (by kernel_rfl) rfl rfl (fun ph13 w13 hO13 => ?_)
            refine VL.fieldAddr rfl fo202_0 rfl ?_
            exact VL.finS hO13 rfl rfl
          refine Obs.cons ?_ ?_
          · refine obS (by kernel_rfl) rfl rfl (fun ph13 w13 hO13 => ?_)
            rintro _ rfl
            refine VL.loadF (s := ⟨w25, _⟩) (v := .int .u8 ((x.vouches[i]'hlt).notary)) 0 rfl kd5 hF26 (fun _ e => e ▸ Still.ok hO13 (by repeat (first | exact List.mem_cons_self .. | apply List.mem_cons_of_mem))) rfl rfl ?_
            exact VL.finS hO13 rfl rfl
          refine Obs.cons ?_ ?_
          · refine ob (by kernel_rfl) rfl (by kernel_rfl) rfl (fun w13 hO13 => ?_)
            rintro _ rfl
            refine VL.toOwn hO13 ?_
            refine VL.litByte (m := (x.vouches[i]'hlt).notary) el24 rfl (by have hm := hy23.notary; omega) (fun g28 w29 hO30 hA31 => ?_)
            exact VL.finO rfl (fun _ h => h.sub (fun _ hs => by repeat (first | exact hs | apply List.mem_cons_of_mem))) (fun _ h => ⟨_, rfl, (hA31.now (s := ⟨w29, _⟩) Mono.byte h (by repeat (first | exact List.mem_cons_self .. | apply List.mem_cons_of_mem)))⟩)
          refine Obs.cons ?_ ?_
          · refine obS (by kernel_rfl) rfl rfl (fun ph13 w13 hO13 => ?_)
            refine VL.fieldAddr rfl fo202_1 rfl ?_
            exact VL.finS hO13 rfl rfl
          refine Obs.cons ?_ ?_
          · refine obS (by kernel_rfl) rfl rfl (fun ph13 w13 hO13 => ?_)
            rintro _ rfl
            refine VL.sliceArrAt Try.underlying80 (by kernel_rfl) rfl ?_
            refine VL.newv (v' := .slice (some ⟨g24, 1, none⟩) ((x.vouches[i]'hlt).sig).length 64) (by rw [hy23.sig]) ?_
            exact VL.finS hO13 rfl rfl
          refine Obs.cons ?_ ?_
          · refine ob (by kernel_rfl) rfl (by kernel_rfl) rfl (fun w13 hO13 => ?_)
            rintro _ ⟨p13_3, rfl, hA13_3⟩ _ rfl
            refine VL.toOwn hO13 ?_
            refine VL.appendFull el24 rfl rfl rfl (by simp only [be_length]; omega) (by have hl := hy23.sig; omega) (by simp only [be_length]; have hl := hy23.sig; omega) (by simp only [be_length]; have hl := hy23.sig; omega) (fun _ hw => (hA13_3.now (s := ⟨w13, _⟩) Mono.byte hw (by repeat (first | exact List.mem_cons_self .. | apply List.mem_cons_of_mem)))) (fun _ hw => ((hF26.bytes 1 1 rfl rfl hy23.sig rfl).now (s := ⟨w25, _⟩) Mono.byte hw (by repeat (first | exact List.mem_cons_self .. | apply List.mem_cons_of_mem)))) (fun g32 c36 w33 hO34 hA35 => ?_)
            exact VL.finO rfl (fun _ h => h.sub (fun _ hs => by repeat (first | exact hs | apply List.mem_cons_of_mem))) (fun _ h => ⟨_, _, rfl, (hA35.now (s := ⟨w33, _⟩) Mono.byte h (by repeat (first | exact List.mem_cons_self .. | apply List.mem_cons_of_mem)))⟩)
          exact Obs.nil
        case end13 =>
          intro w13 hO13
          rintro _ rfl _ ⟨p13_6, c13_6, rfl, hA13_6⟩
          refine VL.toOwn hO13 ?_
          refine VL.call Try.func117 rfl (by decide) rfl (fun w' hw => piece_w hw (by simp only [List.length_append, List.length_cons, List.length_nil, List.length_map]; omega) (hA13_6.now (s := ⟨w13, _⟩) Mono.byte hw (by repeat (first | exact List.mem_cons_self .. | apply List.mem_cons_of_mem))) true) (fun v => ?_)
          refine VL.fact fun e39 => ?_
          subst e39
          refine VL.ex fun gp37 => VL.ex fun c38 => ?_
          refine VL.nil ?_
          refine VX.block_normal ?_
          refine VX.next ?_
          refine VC.region ?_
          refine VL.add rfl rfl (by simp only [InR]; omega) ?_
          refine VL.move rfl ?_
          refine VL.nil ?_
          refine VX.round (i + 1, gp37, c38) ⟨rfl, rfl, rfl, rfl, trivial⟩ (fun w' h => ⟨by omega, ?_⟩) (by show x.vouches.length - (i + 1) < x.vouches.length - i; omega)
          rw [← vouch_next hlt, ← List.append_assoc]
          exact h.sub (fun _ hs => by repeat (first | exact hs | apply List.mem_cons_of_mem))
      · obtain rfl : i = x.vouches.length := by omega
        refine VL.nil ?_
        refine VX.next ?_
        refine VC.seq ?_
        refine VC.no rfl ?_
        refine VC.exit ?_
        refine VX.then_exit ?_
        refine VX.then_exit ?_
        refine VX.block_here ?_
        refine VX.next ?_
        refine VC.seq ?_
        refine VC.region ?_
        refine VL.move rfl ?_
        refine VL.call Try.func118 rfl (by decide) rfl (fun w' hw => done_O hw) (fun v => ?_)
        refine VL.at (fun w40 h1w => ?_)
        obtain ⟨p41, c42, rfl, hO44, hA43⟩ := h1w
        refine VL.toOwn hO44 ?_
        refine VL.extract rfl rfl ?_
        refine VL.extract rfl rfl ?_
        refine VL.assign rfl ?_
        refine VL.assign rfl ?_
        refine VL.nil ?_
        refine VX.next ?_
        refine VC.ret ?_
        refine VX.ret2 rfl rfl rfl (fun we hw => ?_)
        exact postO ((show joinO (objectP0 x ++ (x.vouches.take x.vouches.length).map vouchB) (!false) = objectO x from by rw [List.take_length]; unfold objectO; rw [if_pos (by omega)]; exact joinO_some (objectP_ok hx (by omega)) rfl)) ⟨p41, c42, rfl, hw.drop.sub (fun _ hs => by repeat (first | exact hs | apply List.mem_cons_of_mem)), (hA43.now (s := ⟨w40, _⟩) Mono.byte hw.drop (by repeat (first | exact List.mem_cons_self .. | apply List.mem_cons_of_mem)))⟩

theorem letter0_iff (x : Letter) : x = letter0 ↔ x.src = 0 ∧ x.dst = 0 ∧ x.header = header0 ∧ x.body.length = 0 := by
  constructor
  · rintro rfl; exact ⟨rfl, rfl, rfl, rfl⟩
  · obtain ⟨a, b, c, d⟩ := x
    rintro ⟨h1, h2, h3, h4⟩
    simp only at h1 h2 h3 h4
    subst h1 h2 h3
    rw [List.eq_nil_of_length_eq_zero h4]; rfl
theorem object0_iff (x : Object) : x = object0 ↔ x.server = 0 ∧ x.n = 0 ∧ x.key = zeros 32 ∧ x.since = 0 ∧ x.till = 0 ∧ x.sig = zeros 64 ∧ x.vouches.length = 0 := by
  constructor
  · rintro rfl; exact ⟨rfl, rfl, rfl, rfl, rfl, rfl, rfl⟩
  · obtain ⟨a, b, c, d, e, f, g⟩ := x
    rintro ⟨h1, h2, h3, h4, h5, h6, h7⟩
    simp only at h1 h2 h3 h4 h5 h6 h7
    subst h1 h2 h3 h4 h5 h6
    rw [List.eq_nil_of_length_eq_zero h7]; rfl

theorem emptyLetter_w {S : List Snap} {H : List Chunk} {w : World} (ho : Own S H w) {x : Letter} (hx : x.ok) {p : Option Addr} {c : Nat} : Calls Try.prog 138 #[.agg (cat (letterV x p c)).toArray] w (Ret fun v w' => ∃ b : Bool, v = .bool b ∧ (b = true ↔ x = letter0) ∧ Own S H w') := by
  refine enter (G := Own (⟨w, keys H⟩ :: S) H) ho.keep Try.func138 rfl Try.ntmps138 rfl ?_
  refine VC.seq ?_
  refine VC.region ?_
  refine VL.box (L := letterL) (ps := (letterV (x) p c)) rfl rfl (letterV_len hx) (fun g1 => ?_)
  refine VL.assign rfl ?_
  refine VL.nil ?_
  refine VX.next ?_
  refine VC.seq ?_
  refine VC.region ?_
  refine VL.fieldAddr rfl fo72_0 rfl ?_
  refine VL.load (v := .int .u8 (x.src)) 0 0 rfl kd5 (fun _ h => h) rfl rfl rfl ?_
  refine VL.eql rfl rfl ?_
  refine VL.case (fun h1_2 => ?_) (fun h1_2 => ?_)
  · have h1_2 : x.src = 0 := by omega
    refine VL.move rfl ?_
    refine VL.go rfl rfl rfl ?_
    refine VL.fieldAddr rfl fo72_1 rfl ?_
    refine VL.go rfl rfl rfl ?_
    refine VL.load (v := .int .u8 (x.dst)) 0 1 rfl kd5 (fun _ h => h) rfl rfl rfl ?_
    refine VL.go rfl rfl rfl ?_
    refine VL.eql rfl rfl ?_
    refine VL.case (fun h1_6 => ?_) (fun h1_6 => ?_)
    · have h1_6 : x.dst = 0 := by omega
      refine VL.pick_t rfl rfl ?_
      refine VL.move rfl ?_
      refine VL.go rfl rfl rfl ?_
      refine VL.fieldAddr rfl fo72_2 rfl ?_
      refine VL.go rfl rfl rfl ?_
      refine VL.loads (cs := cat (headerV (x.header))) 0 2 9 rfl kd70 (fun _ h => h) rfl rfl rfl rfl ?_
      refine VL.go rfl rfl rfl ?_
      refine VL.build0 (cs := cat (headerV (header0))) built70 ?_
      refine VL.go rfl rfl rfl ?_
      refine VL.eqT guard70 rfl rfl (eqHeader hx.header header0_ok) (fun b h1_12 => ?_)
      cases b
      · have h1_12 := mt h1_12.2 (by decide)
        refine VL.pick_t rfl rfl ?_
        refine VL.move rfl ?_
        refine VL.pass rfl rfl rfl rfl rfl ?_
        refine VL.pass rfl rfl rfl rfl rfl ?_
        refine VL.pass rfl rfl rfl rfl rfl ?_
        refine VL.pass rfl rfl rfl rfl rfl ?_
        refine VL.pick_f rfl rfl ?_
        refine VL.assign rfl ?_
        refine VL.nil ?_
        refine VX.next ?_
        refine VC.ret ?_
        refine VX.ret1 rfl rfl (fun we hw => ?_)
        refine ⟨false, rfl, ?_, hw.drop.sub (fun _ hs => by repeat (first | exact hs | apply List.mem_cons_of_mem))⟩
        rw [letter0_iff]
        simp [h1_2, h1_6, h1_12]
      · have h1_12 := h1_12.1 rfl
        refine VL.pick_t rfl rfl ?_
        refine VL.move rfl ?_
        refine VL.go rfl rfl rfl ?_
        refine VL.fieldAddr rfl fo72_3 rfl ?_
        refine VL.go rfl rfl rfl ?_
        refine VL.load (v := .slice p (x.body).length c) 0 11 rfl kd24 (fun _ h => h) rfl rfl rfl ?_
        refine VL.go rfl rfl rfl ?_
        refine VL.len Try.underlying24 rfl rfl ?_
        refine VL.go rfl rfl rfl ?_
        refine VL.eql rfl rfl ?_
        refine VL.case (fun h1_18 => ?_) (fun h1_18 => ?_)
        · have h1_18 : x.body.length = 0 := by omega
          refine VL.pick_t rfl rfl ?_
          refine VL.assign rfl ?_
          refine VL.nil ?_
          refine VX.next ?_
          refine VC.ret ?_
          refine VX.ret1 rfl rfl (fun we hw => ?_)
          refine ⟨true, rfl, ?_, hw.drop.sub (fun _ hs => by repeat (first | exact hs | apply List.mem_cons_of_mem))⟩
          rw [letter0_iff]
          simp [h1_2, h1_6, h1_12, h1_18]
        · have h1_18 : ¬ x.body.length = 0 := by omega
          refine VL.pick_t rfl rfl ?_
          refine VL.assign rfl ?_
          refine VL.nil ?_
          refine VX.next ?_
          refine VC.ret ?_
          refine VX.ret1 rfl rfl (fun we hw => ?_)
          refine ⟨false, rfl, ?_, hw.drop.sub (fun _ hs => by repeat (first | exact hs | apply List.mem_cons_of_mem))⟩
          rw [letter0_iff]
          simp [h1_2, h1_6, h1_12, h1_18]
    · have h1_6 : ¬ x.dst = 0 := by omega
      refine VL.pick_t rfl rfl ?_
      refine VL.move rfl ?_
      refine VL.pass rfl rfl rfl rfl rfl ?_
      refine VL.pass rfl rfl rfl rfl rfl ?_
      refine VL.pass rfl rfl rfl rfl rfl ?_
      refine VL.pass rfl rfl rfl rfl rfl ?_
      refine VL.pick_f rfl rfl ?_
      refine VL.move rfl ?_
      refine VL.pass rfl rfl rfl rfl rfl ?_
      refine VL.pass rfl rfl rfl rfl rfl ?_
      refine VL.pass rfl rfl rfl rfl rfl ?_
      refine VL.pass rfl rfl rfl rfl rfl ?_
      refine VL.pick_f rfl rfl ?_
      refine VL.assign rfl ?_
      refine VL.nil ?_
      refine VX.next ?_
      refine VC.ret ?_
      refine VX.ret1 rfl rfl (fun we hw => ?_)
      refine ⟨false, rfl, ?_, hw.drop.sub (fun _ hs => by repeat (first | exact hs | apply List.mem_cons_of_mem))⟩
      rw [letter0_iff]
      simp [h1_2, h1_6]
  · have h1_2 : ¬ x.src = 0 := by omega
    refine VL.move rfl ?_
    refine VL.pass rfl rfl rfl rfl rfl ?_
    refine VL.pass rfl rfl rfl rfl rfl ?_
    refine VL.pass rfl rfl rfl rfl rfl ?_
    refine VL.pick_f rfl rfl ?_
    refine VL.move rfl ?_
    refine VL.pass rfl rfl rfl rfl rfl ?_
    refine VL.pass rfl rfl rfl rfl rfl ?_
    refine VL.pass rfl rfl rfl rfl rfl ?_
    refine VL.pass rfl rfl rfl rfl rfl ?_
    refine VL.pick_f rfl rfl ?_
    refine VL.move rfl ?_
    refine VL.pass rfl rfl rfl rfl rfl ?_
    refine VL.pass rfl rfl rfl rfl rfl ?_
    refine VL.pass rfl rfl rfl rfl rfl ?_
    refine VL.pass rfl rfl rfl rfl rfl ?_
    refine VL.pick_f rfl rfl ?_
    refine VL.assign rfl ?_
    refine VL.nil ?_
    refine VX.next ?_
    refine VC.ret ?_
    refine VX.ret1 rfl rfl (fun we hw => ?_)
    refine ⟨false, rfl, ?_, hw.drop.sub (fun _ hs => by repeat (first | exact hs | apply List.mem_cons_of_mem))⟩
    rw [letter0_iff]
    simp [h1_2]

theorem emptyObject_w {S : List Snap} {H : List Chunk} {w : World} (ho : Own S H w) {x : Object} (hx : x.ok) {q : Option Addr} {d : Nat} : Calls Try.prog 163 #[.agg (cat (objectV x q d)).toArray] w (Ret fun v w' => ∃ b : Bool, v = .bool b ∧ (b = true ↔ x = object0) ∧ Own S H w') := by
  refine enter (G := Own (⟨w, keys H⟩ :: S) H) ho.keep Try.func163 rfl Try.ntmps163 rfl ?_
  refine VC.seq ?_
  refine VC.region ?_
  refine VL.box (L := objectL) (ps := (objectV (x) q d)) rfl rfl (objectV_len hx) (fun g1 => ?_)
  refine VL.assign rfl ?_
  refine VL.nil ?_
  refine VX.next ?_
  refine VC.seq ?_
  refine VC.region ?_
  refine VL.fieldAddr rfl fo85_0 rfl ?_
  refine VL.load (v := .int .u8 (x.server)) 0 0 rfl kd5 (fun _ h => h) rfl rfl rfl ?_
  refine VL.eql rfl rfl ?_
  refine VL.case (fun h1_2 => ?_) (fun h1_2 => ?_)
  · have h1_2 : x.server = 0 := by omega
    refine VL.move rfl ?_
    refine VL.go rfl rfl rfl ?_
    refine VL.fieldAddr rfl fo85_1 rfl ?_
    refine VL.go rfl rfl rfl ?_
    refine VL.load (v := .int .u8 (x.n)) 0 1 rfl kd5 (fun _ h => h) rfl rfl rfl ?_
    refine VL.go rfl rfl rfl ?_
    refine VL.eql rfl rfl ?_
    refine VL.case (fun h1_6 => ?_) (fun h1_6 => ?_)
    · have h1_6 : x.n = 0 := by omega
      refine VL.pick_t rfl rfl ?_
      refine VL.move rfl ?_
      refine VL.go rfl rfl rfl ?_
      refine VL.fieldAddr rfl fo85_2 rfl ?_
      refine VL.go rfl rfl rfl ?_
      refine VL.loads (cs := (x.key).map bv) 0 2 1 rfl kd44 (fun _ h => h) rfl rfl rfl rfl ?_
      refine VL.go rfl rfl rfl ?_
      refine VL.build0 (cs := (zeros 32).map bv) built44 ?_
      refine VL.go rfl rfl rfl ?_
      refine VL.eqT guard44 rfl rfl (eqKey 9998 hx.key rfl) (fun b h1_12 => ?_)
      cases b
      · have h1_12 := mt h1_12.2 (by decide)
        refine VL.pick_t rfl rfl ?_
        refine VL.move rfl ?_
        refine VL.pass rfl rfl rfl rfl rfl ?_
        refine VL.pass rfl rfl rfl rfl rfl ?_
        refine VL.pass rfl rfl rfl rfl rfl ?_
        refine VL.pick_f rfl rfl ?_
        refine VL.move rfl ?_
        refine VL.pass rfl rfl rfl rfl rfl ?_
        refine VL.pass rfl rfl rfl rfl rfl ?_
        refine VL.pass rfl rfl rfl rfl rfl ?_
        refine VL.pick_f rfl rfl ?_
        refine VL.move rfl ?_
        refine VL.pass rfl rfl rfl rfl rfl ?_
        refine VL.pass rfl rfl rfl rfl rfl ?_
        refine VL.pass rfl rfl rfl rfl rfl ?_
        refine VL.pass rfl rfl rfl rfl rfl ?_
        refine VL.pick_f rfl rfl ?_
        refine VL.move rfl ?_
        refine VL.pass rfl rfl rfl rfl rfl ?_
        refine VL.pass rfl rfl rfl rfl rfl ?_
        refine VL.pass rfl rfl rfl rfl rfl ?_
        refine VL.pass rfl rfl rfl rfl rfl ?_
        refine VL.pick_f rfl rfl ?_
        refine VL.assign rfl ?_
        refine VL.nil ?_
        refine VX.next ?_
        refine VC.ret ?_
        refine VX.ret1 rfl rfl (fun we hw => ?_)
        refine ⟨false, rfl, ?_, hw.drop.sub (fun _ hs => by repeat (first | exact hs | apply List.mem_cons_of_mem))⟩
        rw [object0_iff]
        simp [h1_2, h1_6, h1_12]
      · have h1_12 := h1_12.1 rfl
        refine VL.pick_t rfl rfl ?_
        refine VL.move rfl ?_
        refine VL.go rfl rfl rfl ?_
        refine VL.fieldAddr rfl fo85_3 rfl ?_
        refine VL.go rfl rfl rfl ?_
        refine VL.load (v := .int .u32 (x.since)) 0 3 rfl kd48 (fun _ h => h) rfl rfl rfl ?_
        refine VL.go rfl rfl rfl ?_
        refine VL.eql rfl rfl ?_
        refine VL.case (fun h1_17 => ?_) (fun h1_17 => ?_)
        · have h1_17 : x.since = 0 := by omega
          refine VL.pick_t rfl rfl ?_
          refine VL.move rfl ?_
          refine VL.go rfl rfl rfl ?_
          refine VL.fieldAddr rfl fo85_4 rfl ?_
          refine VL.go rfl rfl rfl ?_
          refine VL.load (v := .int .u32 (x.till)) 0 4 rfl kd48 (fun _ h => h) rfl rfl rfl ?_
          refine VL.go rfl rfl rfl ?_
          refine VL.eql rfl rfl ?_
          refine VL.case (fun h1_22 => ?_) (fun h1_22 => ?_)
          · have h1_22 : x.till = 0 := by omega
            refine VL.pick_t rfl rfl ?_
            refine VL.move rfl ?_
            refine VL.go rfl rfl rfl ?_
            refine VL.fieldAddr rfl fo85_5 rfl ?_
            refine VL.go rfl rfl rfl ?_
            refine VL.loads (cs := (x.sig).map bv) 0 5 1 rfl kd80 (fun _ h => h) rfl rfl rfl rfl ?_
            refine VL.go rfl rfl rfl ?_
            refine VL.build0 (cs := (zeros 64).map bv) built80 ?_
            refine VL.go rfl rfl rfl ?_
            refine VL.eqT guard80 rfl rfl (eqSig 9998 hx.sig rfl) (fun b h1_28 => ?_)
            cases b
            · have h1_28 := mt h1_28.2 (by decide)
              refine VL.pick_t rfl rfl ?_
              refine VL.move rfl ?_
              refine VL.pass rfl rfl rfl rfl rfl ?_
              refine VL.pass rfl rfl rfl rfl rfl ?_
              refine VL.pass rfl rfl rfl rfl rfl ?_
              refine VL.pass rfl rfl rfl rfl rfl ?_
              refine VL.pick_f rfl rfl ?_
              refine VL.assign rfl ?_
              refine VL.nil ?_
              refine VX.next ?_
              refine VC.ret ?_
              refine VX.ret1 rfl rfl (fun we hw => ?_)
              refine ⟨false, rfl, ?_, hw.drop.sub (fun _ hs => by repeat (first | exact hs | apply List.mem_cons_of_mem))⟩
              rw [object0_iff]
              simp [h1_2, h1_6, h1_12, h1_17, h1_22, h1_28]
            · have h1_28 := h1_28.1 rfl
              refine VL.pick_t rfl rfl ?_
              refine VL.move rfl ?_
              refine VL.go rfl rfl rfl ?_
              refine VL.fieldAddr rfl fo85_6 rfl ?_
              refine VL.go rfl rfl rfl ?_
              refine VL.load (v := .slice q (x.vouches).length d) 0 6 rfl kd83 (fun _ h => h) rfl rfl rfl ?_
              refine VL.go rfl rfl rfl ?_
              refine VL.len Try.underlying83 rfl rfl ?_
              refine VL.go rfl rfl rfl ?_
              refine VL.eql rfl rfl ?_
              refine VL.case (fun h1_34 => ?_) (fun h1_34 => ?_)
              · have h1_34 : x.vouches.length = 0 := by omega
                refine VL.pick_t rfl rfl ?_
                refine VL.assign rfl ?_
                refine VL.nil ?_
                refine VX.next ?_
                refine VC.ret ?_
                refine VX.ret1 rfl rfl (fun we hw => ?_)
                refine ⟨true, rfl, ?_, hw.drop.sub (fun _ hs => by repeat (first | exact hs | apply List.mem_cons_of_mem))⟩
                rw [object0_iff]
                simp [h1_2, h1_6, h1_12, h1_17, h1_22, h1_28, h1_34]
              · have h1_34 : ¬ x.vouches.length = 0 := by omega
                refine VL.pick_t rfl rfl ?_
                refine VL.assign rfl ?_
                refine VL.nil ?_
                refine VX.next ?_
                refine VC.ret ?_
                refine VX.ret1 rfl rfl (fun we hw => ?_)
                refine ⟨false, rfl, ?_, hw.drop.sub (fun _ hs => by repeat (first | exact hs | apply List.mem_cons_of_mem))⟩
                rw [object0_iff]
                simp [h1_2, h1_6, h1_12, h1_17, h1_22, h1_28, h1_34]
          · have h1_22 : ¬ x.till = 0 := by omega
            refine VL.pick_t rfl rfl ?_
            refine VL.move rfl ?_
            refine VL.pass rfl rfl rfl rfl rfl ?_
            refine VL.pass rfl rfl rfl rfl rfl ?_
            refine VL.pass rfl rfl rfl rfl rfl ?_
            refine VL.pass rfl rfl rfl rfl rfl ?_
            refine VL.pick_f rfl rfl ?_
            refine VL.move rfl ?_
            refine VL.pass rfl rfl rfl rfl rfl ?_
            refine VL.pass rfl rfl rfl rfl rfl ?_
            refine VL.pass rfl rfl rfl rfl rfl ?_
            refine VL.pass rfl rfl rfl rfl rfl ?_
            refine VL.pick_f rfl rfl ?_
            refine VL.assign rfl ?_
            refine VL.nil ?_
            refine VX.next ?_
            refine VC.ret ?_
            refine VX.ret1 rfl rfl (fun we hw => ?_)
            refine ⟨false, rfl, ?_, hw.drop.sub (fun _ hs => by repeat (first | exact hs | apply List.mem_cons_of_mem))⟩
            rw [object0_iff]
            simp [h1_2, h1_6, h1_12, h1_17, h1_22]
        · have h1_17 : ¬ x.since = 0 := by omega
          refine VL.pick_t rfl rfl ?_
          refine VL.move rfl ?_
          refine VL.pass rfl rfl rfl rfl rfl ?_
          refine VL.pass rfl rfl rfl rfl rfl ?_
          refine VL.pass rfl rfl rfl rfl rfl ?_
          refine VL.pick_f rfl rfl ?_
          refine VL.move rfl ?_
          refine VL.pass rfl rfl rfl rfl rfl ?_
          refine VL.pass rfl rfl rfl rfl rfl ?_
          refine VL.pass rfl rfl rfl rfl rfl ?_
          refine VL.pass rfl rfl rfl rfl rfl ?_
          refine VL.pick_f rfl rfl ?_
          refine VL.move rfl ?_
          refine VL.pass rfl rfl rfl rfl rfl ?_
          refine VL.pass rfl rfl rfl rfl rfl ?_
          refine VL.pass rfl rfl rfl rfl rfl ?_
          refine VL.pass rfl rfl rfl rfl rfl ?_
          refine VL.pick_f rfl rfl ?_
          refine VL.assign rfl ?_
          refine VL.nil ?_
          refine VX.next ?_
          refine VC.ret ?_
          refine VX.ret1 rfl rfl (fun we hw => ?_)
          refine ⟨false, rfl, ?_, hw.drop.sub (fun _ hs => by repeat (first | exact hs | apply List.mem_cons_of_mem))⟩
          rw [object0_iff]
          simp [h1_2, h1_6, h1_12, h1_17]
    · have h1_6 : ¬ x.n = 0 := by omega
      refine VL.pick_t rfl rfl ?_
      refine VL.move rfl ?_
      refine VL.pass rfl rfl rfl rfl rfl ?_
      refine VL.pass rfl rfl rfl rfl rfl ?_
      refine VL.pass rfl rfl rfl rfl rfl ?_
      refine VL.pass rfl rfl rfl rfl rfl ?_
      refine VL.pick_f rfl rfl ?_
      refine VL.move rfl ?_
      refine VL.pass rfl rfl rfl rfl rfl ?_
      refine VL.pass rfl rfl rfl rfl rfl ?_
      refine VL.pass rfl rfl rfl rfl rfl ?_
      refine VL.pick_f rfl rfl ?_
      refine VL.move rfl ?_
      refine VL.pass rfl rfl rfl rfl rfl ?_
      refine VL.pass rfl rfl rfl rfl rfl ?_
      refine VL.pass rfl rfl rfl rfl rfl ?_
      refine VL.pick_f rfl rfl ?_
      refine VL.move rfl ?_
      refine VL.pass rfl rfl rfl rfl rfl ?_
      refine VL.pass rfl rfl rfl rfl rfl ?_
      refine VL.pass rfl rfl rfl rfl rfl ?_
      refine VL.pass rfl rfl rfl rfl rfl ?_
      refine VL.pick_f rfl rfl ?_
      refine VL.move rfl ?_
      refine VL.pass rfl rfl rfl rfl rfl ?_
      refine VL.pass rfl rfl rfl rfl rfl ?_
      refine VL.pass rfl rfl rfl rfl rfl ?_
      refine VL.pass rfl rfl rfl rfl rfl ?_
      refine VL.pick_f rfl rfl ?_
      refine VL.assign rfl ?_
      refine VL.nil ?_
      refine VX.next ?_
      refine VC.ret ?_
      refine VX.ret1 rfl rfl (fun we hw => ?_)
      refine ⟨false, rfl, ?_, hw.drop.sub (fun _ hs => by repeat (first | exact hs | apply List.mem_cons_of_mem))⟩
      rw [object0_iff]
      simp [h1_2, h1_6]
  · have h1_2 : ¬ x.server = 0 := by omega
    refine VL.move rfl ?_
    refine VL.pass rfl rfl rfl rfl rfl ?_
    refine VL.pass rfl rfl rfl rfl rfl ?_
    refine VL.pass rfl rfl rfl rfl rfl ?_
    refine VL.pick_f rfl rfl ?_
    refine VL.move rfl ?_
    refine VL.pass rfl rfl rfl rfl rfl ?_
    refine VL.pass rfl rfl rfl rfl rfl ?_
    refine VL.pass rfl rfl rfl rfl rfl ?_
    refine VL.pass rfl rfl rfl rfl rfl ?_
    refine VL.pick_f rfl rfl ?_
    refine VL.move rfl ?_
    refine VL.pass rfl rfl rfl rfl rfl ?_
    refine VL.pass rfl rfl rfl rfl rfl ?_
    refine VL.pass rfl rfl rfl rfl rfl ?_
    refine VL.pick_f rfl rfl ?_
    refine VL.move rfl ?_
    refine VL.pass rfl rfl rfl rfl rfl ?_
    refine VL.pass rfl rfl rfl rfl rfl ?_
    refine VL.pass rfl rfl rfl rfl rfl ?_
    refine VL.pick_f rfl rfl ?_
    refine VL.move rfl ?_
    refine VL.pass rfl rfl rfl rfl rfl ?_
    refine VL.pass rfl rfl rfl rfl rfl ?_
    refine VL.pass rfl rfl rfl rfl rfl ?_
    refine VL.pass rfl rfl rfl rfl rfl ?_
    refine VL.pick_f rfl rfl ?_
    refine VL.move rfl ?_
    refine VL.pass rfl rfl rfl rfl rfl ?_
    refine VL.pass rfl rfl rfl rfl rfl ?_
    refine VL.pass rfl rfl rfl rfl rfl ?_
    refine VL.pass rfl rfl rfl rfl rfl ?_
    refine VL.pick_f rfl rfl ?_
    refine VL.assign rfl ?_
    refine VL.nil ?_
    refine VX.next ?_
    refine VC.ret ?_
    refine VX.ret1 rfl rfl (fun we hw => ?_)
    refine ⟨false, rfl, ?_, hw.drop.sub (fun _ hs => by repeat (first | exact hs | apply List.mem_cons_of_mem))⟩
    rw [object0_iff]
    simp [h1_2]

end Go.Proofs.Ytcfecmoagfgnaaa

/- Plain facts on what goes over the net, continued: items. -/
namespace Go.Pl

instance : DecidableEq Bundle := fun a b => decidable_of_iff (a.device = b.device ∧ a.agree = b.agree ∧ a.signer = b.signer ∧ a.id = b.id ∧ a.once = b.once ∧ a.sig = b.sig) ⟨fun h => by cases a; cases b; simp only at h; obtain ⟨rfl, rfl, rfl, rfl, rfl, rfl⟩ := h; rfl, fun h => by subst h; exact ⟨rfl, rfl, rfl, rfl, rfl, rfl⟩⟩
instance : DecidableEq Header := fun a b => decidable_of_iff (a.session = b.session ∧ a.first = b.first ∧ a.agree = b.agree ∧ a.signer = b.signer ∧ a.base = b.base ∧ a.id = b.id ∧ a.ratchet = b.ratchet ∧ a.n = b.n ∧ a.prev = b.prev) ⟨fun h => by cases a; cases b; simp only at h; obtain ⟨rfl, rfl, rfl, rfl, rfl, rfl, rfl, rfl, rfl⟩ := h; rfl, fun h => by subst h; exact ⟨rfl, rfl, rfl, rfl, rfl, rfl, rfl, rfl, rfl⟩⟩
instance : DecidableEq Letter := fun a b => decidable_of_iff (a.src = b.src ∧ a.dst = b.dst ∧ a.header = b.header ∧ a.body = b.body) ⟨fun h => by cases a; cases b; simp only at h; obtain ⟨rfl, rfl, rfl, rfl⟩ := h; rfl, fun h => by subst h; exact ⟨rfl, rfl, rfl, rfl⟩⟩
instance : DecidableEq Vouch := fun a b => decidable_of_iff (a.notary = b.notary ∧ a.sig = b.sig) ⟨fun h => by cases a; cases b; simp only at h; obtain ⟨rfl, rfl⟩ := h; rfl, fun h => by subst h; exact ⟨rfl, rfl⟩⟩
instance : DecidableEq Object := fun a b => decidable_of_iff (a.server = b.server ∧ a.n = b.n ∧ a.key = b.key ∧ a.since = b.since ∧ a.till = b.till ∧ a.sig = b.sig ∧ a.vouches = b.vouches) ⟨fun h => by cases a; cases b; simp only at h; obtain ⟨rfl, rfl, rfl, rfl, rfl, rfl, rfl⟩ := h; rfl, fun h => by subst h; exact ⟨rfl, rfl, rfl, rfl, rfl, rfl, rfl⟩⟩

structure Itm where
  kind : Nat
  asker : Nat
  peer : Nat
  letter : Letter
  bundle : Bundle
  object : Object
structure Itm.ok (x : Itm) : Prop where
  kind : x.kind < 256
  asker : x.asker < 256
  peer : x.peer < 256
  letter : x.letter.ok
  bundle : x.bundle.ok
  object : x.object.ok
def item0 : Itm := ⟨0, 0, 0, letter0, bundle0, object0⟩
theorem item0_ok : item0.ok := ⟨by decide, by decide, by decide, letter0_ok, bundle0_ok, object0_ok⟩
/-- Its kind's pieces; what is there beside its kind; is all else empty? -/
def itemP (x : Itm) : List (List UInt8) :=
  if x.kind = 1 then [be 1 x.kind, (letterO x.letter).getD []] else if x.kind = 2 ∨ x.kind = 4 then [be 1 x.kind, be 1 x.asker, be 1 x.peer]
  else if x.kind = 3 then [be 1 x.kind, be 1 x.asker, bundleB x.bundle] else [be 1 x.kind, (objectO x.object).getD []]
def itemGood (x : Itm) : Bool :=
  if x.kind = 1 then (letterO x.letter).isSome && decide (x.asker = 0 ∧ x.peer = 0 ∧ x.bundle = bundle0 ∧ x.object = object0)
  else if x.kind = 2 ∨ x.kind = 4 then decide (x.letter = letter0 ∧ x.bundle = bundle0 ∧ x.object = object0)
  else if x.kind = 3 then decide (x.peer = 0 ∧ x.letter = letter0 ∧ x.object = object0)
  else if x.kind = 5 ∨ x.kind = 6 then (objectO x.object).isSome && decide (x.asker = 0 ∧ x.peer = 0 ∧ x.letter = letter0 ∧ x.bundle = bundle0)
  else false
def itemO (x : Itm) : Option (List UInt8) := joinO (itemP x) (itemGood x)
def bareP (x : Itm) : Prop := x.asker = 0 ∧ x.peer = 0 ∧ x.letter = letter0 ∧ x.bundle = bundle0 ∧ x.object = object0
/-- What is left of an item when its kind's part is taken out. -/
abbrev itemA (x : Itm) : Itm := ⟨x.kind, x.asker, x.peer, letter0, x.bundle, x.object⟩
abbrev itemB (x : Itm) : Itm := ⟨x.kind, 0, 0, x.letter, x.bundle, x.object⟩
abbrev itemC (x : Itm) : Itm := ⟨x.kind, 0, x.peer, x.letter, bundle0, x.object⟩
abbrev itemD (x : Itm) : Itm := ⟨x.kind, x.asker, x.peer, x.letter, x.bundle, object0⟩
theorem itemA_ok {x : Itm} (h : x.ok) : (itemA x).ok := ⟨h.kind, h.asker, h.peer, letter0_ok, h.bundle, h.object⟩
theorem itemB_ok {x : Itm} (h : x.ok) : (itemB x).ok := ⟨h.kind, (show (0 : Nat) < 256 by decide), (show (0 : Nat) < 256 by decide), h.letter, h.bundle, h.object⟩
theorem itemC_ok {x : Itm} (h : x.ok) : (itemC x).ok := ⟨h.kind, (show (0 : Nat) < 256 by decide), h.peer, h.letter, bundle0_ok, h.object⟩
theorem itemD_ok {x : Itm} (h : x.ok) : (itemD x).ok := ⟨h.kind, h.asker, h.peer, h.letter, h.bundle, object0_ok⟩
theorem none_joinO (ps : List (List UInt8)) : none = joinO ps false := (joinO_none (by simp)).symm
theorem item1_n {x : Itm} (h : x.kind = 1) (hb : ¬ bareP (itemA x)) : none = itemO x := by
  unfold itemO itemGood
  rw [if_pos h, decide_eq_false (fun e => hb ⟨e.1, e.2.1, rfl, e.2.2.1, e.2.2.2⟩), Bool.and_false]
  exact none_joinO _
theorem item1_y {x : Itm} (h : x.kind = 1) (hb : bareP (itemA x)) : joinO [be 1 x.kind, (letterO x.letter).getD []] (letterO x.letter).isSome = itemO x := by
  unfold itemO itemGood itemP
  rw [if_pos h, if_pos h, decide_eq_true ⟨hb.1, hb.2.1, hb.2.2.2.1, hb.2.2.2.2⟩, Bool.and_true]
theorem item2_n {x : Itm} (h : x.kind = 2 ∨ x.kind = 4) (hb : ¬ bareP (itemB x)) : none = itemO x := by
  unfold itemO itemGood
  rw [if_neg (by omega), if_pos h, decide_eq_false (fun e => hb ⟨rfl, rfl, e.1, e.2.1, e.2.2⟩)]
  exact none_joinO _
theorem item2_y {x : Itm} (h : x.kind = 2 ∨ x.kind = 4) (hb : bareP (itemB x)) : joinO [be 1 x.kind, be 1 x.asker, be 1 x.peer] true = itemO x := by
  unfold itemO itemGood itemP
  rw [if_neg (by omega), if_pos h, if_neg (by omega), if_pos h, decide_eq_true ⟨hb.2.2.1, hb.2.2.2.1, hb.2.2.2.2⟩]
theorem item3_n {x : Itm} (h : x.kind = 3) (hb : ¬ bareP (itemC x)) : none = itemO x := by
  unfold itemO itemGood
  rw [if_neg (by omega), if_neg (by omega), if_pos h, decide_eq_false (fun e => hb ⟨rfl, e.1, e.2.1, rfl, e.2.2⟩)]
  exact none_joinO _
theorem item3_y {x : Itm} (h : x.kind = 3) (hb : bareP (itemC x)) : joinO [be 1 x.kind, be 1 x.asker, bundleB x.bundle] true = itemO x := by
  unfold itemO itemGood itemP
  rw [if_neg (by omega), if_neg (by omega), if_pos h, if_neg (by omega), if_neg (by omega), if_pos h, decide_eq_true ⟨hb.2.1, hb.2.2.1, hb.2.2.2.2⟩]
theorem item5_n {x : Itm} (h : x.kind = 5 ∨ x.kind = 6) (hb : ¬ bareP (itemD x)) : none = itemO x := by
  unfold itemO itemGood
  rw [if_neg (by omega), if_neg (by omega), if_neg (by omega), if_pos h, decide_eq_false (fun e => hb ⟨e.1, e.2.1, e.2.2.1, e.2.2.2, rfl⟩), Bool.and_false]
  exact none_joinO _
theorem item5_y {x : Itm} (h : x.kind = 5 ∨ x.kind = 6) (hb : bareP (itemD x)) : joinO [be 1 x.kind, (objectO x.object).getD []] (objectO x.object).isSome = itemO x := by
  unfold itemO itemGood itemP
  rw [if_neg (by omega), if_neg (by omega), if_neg (by omega), if_pos h, if_neg (by omega), if_neg (by omega), if_neg (by omega), decide_eq_true ⟨hb.1, hb.2.1, hb.2.2.1, hb.2.2.2.1⟩, Bool.and_true]
theorem item0_n {x : Itm} (h1 : x.kind ≠ 1) (h2 : x.kind ≠ 2) (h3 : x.kind ≠ 3) (h4 : x.kind ≠ 4) (h5 : x.kind ≠ 5) (h6 : x.kind ≠ 6) : none = itemO x := by
  unfold itemO itemGood
  rw [if_neg h1, if_neg (by omega), if_neg h3, if_neg (by omega)]
  exact none_joinO _

/-! What bytes are read as. -/
abbrev itemK (a : List (List UInt8)) : Nat := takeN a 1
/-- The item that is read, if the pieces behind the first one fit. -/
def itemR (l : List UInt8) : Option Itm :=
  let a := openP l
  let b := a.drop 1
  let c := b.drop 1
  if ¬ fitsP [some 1] a then none
  else if itemK a = 1 then (if a.length = 2 then (letterR (nextP b)).map fun y => ⟨1, 0, 0, y, bundle0, object0⟩ else none)
  else if itemK a = 2 ∨ itemK a = 4 then (if fitsP [some 1, some 1, some 1] a ∧ a.length = 3 then some ⟨itemK a, takeN b 1, takeN c 1, letter0, bundle0, object0⟩ else none)
  else if itemK a = 3 then (if fitsP [some 1, some 1, none] a ∧ a.length = 3 then (bundleR (nextP c)).map fun y => ⟨3, takeN b 1, 0, letter0, y, object0⟩ else none)
  else if itemK a = 5 ∨ itemK a = 6 then (if a.length = 2 then (objectR (nextP b)).map fun y => ⟨itemK a, 0, 0, letter0, bundle0, y⟩ else none)
  else none
/-- The error's number. -/
def itemW (l : List UInt8) : Nat :=
  if (itemR l).isSome then 0
  else if fitsP [some 1] (openP l) ∧ (itemK (openP l) = 0 ∨ 6 < itemK (openP l)) then 140 else 141
theorem be_ofN {p : List UInt8} {r : List (List UInt8)} (h : p.length = 1) : be 1 (takeN (p :: r) 1) = p := by rw [takeN_cons h, be_take h]
theorem itemR_some {l : List UInt8} {x : Itm} (h : itemR l = some x) : x.ok ∧ itemO x = some l := by
  unfold itemR at h
  simp only at h
  split at h
  · cases h
  · rename_i hf
    have hf : fitsP [some 1] (openP l) := Decidable.not_not.1 hf
    have hne : openP l ≠ [] := fun e => by rw [e] at hf; exact hf.elim
    obtain ⟨hj1, hj2⟩ := join_open hne
    have hk := takeN_lt (openP l) 1
    split at h
    · rename_i hk1
      split at h
      · rename_i hl
        obtain ⟨y, hy, rfl⟩ := Option.map_eq_some_iff.1 h
        obtain ⟨hy1, hy2⟩ := letterR_iff.1 hy
        refine ⟨⟨(by decide : 1 < 256), (by decide : 0 < 256), (by decide : 0 < 256), hy1, bundle0_ok, object0_ok⟩, ?_⟩
        rw [← item1_y rfl ⟨rfl, rfl, rfl, rfl, rfl⟩]
        simp only [hy2, Option.getD_some, Option.isSome_some]
        have e : [be 1 1, nextP ((openP l).drop 1)] = openP l := by
          generalize openP l = ps at *
          match ps, hl with
          | [a, b], _ =>
            have ha := hf.1 1 rfl
            have : be 1 (takeN [a, b] 1) = a := be_ofN ha
            rw [show takeN [a, b] 1 = 1 from hk1] at this
            rw [this]; rfl
        rw [e, joinO_some hj1 rfl, hj2]
      · cases h
    · rename_i hk1
      split at h
      · rename_i hk2
        split at h
        · rename_i hl
          cases h
          refine ⟨⟨hk, takeN_lt _ 1, takeN_lt _ 1, letter0_ok, bundle0_ok, object0_ok⟩, ?_⟩
          rw [← item2_y hk2 ⟨rfl, rfl, rfl, rfl, rfl⟩]
          have e : [be 1 (itemK (openP l)), be 1 (takeN ((openP l).drop 1) 1), be 1 (takeN (((openP l).drop 1).drop 1) 1)] = openP l := by
            generalize openP l = ps at *
            match ps, hl with
            | [a, b, c], hl =>
              obtain ⟨⟨h1, h2, h3, _⟩, _⟩ := hl
              have e1 : be 1 (takeN [a, b, c] 1) = a := be_ofN (h1 1 rfl)
              have e2 : be 1 (takeN [b, c] 1) = b := be_ofN (h2 1 rfl)
              have e3 : be 1 (takeN [c] 1) = c := be_ofN (h3 1 rfl)
              show [be 1 (takeN [a, b, c] 1), be 1 (takeN [b, c] 1), be 1 (takeN [c] 1)] = _
              rw [e1, e2, e3]
            | [], hl => exact absurd hl.2 (by simp)
            | [_], hl => exact absurd hl.2 (by simp)
            | [_, _], hl => exact absurd hl.2 (by simp)
            | _ :: _ :: _ :: _ :: _, hl => exact absurd hl.2 (by simp)
          rw [e, joinO_some hj1 rfl, hj2]
        · cases h
      · rename_i hk2
        split at h
        · rename_i hk3
          split at h
          · rename_i hl
            obtain ⟨y, hy, rfl⟩ := Option.map_eq_some_iff.1 h
            obtain ⟨hy1, hy2⟩ := bundleR_iff.1 hy
            refine ⟨⟨(by decide : 3 < 256), takeN_lt _ 1, (by decide : 0 < 256), letter0_ok, hy1, object0_ok⟩, ?_⟩
            rw [← item3_y rfl ⟨rfl, rfl, rfl, rfl, rfl⟩]
            simp only [hy2]
            have e : [be 1 3, be 1 (takeN ((openP l).drop 1) 1), nextP (((openP l).drop 1).drop 1)] = openP l := by
              generalize openP l = ps at *
              match ps, hl with
              | [a, b, c], hl =>
                obtain ⟨⟨h1, h2, _⟩, _⟩ := hl
                have e1 : be 1 (takeN [a, b, c] 1) = a := be_ofN (h1 1 rfl)
                have e2 : be 1 (takeN [b, c] 1) = b := be_ofN (h2 1 rfl)
                rw [show takeN [a, b, c] 1 = 3 from hk3] at e1
                show [be 1 3, be 1 (takeN [b, c] 1), c] = _
                rw [e1, e2]
              | [], hl => exact absurd hl.2 (by simp)
              | [_], hl => exact absurd hl.2 (by simp)
              | [_, _], hl => exact absurd hl.2 (by simp)
              | _ :: _ :: _ :: _ :: _, hl => exact absurd hl.2 (by simp)
            rw [e, joinO_some hj1 rfl, hj2]
          · cases h
        · rename_i hk3
          split at h
          · rename_i hk5
            split at h
            · rename_i hl
              obtain ⟨y, hy, rfl⟩ := Option.map_eq_some_iff.1 h
              obtain ⟨hy1, hy2⟩ := objectR_iff.1 hy
              refine ⟨⟨hk, (by decide : 0 < 256), (by decide : 0 < 256), letter0_ok, bundle0_ok, hy1⟩, ?_⟩
              rw [← item5_y hk5 ⟨rfl, rfl, rfl, rfl, rfl⟩]
              simp only [hy2, Option.getD_some, Option.isSome_some]
              have e : [be 1 (itemK (openP l)), nextP ((openP l).drop 1)] = openP l := by
                generalize openP l = ps at *
                match ps, hl with
                | [a, b], _ =>
                  have : be 1 (takeN [a, b] 1) = a := be_ofN (hf.1 1 rfl)
                  show [be 1 (takeN [a, b] 1), b] = _
                  rw [this]
              rw [e, joinO_some hj1 rfl, hj2]
            · cases h
          · cases h
theorem itemR_of {l : List UInt8} {x : Itm} (h : x.ok) (h2 : itemO x = some l) : itemR l = some x := by
  obtain ⟨hj, hg, rfl⟩ := joinO_eq h2
  obtain ⟨k, a, p, y, b, o⟩ := x
  have hk := h.kind; have ha := h.asker; have hp := h.peer
  simp only at hk ha hp
  have hkn : ∀ r, takeN (be 1 k :: r) 1 = k := fun r => by rw [takeN_cons (be_length 1 k), num_be' (by omega)]
  have hfk : ∀ r, fitsP [some 1] (be 1 k :: r) := fun r => ⟨fun n e => by cases e; exact be_length _ _, trivial⟩
  unfold itemR
  rw [open_join hj]
  unfold itemGood at hg
  simp only at hg
  by_cases h1 : k = 1
  · subst h1
    rw [if_pos rfl] at hg
    simp only [Bool.and_eq_true, decide_eq_true_eq] at hg
    obtain ⟨hs, rfl, rfl, rfl, rfl⟩ := hg
    obtain ⟨t, ht⟩ := Option.isSome_iff_exists.1 hs
    have e : itemP ⟨1, 0, 0, y, bundle0, object0⟩ = [be 1 1, t] := by unfold itemP; rw [if_pos rfl, ht]; rfl
    rw [e]
    simp only
    rw [if_neg (not_not_intro (hfk _)), if_pos (hkn _), if_pos (show [be 1 1, t].length = 2 from rfl)]
    rw [show nextP (List.drop 1 [be 1 1, t]) = t from rfl, letterR_iff.2 ⟨h.letter, ht⟩]; rfl
  · rw [if_neg h1] at hg
    by_cases h2' : k = 2 ∨ k = 4
    · rw [if_pos h2'] at hg
      simp only [decide_eq_true_eq] at hg
      obtain ⟨rfl, rfl, rfl⟩ := hg
      have e : itemP ⟨k, a, p, letter0, bundle0, object0⟩ = [be 1 k, be 1 a, be 1 p] := by unfold itemP; rw [if_neg h1, if_pos h2']
      rw [e]
      simp only
      have hkk : itemK [be 1 k, be 1 a, be 1 p] = k := hkn _
      rw [if_neg (not_not_intro (hfk _)), if_neg (by rw [hkk]; exact h1), if_pos (by rw [hkk]; exact h2'), if_pos ⟨⟨fun n e => by cases e; exact be_length _ _, fun n e => by cases e; exact be_length _ _, fun n e => by cases e; exact be_length _ _, trivial⟩, rfl⟩, hkk]
      show some (Itm.mk k (takeN [be 1 a, be 1 p] 1) (takeN [be 1 p] 1) _ _ _) = _
      rw [takeN_cons (be_length 1 a), takeN_cons (be_length 1 p), num_be' (by omega), num_be' (by omega)]
    · rw [if_neg h2'] at hg
      by_cases h3 : k = 3
      · subst h3
        rw [if_pos rfl] at hg
        simp only [decide_eq_true_eq] at hg
        obtain ⟨rfl, rfl, rfl⟩ := hg
        have e : itemP ⟨3, a, 0, letter0, b, object0⟩ = [be 1 3, be 1 a, bundleB b] := by unfold itemP; rw [if_neg h1, if_neg h2', if_pos rfl]
        rw [e]
        simp only
        have hkk : itemK [be 1 3, be 1 a, bundleB b] = 3 := hkn _
        rw [if_neg (not_not_intro (hfk _)), if_neg (by rw [hkk]; exact h1), if_neg (by rw [hkk]; exact h2'), if_pos hkk, if_pos ⟨⟨fun n e => by cases e; exact be_length _ _, fun n e => by cases e; exact be_length _ _, fun n e => (by cases e), trivial⟩, rfl⟩]
        rw [show nextP (List.drop 1 (List.drop 1 [be 1 3, be 1 a, bundleB b])) = bundleB b from rfl, bundleR_iff.2 ⟨h.bundle, rfl⟩]
        show some (Itm.mk 3 (takeN [be 1 a, bundleB b] 1) _ _ _ _) = _
        rw [takeN_cons (be_length 1 a), num_be' (by omega)]
      · rw [if_neg h3] at hg
        by_cases h5 : k = 5 ∨ k = 6
        · rw [if_pos h5] at hg
          simp only [Bool.and_eq_true, decide_eq_true_eq] at hg
          obtain ⟨hs, rfl, rfl, rfl, rfl⟩ := hg
          obtain ⟨t, ht⟩ := Option.isSome_iff_exists.1 hs
          have e : itemP ⟨k, 0, 0, letter0, bundle0, o⟩ = [be 1 k, t] := by unfold itemP; rw [if_neg h1, if_neg h2', if_neg h3, ht]; rfl
          rw [e]
          simp only
          have hkk : itemK [be 1 k, t] = k := hkn _
          rw [if_neg (not_not_intro (hfk _)), if_neg (by rw [hkk]; exact h1), if_neg (by rw [hkk]; exact h2'), if_neg (by rw [hkk]; exact h3), if_pos (by rw [hkk]; exact h5), if_pos (show [be 1 k, t].length = 2 from rfl), hkk]
          rw [show nextP (List.drop 1 [be 1 k, t]) = t from rfl, objectR_iff.2 ⟨h.object, ht⟩]; rfl
        · rw [if_neg h5] at hg; cases hg
theorem itemR_iff {l : List UInt8} {x : Itm} : itemR l = some x ↔ x.ok ∧ itemO x = some l := ⟨itemR_some, fun h => itemR_of h.1 h.2⟩
theorem itemR_ok (l : List UInt8) : ((itemR l).getD item0).ok := by
  cases h : itemR l with
  | none => exact item0_ok
  | some x => exact (itemR_iff.1 h).1
end Go.Pl

/- Items as cells. -/
namespace Go.Proofs.Ytcfecmoagfgnaaa
open Go.Vc Go.Pl

abbrev itemV (x : Itm) (p : Option Addr) (c : Nat) (q : Option Addr) (d : Nat) : List (List Value) := [[.int .u8 x.kind], [.int .u8 x.asker], [.int .u8 x.peer], [.int .u8 x.letter.src], [.int .u8 x.letter.dst], x.letter.header.session.map bv, [.bool x.letter.header.first], x.letter.header.agree.map bv, x.letter.header.signer.map bv, x.letter.header.base.map bv, [.int .u16 x.letter.header.id], x.letter.header.ratchet.map bv, [.int .u16 x.letter.header.n], [.int .u16 x.letter.header.prev], [.slice p x.letter.body.length c], [.int .u8 x.bundle.device], x.bundle.agree.map bv, x.bundle.signer.map bv, [.int .u16 x.bundle.id], x.bundle.once.map bv, x.bundle.sig.map bv, [.int .u8 x.object.server], [.int .u8 x.object.n], x.object.key.map bv, [.int .u32 x.object.since], [.int .u32 x.object.till], x.object.sig.map bv, [.slice q x.object.vouches.length d]]
abbrev itemL : List Nat := [1, 1, 1, 1, 1, 32, 1, 32, 32, 32, 1, 32, 1, 1, 1, 1, 32, 32, 1, 32, 64, 1, 1, 32, 1, 1, 64, 1]
theorem zero87 : (Try.prog.info? 87).bind (·.zero) = some (.agg (cat (itemV item0 none 0 none 0)).toArray) := by kernel_rfl
theorem built87 : Try.prog.built 87 [] = some (cat (itemV item0 none 0 none 0)).toArray := by kernel_rfl
abbrev itemZ : List (List Value) := [[.int .u8 0], [.int .u8 0], [.int .u8 0], cat (letterV letter0 none 0), cat (bundleV bundle0), cat (objectV object0 none 0)]
abbrev itemFL : List Nat := [1, 1, 1, 167, 162, 101]
theorem plan87 : planOf Try.prog 87 = some (placesL 0 itemFL, (cat itemZ).toArray) := by kernel_rfl
theorem itemV_len {x : Itm} (h : x.ok) {p : Option Addr} {c : Nat} {q : Option Addr} {d : Nat} : (itemV x p c q d).map List.length = itemL := by simp [h.letter.header.session, h.letter.header.agree, h.letter.header.signer, h.letter.header.base, h.letter.header.ratchet, h.bundle.agree, h.bundle.signer, h.bundle.once, h.bundle.sig, h.object.key, h.object.sig]
theorem itemV_ok1 (x : Itm) (p : Option Addr) (c : Nat) (q : Option Addr) (d : Nat) : ok1 (cat (itemV x p c q d)) := by
  intro u hu
  rw [cat_eq] at hu
  simp only [List.mem_flatten, List.mem_cons, List.not_mem_nil, or_false] at hu
  obtain ⟨l, hl, hu⟩ := hu
  rcases hl with rfl | rfl | rfl | rfl | rfl | rfl | rfl | rfl | rfl | rfl | rfl | rfl | rfl | rfl | rfl | rfl | rfl | rfl | rfl | rfl | rfl | rfl | rfl | rfl | rfl | rfl | rfl | rfl <;> first | (simp only [List.mem_singleton] at hu; subst hu; rfl) | exact ok1_bytes _ u hu
end Go.Proofs.Ytcfecmoagfgnaaa

/- wire: bytes of items. -/
namespace Go.Proofs.Ytcfecmoagfgnaaa
open Go.Vc Go.Pl

theorem bare_w {S : List Snap} {H : List Chunk} {w : World} (ho : Own S H w) {x : Itm} (hx : x.ok) {p : Option Addr} {c : Nat} {q : Option Addr} {d : Nat} : Calls Try.prog 127 #[.agg (cat (itemV x p c q d)).toArray] w (Ret fun v w' => ∃ b : Bool, v = .bool b ∧ (b = true ↔ bareP x) ∧ Own S H w') := by
  refine enter (G := Own (⟨w, keys H⟩ :: S) H) ho.keep Try.func127 rfl Try.ntmps127 rfl ?_
  refine VC.seq ?_
  refine VC.region ?_
  refine VL.box (L := itemL) (ps := (itemV (x) p c q d)) rfl rfl (itemV_len hx) (fun g1 => ?_)
  refine VL.assign rfl ?_
  refine VL.nil ?_
  refine VX.next ?_
  refine VC.seq ?_
  refine VC.region ?_
  refine VL.fieldAddr rfl fo87_1 rfl ?_
  refine VL.load (v := .int .u8 (x.asker)) 0 1 rfl kd5 (fun _ h => h) rfl rfl rfl ?_
  refine VL.eql rfl rfl ?_
  refine VL.case (fun h1_2 => ?_) (fun h1_2 => ?_)
  · have h1_2 : x.asker = 0 := by omega
    refine VL.move rfl ?_
    refine VL.go rfl rfl rfl ?_
    refine VL.fieldAddr rfl fo87_2 rfl ?_
    refine VL.go rfl rfl rfl ?_
    refine VL.load (v := .int .u8 (x.peer)) 0 2 rfl kd5 (fun _ h => h) rfl rfl rfl ?_
    refine VL.go rfl rfl rfl ?_
    refine VL.eql rfl rfl ?_
    refine VL.case (fun h1_6 => ?_) (fun h1_6 => ?_)
    · have h1_6 : x.peer = 0 := by omega
      refine VL.pick_t rfl rfl ?_
      refine VL.move rfl ?_
      refine VL.go rfl rfl rfl ?_
      refine VL.fieldAddr rfl fo87_3 rfl ?_
      refine VL.go rfl rfl rfl ?_
      refine VL.loads (cs := cat (letterV (x.letter) p c)) 0 3 12 rfl kd72 (fun _ h => h) rfl rfl rfl rfl ?_
      refine VL.go rfl rfl rfl ?_
      refine VL.call Try.func138 rfl (by decide) rfl (fun w' hw => emptyLetter_w hw (x := x.letter) hx.letter) (fun v => ?_)
      refine VL.ex fun b => VL.fact fun e => VL.fact fun h1_11 => ?_
      subst e
      cases b
      · have h1_11 := mt h1_11.2 (by decide)
        refine VL.pick_t rfl rfl ?_
        refine VL.move rfl ?_
        refine VL.pass rfl rfl rfl rfl rfl ?_
        refine VL.pass rfl rfl rfl rfl rfl ?_
        refine VL.pass rfl rfl rfl rfl rfl ?_
        refine VL.pass rfl rfl rfl rfl rfl ?_
        refine VL.pick_f rfl rfl ?_
        refine VL.move rfl ?_
        refine VL.pass rfl rfl rfl rfl rfl ?_
        refine VL.pass rfl rfl rfl rfl rfl ?_
        refine VL.pass rfl rfl rfl rfl rfl ?_
        refine VL.pick_f rfl rfl ?_
        refine VL.assign rfl ?_
        refine VL.nil ?_
        refine VX.next ?_
        refine VC.ret ?_
        refine VX.ret1 rfl rfl (fun we hw => ?_)
        refine ⟨false, rfl, ?_, hw.drop.sub (fun _ hs => by repeat (first | exact hs | apply List.mem_cons_of_mem))⟩
        unfold bareP
        simp [h1_2, h1_6, h1_11]
      · have h1_11 := h1_11.1 rfl
        refine VL.pick_t rfl rfl ?_
        refine VL.move rfl ?_
        refine VL.go rfl rfl rfl ?_
        refine VL.fieldAddr rfl fo87_4 rfl ?_
        refine VL.go rfl rfl rfl ?_
        refine VL.loads (cs := cat (bundleV (x.bundle))) 0 15 6 rfl kd82 (fun _ h => h) rfl rfl rfl rfl ?_
        refine VL.go rfl rfl rfl ?_
        refine VL.build0 (cs := cat (bundleV (bundle0))) built82 ?_
        refine VL.go rfl rfl rfl ?_
        refine VL.eqT guard82 rfl rfl (eqBundle hx.bundle bundle0_ok) (fun b h1_17 => ?_)
        cases b
        · have h1_17 := mt h1_17.2 (by decide)
          refine VL.pick_t rfl rfl ?_
          refine VL.move rfl ?_
          refine VL.pass rfl rfl rfl rfl rfl ?_
          refine VL.pass rfl rfl rfl rfl rfl ?_
          refine VL.pass rfl rfl rfl rfl rfl ?_
          refine VL.pick_f rfl rfl ?_
          refine VL.assign rfl ?_
          refine VL.nil ?_
          refine VX.next ?_
          refine VC.ret ?_
          refine VX.ret1 rfl rfl (fun we hw => ?_)
          refine ⟨false, rfl, ?_, hw.drop.sub (fun _ hs => by repeat (first | exact hs | apply List.mem_cons_of_mem))⟩
          unfold bareP
          simp [h1_2, h1_6, h1_11, h1_17]
        · have h1_17 := h1_17.1 rfl
          refine VL.pick_t rfl rfl ?_
          refine VL.move rfl ?_
          refine VL.go rfl rfl rfl ?_
          refine VL.fieldAddr rfl fo87_5 rfl ?_
          refine VL.go rfl rfl rfl ?_
          refine VL.loads (cs := cat (objectV (x.object) q d)) 0 21 7 rfl kd85 (fun _ h => h) rfl rfl rfl rfl ?_
          refine VL.go rfl rfl rfl ?_
          refine VL.call Try.func163 rfl (by decide) rfl (fun w' hw => emptyObject_w hw (x := x.object) hx.object) (fun v => ?_)
          refine VL.ex fun b => VL.fact fun e => VL.fact fun h1_22 => ?_
          subst e
          cases b
          · have h1_22 := mt h1_22.2 (by decide)
            refine VL.pick_t rfl rfl ?_
            refine VL.assign rfl ?_
            refine VL.nil ?_
            refine VX.next ?_
            refine VC.ret ?_
            refine VX.ret1 rfl rfl (fun we hw => ?_)
            refine ⟨false, rfl, ?_, hw.drop.sub (fun _ hs => by repeat (first | exact hs | apply List.mem_cons_of_mem))⟩
            unfold bareP
            simp [h1_2, h1_6, h1_11, h1_17, h1_22]
          · have h1_22 := h1_22.1 rfl
            refine VL.pick_t rfl rfl ?_
            refine VL.assign rfl ?_
            refine VL.nil ?_
            refine VX.next ?_
            refine VC.ret ?_
            refine VX.ret1 rfl rfl (fun we hw => ?_)
            refine ⟨true, rfl, ?_, hw.drop.sub (fun _ hs => by repeat (first | exact hs | apply List.mem_cons_of_mem))⟩
            unfold bareP
            simp [h1_2, h1_6, h1_11, h1_17, h1_22]
    · have h1_6 : ¬ x.peer = 0 := by omega
      refine VL.pick_t rfl rfl ?_
      refine VL.move rfl ?_
      refine VL.pass rfl rfl rfl rfl rfl ?_
      refine VL.pass rfl rfl rfl rfl rfl ?_
      refine VL.pass rfl rfl rfl rfl rfl ?_
      refine VL.pick_f rfl rfl ?_
      refine VL.move rfl ?_
      refine VL.pass rfl rfl rfl rfl rfl ?_
      refine VL.pass rfl rfl rfl rfl rfl ?_
      refine VL.pass rfl rfl rfl rfl rfl ?_
      refine VL.pass rfl rfl rfl rfl rfl ?_
      refine VL.pick_f rfl rfl ?_
      refine VL.move rfl ?_
      refine VL.pass rfl rfl rfl rfl rfl ?_
      refine VL.pass rfl rfl rfl rfl rfl ?_
      refine VL.pass rfl rfl rfl rfl rfl ?_
      refine VL.pick_f rfl rfl ?_
      refine VL.assign rfl ?_
      refine VL.nil ?_
      refine VX.next ?_
      refine VC.ret ?_
      refine VX.ret1 rfl rfl (fun we hw => ?_)
      refine ⟨false, rfl, ?_, hw.drop.sub (fun _ hs => by repeat (first | exact hs | apply List.mem_cons_of_mem))⟩
      unfold bareP
      simp [h1_2, h1_6]
  · have h1_2 : ¬ x.asker = 0 := by omega
    refine VL.move rfl ?_
    refine VL.pass rfl rfl rfl rfl rfl ?_
    refine VL.pass rfl rfl rfl rfl rfl ?_
    refine VL.pass rfl rfl rfl rfl rfl ?_
    refine VL.pick_f rfl rfl ?_
    refine VL.move rfl ?_
    refine VL.pass rfl rfl rfl rfl rfl ?_
    refine VL.pass rfl rfl rfl rfl rfl ?_
    refine VL.pass rfl rfl rfl rfl rfl ?_
    refine VL.pick_f rfl rfl ?_
    refine VL.move rfl ?_
    refine VL.pass rfl rfl rfl rfl rfl ?_
    refine VL.pass rfl rfl rfl rfl rfl ?_
    refine VL.pass rfl rfl rfl rfl rfl ?_
    refine VL.pass rfl rfl rfl rfl rfl ?_
    refine VL.pick_f rfl rfl ?_
    refine VL.move rfl ?_
    refine VL.pass rfl rfl rfl rfl rfl ?_
    refine VL.pass rfl rfl rfl rfl rfl ?_
    refine VL.pass rfl rfl rfl rfl rfl ?_
    refine VL.pick_f rfl rfl ?_
    refine VL.assign rfl ?_
    refine VL.nil ?_
    refine VX.next ?_
    refine VC.ret ?_
    refine VX.ret1 rfl rfl (fun we hw => ?_)
    refine ⟨false, rfl, ?_, hw.drop.sub (fun _ hs => by repeat (first | exact hs | apply List.mem_cons_of_mem))⟩
    unfold bareP
    simp [h1_2]

theorem putItem_w {S : List Snap} {H : List Chunk} {w : World} (ho : Own S H w) {x : Itm} (hx : x.ok) {p : Option Addr} {c : Nat} (hA : Bytes (keys H) w p x.letter.body c) {q : Option Addr} {d : Nat} (hV : Arr 65 vouchR (keys H) w q x.object.vouches d) : Calls Try.prog 56 #[.agg (cat (itemV x p c q d)).toArray] w (RetO S H (itemO x)) := by
  have hx1 := hx.kind
  have hx2 := hx.asker
  have hx3 := hx.peer
  refine enter (G := Own (⟨w, keys H⟩ :: S) H) ho.keep Try.func56 rfl Try.ntmps56 rfl ?_
  refine VC.seq ?_
  refine VC.region ?_
  refine VL.box (L := itemL) (ps := (itemV (x) p c q d)) rfl rfl (itemV_len hx) (fun g1 => ?_)
  refine VL.assign rfl ?_
  refine VL.assign rfl ?_
  refine VL.nil ?_
  refine VX.next ?_
  refine VC.seq ?_
  refine VC.region ?_
  refine VL.build (zs := [[.slice none 0 0], [.bool false]]) [] plan181 rfl trivial rfl ?_
  refine VL.box (L := [1, 1]) (ps := [[rowV none 0 0], [.bool false]]) rfl rfl rfl (fun g2 => ?_)
  refine VL.turn (fun w' hw => Own.newW hw) ?_
  refine VL.assign rfl ?_
  refine VL.nil ?_
  refine VX.next ?_
  refine VC.seq ?_
  refine VC.region ?_
  refine VL.move rfl ?_
  refine VL.fieldAddr rfl fo87_0 rfl ?_
  refine VL.load (v := .int .u8 (x.kind)) 2 0 rfl kd5 (fun _ h => h) rfl rfl rfl ?_
  refine VL.conv (by rw [Try.underlying5]; rfl) Try.underlying22 rfl (inr_u64 (by omega)) ?_
  refine VL.call Try.func116 rfl (by decide) rfl (fun w' hw => num_w hw (by simp only [List.length_append, List.length_cons, List.length_nil, List.length_map]; omega) (x.kind) (fits_small (by omega)) 1 (by decide) (by decide) (fits1 (by omega))) (fun v => ?_)
  refine VL.fact fun e5 => ?_
  subst e5
  refine VL.ex fun gp3 => VL.ex fun c4 => ?_
  refine VL.nil ?_
  refine VX.next ?_
  refine VC.seq ?_
  refine VC.seq ?_
  refine VC.region ?_
  refine VL.fieldAddr rfl fo87_0 rfl ?_
  refine VL.load (v := .int .u8 (x.kind)) 2 0 rfl kd5 (fun _ h => h) rfl rfl rfl ?_
  refine VL.nil ?_
  refine VX.next ?_
  refine VC.block ?_
  refine VC.seq ?_
  refine VC.region ?_
  refine VL.eql rfl rfl ?_
  refine VL.case (fun h5_0 => ?_) (fun h5_0 => ?_)
  · have h5_0 : x.kind = 1 := by omega
    refine VL.assign rfl ?_
    refine VL.nil ?_
    refine VX.next ?_
    refine VC.yes rfl ?_
    refine VC.seq ?_
    refine VC.region ?_
    refine VL.move rfl ?_
    refine VL.fieldAddr rfl fo87_3 rfl ?_
    refine VL.loads (cs := cat (letterV (x.letter) p c)) 2 3 12 rfl kd72 (fun _ h => h) rfl rfl rfl rfl ?_
    refine VL.call Try.func50 rfl (by decide) rfl (fun w' hw => putLetter_w hw (x := x.letter) hx.letter (hA.now (s := ⟨w, _⟩) Mono.byte hw (by repeat (first | exact List.mem_cons_self .. | apply List.mem_cons_of_mem)))) (fun v => ?_)
    refine VL.at (fun w6 h1w => ?_)
    obtain ⟨p7, c8, rfl, hO10, hA9⟩ := h1w
    refine VL.toOwn hO10 ?_
    refine VL.extract rfl rfl ?_
    refine VL.extract rfl rfl ?_
    refine VL.call Try.func117 rfl (by decide) rfl (fun w' hw => piece_w hw (by simp only [List.length_append, List.length_cons, List.length_nil, List.length_map]; omega) (hA9.now (s := ⟨w6, _⟩) Mono.byte hw (by repeat (first | exact List.mem_cons_self .. | apply List.mem_cons_of_mem))) (((letterO (x.letter)).isSome))) (fun v => ?_)
    refine VL.fact fun e13 => ?_
    subst e13
    refine VL.ex fun gp11 => VL.ex fun c12 => ?_
    refine VL.nil ?_
    refine VX.next ?_
    refine VC.region ?_
    refine VL.build0 (cs := cat (letterV (letter0) none 0)) built72 ?_
    refine VL.fieldAddr rfl fo87_3 rfl ?_
    refine VL.store (L := itemL) (qs := (letterV (letter0) none 0)) (ps' := [[.int .u8 (x.kind)], [.int .u8 (x.asker)], [.int .u8 (x.peer)], [.int .u8 (letter0.src)], [.int .u8 (letter0.dst)], (letter0.header.session).map bv, [.bool letter0.header.first], (letter0.header.agree).map bv, (letter0.header.signer).map bv, (letter0.header.base).map bv, [.int .u16 (letter0.header.id)], (letter0.header.ratchet).map bv, [.int .u16 (letter0.header.n)], [.int .u16 (letter0.header.prev)], [.slice none ([]).length 0], [.int .u8 (x.bundle.device)], (x.bundle.agree).map bv, (x.bundle.signer).map bv, [.int .u16 (x.bundle.id)], (x.bundle.once).map bv, (x.bundle.sig).map bv, [.int .u8 (x.object.server)], [.int .u8 (x.object.n)], (x.object.key).map bv, [.int .u32 (x.object.since)], [.int .u32 (x.object.till)], (x.object.sig).map bv, [.slice q (x.object.vouches).length d]]) 2 3 12 rfl rfl rfl (.inl kd72) rfl rfl rfl (letterV_ok1 letter0 none 0) rfl rfl ?_
    refine VL.turn (G' := Own _ (wblk g2 gp11 c12 (((([] : List (List UInt8)) ++ [be 1 (x.kind)]) ++ [((letterO (x.letter)).getD [])])).length (false || !((letterO (x.letter)).isSome)) :: brow gp11 c12 (((([] : List (List UInt8)) ++ [be 1 (x.kind)]) ++ [((letterO (x.letter)).getD [])])) :: blk g1 87 itemL [[.int .u8 (x.kind)], [.int .u8 (x.asker)], [.int .u8 (x.peer)], [.int .u8 (letter0.src)], [.int .u8 (letter0.dst)], (letter0.header.session).map bv, [.bool letter0.header.first], (letter0.header.agree).map bv, (letter0.header.signer).map bv, (letter0.header.base).map bv, [.int .u16 (letter0.header.id)], (letter0.header.ratchet).map bv, [.int .u16 (letter0.header.n)], [.int .u16 (letter0.header.prev)], [.slice none ([]).length 0], [.int .u8 (x.bundle.device)], (x.bundle.agree).map bv, (x.bundle.signer).map bv, [.int .u16 (x.bundle.id)], (x.bundle.once).map bv, (x.bundle.sig).map bv, [.int .u8 (x.object.server)], [.int .u8 (x.object.n)], (x.object.key).map bv, [.int .u32 (x.object.since)], [.int .u32 (x.object.till)], (x.object.sig).map bv, [.slice q (x.object.vouches).length d]] :: H)) (fun _ h => h) ?_
    refine VL.nil ?_
    refine VX.block_normal ?_
    refine VX.next ?_
    refine VC.seq ?_
    refine VC.seq ?_
    refine VC.region ?_
    refine VL.loads (cs := cat (itemV ((itemA x)) none 0 q d)) 2 0 28 rfl kd87 (fun _ h => h) rfl rfl rfl rfl ?_
    refine VL.call Try.func127 rfl (by decide) rfl (fun w' hw => bare_w hw (x := (itemA x)) (itemA_ok hx)) (fun v => ?_)
    refine VL.ex fun b => VL.fact fun e => VL.fact fun h21_1 => ?_
    subst e
    cases b
    · have h21_1 := mt h21_1.2 (by decide)
      refine VL.not rfl ?_
      refine VL.nil ?_
      refine VX.next ?_
      refine VC.yes rfl ?_
      refine VC.seq ?_
      refine VC.region ?_
      refine VL.assign rfl ?_
      refine VL.assign rfl ?_
      refine VL.nil ?_
      refine VX.next ?_
      refine VC.ret ?_
      refine VX.then_ret ?_
      refine VX.ret2 rfl rfl rfl (fun we hw => ?_)
      exact postO ((item1_n h5_0 h21_1)) ⟨none, 0, rfl, hw.drop.drop.drop.sub (fun _ hs => by repeat (first | exact hs | apply List.mem_cons_of_mem)), Arr.none⟩
    · have h21_1 := h21_1.1 rfl
      refine VL.not rfl ?_
      refine VL.nil ?_
      refine VX.next ?_
      refine VC.no rfl ?_
      refine VC.skip ?_
      refine VX.next ?_
      refine VC.seq ?_
      refine VC.region ?_
      refine VL.move rfl ?_
      refine VL.call Try.func118 rfl (by decide) rfl (fun w' hw => done_O hw) (fun v => ?_)
      refine VL.at (fun w14 h1w => ?_)
      obtain ⟨p15, c16, rfl, hO18, hA17⟩ := h1w
      refine VL.toOwn hO18 ?_
      refine VL.extract rfl rfl ?_
      refine VL.extract rfl rfl ?_
      refine VL.assign rfl ?_
      refine VL.assign rfl ?_
      refine VL.nil ?_
      refine VX.next ?_
      refine VC.ret ?_
      refine VX.ret2 rfl rfl rfl (fun we hw => ?_)
      exact postO (((by cases hs : (letterO x.letter).isSome <;> rfl : joinO ([be 1 x.kind, (letterO x.letter).getD []]) (!(false || !(letterO x.letter).isSome)) = joinO [be 1 x.kind, (letterO x.letter).getD []] (letterO x.letter).isSome).trans (item1_y h5_0 h21_1))) ⟨p15, c16, rfl, hw.drop.sub (fun _ hs => by repeat (first | exact hs | apply List.mem_cons_of_mem)), (hA17.now (s := ⟨w14, _⟩) Mono.byte hw.drop (by repeat (first | exact List.mem_cons_self .. | apply List.mem_cons_of_mem)))⟩
  · have h5_0 : x.kind ≠ 1 := by omega
    refine VL.assign rfl ?_
    refine VL.nil ?_
    refine VX.next ?_
    refine VC.no rfl ?_
    refine VC.seq ?_
    refine VC.seq ?_
    refine VC.region ?_
    refine VL.eql rfl rfl ?_
    refine VL.case (fun h8_0 => ?_) (fun h8_0 => ?_)
    · have h8_0 : x.kind = 2 := by omega
      refine VL.assign rfl ?_
      refine VL.nil ?_
      refine VX.next ?_
      refine VC.yes rfl ?_
      refine VC.skip ?_
      refine VX.next ?_
      refine VC.yes rfl ?_
      refine VC.seq ?_
      refine VC.region ?_
      refine VL.move rfl ?_
      refine VL.fieldAddr rfl fo87_1 rfl ?_
      refine VL.load (v := .int .u8 (x.asker)) 2 1 rfl kd5 (fun _ h => h) rfl rfl rfl ?_
      refine VL.conv (by rw [Try.underlying5]; rfl) Try.underlying22 rfl (inr_u64 (by omega)) ?_
      refine VL.call Try.func116 rfl (by decide) rfl (fun w' hw => num_w hw (by simp only [List.length_append, List.length_cons, List.length_nil, List.length_map]; omega) (x.asker) (fits_small (by omega)) 1 (by decide) (by decide) (fits1 (by omega))) (fun v => ?_)
      refine VL.fact fun e21 => ?_
      subst e21
      refine VL.ex fun gp19 => VL.ex fun c20 => ?_
      refine VL.nil ?_
      refine VX.next ?_
      refine VC.seq ?_
      refine VC.region ?_
      refine VL.move rfl ?_
      refine VL.fieldAddr rfl fo87_2 rfl ?_
      refine VL.load (v := .int .u8 (x.peer)) 2 2 rfl kd5 (fun _ h => h) rfl rfl rfl ?_
      refine VL.conv (by rw [Try.underlying5]; rfl) Try.underlying22 rfl (inr_u64 (by omega)) ?_
      refine VL.call Try.func116 rfl (by decide) rfl (fun w' hw => num_w hw (by simp only [List.length_append, List.length_cons, List.length_nil, List.length_map]; omega) (x.peer) (fits_small (by omega)) 1 (by decide) (by decide) (fits1 (by omega))) (fun v => ?_)
      refine VL.fact fun e24 => ?_
      subst e24
      refine VL.ex fun gp22 => VL.ex fun c23 => ?_
      refine VL.nil ?_
      refine VX.next ?_
      refine VC.region ?_
      refine VL.fieldAddr rfl fo87_1 rfl ?_
      refine VL.store (L := itemL) (qs := [[.int .u8 (0)]]) (ps' := [[.int .u8 (x.kind)], [.int .u8 (0)], [.int .u8 (x.peer)], [.int .u8 (x.letter.src)], [.int .u8 (x.letter.dst)], (x.letter.header.session).map bv, [.bool x.letter.header.first], (x.letter.header.agree).map bv, (x.letter.header.signer).map bv, (x.letter.header.base).map bv, [.int .u16 (x.letter.header.id)], (x.letter.header.ratchet).map bv, [.int .u16 (x.letter.header.n)], [.int .u16 (x.letter.header.prev)], [.slice p (x.letter.body).length c], [.int .u8 (x.bundle.device)], (x.bundle.agree).map bv, (x.bundle.signer).map bv, [.int .u16 (x.bundle.id)], (x.bundle.once).map bv, (x.bundle.sig).map bv, [.int .u8 (x.object.server)], [.int .u8 (x.object.n)], (x.object.key).map bv, [.int .u32 (x.object.since)], [.int .u32 (x.object.till)], (x.object.sig).map bv, [.slice q (x.object.vouches).length d]]) 2 1 1 rfl rfl rfl (.inr ⟨kd5, rfl⟩) rfl rfl rfl (by intro u hu; simp [cat] at hu; subst hu; rfl) rfl rfl ?_
      refine VL.turn (G' := Own _ (wblk g2 gp22 c23 ((((([] : List (List UInt8)) ++ [be 1 (x.kind)]) ++ [be 1 (x.asker)]) ++ [be 1 (x.peer)])).length false :: brow gp22 c23 ((((([] : List (List UInt8)) ++ [be 1 (x.kind)]) ++ [be 1 (x.asker)]) ++ [be 1 (x.peer)])) :: blk g1 87 itemL [[.int .u8 (x.kind)], [.int .u8 (0)], [.int .u8 (x.peer)], [.int .u8 (x.letter.src)], [.int .u8 (x.letter.dst)], (x.letter.header.session).map bv, [.bool x.letter.header.first], (x.letter.header.agree).map bv, (x.letter.header.signer).map bv, (x.letter.header.base).map bv, [.int .u16 (x.letter.header.id)], (x.letter.header.ratchet).map bv, [.int .u16 (x.letter.header.n)], [.int .u16 (x.letter.header.prev)], [.slice p (x.letter.body).length c], [.int .u8 (x.bundle.device)], (x.bundle.agree).map bv, (x.bundle.signer).map bv, [.int .u16 (x.bundle.id)], (x.bundle.once).map bv, (x.bundle.sig).map bv, [.int .u8 (x.object.server)], [.int .u8 (x.object.n)], (x.object.key).map bv, [.int .u32 (x.object.since)], [.int .u32 (x.object.till)], (x.object.sig).map bv, [.slice q (x.object.vouches).length d]] :: H)) (fun _ h => h) ?_
      refine VL.fieldAddr rfl fo87_2 rfl ?_
      refine VL.store (L := itemL) (qs := [[.int .u8 (0)]]) (ps' := [[.int .u8 (x.kind)], [.int .u8 (0)], [.int .u8 (0)], [.int .u8 (x.letter.src)], [.int .u8 (x.letter.dst)], (x.letter.header.session).map bv, [.bool x.letter.header.first], (x.letter.header.agree).map bv, (x.letter.header.signer).map bv, (x.letter.header.base).map bv, [.int .u16 (x.letter.header.id)], (x.letter.header.ratchet).map bv, [.int .u16 (x.letter.header.n)], [.int .u16 (x.letter.header.prev)], [.slice p (x.letter.body).length c], [.int .u8 (x.bundle.device)], (x.bundle.agree).map bv, (x.bundle.signer).map bv, [.int .u16 (x.bundle.id)], (x.bundle.once).map bv, (x.bundle.sig).map bv, [.int .u8 (x.object.server)], [.int .u8 (x.object.n)], (x.object.key).map bv, [.int .u32 (x.object.since)], [.int .u32 (x.object.till)], (x.object.sig).map bv, [.slice q (x.object.vouches).length d]]) 2 2 1 rfl rfl rfl (.inr ⟨kd5, rfl⟩) rfl rfl rfl (by intro u hu; simp [cat] at hu; subst hu; rfl) rfl rfl ?_
      refine VL.turn (G' := Own _ (wblk g2 gp22 c23 ((((([] : List (List UInt8)) ++ [be 1 (x.kind)]) ++ [be 1 (x.asker)]) ++ [be 1 (x.peer)])).length false :: brow gp22 c23 ((((([] : List (List UInt8)) ++ [be 1 (x.kind)]) ++ [be 1 (x.asker)]) ++ [be 1 (x.peer)])) :: blk g1 87 itemL [[.int .u8 (x.kind)], [.int .u8 (0)], [.int .u8 (0)], [.int .u8 (x.letter.src)], [.int .u8 (x.letter.dst)], (x.letter.header.session).map bv, [.bool x.letter.header.first], (x.letter.header.agree).map bv, (x.letter.header.signer).map bv, (x.letter.header.base).map bv, [.int .u16 (x.letter.header.id)], (x.letter.header.ratchet).map bv, [.int .u16 (x.letter.header.n)], [.int .u16 (x.letter.header.prev)], [.slice p (x.letter.body).length c], [.int .u8 (x.bundle.device)], (x.bundle.agree).map bv, (x.bundle.signer).map bv, [.int .u16 (x.bundle.id)], (x.bundle.once).map bv, (x.bundle.sig).map bv, [.int .u8 (x.object.server)], [.int .u8 (x.object.n)], (x.object.key).map bv, [.int .u32 (x.object.since)], [.int .u32 (x.object.till)], (x.object.sig).map bv, [.slice q (x.object.vouches).length d]] :: H)) (fun _ h => h) ?_
      refine VL.nil ?_
      refine VX.block_normal ?_
      refine VX.next ?_
      refine VC.seq ?_
      refine VC.seq ?_
      refine VC.region ?_
      refine VL.loads (cs := cat (itemV ((itemB x)) p c q d)) 2 0 28 rfl kd87 (fun _ h => h) rfl rfl rfl rfl ?_
      refine VL.call Try.func127 rfl (by decide) rfl (fun w' hw => bare_w hw (x := (itemB x)) (itemB_ok hx)) (fun v => ?_)
      refine VL.ex fun b => VL.fact fun e => VL.fact fun h21_1 => ?_
      subst e
      cases b
      · have h21_1 := mt h21_1.2 (by decide)
        refine VL.not rfl ?_
        refine VL.nil ?_
        refine VX.next ?_
        refine VC.yes rfl ?_
        refine VC.seq ?_
        refine VC.region ?_
        refine VL.assign rfl ?_
        refine VL.assign rfl ?_
        refine VL.nil ?_
        refine VX.next ?_
        refine VC.ret ?_
        refine VX.then_ret ?_
        refine VX.ret2 rfl rfl rfl (fun we hw => ?_)
        exact postO ((item2_n (.inl h8_0) h21_1)) ⟨none, 0, rfl, hw.drop.drop.drop.sub (fun _ hs => by repeat (first | exact hs | apply List.mem_cons_of_mem)), Arr.none⟩
      · have h21_1 := h21_1.1 rfl
        refine VL.not rfl ?_
        refine VL.nil ?_
        refine VX.next ?_
        refine VC.no rfl ?_
        refine VC.skip ?_
        refine VX.next ?_
        refine VC.seq ?_
        refine VC.region ?_
        refine VL.move rfl ?_
        refine VL.call Try.func118 rfl (by decide) rfl (fun w' hw => done_O hw) (fun v => ?_)
        refine VL.at (fun w25 h1w => ?_)
        obtain ⟨p26, c27, rfl, hO29, hA28⟩ := h1w
        refine VL.toOwn hO29 ?_
        refine VL.extract rfl rfl ?_
        refine VL.extract rfl rfl ?_
        refine VL.assign rfl ?_
        refine VL.assign rfl ?_
        refine VL.nil ?_
        refine VX.next ?_
        refine VC.ret ?_
        refine VX.ret2 rfl rfl rfl (fun we hw => ?_)
        exact postO ((item2_y (.inl h8_0) h21_1)) ⟨p26, c27, rfl, hw.drop.sub (fun _ hs => by repeat (first | exact hs | apply List.mem_cons_of_mem)), (hA28.now (s := ⟨w25, _⟩) Mono.byte hw.drop (by repeat (first | exact List.mem_cons_self .. | apply List.mem_cons_of_mem)))⟩
    · have h8_0 : x.kind ≠ 2 := by omega
      refine VL.assign rfl ?_
      refine VL.nil ?_
      refine VX.next ?_
      refine VC.no rfl ?_
      refine VC.region ?_
      refine VL.eql rfl rfl ?_
      refine VL.case (fun h9_0 => ?_) (fun h9_0 => ?_)
      · have h9_0 : x.kind = 4 := by omega
        refine VL.assign rfl ?_
        refine VL.nil ?_
        refine VX.next ?_
        refine VC.yes rfl ?_
        refine VC.seq ?_
        refine VC.region ?_
        refine VL.move rfl ?_
        refine VL.fieldAddr rfl fo87_1 rfl ?_
        refine VL.load (v := .int .u8 (x.asker)) 2 1 rfl kd5 (fun _ h => h) rfl rfl rfl ?_
        refine VL.conv (by rw [Try.underlying5]; rfl) Try.underlying22 rfl (inr_u64 (by omega)) ?_
        refine VL.call Try.func116 rfl (by decide) rfl (fun w' hw => num_w hw (by simp only [List.length_append, List.length_cons, List.length_nil, List.length_map]; omega) (x.asker) (fits_small (by omega)) 1 (by decide) (by decide) (fits1 (by omega))) (fun v => ?_)
        refine VL.fact fun e32 => ?_
        subst e32
        refine VL.ex fun gp30 => VL.ex fun c31 => ?_
        refine VL.nil ?_
        refine VX.next ?_
        refine VC.seq ?_
        refine VC.region ?_
        refine VL.move rfl ?_
        refine VL.fieldAddr rfl fo87_2 rfl ?_
        refine VL.load (v := .int .u8 (x.peer)) 2 2 rfl kd5 (fun _ h => h) rfl rfl rfl ?_
        refine VL.conv (by rw [Try.underlying5]; rfl) Try.underlying22 rfl (inr_u64 (by omega)) ?_
        refine VL.call Try.func116 rfl (by decide) rfl (fun w' hw => num_w hw (by simp only [List.length_append, List.length_cons, List.length_nil, List.length_map]; omega) (x.peer) (fits_small (by omega)) 1 (by decide) (by decide) (fits1 (by omega))) (fun v => ?_)
        refine VL.fact fun e35 => ?_
        subst e35
        refine VL.ex fun gp33 => VL.ex fun c34 => ?_
        refine VL.nil ?_
        refine VX.next ?_
        refine VC.region ?_
        refine VL.fieldAddr rfl fo87_1 rfl ?_
        refine VL.store (L := itemL) (qs := [[.int .u8 (0)]]) (ps' := [[.int .u8 (x.kind)], [.int .u8 (0)], [.int .u8 (x.peer)], [.int .u8 (x.letter.src)], [.int .u8 (x.letter.dst)], (x.letter.header.session).map bv, [.bool x.letter.header.first], (x.letter.header.agree).map bv, (x.letter.header.signer).map bv, (x.letter.header.base).map bv, [.int .u16 (x.letter.header.id)], (x.letter.header.ratchet).map bv, [.int .u16 (x.letter.header.n)], [.int .u16 (x.letter.header.prev)], [.slice p (x.letter.body).length c], [.int .u8 (x.bundle.device)], (x.bundle.agree).map bv, (x.bundle.signer).map bv, [.int .u16 (x.bundle.id)], (x.bundle.once).map bv, (x.bundle.sig).map bv, [.int .u8 (x.object.server)], [.int .u8 (x.object.n)], (x.object.key).map bv, [.int .u32 (x.object.since)], [.int .u32 (x.object.till)], (x.object.sig).map bv, [.slice q (x.object.vouches).length d]]) 2 1 1 rfl rfl rfl (.inr ⟨kd5, rfl⟩) rfl rfl rfl (by intro u hu; simp [cat] at hu; subst hu; rfl) rfl rfl ?_
        refine VL.turn (G' := Own _ (wblk g2 gp33 c34 ((((([] : List (List UInt8)) ++ [be 1 (x.kind)]) ++ [be 1 (x.asker)]) ++ [be 1 (x.peer)])).length false :: brow gp33 c34 ((((([] : List (List UInt8)) ++ [be 1 (x.kind)]) ++ [be 1 (x.asker)]) ++ [be 1 (x.peer)])) :: blk g1 87 itemL [[.int .u8 (x.kind)], [.int .u8 (0)], [.int .u8 (x.peer)], [.int .u8 (x.letter.src)], [.int .u8 (x.letter.dst)], (x.letter.header.session).map bv, [.bool x.letter.header.first], (x.letter.header.agree).map bv, (x.letter.header.signer).map bv, (x.letter.header.base).map bv, [.int .u16 (x.letter.header.id)], (x.letter.header.ratchet).map bv, [.int .u16 (x.letter.header.n)], [.int .u16 (x.letter.header.prev)], [.slice p (x.letter.body).length c], [.int .u8 (x.bundle.device)], (x.bundle.agree).map bv, (x.bundle.signer).map bv, [.int .u16 (x.bundle.id)], (x.bundle.once).map bv, (x.bundle.sig).map bv, [.int .u8 (x.object.server)], [.int .u8 (x.object.n)], (x.object.key).map bv, [.int .u32 (x.object.since)], [.int .u32 (x.object.till)], (x.object.sig).map bv, [.slice q (x.object.vouches).length d]] :: H)) (fun _ h => h) ?_
        refine VL.fieldAddr rfl fo87_2 rfl ?_
        refine VL.store (L := itemL) (qs := [[.int .u8 (0)]]) (ps' := [[.int .u8 (x.kind)], [.int .u8 (0)], [.int .u8 (0)], [.int .u8 (x.letter.src)], [.int .u8 (x.letter.dst)], (x.letter.header.session).map bv, [.bool x.letter.header.first], (x.letter.header.agree).map bv, (x.letter.header.signer).map bv, (x.letter.header.base).map bv, [.int .u16 (x.letter.header.id)], (x.letter.header.ratchet).map bv, [.int .u16 (x.letter.header.n)], [.int .u16 (x.letter.header.prev)], [.slice p (x.letter.body).length c], [.int .u8 (x.bundle.device)], (x.bundle.agree).map bv, (x.bundle.signer).map bv, [.int .u16 (x.bundle.id)], (x.bundle.once).map bv, (x.bundle.sig).map bv, [.int .u8 (x.object.server)], [.int .u8 (x.object.n)], (x.object.key).map bv, [.int .u32 (x.object.since)], [.int .u32 (x.object.till)], (x.object.sig).map bv, [.slice q (x.object.vouches).length d]]) 2 2 1 rfl rfl rfl (.inr ⟨kd5, rfl⟩) rfl rfl rfl (by intro u hu; simp [cat] at hu; subst hu; rfl) rfl rfl ?_
        refine VL.turn (G' := Own _ (wblk g2 gp33 c34 ((((([] : List (List UInt8)) ++ [be 1 (x.kind)]) ++ [be 1 (x.asker)]) ++ [be 1 (x.peer)])).length false :: brow gp33 c34 ((((([] : List (List UInt8)) ++ [be 1 (x.kind)]) ++ [be 1 (x.asker)]) ++ [be 1 (x.peer)])) :: blk g1 87 itemL [[.int .u8 (x.kind)], [.int .u8 (0)], [.int .u8 (0)], [.int .u8 (x.letter.src)], [.int .u8 (x.letter.dst)], (x.letter.header.session).map bv, [.bool x.letter.header.first], (x.letter.header.agree).map bv, (x.letter.header.signer).map bv, (x.letter.header.base).map bv, [.int .u16 (x.letter.header.id)], (x.letter.header.ratchet).map bv, [.int .u16 (x.letter.header.n)], [.int .u16 (x.letter.header.prev)], [.slice p (x.letter.body).length c], [.int .u8 (x.bundle.device)], (x.bundle.agree).map bv, (x.bundle.signer).map bv, [.int .u16 (x.bundle.id)], (x.bundle.once).map bv, (x.bundle.sig).map bv, [.int .u8 (x.object.server)], [.int .u8 (x.object.n)], (x.object.key).map bv, [.int .u32 (x.object.since)], [.int .u32 (x.object.till)], (x.object.sig).map bv, [.slice q (x.object.vouches).length d]] :: H)) (fun _ h => h) ?_
        refine VL.nil ?_
        refine VX.block_normal ?_
        refine VX.next ?_
        refine VC.seq ?_
        refine VC.seq ?_
        refine VC.region ?_
        refine VL.loads (cs := cat (itemV ((itemB x)) p c q d)) 2 0 28 rfl kd87 (fun _ h => h) rfl rfl rfl rfl ?_
        refine VL.call Try.func127 rfl (by decide) rfl (fun w' hw => bare_w hw (x := (itemB x)) (itemB_ok hx)) (fun v => ?_)
        refine VL.ex fun b => VL.fact fun e => VL.fact fun h21_1 => ?_
        subst e
        cases b
        · have h21_1 := mt h21_1.2 (by decide)
          refine VL.not rfl ?_
          refine VL.nil ?_
          refine VX.next ?_
          refine VC.yes rfl ?_
          refine VC.seq ?_
          refine VC.region ?_
          refine VL.assign rfl ?_
          refine VL.assign rfl ?_
          refine VL.nil ?_
          refine VX.next ?_
          refine VC.ret ?_
          refine VX.then_ret ?_
          refine VX.ret2 rfl rfl rfl (fun we hw => ?_)
          exact postO ((item2_n (.inr h9_0) h21_1)) ⟨none, 0, rfl, hw.drop.drop.drop.sub (fun _ hs => by repeat (first | exact hs | apply List.mem_cons_of_mem)), Arr.none⟩
        · have h21_1 := h21_1.1 rfl
          refine VL.not rfl ?_
          refine VL.nil ?_
          refine VX.next ?_
          refine VC.no rfl ?_
          refine VC.skip ?_
          refine VX.next ?_
          refine VC.seq ?_
          refine VC.region ?_
          refine VL.move rfl ?_
          refine VL.call Try.func118 rfl (by decide) rfl (fun w' hw => done_O hw) (fun v => ?_)
          refine VL.at (fun w36 h1w => ?_)
          obtain ⟨p37, c38, rfl, hO40, hA39⟩ := h1w
          refine VL.toOwn hO40 ?_
          refine VL.extract rfl rfl ?_
          refine VL.extract rfl rfl ?_
          refine VL.assign rfl ?_
          refine VL.assign rfl ?_
          refine VL.nil ?_
          refine VX.next ?_
          refine VC.ret ?_
          refine VX.ret2 rfl rfl rfl (fun we hw => ?_)
          exact postO ((item2_y (.inr h9_0) h21_1)) ⟨p37, c38, rfl, hw.drop.sub (fun _ hs => by repeat (first | exact hs | apply List.mem_cons_of_mem)), (hA39.now (s := ⟨w36, _⟩) Mono.byte hw.drop (by repeat (first | exact List.mem_cons_self .. | apply List.mem_cons_of_mem)))⟩
      · have h9_0 : x.kind ≠ 4 := by omega
        refine VL.assign rfl ?_
        refine VL.nil ?_
        refine VX.next ?_
        refine VC.no rfl ?_
        refine VC.seq ?_
        refine VC.region ?_
        refine VL.eql rfl rfl ?_
        refine VL.case (fun h13_0 => ?_) (fun h13_0 => ?_)
        · have h13_0 : x.kind = 3 := by omega
          refine VL.assign rfl ?_
          refine VL.nil ?_
          refine VX.next ?_
          refine VC.yes rfl ?_
          refine VC.seq ?_
          refine VC.region ?_
          refine VL.move rfl ?_
          refine VL.fieldAddr rfl fo87_1 rfl ?_
          refine VL.load (v := .int .u8 (x.asker)) 2 1 rfl kd5 (fun _ h => h) rfl rfl rfl ?_
          refine VL.conv (by rw [Try.underlying5]; rfl) Try.underlying22 rfl (inr_u64 (by omega)) ?_
          refine VL.call Try.func116 rfl (by decide) rfl (fun w' hw => num_w hw (by simp only [List.length_append, List.length_cons, List.length_nil, List.length_map]; omega) (x.asker) (fits_small (by omega)) 1 (by decide) (by decide) (fits1 (by omega))) (fun v => ?_)
          refine VL.fact fun e43 => ?_
          subst e43
          refine VL.ex fun gp41 => VL.ex fun c42 => ?_
          refine VL.nil ?_
          refine VX.next ?_
          refine VC.seq ?_
          refine VC.region ?_
          refine VL.move rfl ?_
          refine VL.fieldAddr rfl fo87_4 rfl ?_
          refine VL.loads (cs := cat (bundleV (x.bundle))) 2 15 6 rfl kd82 (fun _ h => h) rfl rfl rfl rfl ?_
          refine VL.call Try.func60 rfl (by decide) rfl (fun w' hw => putBundle_w hw (x := x.bundle) hx.bundle) (fun v => ?_)
          refine VL.at (fun w44 h1w => ?_)
          obtain ⟨p45, c46, rfl, hO48, hA47⟩ := h1w
          refine VL.toOwn hO48 ?_
          refine VL.extract rfl rfl ?_
          refine VL.extract rfl rfl ?_
          refine VL.call Try.func117 rfl (by decide) rfl (fun w' hw => piece_w hw (by simp only [List.length_append, List.length_cons, List.length_nil, List.length_map]; omega) (hA47.now (s := ⟨w44, _⟩) Mono.byte hw (by repeat (first | exact List.mem_cons_self .. | apply List.mem_cons_of_mem))) (((some (bundleB (x.bundle))).isSome))) (fun v => ?_)
          refine VL.fact fun e51 => ?_
          subst e51
          refine VL.ex fun gp49 => VL.ex fun c50 => ?_
          refine VL.nil ?_
          refine VX.next ?_
          refine VC.region ?_
          refine VL.build0 (cs := cat (bundleV (bundle0))) built82 ?_
          refine VL.fieldAddr rfl fo87_1 rfl ?_
          refine VL.store (L := itemL) (qs := [[.int .u8 (0)]]) (ps' := [[.int .u8 (x.kind)], [.int .u8 (0)], [.int .u8 (x.peer)], [.int .u8 (x.letter.src)], [.int .u8 (x.letter.dst)], (x.letter.header.session).map bv, [.bool x.letter.header.first], (x.letter.header.agree).map bv, (x.letter.header.signer).map bv, (x.letter.header.base).map bv, [.int .u16 (x.letter.header.id)], (x.letter.header.ratchet).map bv, [.int .u16 (x.letter.header.n)], [.int .u16 (x.letter.header.prev)], [.slice p (x.letter.body).length c], [.int .u8 (x.bundle.device)], (x.bundle.agree).map bv, (x.bundle.signer).map bv, [.int .u16 (x.bundle.id)], (x.bundle.once).map bv, (x.bundle.sig).map bv, [.int .u8 (x.object.server)], [.int .u8 (x.object.n)], (x.object.key).map bv, [.int .u32 (x.object.since)], [.int .u32 (x.object.till)], (x.object.sig).map bv, [.slice q (x.object.vouches).length d]]) 2 1 1 rfl rfl rfl (.inr ⟨kd5, rfl⟩) rfl rfl rfl (by intro u hu; simp [cat] at hu; subst hu; rfl) rfl rfl ?_
          refine VL.turn (G' := Own _ (wblk g2 gp49 c50 ((((([] : List (List UInt8)) ++ [be 1 (x.kind)]) ++ [be 1 (x.asker)]) ++ [((some (bundleB (x.bundle))).getD [])])).length (false || !((some (bundleB (x.bundle))).isSome)) :: brow gp49 c50 ((((([] : List (List UInt8)) ++ [be 1 (x.kind)]) ++ [be 1 (x.asker)]) ++ [((some (bundleB (x.bundle))).getD [])])) :: blk g1 87 itemL [[.int .u8 (x.kind)], [.int .u8 (0)], [.int .u8 (x.peer)], [.int .u8 (x.letter.src)], [.int .u8 (x.letter.dst)], (x.letter.header.session).map bv, [.bool x.letter.header.first], (x.letter.header.agree).map bv, (x.letter.header.signer).map bv, (x.letter.header.base).map bv, [.int .u16 (x.letter.header.id)], (x.letter.header.ratchet).map bv, [.int .u16 (x.letter.header.n)], [.int .u16 (x.letter.header.prev)], [.slice p (x.letter.body).length c], [.int .u8 (x.bundle.device)], (x.bundle.agree).map bv, (x.bundle.signer).map bv, [.int .u16 (x.bundle.id)], (x.bundle.once).map bv, (x.bundle.sig).map bv, [.int .u8 (x.object.server)], [.int .u8 (x.object.n)], (x.object.key).map bv, [.int .u32 (x.object.since)], [.int .u32 (x.object.till)], (x.object.sig).map bv, [.slice q (x.object.vouches).length d]] :: H)) (fun _ h => h) ?_
          refine VL.fieldAddr rfl fo87_4 rfl ?_
          refine VL.store (L := itemL) (qs := (bundleV (bundle0))) (ps' := [[.int .u8 (x.kind)], [.int .u8 (0)], [.int .u8 (x.peer)], [.int .u8 (x.letter.src)], [.int .u8 (x.letter.dst)], (x.letter.header.session).map bv, [.bool x.letter.header.first], (x.letter.header.agree).map bv, (x.letter.header.signer).map bv, (x.letter.header.base).map bv, [.int .u16 (x.letter.header.id)], (x.letter.header.ratchet).map bv, [.int .u16 (x.letter.header.n)], [.int .u16 (x.letter.header.prev)], [.slice p (x.letter.body).length c], [.int .u8 (bundle0.device)], (bundle0.agree).map bv, (bundle0.signer).map bv, [.int .u16 (bundle0.id)], (bundle0.once).map bv, (bundle0.sig).map bv, [.int .u8 (x.object.server)], [.int .u8 (x.object.n)], (x.object.key).map bv, [.int .u32 (x.object.since)], [.int .u32 (x.object.till)], (x.object.sig).map bv, [.slice q (x.object.vouches).length d]]) 2 15 6 rfl rfl rfl (.inl kd82) rfl rfl rfl (bundleV_ok1 bundle0) rfl rfl ?_
          refine VL.turn (G' := Own _ (wblk g2 gp49 c50 ((((([] : List (List UInt8)) ++ [be 1 (x.kind)]) ++ [be 1 (x.asker)]) ++ [((some (bundleB (x.bundle))).getD [])])).length (false || !((some (bundleB (x.bundle))).isSome)) :: brow gp49 c50 ((((([] : List (List UInt8)) ++ [be 1 (x.kind)]) ++ [be 1 (x.asker)]) ++ [((some (bundleB (x.bundle))).getD [])])) :: blk g1 87 itemL [[.int .u8 (x.kind)], [.int .u8 (0)], [.int .u8 (x.peer)], [.int .u8 (x.letter.src)], [.int .u8 (x.letter.dst)], (x.letter.header.session).map bv, [.bool x.letter.header.first], (x.letter.header.agree).map bv, (x.letter.header.signer).map bv, (x.letter.header.base).map bv, [.int .u16 (x.letter.header.id)], (x.letter.header.ratchet).map bv, [.int .u16 (x.letter.header.n)], [.int .u16 (x.letter.header.prev)], [.slice p (x.letter.body).length c], [.int .u8 (bundle0.device)], (bundle0.agree).map bv, (bundle0.signer).map bv, [.int .u16 (bundle0.id)], (bundle0.once).map bv, (bundle0.sig).map bv, [.int .u8 (x.object.server)], [.int .u8 (x.object.n)], (x.object.key).map bv, [.int .u32 (x.object.since)], [.int .u32 (x.object.till)], (x.object.sig).map bv, [.slice q (x.object.vouches).length d]] :: H)) (fun _ h => h) ?_
          refine VL.nil ?_
          refine VX.block_normal ?_
          refine VX.next ?_
          refine VC.seq ?_
          refine VC.seq ?_
          refine VC.region ?_
          refine VL.loads (cs := cat (itemV ((itemC x)) p c q d)) 2 0 28 rfl kd87 (fun _ h => h) rfl rfl rfl rfl ?_
          refine VL.call Try.func127 rfl (by decide) rfl (fun w' hw => bare_w hw (x := (itemC x)) (itemC_ok hx)) (fun v => ?_)
          refine VL.ex fun b => VL.fact fun e => VL.fact fun h21_1 => ?_
          subst e
          cases b
          · have h21_1 := mt h21_1.2 (by decide)
            refine VL.not rfl ?_
            refine VL.nil ?_
            refine VX.next ?_
            refine VC.yes rfl ?_
            refine VC.seq ?_
            refine VC.region ?_
            refine VL.assign rfl ?_
            refine VL.assign rfl ?_
            refine VL.nil ?_
            refine VX.next ?_
            refine VC.ret ?_
            refine VX.then_ret ?_
            refine VX.ret2 rfl rfl rfl (fun we hw => ?_)
            exact postO ((item3_n h13_0 h21_1)) ⟨none, 0, rfl, hw.drop.drop.drop.sub (fun _ hs => by repeat (first | exact hs | apply List.mem_cons_of_mem)), Arr.none⟩
          · have h21_1 := h21_1.1 rfl
            refine VL.not rfl ?_
            refine VL.nil ?_
            refine VX.next ?_
            refine VC.no rfl ?_
            refine VC.skip ?_
            refine VX.next ?_
            refine VC.seq ?_
            refine VC.region ?_
            refine VL.move rfl ?_
            refine VL.call Try.func118 rfl (by decide) rfl (fun w' hw => done_O hw) (fun v => ?_)
            refine VL.at (fun w52 h1w => ?_)
            obtain ⟨p53, c54, rfl, hO56, hA55⟩ := h1w
            refine VL.toOwn hO56 ?_
            refine VL.extract rfl rfl ?_
            refine VL.extract rfl rfl ?_
            refine VL.assign rfl ?_
            refine VL.assign rfl ?_
            refine VL.nil ?_
            refine VX.next ?_
            refine VC.ret ?_
            refine VX.ret2 rfl rfl rfl (fun we hw => ?_)
            exact postO ((item3_y h13_0 h21_1)) ⟨p53, c54, rfl, hw.drop.sub (fun _ hs => by repeat (first | exact hs | apply List.mem_cons_of_mem)), (hA55.now (s := ⟨w52, _⟩) Mono.byte hw.drop (by repeat (first | exact List.mem_cons_self .. | apply List.mem_cons_of_mem)))⟩
        · have h13_0 : x.kind ≠ 3 := by omega
          refine VL.assign rfl ?_
          refine VL.nil ?_
          refine VX.next ?_
          refine VC.no rfl ?_
          refine VC.seq ?_
          refine VC.seq ?_
          refine VC.region ?_
          refine VL.eql rfl rfl ?_
          refine VL.case (fun h17_0 => ?_) (fun h17_0 => ?_)
          · have h17_0 : x.kind = 5 := by omega
            refine VL.assign rfl ?_
            refine VL.nil ?_
            refine VX.next ?_
            refine VC.yes rfl ?_
            refine VC.skip ?_
            refine VX.next ?_
            refine VC.yes rfl ?_
            refine VC.seq ?_
            refine VC.region ?_
            refine VL.move rfl ?_
            refine VL.fieldAddr rfl fo87_5 rfl ?_
            refine VL.loads (cs := cat (objectV (x.object) q d)) 2 21 7 rfl kd85 (fun _ h => h) rfl rfl rfl rfl ?_
            refine VL.call Try.func65 rfl (by decide) rfl (fun w' hw => putObject_w hw (x := x.object) hx.object (hV.now (s := ⟨w, _⟩) Mono_vouch hw (by repeat (first | exact List.mem_cons_self .. | apply List.mem_cons_of_mem)))) (fun v => ?_)
            refine VL.at (fun w57 h1w => ?_)
            obtain ⟨p58, c59, rfl, hO61, hA60⟩ := h1w
            refine VL.toOwn hO61 ?_
            refine VL.extract rfl rfl ?_
            refine VL.extract rfl rfl ?_
            refine VL.call Try.func117 rfl (by decide) rfl (fun w' hw => piece_w hw (by simp only [List.length_append, List.length_cons, List.length_nil, List.length_map]; omega) (hA60.now (s := ⟨w57, _⟩) Mono.byte hw (by repeat (first | exact List.mem_cons_self .. | apply List.mem_cons_of_mem))) (((objectO (x.object)).isSome))) (fun v => ?_)
            refine VL.fact fun e64 => ?_
            subst e64
            refine VL.ex fun gp62 => VL.ex fun c63 => ?_
            refine VL.nil ?_
            refine VX.next ?_
            refine VC.region ?_
            refine VL.build0 (cs := cat (objectV (object0) none 0)) built85 ?_
            refine VL.fieldAddr rfl fo87_5 rfl ?_
            refine VL.store (L := itemL) (qs := (objectV (object0) none 0)) (ps' := [[.int .u8 (x.kind)], [.int .u8 (x.asker)], [.int .u8 (x.peer)], [.int .u8 (x.letter.src)], [.int .u8 (x.letter.dst)], (x.letter.header.session).map bv, [.bool x.letter.header.first], (x.letter.header.agree).map bv, (x.letter.header.signer).map bv, (x.letter.header.base).map bv, [.int .u16 (x.letter.header.id)], (x.letter.header.ratchet).map bv, [.int .u16 (x.letter.header.n)], [.int .u16 (x.letter.header.prev)], [.slice p (x.letter.body).length c], [.int .u8 (x.bundle.device)], (x.bundle.agree).map bv, (x.bundle.signer).map bv, [.int .u16 (x.bundle.id)], (x.bundle.once).map bv, (x.bundle.sig).map bv, [.int .u8 (object0.server)], [.int .u8 (object0.n)], (object0.key).map bv, [.int .u32 (object0.since)], [.int .u32 (object0.till)], (object0.sig).map bv, [.slice none ([]).length 0]]) 2 21 7 rfl rfl rfl (.inl kd85) rfl rfl rfl (objectV_ok1 object0 none 0) rfl rfl ?_
            refine VL.turn (G' := Own _ (wblk g2 gp62 c63 (((([] : List (List UInt8)) ++ [be 1 (x.kind)]) ++ [((objectO (x.object)).getD [])])).length (false || !((objectO (x.object)).isSome)) :: brow gp62 c63 (((([] : List (List UInt8)) ++ [be 1 (x.kind)]) ++ [((objectO (x.object)).getD [])])) :: blk g1 87 itemL [[.int .u8 (x.kind)], [.int .u8 (x.asker)], [.int .u8 (x.peer)], [.int .u8 (x.letter.src)], [.int .u8 (x.letter.dst)], (x.letter.header.session).map bv, [.bool x.letter.header.first], (x.letter.header.agree).map bv, (x.letter.header.signer).map bv, (x.letter.header.base).map bv, [.int .u16 (x.letter.header.id)], (x.letter.header.ratchet).map bv, [.int .u16 (x.letter.header.n)], [.int .u16 (x.letter.header.prev)], [.slice p (x.letter.body).length c], [.int .u8 (x.bundle.device)], (x.bundle.agree).map bv, (x.bundle.signer).map bv, [.int .u16 (x.bundle.id)], (x.bundle.once).map bv, (x.bundle.sig).map bv, [.int .u8 (object0.server)], [.int .u8 (object0.n)], (object0.key).map bv, [.int .u32 (object0.since)], [.int .u32 (object0.till)], (object0.sig).map bv, [.slice none ([]).length 0]] :: H)) (fun _ h => h) ?_
            refine VL.nil ?_
            refine VX.block_normal ?_
            refine VX.next ?_
            refine VC.seq ?_
            refine VC.seq ?_
            refine VC.region ?_
            refine VL.loads (cs := cat (itemV ((itemD x)) p c none 0)) 2 0 28 rfl kd87 (fun _ h => h) rfl rfl rfl rfl ?_
            refine VL.call Try.func127 rfl (by decide) rfl (fun w' hw => bare_w hw (x := (itemD x)) (itemD_ok hx)) (fun v => ?_)
            refine VL.ex fun b => VL.fact fun e => VL.fact fun h21_1 => ?_
            subst e
            cases b
            · have h21_1 := mt h21_1.2 (by decide)
              refine VL.not rfl ?_
              refine VL.nil ?_
              refine VX.next ?_
              refine VC.yes rfl ?_
              refine VC.seq ?_
              refine VC.region ?_
              refine VL.assign rfl ?_
              refine VL.assign rfl ?_
              refine VL.nil ?_
              refine VX.next ?_
              refine VC.ret ?_
              refine VX.then_ret ?_
              refine VX.ret2 rfl rfl rfl (fun we hw => ?_)
              exact postO ((item5_n (.inl h17_0) h21_1)) ⟨none, 0, rfl, hw.drop.drop.drop.sub (fun _ hs => by repeat (first | exact hs | apply List.mem_cons_of_mem)), Arr.none⟩
            · have h21_1 := h21_1.1 rfl
              refine VL.not rfl ?_
              refine VL.nil ?_
              refine VX.next ?_
              refine VC.no rfl ?_
              refine VC.skip ?_
              refine VX.next ?_
              refine VC.seq ?_
              refine VC.region ?_
              refine VL.move rfl ?_
              refine VL.call Try.func118 rfl (by decide) rfl (fun w' hw => done_O hw) (fun v => ?_)
              refine VL.at (fun w65 h1w => ?_)
              obtain ⟨p66, c67, rfl, hO69, hA68⟩ := h1w
              refine VL.toOwn hO69 ?_
              refine VL.extract rfl rfl ?_
              refine VL.extract rfl rfl ?_
              refine VL.assign rfl ?_
              refine VL.assign rfl ?_
              refine VL.nil ?_
              refine VX.next ?_
              refine VC.ret ?_
              refine VX.ret2 rfl rfl rfl (fun we hw => ?_)
              exact postO (((by cases hs : (objectO x.object).isSome <;> rfl : joinO ([be 1 x.kind, (objectO x.object).getD []]) (!(false || !(objectO x.object).isSome)) = joinO [be 1 x.kind, (objectO x.object).getD []] (objectO x.object).isSome).trans (item5_y (.inl h17_0) h21_1))) ⟨p66, c67, rfl, hw.drop.sub (fun _ hs => by repeat (first | exact hs | apply List.mem_cons_of_mem)), (hA68.now (s := ⟨w65, _⟩) Mono.byte hw.drop (by repeat (first | exact List.mem_cons_self .. | apply List.mem_cons_of_mem)))⟩
          · have h17_0 : x.kind ≠ 5 := by omega
            refine VL.assign rfl ?_
            refine VL.nil ?_
            refine VX.next ?_
            refine VC.no rfl ?_
            refine VC.region ?_
            refine VL.eql rfl rfl ?_
            refine VL.case (fun h18_0 => ?_) (fun h18_0 => ?_)
            · have h18_0 : x.kind = 6 := by omega
              refine VL.assign rfl ?_
              refine VL.nil ?_
              refine VX.next ?_
              refine VC.yes rfl ?_
              refine VC.seq ?_
              refine VC.region ?_
              refine VL.move rfl ?_
              refine VL.fieldAddr rfl fo87_5 rfl ?_
              refine VL.loads (cs := cat (objectV (x.object) q d)) 2 21 7 rfl kd85 (fun _ h => h) rfl rfl rfl rfl ?_
              refine VL.call Try.func65 rfl (by decide) rfl (fun w' hw => putObject_w hw (x := x.object) hx.object (hV.now (s := ⟨w, _⟩) Mono_vouch hw (by repeat (first | exact List.mem_cons_self .. | apply List.mem_cons_of_mem)))) (fun v => ?_)
              refine VL.at (fun w70 h1w => ?_)
              obtain ⟨p71, c72, rfl, hO74, hA73⟩ := h1w
              refine VL.toOwn hO74 ?_
              refine VL.extract rfl rfl ?_
              refine VL.extract rfl rfl ?_
              refine VL.call Try.func117 rfl (by decide) rfl (fun w' hw => piece_w hw (by simp only [List.length_append, List.length_cons, List.length_nil, List.length_map]; omega) (hA73.now (s := ⟨w70, _⟩) Mono.byte hw (by repeat (first | exact List.mem_cons_self .. | apply List.mem_cons_of_mem))) (((objectO (x.object)).isSome))) (fun v => ?_)
              refine VL.fact fun e77 => ?_
              subst e77
              refine VL.ex fun gp75 => VL.ex fun c76 => ?_
              refine VL.nil ?_
              refine VX.next ?_
              refine VC.region ?_
              refine VL.build0 (cs := cat (objectV (object0) none 0)) built85 ?_
              refine VL.fieldAddr rfl fo87_5 rfl ?_
              refine VL.store (L := itemL) (qs := (objectV (object0) none 0)) (ps' := [[.int .u8 (x.kind)], [.int .u8 (x.asker)], [.int .u8 (x.peer)], [.int .u8 (x.letter.src)], [.int .u8 (x.letter.dst)], (x.letter.header.session).map bv, [.bool x.letter.header.first], (x.letter.header.agree).map bv, (x.letter.header.signer).map bv, (x.letter.header.base).map bv, [.int .u16 (x.letter.header.id)], (x.letter.header.ratchet).map bv, [.int .u16 (x.letter.header.n)], [.int .u16 (x.letter.header.prev)], [.slice p (x.letter.body).length c], [.int .u8 (x.bundle.device)], (x.bundle.agree).map bv, (x.bundle.signer).map bv, [.int .u16 (x.bundle.id)], (x.bundle.once).map bv, (x.bundle.sig).map bv, [.int .u8 (object0.server)], [.int .u8 (object0.n)], (object0.key).map bv, [.int .u32 (object0.since)], [.int .u32 (object0.till)], (object0.sig).map bv, [.slice none ([]).length 0]]) 2 21 7 rfl rfl rfl (.inl kd85) rfl rfl rfl (objectV_ok1 object0 none 0) rfl rfl ?_
              refine VL.turn (G' := Own _ (wblk g2 gp75 c76 (((([] : List (List UInt8)) ++ [be 1 (x.kind)]) ++ [((objectO (x.object)).getD [])])).length (false || !((objectO (x.object)).isSome)) :: brow gp75 c76 (((([] : List (List UInt8)) ++ [be 1 (x.kind)]) ++ [((objectO (x.object)).getD [])])) :: blk g1 87 itemL [[.int .u8 (x.kind)], [.int .u8 (x.asker)], [.int .u8 (x.peer)], [.int .u8 (x.letter.src)], [.int .u8 (x.letter.dst)], (x.letter.header.session).map bv, [.bool x.letter.header.first], (x.letter.header.agree).map bv, (x.letter.header.signer).map bv, (x.letter.header.base).map bv, [.int .u16 (x.letter.header.id)], (x.letter.header.ratchet).map bv, [.int .u16 (x.letter.header.n)], [.int .u16 (x.letter.header.prev)], [.slice p (x.letter.body).length c], [.int .u8 (x.bundle.device)], (x.bundle.agree).map bv, (x.bundle.signer).map bv, [.int .u16 (x.bundle.id)], (x.bundle.once).map bv, (x.bundle.sig).map bv, [.int .u8 (object0.server)], [.int .u8 (object0.n)], (object0.key).map bv, [.int .u32 (object0.since)], [.int .u32 (object0.till)], (object0.sig).map bv, [.slice none ([]).length 0]] :: H)) (fun _ h => h) ?_
              refine VL.nil ?_
              refine VX.block_normal ?_
              refine VX.next ?_
              refine VC.seq ?_
              refine VC.seq ?_
              refine VC.region ?_
              refine VL.loads (cs := cat (itemV ((itemD x)) p c none 0)) 2 0 28 rfl kd87 (fun _ h => h) rfl rfl rfl rfl ?_
              refine VL.call Try.func127 rfl (by decide) rfl (fun w' hw => bare_w hw (x := (itemD x)) (itemD_ok hx)) (fun v => ?_)
              refine VL.ex fun b => VL.fact fun e => VL.fact fun h21_1 => ?_
              subst e
              cases b
              · have h21_1 := mt h21_1.2 (by decide)
                refine VL.not rfl ?_
                refine VL.nil ?_
                refine VX.next ?_
                refine VC.yes rfl ?_
                refine VC.seq ?_
                refine VC.region ?_
                refine VL.assign rfl ?_
                refine VL.assign rfl ?_
                refine VL.nil ?_
                refine VX.next ?_
                refine VC.ret ?_
                refine VX.then_ret ?_
                refine VX.ret2 rfl rfl rfl (fun we hw => ?_)
                exact postO ((item5_n (.inr h18_0) h21_1)) ⟨none, 0, rfl, hw.drop.drop.drop.sub (fun _ hs => by repeat (first | exact hs | apply List.mem_cons_of_mem)), Arr.none⟩
              · have h21_1 := h21_1.1 rfl
                refine VL.not rfl ?_
                refine VL.nil ?_
                refine VX.next ?_
                refine VC.no rfl ?_
                refine VC.skip ?_
                refine VX.next ?_
                refine VC.seq ?_
                refine VC.region ?_
                refine VL.move rfl ?_
                refine VL.call Try.func118 rfl (by decide) rfl (fun w' hw => done_O hw) (fun v => ?_)
                refine VL.at (fun w78 h1w => ?_)
                obtain ⟨p79, c80, rfl, hO82, hA81⟩ := h1w
                refine VL.toOwn hO82 ?_
                refine VL.extract rfl rfl ?_
                refine VL.extract rfl rfl ?_
                refine VL.assign rfl ?_
                refine VL.assign rfl ?_
                refine VL.nil ?_
                refine VX.next ?_
                refine VC.ret ?_
                refine VX.ret2 rfl rfl rfl (fun we hw => ?_)
                exact postO (((by cases hs : (objectO x.object).isSome <;> rfl : joinO ([be 1 x.kind, (objectO x.object).getD []]) (!(false || !(objectO x.object).isSome)) = joinO [be 1 x.kind, (objectO x.object).getD []] (objectO x.object).isSome).trans (item5_y (.inr h18_0) h21_1))) ⟨p79, c80, rfl, hw.drop.sub (fun _ hs => by repeat (first | exact hs | apply List.mem_cons_of_mem)), (hA81.now (s := ⟨w78, _⟩) Mono.byte hw.drop (by repeat (first | exact List.mem_cons_self .. | apply List.mem_cons_of_mem)))⟩
            · have h18_0 : x.kind ≠ 6 := by omega
              refine VL.assign rfl ?_
              refine VL.nil ?_
              refine VX.next ?_
              refine VC.no rfl ?_
              refine VC.seq ?_
              refine VC.region ?_
              refine VL.assign rfl ?_
              refine VL.assign rfl ?_
              refine VL.nil ?_
              refine VX.next ?_
              refine VC.ret ?_
              refine VX.block_ret ?_
              refine VX.then_ret ?_
              refine VX.ret2 rfl rfl rfl (fun we hw => ?_)
              exact postO ((item0_n h5_0 h8_0 h13_0 h9_0 h17_0 h18_0)) ⟨none, 0, rfl, hw.drop.drop.drop.sub (fun _ hs => by repeat (first | exact hs | apply List.mem_cons_of_mem)), Arr.none⟩

end Go.Proofs.Ytcfecmoagfgnaaa

/- wire: what takes pieces: its fields; more rules. -/
namespace Go.Vc
section
variable {P : Program} {n : Nat} {Q : Exit → Act → World → Prop} {σ : Sl} {G : World → Prop} {ops : Array Oper} {rest : List Oper}
variable {d : Nat} {ty : TypeId} {pos : String} {aft : Array Edge}
variable {S : List Snap} {H H' : List Chunk}

theorem VC.letArr {X : Type} {R : Rel X} {hR : Mono R} {e : TypeId} {sz : Nat} {g : Option Nat} {c : Nat} {ys : List X} {code : Code} (h : ∀ w1, Own S H w1 → Arr sz R (keys H) w1 (g.map fun g => ⟨g, 0, none⟩) ys c → VC P n Q code σ (Own (⟨w1, keys H⟩ :: S) H)) : VC P n Q code σ (Own S (arow e sz R hR g c ys :: H)) := fun a w ha hw =>
  h w hw.drop hw.letArr a w ha hw.drop.keep

/-- 'x[a:]', its value spelled out. -/
theorem VL.dropE {t e : TypeId} {x o : Operand} {k : IntKind} {l : List UInt8} {p : Option Addr} {c : Nat} (a : Nat) (hx : ev σ x = some (.slice p l.length c)) (ho : ev σ o = some (.int k (a : Int))) (ht : P.underlying t = some (.slice e)) (hsz : (P.info? e).map (·.size) = some 1) (ha : a ≤ l.length) (hc : l.length ≤ c)
    (h : VL P n ops Q rest ((d, .slice (if c = a then p else p.map (·.add (a * 1))) (l.drop a).length (c - a)) :: σ) G) (hdn : Nat.blt d n = true := by rfl) : VL P n ops Q (⟨some d, .slice t x (some o) none none, ty, pos, aft, none⟩ :: rest) σ G := by
  refine VL.val rfl rfl hdn (fun b' w hb' _ => ?_) h
  have := run_sliceAt (P := P) (w := w) (p := p) (m := l.length) (c := c) (a := a) (b := l.length) (hi := none) (lo := some (.int k (a : Int))) ht hsz (.inr ⟨k, rfl⟩) (.inl ⟨rfl, rfl⟩) ha hc
  simp [execOp, hb'.ev hx, hb'.ev ho, this]

theorem seg_at {α : Type} {A B : List α} {o m : Nat} (hA : A.length = o) (l cur : List α) (hl : cur.length = l.length) : (A ++ (cur ++ B)).take o ++ l ++ (A ++ (cur ++ B)).drop (o + l.length) = A ++ (l ++ B) := by
  subst hA
  rw [List.take_left, List.append_assoc]
  congr 1
  congr 1
  rw [← hl, ← List.length_append, ← List.append_assoc, List.drop_left]

/-- 'copy(x[:], l)', where l is as long as the array x, which is part j of a variable. -/
theorem VL.copyPart {x y : Operand} {t1 t2 e T : TypeId} {tys : Array TypeId} {g o m c : Nat} {p : Option Addr} {l : List UInt8} {L : List Nat} {ps ps' : List (List Value)} (i j : Nat) (htys : tys = #[t1, t2]) (hu : P.underlying t1 = some (.slice e)) (hs : (P.info? e).map (·.size) = some 1)
    (hx : ev σ x = some (.slice (some ⟨g, o, none⟩) m m)) (hy : ev σ y = some (.slice p l.length c)) (hi : H[i]? = some (blk g T L ps)) (hLj : L[j]? = some m) (ho : (L.take j).sum = o) (hl : l.length = m) (hm : 0 < m) (hA : ∀ w, Own S H w → CellsAt w p (l.map bv))
    (hp : ps.set j (l.map bv) = ps') (hH : H.set i (blk g T L ps') = H') (h : ∀ v, VL P n ops Q rest ((d, v) :: σ) (Own S H')) (hdn : Nat.blt d n = true := by rfl) : VL P n ops Q (⟨some d, .call ⟨.builtin .copy, #[x, y], tys⟩, ty, pos, aft, none⟩ :: rest) σ (Own S H) := by
  subst htys
  refine VL.act (K := fun _ w' => Own S H' w') rfl rfl hdn (fun a w ha hw => ?_) h
  obtain ⟨hg, hL⟩ := hw.holds _ (List.mem_of_getElem? hi)
  have hjl : j < ps.length := by
    have := (List.getElem?_eq_some_iff.1 hLj).1
    rw [← hL] at this; simpa using this
  have hpj : (ps[j]).length = m := by
    have := (List.getElem?_eq_some_iff.1 hLj).2
    subst hL
    simpa using this
  have e0 := flatten_at ps j 1
  have h1 : (ps.drop j).take 1 = [ps[j]] := by
    rw [List.drop_eq_getElem_cons hjl, List.take_succ_cons, List.take_zero]
  rw [h1] at e0
  simp only [List.flatten_cons, List.flatten_nil, List.append_nil] at e0
  have hlen := sum_take_length ps j
  rw [hL, ho] at hlen
  have eset : (ps.set j (l.map bv)).flatten = (ps.take j).flatten ++ (l.map bv ++ (ps.drop (j + 1)).flatten) := by
    rw [List.set_eq_take_append_cons_drop, if_pos hjl]
    simp
  rcases hA w hw with ⟨_, h0⟩ | ⟨a', rfl, hc⟩
  · have : l = [] := by simpa using h0
    subst this
    simp at hl; omega
  · have hr := run_copy_row (P := P) w t1 t2 ty e g o m m a' l.length c (cat ps).toArray T (l.map bv) hu hs hg (by simp [hl]) hc (by
      rw [List.size_toArray, cat_eq, e0, List.length_append, List.length_append, hlen, hpj, List.length_map, hl]
      first | omega | skip) (ok1_bytes l)
    have e1 : (cat ps).toArray.toList.take o ++ l.map bv ++ (cat ps).toArray.toList.drop (o + (l.map bv).length) = cat ps' := by
      rw [← hp, cat_eq, cat_eq, eset, e0]
      exact seg_at (m := m) hlen _ _ (by rw [List.length_map, hl, hpj])
    rw [e1] at hr
    refine ⟨goInt (l.map bv).length, w.setRow g (cat ps').toArray, ?_, blk_set (ps' := ps') hw hi ?_ hH⟩
    · simp [execOp, resolve, invoke, builtin, ha.ev hx, ha.ev hy, hr]
    · rw [← hp, List.map_set, hL, List.length_map, hl, ← (List.getElem?_eq_some_iff.1 hLj).2]
      exact List.set_getElem_self _
end
end Go.Vc
namespace Go.Proofs.Ytcfecmoagfgnaaa
open Go.Vc Go.Pl
section
variable {n : Nat} {Q : Exit → Act → World → Prop} {σ : Sl} {G : World → Prop} {ops : Array Oper} {rest : List Oper}
variable {d : Nat} {ty : TypeId} {pos : String} {aft : Array Edge}
variable {S : List Snap} {H H' : List Chunk}

/-- The pieces that are left, loaded. -/
theorem loadParts {x : Operand} {g : Nat} {parts : List (List UInt8)} {why : Nat} (i : Nat) (hx : ev σ x = some (.pointer (some ⟨g, 0, none⟩))) (hi : H[i]? = some (rch g parts why))
    (h : ∀ p c w1, Own S H w1 → Arr 1 bytesR (keys H) w1 p parts c → VL Try.prog n ops Q rest ((d, .slice p parts.length c) :: σ) (Own (⟨w1, keys H⟩ :: S) H)) (hdn : Nat.blt d n = true := by rfl) : VL Try.prog n ops Q (⟨some d, .load 31 x, ty, pos, aft, none⟩ :: rest) σ (Own S H) := by
  refine VL.at fun w hw => ?_
  obtain ⟨ps, h1, h2, p, c, rfl, hA⟩ := hw.holds _ (List.mem_of_getElem? hi)
  refine VL.val (v := .slice p parts.length c) rfl rfl hdn (fun a w' ha e => ?_) (VL.turn (fun w' e => by subst e; exact hw.keep) (h p c w hw hA))
  subst e
  have hc : w'.cell? ⟨g, 0, none⟩ = some (.slice p parts.length c) := by
    rw [cell_of_row w' g 0 _ 196 (0, 0) h1]; rfl
  simp [execOp, ha.ev hx, run_load_cell kd31 hc]
/-- The error, loaded. -/
theorem loadWhy {x : Operand} {g : Nat} {parts : List (List UInt8)} {why : Nat} (i : Nat) (hx : ev σ x = some (.pointer (some ⟨g, 1, none⟩))) (hG : ∀ w, G w → Own S H w) (hi : H[i]? = some (rch g parts why))
    (h : VL Try.prog n ops Q rest ((d, .int .i64 why) :: σ) G) (hdn : Nat.blt d n = true := by rfl) : VL Try.prog n ops Q (⟨some d, .load 35 x, ty, pos, aft, none⟩ :: rest) σ G :=
  VL.val rfl rfl hdn (fun a w ha hw => by
    obtain ⟨ps, h1, h2, p, c, rfl, hA⟩ := (hG w hw).holds _ (List.mem_of_getElem? hi)
    have hc : w.cell? ⟨g, 1, none⟩ = some (.int .i64 why) := by
      rw [cell_of_row w g 1 _ 196 (0, 0) h1]; rfl
    simp [execOp, ha.ev hx, run_load_cell kd35 hc]) h
end
end Go.Proofs.Ytcfecmoagfgnaaa

/- wire: what bytes are read as: objects. -/
namespace Go.Proofs.Ytcfecmoagfgnaaa
open Go.Vc Go.Pl

theorem object_why' (l : List UInt8) : endW (vouchesW 4 (((((((openP l).drop 1).drop 1).drop 1).drop 1).drop 1).drop 1)).2.1 (if (vouchesW 4 (((((((openP l).drop 1).drop 1).drop 1).drop 1).drop 1).drop 1)).2.2 then (takesW objectK (openP l) (openW l)) else failW (takesW objectK (openP l) (openW l)) 141) = if (objectR l).isSome then 0 else 141 := by
  have := object_why l
  simpa only [List.drop_drop] using this
theorem object_vouches' {l : List UInt8} (h : (objectR l).isSome = true) : objectR l = some (objectOf (openP l) (vouchesW 4 (((((((openP l).drop 1).drop 1).drop 1).drop 1).drop 1).drop 1)).1) := by
  have := object_vouches h
  simpa only [List.drop_drop] using this
theorem object_fin {l : List UInt8} {vs : List Vouch} {ps : List (List UInt8)} (hv : vouchesW 4 (((((((openP l).drop 1).drop 1).drop 1).drop 1).drop 1).drop 1) = (vs ++ (vouchesW (4 - vs.length) ps).1, (vouchesW (4 - vs.length) ps).2.1, (vouchesW (4 - vs.length) ps).2.2)) (hx : ps = [] ∨ 4 ≤ vs.length) : endW ps (takesW objectK (openP l) (openW l)) = (if (objectR l).isSome then 0 else 141) ∧ ∀ y, objectR l = some y → y = objectOf (openP l) vs := by
  have e : vouchesW (4 - vs.length) ps = ([], ps, true) := by
    rcases hx with rfl | hx
    · cases (4 - vs.length) <;> rfl
    · rw [show 4 - vs.length = 0 by omega]
      cases ps <;> rfl
  rw [e] at hv
  have h1 := object_why' l
  rw [hv] at h1
  refine ⟨h1, fun y hy => ?_⟩
  have h2 := object_vouches' (l := l) (by rw [hy]; rfl)
  rw [hv, hy] at h2
  have := Option.some.inj h2
  rw [List.append_nil] at this
  exact this
theorem object_brk {l : List UInt8} {vs : List Vouch} {p : List UInt8} {r : List (List UInt8)} (hv : vouchesW 4 (((((((openP l).drop 1).drop 1).drop 1).drop 1).drop 1).drop 1) = (vs ++ (vouchesW (4 - vs.length) (p :: r)).1, (vouchesW (4 - vs.length) (p :: r)).2.1, (vouchesW (4 - vs.length) (p :: r)).2.2)) (hx : vs.length < 4) (hp : p.length ≠ 65) : objectR l = none ∧ endW r (failW (takesW objectK (openP l) (openW l)) 141) = 141 := by
  obtain ⟨k, hk⟩ : ∃ k, 4 - vs.length = k + 1 := ⟨4 - vs.length - 1, by omega⟩
  have e : vouchesW (4 - vs.length) (p :: r) = ([], r, false) := by rw [hk]; exact if_neg hp
  have hw : failW (takesW objectK (openP l) (openW l)) 141 = 141 := by
    obtain ⟨h1, h2⟩ := takesW_open (ks := objectK) (by simp) l
    by_cases hf : fitsP objectK (openP l)
    · rw [h1 hf]; rfl
    · rw [h2 hf]; rfl
  rw [e] at hv
  have h1 := object_why' l
  rw [hv] at h1
  have e2 : (if (vs ++ ([] : List Vouch), r, false).2.2 = true then (takesW objectK (openP l) (openW l)) else failW (takesW objectK (openP l) (openW l)) 141) = 141 := hw
  rw [e2, endW_141] at h1
  refine ⟨?_, by rw [hw, endW_141]⟩
  cases ho : objectR l with
  | none => rfl
  | some y => rw [ho] at h1; exact absurd h1 (by simp)
theorem vouch_step {l : List UInt8} {vs : List Vouch} {p : List UInt8} {r : List (List UInt8)} (hv : vouchesW 4 (((((((openP l).drop 1).drop 1).drop 1).drop 1).drop 1).drop 1) = (vs ++ (vouchesW (4 - vs.length) (p :: r)).1, (vouchesW (4 - vs.length) (p :: r)).2.1, (vouchesW (4 - vs.length) (p :: r)).2.2)) (hx : vs.length < 4) (hp : p.length = 65) : vouchesW 4 (((((((openP l).drop 1).drop 1).drop 1).drop 1).drop 1).drop 1) = ((vs ++ [vouchOf p]) ++ (vouchesW (4 - (vs ++ [vouchOf p]).length) r).1, (vouchesW (4 - (vs ++ [vouchOf p]).length) r).2.1, (vouchesW (4 - (vs ++ [vouchOf p]).length) r).2.2) := by
  obtain ⟨k, hk⟩ : ∃ k, 4 - vs.length = k + 1 := ⟨4 - vs.length - 1, by omega⟩
  have e : vouchesW (4 - vs.length) (p :: r) = (vouchOf p :: (vouchesW k r).1, (vouchesW k r).2.1, (vouchesW k r).2.2) := by rw [hk]; exact if_pos hp
  rw [hv, e, List.length_append, List.length_singleton, show 4 - (vs.length + 1) = k by omega, List.append_assoc]; rfl
abbrev vouchN (p : List UInt8) : Vouch := ⟨(p.headD 0).toNat, zeros 64⟩
theorem vouchN_ok (p : List UInt8) : (vouchN p).ok := ⟨UInt8.toNat_lt _, rfl⟩
theorem el83 : Elem Try.prog 83 202 65 65 (.agg (cat (vouchV vouch0)).toArray) := ⟨Try.underlying83, by kernel_rfl, by kernel_rfl, rfl, by decide⟩
theorem one_vouch {K : List Nat} {w : World} {v : Vouch} (hv : v.ok) (j : Nat) (y : Vouch) (hj : [v][j]? = some y) : vouchR K w ((([Value.agg (cat (vouchV v)).toArray].flatMap (·.cells.toList)).drop (j * 65)).take 65) y := by
  have hj0 : j = 0 := by have := (List.getElem?_eq_some_iff.1 hj).1; simp at this; exact this
  subst hj0
  simp at hj; subst hj
  refine ⟨hv, ?_⟩
  have e : [Value.agg (cat (vouchV v)).toArray].flatMap (·.cells.toList) = cat (vouchV v) := by simp [Value.cells]
  rw [e, Nat.zero_mul, List.drop_zero, List.take_of_length_le (by rw [cat_size (vouchV_len hv)]; decide)]
theorem objectOf_ok {l : List UInt8} {vs : List Vouch} (h : ∀ v ∈ vs, v.ok) : (objectOf (openP l) vs).ok := ⟨takeN_lt _ 1, takeN_lt _ 1, takeB_length _ _, takeN_lt _ 4, takeN_lt _ 4, takeB_length _ _, h⟩
theorem objectOf_nil (l : List UInt8) : (objectOf (openP l) []).ok := objectOf_ok (by simp)
theorem objectR_ok (l : List UInt8) : ((objectR l).getD object0).ok := by
  cases h : objectR l with
  | none => exact object0_ok
  | some x => exact (objectR_iff.1 h).1
theorem newRow {S : List Snap} {H : List Chunk} {w : World} (h : Own S H w) : Own S (arow 202 65 vouchR Mono_vouch none 0 ([] : List Vouch) :: H) w := Own.arow_nil Mono_vouch 202 65 h

theorem getObject_w {S : List Snap} {H : List Chunk} {w : World} (ho : Own S H w) {p : Option Addr} {l : List UInt8} {c : Nat} (hA : Bytes (keys H) w p l c) : Calls Try.prog 71 #[.slice p l.length c] w (Ret fun v w' => ∃ q d, v = .tuple #[.agg (cat (objectV ((objectR l).getD object0) q d)).toArray, .int .i64 (((if (objectR l).isSome then 0 else 141 : Nat)) : Int)] ∧ Own S H w' ∧ Arr 65 vouchR (keys H) w' q ((objectR l).getD object0).vouches d) := by
  refine enter (G := Own (⟨w, keys H⟩ :: S) H) ho.keep Try.func71 rfl Try.ntmps71 rfl ?_
  refine VC.seq ?_
  refine VC.region ?_
  refine VL.alloc (L := objectL) (ps := (objectV (object0) none 0)) zero85 rfl rfl (fun g1 => ?_)
  refine VL.assign rfl ?_
  refine VL.nil ?_
  refine VX.next ?_
  refine VC.seq ?_
  refine VC.region ?_
  refine VL.move rfl ?_
  refine VL.call Try.func121 rfl (by decide) rfl (fun w' hw => open_R hw (hA.now (s := ⟨w, _⟩) Mono.byte hw (by repeat (first | exact List.mem_cons_self .. | apply List.mem_cons_of_mem)))) (fun v => ?_)
  refine VL.ex fun g2 => VL.fact fun e3 => ?_
  subst e3
  refine VL.assign rfl ?_
  refine VL.nil ?_
  refine VX.next ?_
  refine VC.seq ?_
  refine VC.region ?_
  refine VL.move rfl ?_
  refine VL.call Try.func122 rfl (by decide) rfl (fun w' hw => byte_R (i := 0) rfl hw) (fun v => ?_)
  refine VL.fact fun e4 => ?_
  subst e4
  refine VL.turn (G' := Own _ (rch g2 ((openP (l)).drop 1) (lenW (openP (l)) (openW (l)) 1) :: blk g1 85 objectL (objectV (object0) none 0) :: H)) (fun _ h => h) ?_
  refine VL.move rfl ?_
  refine VL.call Try.func122 rfl (by decide) rfl (fun w' hw => byte_R (i := 0) rfl hw) (fun v => ?_)
  refine VL.fact fun e5 => ?_
  subst e5
  refine VL.turn (G' := Own _ (rch g2 (((openP (l)).drop 1).drop 1) (lenW ((openP (l)).drop 1) (lenW (openP (l)) (openW (l)) 1) 1) :: blk g1 85 objectL (objectV (object0) none 0) :: H)) (fun _ h => h) ?_
  refine VL.move rfl ?_
  refine VL.call Try.func129 rfl (by decide) rfl (fun w' hw => key_R (i := 0) rfl hw) (fun v => ?_)
  refine VL.fact fun e6 => ?_
  subst e6
  refine VL.turn (G' := Own _ (rch g2 ((((openP (l)).drop 1).drop 1).drop 1) (lenW (((openP (l)).drop 1).drop 1) (lenW ((openP (l)).drop 1) (lenW (openP (l)) (openW (l)) 1) 1) 32) :: blk g1 85 objectL (objectV (object0) none 0) :: H)) (fun _ h => h) ?_
  refine VL.move rfl ?_
  refine VL.call Try.func132 rfl (by decide) rfl (fun w' hw => num_R (i := 0) rfl hw 4 (by decide) (by decide)) (fun v => ?_)
  refine VL.fact fun e7 => ?_
  subst e7
  refine VL.turn (G' := Own _ (rch g2 (((((openP (l)).drop 1).drop 1).drop 1).drop 1) (lenW ((((openP (l)).drop 1).drop 1).drop 1) (lenW (((openP (l)).drop 1).drop 1) (lenW ((openP (l)).drop 1) (lenW (openP (l)) (openW (l)) 1) 1) 32) 4) :: blk g1 85 objectL (objectV (object0) none 0) :: H)) (fun _ h => h) ?_
  refine VL.conv (by rw [Try.underlying22]; rfl) Try.underlying48 rfl (by have hlt := (takeN_lt ((((openP (l)).drop 1).drop 1).drop 1) 4); simp only [InR]; omega) ?_
  refine VL.move rfl ?_
  refine VL.call Try.func132 rfl (by decide) rfl (fun w' hw => num_R (i := 0) rfl hw 4 (by decide) (by decide)) (fun v => ?_)
  refine VL.fact fun e8 => ?_
  subst e8
  refine VL.turn (G' := Own _ (rch g2 ((((((openP (l)).drop 1).drop 1).drop 1).drop 1).drop 1) (lenW (((((openP (l)).drop 1).drop 1).drop 1).drop 1) (lenW ((((openP (l)).drop 1).drop 1).drop 1) (lenW (((openP (l)).drop 1).drop 1) (lenW ((openP (l)).drop 1) (lenW (openP (l)) (openW (l)) 1) 1) 32) 4) 4) :: blk g1 85 objectL (objectV (object0) none 0) :: H)) (fun _ h => h) ?_
  refine VL.conv (by rw [Try.underlying22]; rfl) Try.underlying48 rfl (by have hlt := (takeN_lt (((((openP (l)).drop 1).drop 1).drop 1).drop 1) 4); simp only [InR]; omega) ?_
  refine VL.move rfl ?_
  refine VL.call Try.func131 rfl (by decide) rfl (fun w' hw => sig_R (i := 0) rfl hw) (fun v => ?_)
  refine VL.fact fun e9 => ?_
  subst e9
  refine VL.turn (G' := Own _ (rch g2 (((((((openP (l)).drop 1).drop 1).drop 1).drop 1).drop 1).drop 1) (lenW ((((((openP (l)).drop 1).drop 1).drop 1).drop 1).drop 1) (lenW (((((openP (l)).drop 1).drop 1).drop 1).drop 1) (lenW ((((openP (l)).drop 1).drop 1).drop 1) (lenW (((openP (l)).drop 1).drop 1) (lenW ((openP (l)).drop 1) (lenW (openP (l)) (openW (l)) 1) 1) 32) 4) 4) 64) :: blk g1 85 objectL (objectV (object0) none 0) :: H)) (fun _ h => h) ?_
  refine VL.build (zs := objectZ) (L := objectFL) [(0, [.int .u8 (takeN (openP (l)) 1)]), (1, [.int .u8 (takeN ((openP (l)).drop 1) 1)]), (2, (takeB 32 (((openP (l)).drop 1).drop 1)).map bv), (3, [.int .u32 (takeN ((((openP (l)).drop 1).drop 1).drop 1) 4)]), (4, [.int .u32 (takeN (((((openP (l)).drop 1).drop 1).drop 1).drop 1) 4)]), (5, (takeB 64 ((((((openP (l)).drop 1).drop 1).drop 1).drop 1).drop 1)).map bv)] plan85 rfl ⟨⟨rfl, ⟨_, rfl, rfl⟩, rfl⟩, ⟨⟨rfl, ⟨_, rfl, rfl⟩, rfl⟩, ⟨⟨rfl, ⟨_, rfl, rfl⟩, (arr_q (takeB_length (((openP (l)).drop 1).drop 1) 32))⟩, ⟨⟨rfl, ⟨_, rfl, rfl⟩, rfl⟩, ⟨⟨rfl, ⟨_, rfl, rfl⟩, rfl⟩, ⟨⟨rfl, ⟨_, rfl, rfl⟩, (arr_q (takeB_length ((((((openP (l)).drop 1).drop 1).drop 1).drop 1).drop 1) 64))⟩, trivial⟩⟩⟩⟩⟩⟩ rfl ?_
  refine VL.newv (v' := .agg (cat (objectV ((objectOf (openP l) [])) none 0)).toArray) rfl ?_
  refine VL.alloc (L := objectL) (ps := (objectV (object0) none 0)) zero85 rfl rfl (fun g10 => ?_)
  refine VL.store (L := objectL) (qs := (objectV ((objectOf (openP l) [])) none 0)) (ps' := (objectV ((objectOf (openP l) [])) none 0)) 0 0 7 rfl rfl rfl (.inl kd85) rfl rfl (objectV_len (objectOf_nil l)) (objectV_ok1 ((objectOf (openP l) [])) none 0) rfl rfl ?_
  refine VL.turn (G' := Own _ (blk g10 85 objectL (objectV ((objectOf (openP l) [])) none 0) :: rch g2 (((((((openP (l)).drop 1).drop 1).drop 1).drop 1).drop 1).drop 1) (lenW ((((((openP (l)).drop 1).drop 1).drop 1).drop 1).drop 1) (lenW (((((openP (l)).drop 1).drop 1).drop 1).drop 1) (lenW ((((openP (l)).drop 1).drop 1).drop 1) (lenW (((openP (l)).drop 1).drop 1) (lenW ((openP (l)).drop 1) (lenW (openP (l)) (openW (l)) 1) 1) 32) 4) 4) 64) :: blk g1 85 objectL (objectV (object0) none 0) :: H)) (fun _ h => h) ?_
  refine VL.nil ?_
  refine VX.next ?_
  refine VC.seq ?_
  refine VC.block ?_
  refine VC.turn (G' := Own _ (arow 202 65 vouchR Mono_vouch none 0 ([] : List Vouch) :: blk g10 85 objectL (objectV ((objectOf (openP l) [])) none 0) :: rch g2 (((((((openP (l)).drop 1).drop 1).drop 1).drop 1).drop 1).drop 1) (lenW ((((((openP (l)).drop 1).drop 1).drop 1).drop 1).drop 1) (lenW (((((openP (l)).drop 1).drop 1).drop 1).drop 1) (lenW ((((openP (l)).drop 1).drop 1).drop 1) (lenW (((openP (l)).drop 1).drop 1) (lenW ((openP (l)).drop 1) (lenW (openP (l)) (openW (l)) 1) 1) 32) 4) 4) 64) :: blk g1 85 objectL (objectV (object0) none 0) :: H)) (fun w' h => newRow h) ?_
  refine VC.loop (X := List Vouch × List (List UInt8) × Option Nat × Nat) (fun _ => [(4, .pointer (some ⟨g2, 0, none⟩)), (5, .pointer (some ⟨g10, 0, none⟩)), (2, .pointer (some ⟨g1, 0, none⟩))]) (fun (vs, ps, gv, cv) w' => (vs.length ≤ 4 ∧ (∀ v ∈ vs, v.ok) ∧ vouchesW 4 (((((((openP l).drop 1).drop 1).drop 1).drop 1).drop 1).drop 1) = (vs ++ (vouchesW (4 - vs.length) ps).1, (vouchesW (4 - vs.length) ps).2.1, (vouchesW (4 - vs.length) ps).2.2)) ∧ Own (⟨w, keys H⟩ :: S) (arow 202 65 vouchR Mono_vouch gv cv vs :: blk g10 85 objectL (objectV ((objectOf (openP l) vs)) (gv.map fun g => (⟨g, 0, none⟩ : Addr)) cv) :: rch g2 ps (lenW ((((((openP (l)).drop 1).drop 1).drop 1).drop 1).drop 1) (lenW (((((openP (l)).drop 1).drop 1).drop 1).drop 1) (lenW ((((openP (l)).drop 1).drop 1).drop 1) (lenW (((openP (l)).drop 1).drop 1) (lenW ((openP (l)).drop 1) (lenW (openP (l)) (openW (l)) 1) 1) 32) 4) 4) 64) :: blk g1 85 objectL (objectV (object0) none 0) :: H) w') (fun (_, ps, _) => ps.length) ([], (((((((openP (l)).drop 1).drop 1).drop 1).drop 1).drop 1).drop 1), none, 0) ⟨rfl, rfl, rfl, trivial⟩ (fun w' h => ⟨⟨Nat.zero_le _, by simp, rfl⟩, h⟩) (fun (vs, ps, gv, cv) => VC.fact fun ⟨hn, hvs, hveq⟩ => ?_)
  · skip
    refine VC.seq ?_
    refine VC.seq ?_
    refine VC.region ?_
    refine VL.move rfl ?_
    refine VL.nilCheck rfl ?_
    refine VL.fieldAddr rfl fo196_0 rfl ?_
    refine loadParts 2 rfl rfl (fun p11 c12 w13 hO14 hA15 => ?_)
    refine VL.len Try.underlying31 rfl rfl ?_
    refine VL.gtr rfl rfl ?_
    refine VL.case (fun h3_5 => ?_) (fun h3_5 => ?_)
    · obtain ⟨pc, rest, rfl⟩ : ∃ pc rest, ps = pc :: rest := by
        cases ps with
        | nil => exact absurd h3_5 (by simp)
        | cons a b => exact ⟨a, b, rfl⟩
      refine VL.move rfl ?_
      refine VL.go rfl rfl rfl ?_
      refine VL.fieldAddr rfl fo85_6 rfl ?_
      refine VL.go rfl rfl rfl ?_
      refine VL.load (v := .slice (gv.map fun g => (⟨g, 0, none⟩ : Addr)) ((objectOf (openP l) vs).vouches).length cv) 1 6 rfl kd83 (fun _ h => h) rfl rfl rfl ?_
      refine VL.go rfl rfl rfl ?_
      refine VL.len Try.underlying83 rfl rfl ?_
      refine VL.go rfl rfl rfl ?_
      refine VL.lss rfl rfl ?_
      refine VL.case (fun h3_10 => ?_) (fun h3_10 => ?_)
      · have h3_10 : vs.length < 4 := by have h : ((vs.length : Nat) : Int) < 4 := h3_10; omega
        refine VL.pick_t rfl rfl ?_
        refine VL.nil ?_
        refine VX.next ?_
        refine VC.yes rfl ?_
        refine VC.skip ?_
        refine VX.next ?_
        refine VC.block ?_
        refine VC.seq ?_
        refine VC.region ?_
        refine VL.move rfl ?_
        refine VL.call Try.func124 rfl (by decide) rfl (fun w' hw => piece_R (i := 2) rfl hw) (fun v => ?_)
        refine VL.at (fun w16 h1w => ?_)
        obtain ⟨p17, c18, rfl, hO20, hA19⟩ := h1w
        replace hO20 : Own _ (arow 202 65 vouchR Mono_vouch gv cv vs :: blk g10 85 objectL (objectV ((objectOf (openP l) vs)) (gv.map fun g => (⟨g, 0, none⟩ : Addr)) cv) :: rch g2 rest (lenW ((((((openP (l)).drop 1).drop 1).drop 1).drop 1).drop 1) (lenW (((((openP (l)).drop 1).drop 1).drop 1).drop 1) (lenW ((((openP (l)).drop 1).drop 1).drop 1) (lenW (((openP (l)).drop 1).drop 1) (lenW ((openP (l)).drop 1) (lenW (openP (l)) (openW (l)) 1) 1) 32) 4) 4) 64) :: blk g1 85 objectL (objectV (object0) none 0) :: H) w16 := hO20
        replace hA19 : Bytes (keys (arow 202 65 vouchR Mono_vouch gv cv vs :: blk g10 85 objectL (objectV ((objectOf (openP l) vs)) (gv.map fun g => (⟨g, 0, none⟩ : Addr)) cv) :: rch g2 rest (lenW ((((((openP (l)).drop 1).drop 1).drop 1).drop 1).drop 1) (lenW (((((openP (l)).drop 1).drop 1).drop 1).drop 1) (lenW ((((openP (l)).drop 1).drop 1).drop 1) (lenW (((openP (l)).drop 1).drop 1) (lenW ((openP (l)).drop 1) (lenW (openP (l)) (openW (l)) 1) 1) 32) 4) 4) 64) :: blk g1 85 objectL (objectV (object0) none 0) :: H)) w16 p17 (pc) c18 := hA19
        refine VL.toOwn hO20 ?_
        refine VL.assign rfl ?_
        refine VL.nil ?_
        refine VX.next ?_
        refine VC.seq ?_
        refine VC.seq ?_
        refine VC.region ?_
        refine VL.move rfl ?_
        refine VL.len Try.underlying24 rfl rfl ?_
        refine VL.neq rfl rfl ?_
        refine VL.case (fun h5_2 => ?_) (fun h5_2 => ?_)
        · have hpc : pc.length ≠ 65 := by have h : ((pc.length : Nat) : Int) ≠ 65 := h5_2; omega
          refine VL.nil ?_
          refine VX.next ?_
          refine VC.yes rfl ?_
          refine VC.seq ?_
          refine VC.region ?_
          refine VL.move rfl ?_
          refine VL.call Try.func125 rfl (by decide) rfl (fun w' hw => fail_R (i := 2) rfl hw (141)) (fun v => ?_)
          refine VL.fact fun e21 => ?_
          subst e21
          refine VL.turn (G' := Own _ (arow 202 65 vouchR Mono_vouch gv cv vs :: blk g10 85 objectL (objectV ((objectOf (openP l) vs)) (gv.map fun g => (⟨g, 0, none⟩ : Addr)) cv) :: rch g2 rest (failW (lenW ((((((openP (l)).drop 1).drop 1).drop 1).drop 1).drop 1) (lenW (((((openP (l)).drop 1).drop 1).drop 1).drop 1) (lenW ((((openP (l)).drop 1).drop 1).drop 1) (lenW (((openP (l)).drop 1).drop 1) (lenW ((openP (l)).drop 1) (lenW (openP (l)) (openW (l)) 1) 1) 32) 4) 4) 64) (141)) :: blk g1 85 objectL (objectV (object0) none 0) :: H)) (fun _ h => h) ?_
          refine VL.nil ?_
          refine VX.next ?_
          refine VC.exit ?_
          refine VX.then_exit ?_
          refine VX.block_past rfl ?_
          refine VX.then_exit ?_
          refine VX.block_here ?_
          refine VX.next ?_
          refine VC.seq ?_
          refine VC.seq ?_
          refine VC.letArr (fun wr hOr hAr => ?_)
          refine VC.region ?_
          refine VL.move rfl ?_
          refine VL.call Try.func126 rfl (by decide) rfl (fun w' hw => end_R (i := 1) rfl hw) (fun v => ?_)
          refine VL.fact fun e22 => ?_
          subst e22
          refine VL.turn (G' := Own _ (blk g10 85 objectL (objectV ((objectOf (openP l) vs)) (gv.map fun g => (⟨g, 0, none⟩ : Addr)) cv) :: rch g2 rest (endW rest (failW (lenW ((((((openP (l)).drop 1).drop 1).drop 1).drop 1).drop 1) (lenW (((((openP (l)).drop 1).drop 1).drop 1).drop 1) (lenW ((((openP (l)).drop 1).drop 1).drop 1) (lenW (((openP (l)).drop 1).drop 1) (lenW ((openP (l)).drop 1) (lenW (openP (l)) (openW (l)) 1) 1) 32) 4) 4) 64) (141))) :: blk g1 85 objectL (objectV (object0) none 0) :: H)) (fun _ h => h) ?_
          refine VL.assign rfl ?_
          refine VL.nil ?_
          refine VX.next ?_
          refine VC.seq ?_
          refine VC.region ?_
          refine VL.move rfl ?_
          refine VL.neq rfl rfl ?_
          refine VL.case (fun h11_1 => ?_) (fun h11_1 => ?_)
          · refine VL.nil ?_
            refine VX.next ?_
            refine VC.yes rfl ?_
            refine VC.seq ?_
            refine VC.region ?_
            refine VL.build0 (cs := cat (objectV (object0) none 0)) built85 ?_
            refine VL.move rfl ?_
            refine VL.store (L := objectL) (qs := (objectV (object0) none 0)) (ps' := (objectV (object0) none 0)) 2 0 7 rfl rfl rfl (.inl kd85) rfl rfl rfl (objectV_ok1 object0 none 0) rfl rfl ?_
            refine VL.turn (G' := Own _ (blk g10 85 objectL (objectV ((objectOf (openP l) vs)) (gv.map fun g => (⟨g, 0, none⟩ : Addr)) cv) :: rch g2 rest (endW rest (failW (lenW ((((((openP (l)).drop 1).drop 1).drop 1).drop 1).drop 1) (lenW (((((openP (l)).drop 1).drop 1).drop 1).drop 1) (lenW ((((openP (l)).drop 1).drop 1).drop 1) (lenW (((openP (l)).drop 1).drop 1) (lenW ((openP (l)).drop 1) (lenW (openP (l)) (openW (l)) 1) 1) 32) 4) 4) 64) (141))) :: blk g1 85 objectL (objectV (object0) none 0) :: H)) (fun _ h => h) ?_
            refine VL.assign rfl ?_
            refine VL.nil ?_
            refine VX.next ?_
            refine VC.ret ?_
            refine VX.then_ret ?_
            refine VX.ret_cell (cs := cat (objectV (object0) none 0)) 2 rfl rfl rfl kd85 (fun _ h => h) rfl rfl (fun we hw => ?_)
            obtain ⟨e1, e2⟩ := object_brk hveq h3_10 hpc
            exact ⟨none, 0, by rw [e1]; exact congrArg (fun n : Nat => Value.tuple #[_, .int .i64 (n : Int)]) e2, hw.drop.drop.drop.sub (fun _ hs => by repeat (first | exact hs | apply List.mem_cons_of_mem)), by rw [e1]; exact Arr.none⟩
          · refine VL.nil ?_
            refine VX.next ?_
            refine VC.no rfl ?_
            refine VC.skip ?_
            refine VX.next ?_
            refine VC.seq ?_
            refine VC.region ?_
            refine VL.loads (cs := cat (objectV ((objectOf (openP l) vs)) (gv.map fun g => (⟨g, 0, none⟩ : Addr)) cv)) 0 0 7 rfl kd85 (fun _ h => h) rfl rfl rfl rfl ?_
            refine VL.store (L := objectL) (qs := (objectV ((objectOf (openP l) vs)) (gv.map fun g => (⟨g, 0, none⟩ : Addr)) cv)) (ps' := (objectV ((objectOf (openP l) vs)) (gv.map fun g => (⟨g, 0, none⟩ : Addr)) cv)) 2 0 7 rfl rfl rfl (.inl kd85) rfl rfl (objectV_len (objectOf_ok hvs)) (objectV_ok1 ((objectOf (openP l) vs)) (gv.map fun g => (⟨g, 0, none⟩ : Addr)) cv) rfl rfl ?_
            refine VL.turn (G' := Own _ (blk g10 85 objectL (objectV ((objectOf (openP l) vs)) (gv.map fun g => (⟨g, 0, none⟩ : Addr)) cv) :: rch g2 rest (endW rest (failW (lenW ((((((openP (l)).drop 1).drop 1).drop 1).drop 1).drop 1) (lenW (((((openP (l)).drop 1).drop 1).drop 1).drop 1) (lenW ((((openP (l)).drop 1).drop 1).drop 1) (lenW (((openP (l)).drop 1).drop 1) (lenW ((openP (l)).drop 1) (lenW (openP (l)) (openW (l)) 1) 1) 32) 4) 4) 64) (141))) :: blk g1 85 objectL (objectV ((objectOf (openP l) vs)) (gv.map fun g => (⟨g, 0, none⟩ : Addr)) cv) :: H)) (fun _ h => h) ?_
            refine VL.assign rfl ?_
            refine VL.nil ?_
            refine VX.next ?_
            refine VC.ret ?_
            refine VX.ret_cell (cs := cat (objectV ((objectOf (openP l) vs)) (gv.map fun g => (⟨g, 0, none⟩ : Addr)) cv)) 2 rfl rfl rfl (by rw [cat_size (objectV_len (objectOf_ok hvs))]; exact kd85) (fun _ h => h) rfl rfl (fun we hw => ?_)
            exact absurd (fun e => absurd ((congrArg (fun n : Nat => (n : Int)) (object_brk hveq h3_10 hpc).2).symm.trans e) (by decide)) h11_1
        · have hpc : pc.length = 65 := by have h : ¬ ((pc.length : Nat) : Int) ≠ 65 := h5_2; omega
          refine VL.nil ?_
          refine VX.next ?_
          refine VC.no rfl ?_
          refine VC.skip ?_
          refine VX.next ?_
          refine VC.seq ?_
          refine VC.region ?_
          refine VL.move rfl ?_
          refine VL.index (xs := pc) rfl rfl Try.underlying24 sz24 hA19 (by omega) (by omega) ?_
          refine VL.byte (s := ⟨w16, _⟩) rfl kd5 (fun _ h => h) (by repeat (first | exact List.mem_cons_self .. | apply List.mem_cons_of_mem)) hA19 (y := pc.headD 0) (by
            show pc[0]? = _
            cases pc with
            | nil => simp at hpc
            | cons a r => rfl) ?_
          refine VL.build (zs := vouchZ) (L := vouchFL) [(0, [.int .u8 ((pc.headD 0).toNat)])] plan202 rfl ⟨⟨rfl, ⟨_, rfl, rfl⟩, rfl⟩, trivial⟩ rfl ?_
          refine VL.newv (v' := .agg (cat (vouchV ((vouchN pc)))).toArray) rfl ?_
          refine VL.alloc (L := vouchL) (ps := (vouchV (vouch0))) zero202 rfl rfl (fun g23 => ?_)
          refine VL.store (L := vouchL) (qs := (vouchV ((vouchN pc)))) (ps' := (vouchV ((vouchN pc)))) 0 0 2 rfl rfl rfl (.inl kd202) rfl rfl (vouchV_len (vouchN_ok pc)) (vouchV_ok1 ((vouchN pc))) rfl rfl ?_
          refine VL.turn (G' := Own _ (blk g23 202 vouchL (vouchV ((vouchN pc))) :: arow 202 65 vouchR Mono_vouch gv cv vs :: blk g10 85 objectL (objectV ((objectOf (openP l) vs)) (gv.map fun g => (⟨g, 0, none⟩ : Addr)) cv) :: rch g2 rest (lenW ((((((openP (l)).drop 1).drop 1).drop 1).drop 1).drop 1) (lenW (((((openP (l)).drop 1).drop 1).drop 1).drop 1) (lenW ((((openP (l)).drop 1).drop 1).drop 1) (lenW (((openP (l)).drop 1).drop 1) (lenW ((openP (l)).drop 1) (lenW (openP (l)) (openW (l)) 1) 1) 32) 4) 4) 64) :: blk g1 85 objectL (objectV (object0) none 0) :: H)) (fun _ h => h) ?_
          refine VL.nil ?_
          refine VX.next ?_
          refine VC.seq ?_
          apply VC.anyTA 4 1005 (F := [eqF _, eqF _, eqF _, eqF _]) [⟨[], [7]⟩, ⟨[(49, 0)], []⟩, ⟨[], [6]⟩, ⟨[(51, 2)], []⟩] [(50, 1), (52, 3)] [0, 2, 3, 4, 5, 6, 7, 8, 9, 10, 11, 12, 13, 14, 15, 16, 17, 18, 19, 20, 21, 22, 23, 24, 25, 26, 27, 28, 29, 30, 31, 32, 33, 34, 35, 36, 37, 38, 39, 40, 41, 42, 43, 45, 46, 47, 48, 54, 55, 56, 57, 58, 59, 60, 61, 62, 63, 64, 65, 66] rfl (by kernel_rfl) (by kernel_rfl) rfl rfl (by kernel_rfl) (by kernel_rfl) (by kernel_rfl) rfl ?obs8 ?end8
          case obs8 =>
            refine Obs.cons ?_ ?_
            · refine obS (by kernel_rfl) rfl rfl (fun ph8 w8 hO8 => ?_)
              refine VL.fieldAddr rfl fo202_1 rfl ?_
              exact VL.finS hO8 rfl rfl
            refine Obs.cons ?_ ?_
            · refine obS (by kernel_rfl) rfl rfl (fun ph8 w8 hO8 => ?_)
              rintro _ rfl
              refine VL.sliceArrAt Try.underlying80 (by kernel_rfl) rfl ?_
              exact VL.finS hO8 rfl rfl
            refine Obs.cons ?_ ?_
            · refine obS (by kernel_rfl) rfl rfl (fun ph8 w8 hO8 => ?_)
              refine VL.move rfl ?_
              exact VL.finS hO8 rfl rfl
            refine Obs.cons ?_ ?_
            · refine obS (by kernel_rfl) rfl rfl (fun ph8 w8 hO8 => ?_)
              rintro _ rfl
              refine VL.dropE (l := pc) 1 rfl rfl Try.underlying24 sz24 (by omega) hA19.le ?_
              exact VL.finS hO8 rfl rfl
            exact Obs.nil
          case end8 =>
            intro w8 hO8
            rintro _ rfl _ rfl
            refine VL.toOwn hO8 ?_
            refine VL.copyPart (l := pc.drop 1) (ps' := vouchV (vouchOf pc)) 0 1 rfl Try.underlying24 (by kernel_rfl) rfl rfl rfl rfl rfl (by rw [List.length_drop]; omega) (by decide) (fun _ hw => (Arr.now (s := ⟨w16, _⟩) (hA19.drop 1 (Nat.le_trans (by omega) hA19.le)) Mono.byte hw (by repeat (first | exact List.mem_cons_self .. | apply List.mem_cons_of_mem))).bytes) rfl rfl (fun _ => ?_)
            refine VL.nil ?_
            refine VX.next ?_
            refine VC.region ?_
            refine VL.fieldAddr rfl fo85_6 rfl ?_
            refine VL.load (v := .slice (gv.map fun g => (⟨g, 0, none⟩ : Addr)) ((objectOf (openP l) vs).vouches).length cv) 2 6 rfl kd83 (fun _ h => h) rfl rfl rfl ?_
            refine VL.loads (cs := cat (vouchV ((vouchOf pc)))) 0 0 2 rfl kd202 (fun _ h => h) rfl rfl rfl rfl ?_
            refine VL.lit el83 rfl rfl rfl (by intro v hv; simp only [List.mem_singleton] at hv; subst hv; show (cat (vouchV (vouchOf pc))).toArray.size = 65; rw [List.size_toArray, cat_size (vouchV_len (vouchOf_ok hpc))]; rfl) (by rw [show [Value.agg (cat (vouchV (vouchOf pc))).toArray].flatMap (·.cells.toList) = cat (vouchV (vouchOf pc)) by simp [Value.cells]]; exact vouchV_ok1 _) (fun gl => ?_)
            refine VL.letRow vouchR [vouchOf pc] rfl (fun w' hw => one_vouch (vouchOf_ok hpc)) (fun wl hOl hAl => ?_)
            refine VL.appends (R := vouchR) (hR := Mono_vouch) (ys := vs) (zs := [vouchOf pc]) 1 el83 rfl rfl rfl (fun _ h => h) rfl (fun _ hw => (hAl.now (s := ⟨wl, _⟩) Mono_vouch hw (by repeat (first | exact List.mem_cons_self .. | apply List.mem_cons_of_mem)))) (fun _ _ _ _ h => by obtain ⟨_, rfl⟩ := h; exact vouchV_ok1 _) (by simp only [List.length_cons, List.length_nil]; omega) (fun gv2 cv2 => ?_) (by simp only [List.length_cons, List.length_nil]; omega)
            refine VL.turn (G' := Own _ (blk g23 202 vouchL (vouchV ((vouchOf pc))) :: arow 202 65 vouchR Mono_vouch gv2 cv2 (vs ++ [vouchOf pc]) :: blk g10 85 objectL (objectV ((objectOf (openP l) vs)) (gv.map fun g => (⟨g, 0, none⟩ : Addr)) cv) :: rch g2 rest (lenW ((((((openP (l)).drop 1).drop 1).drop 1).drop 1).drop 1) (lenW (((((openP (l)).drop 1).drop 1).drop 1).drop 1) (lenW ((((openP (l)).drop 1).drop 1).drop 1) (lenW (((openP (l)).drop 1).drop 1) (lenW ((openP (l)).drop 1) (lenW (openP (l)) (openW (l)) 1) 1) 32) 4) 4) 64) :: blk g1 85 objectL (objectV (object0) none 0) :: H)) (fun _ h => h) ?_
            refine VL.fieldAddr rfl fo85_6 rfl ?_
            refine VL.store (L := objectL) (qs := [[rowV gv2 (vs ++ [vouchOf pc]).length cv2]]) (ps' := (objectV ((objectOf (openP l) (vs ++ [vouchOf pc]))) (gv2.map fun g => (⟨g, 0, none⟩ : Addr)) cv2)) 2 6 1 rfl rfl rfl (.inr ⟨kd83, rfl⟩) rfl rfl rfl (by intro u hu; simp [cat] at hu; subst hu; rfl) rfl rfl ?_
            refine VL.turn (G' := Own _ (blk g23 202 vouchL (vouchV ((vouchOf pc))) :: arow 202 65 vouchR Mono_vouch gv2 cv2 (vs ++ [vouchOf pc]) :: blk g10 85 objectL (objectV ((objectOf (openP l) (vs ++ [vouchOf pc]))) (gv2.map fun g => (⟨g, 0, none⟩ : Addr)) cv2) :: rch g2 rest (lenW ((((((openP (l)).drop 1).drop 1).drop 1).drop 1).drop 1) (lenW (((((openP (l)).drop 1).drop 1).drop 1).drop 1) (lenW ((((openP (l)).drop 1).drop 1).drop 1) (lenW (((openP (l)).drop 1).drop 1) (lenW ((openP (l)).drop 1) (lenW (openP (l)) (openW (l)) 1) 1) 32) 4) 4) 64) :: blk g1 85 objectL (objectV (object0) none 0) :: H)) (fun _ h => h) ?_
            refine VL.nil ?_
            refine VX.block_normal ?_
            refine VX.round (vs ++ [vouchOf pc], rest, gv2, cv2) ⟨rfl, rfl, rfl, trivial⟩ (fun w' h => ⟨⟨by rw [List.length_append, List.length_singleton]; omega, fun v hv => ?_, vouch_step hveq (by omega) hpc⟩, (h.drop).sub (fun _ hs => by repeat (first | exact hs | apply List.mem_cons_of_mem))⟩) (by show rest.length < (pc :: rest).length; simp)
            rw [List.mem_append, List.mem_singleton] at hv
            rcases hv with hv | rfl
            · exact hvs v hv
            · exact vouchOf_ok hpc
      · have h3_10 : 4 ≤ vs.length := by have h : ¬ ((vs.length : Nat) : Int) < 4 := h3_10; omega
        refine VL.pick_t rfl rfl ?_
        refine VL.nil ?_
        refine VX.next ?_
        refine VC.no rfl ?_
        refine VC.exit ?_
        refine VX.then_exit ?_
        refine VX.then_exit ?_
        refine VX.block_here ?_
        refine VX.next ?_
        refine VC.seq ?_
        refine VC.seq ?_
        refine VC.letArr (fun wr hOr hAr => ?_)
        refine VC.region ?_
        refine VL.move rfl ?_
        refine VL.call Try.func126 rfl (by decide) rfl (fun w' hw => end_R (i := 1) rfl hw) (fun v => ?_)
        refine VL.fact fun e24 => ?_
        subst e24
        refine VL.turn (G' := Own _ (blk g10 85 objectL (objectV ((objectOf (openP l) vs)) (gv.map fun g => (⟨g, 0, none⟩ : Addr)) cv) :: rch g2 (pc :: rest) (endW (pc :: rest) (lenW ((((((openP (l)).drop 1).drop 1).drop 1).drop 1).drop 1) (lenW (((((openP (l)).drop 1).drop 1).drop 1).drop 1) (lenW ((((openP (l)).drop 1).drop 1).drop 1) (lenW (((openP (l)).drop 1).drop 1) (lenW ((openP (l)).drop 1) (lenW (openP (l)) (openW (l)) 1) 1) 32) 4) 4) 64)) :: blk g1 85 objectL (objectV (object0) none 0) :: H)) (fun _ h => h) ?_
        refine VL.assign rfl ?_
        refine VL.nil ?_
        refine VX.next ?_
        refine VC.seq ?_
        refine VC.region ?_
        refine VL.move rfl ?_
        refine VL.neq rfl rfl ?_
        refine VL.case (fun h11_1 => ?_) (fun h11_1 => ?_)
        · refine VL.nil ?_
          refine VX.next ?_
          refine VC.yes rfl ?_
          refine VC.seq ?_
          refine VC.region ?_
          refine VL.build0 (cs := cat (objectV (object0) none 0)) built85 ?_
          refine VL.move rfl ?_
          refine VL.store (L := objectL) (qs := (objectV (object0) none 0)) (ps' := (objectV (object0) none 0)) 2 0 7 rfl rfl rfl (.inl kd85) rfl rfl rfl (objectV_ok1 object0 none 0) rfl rfl ?_
          refine VL.turn (G' := Own _ (blk g10 85 objectL (objectV ((objectOf (openP l) vs)) (gv.map fun g => (⟨g, 0, none⟩ : Addr)) cv) :: rch g2 (pc :: rest) (endW (pc :: rest) (lenW ((((((openP (l)).drop 1).drop 1).drop 1).drop 1).drop 1) (lenW (((((openP (l)).drop 1).drop 1).drop 1).drop 1) (lenW ((((openP (l)).drop 1).drop 1).drop 1) (lenW (((openP (l)).drop 1).drop 1) (lenW ((openP (l)).drop 1) (lenW (openP (l)) (openW (l)) 1) 1) 32) 4) 4) 64)) :: blk g1 85 objectL (objectV (object0) none 0) :: H)) (fun _ h => h) ?_
          refine VL.assign rfl ?_
          refine VL.nil ?_
          refine VX.next ?_
          refine VC.ret ?_
          refine VX.then_ret ?_
          refine VX.ret_cell (cs := cat (objectV (object0) none 0)) 2 rfl rfl rfl kd85 (fun _ h => h) rfl rfl (fun we hw => ?_)
          obtain ⟨hfin, _⟩ := object_fin hveq (.inr h3_10)
          obtain ⟨e1, e2⟩ := why_none h11_1 hfin
          exact ⟨none, 0, by rw [e1]; exact congrArg (fun n : Nat => Value.tuple #[_, .int .i64 (n : Int)]) e2, hw.drop.drop.drop.sub (fun _ hs => by repeat (first | exact hs | apply List.mem_cons_of_mem)), by rw [e1]; exact Arr.none⟩
        · refine VL.nil ?_
          refine VX.next ?_
          refine VC.no rfl ?_
          refine VC.skip ?_
          refine VX.next ?_
          refine VC.seq ?_
          refine VC.region ?_
          refine VL.loads (cs := cat (objectV ((objectOf (openP l) vs)) (gv.map fun g => (⟨g, 0, none⟩ : Addr)) cv)) 0 0 7 rfl kd85 (fun _ h => h) rfl rfl rfl rfl ?_
          refine VL.store (L := objectL) (qs := (objectV ((objectOf (openP l) vs)) (gv.map fun g => (⟨g, 0, none⟩ : Addr)) cv)) (ps' := (objectV ((objectOf (openP l) vs)) (gv.map fun g => (⟨g, 0, none⟩ : Addr)) cv)) 2 0 7 rfl rfl rfl (.inl kd85) rfl rfl (objectV_len (objectOf_ok hvs)) (objectV_ok1 ((objectOf (openP l) vs)) (gv.map fun g => (⟨g, 0, none⟩ : Addr)) cv) rfl rfl ?_
          refine VL.turn (G' := Own _ (blk g10 85 objectL (objectV ((objectOf (openP l) vs)) (gv.map fun g => (⟨g, 0, none⟩ : Addr)) cv) :: rch g2 (pc :: rest) (endW (pc :: rest) (lenW ((((((openP (l)).drop 1).drop 1).drop 1).drop 1).drop 1) (lenW (((((openP (l)).drop 1).drop 1).drop 1).drop 1) (lenW ((((openP (l)).drop 1).drop 1).drop 1) (lenW (((openP (l)).drop 1).drop 1) (lenW ((openP (l)).drop 1) (lenW (openP (l)) (openW (l)) 1) 1) 32) 4) 4) 64)) :: blk g1 85 objectL (objectV ((objectOf (openP l) vs)) (gv.map fun g => (⟨g, 0, none⟩ : Addr)) cv) :: H)) (fun _ h => h) ?_
          refine VL.assign rfl ?_
          refine VL.nil ?_
          refine VX.next ?_
          refine VC.ret ?_
          refine VX.ret_cell (cs := cat (objectV ((objectOf (openP l) vs)) (gv.map fun g => (⟨g, 0, none⟩ : Addr)) cv)) 2 rfl rfl rfl (by rw [cat_size (objectV_len (objectOf_ok hvs))]; exact kd85) (fun _ h => h) rfl rfl (fun we hw => ?_)
          obtain ⟨hfin, hy2⟩ := object_fin hveq (.inr h3_10)
          obtain ⟨y, e1⟩ := why_some h11_1 hfin
          have e3 := hy2 y e1
          rw [e1, e3]
          exact ⟨_, _, rfl, hw.drop.drop.drop.sub (fun _ hs => by repeat (first | exact hs | apply List.mem_cons_of_mem)), hAr.now (s := ⟨wr, _⟩) Mono_vouch hw.drop.drop.drop (by repeat (first | exact List.mem_cons_self .. | apply List.mem_cons_of_mem))⟩
    · obtain rfl : ps = [] := List.eq_nil_of_length_eq_zero (by omega)
      refine VL.move rfl ?_
      refine VL.pass rfl rfl rfl rfl rfl ?_
      refine VL.pass rfl rfl rfl rfl rfl ?_
      refine VL.pass rfl rfl rfl rfl rfl ?_
      refine VL.pass rfl rfl rfl rfl rfl ?_
      refine VL.pick_f rfl rfl ?_
      refine VL.nil ?_
      refine VX.next ?_
      refine VC.no rfl ?_
      refine VC.exit ?_
      refine VX.then_exit ?_
      refine VX.then_exit ?_
      refine VX.block_here ?_
      refine VX.next ?_
      refine VC.seq ?_
      refine VC.seq ?_
      refine VC.letArr (fun wr hOr hAr => ?_)
      refine VC.region ?_
      refine VL.move rfl ?_
      refine VL.call Try.func126 rfl (by decide) rfl (fun w' hw => end_R (i := 1) rfl hw) (fun v => ?_)
      refine VL.fact fun e25 => ?_
      subst e25
      refine VL.turn (G' := Own _ (blk g10 85 objectL (objectV ((objectOf (openP l) vs)) (gv.map fun g => (⟨g, 0, none⟩ : Addr)) cv) :: rch g2 ([] : List (List UInt8)) (endW ([] : List (List UInt8)) (lenW ((((((openP (l)).drop 1).drop 1).drop 1).drop 1).drop 1) (lenW (((((openP (l)).drop 1).drop 1).drop 1).drop 1) (lenW ((((openP (l)).drop 1).drop 1).drop 1) (lenW (((openP (l)).drop 1).drop 1) (lenW ((openP (l)).drop 1) (lenW (openP (l)) (openW (l)) 1) 1) 32) 4) 4) 64)) :: blk g1 85 objectL (objectV (object0) none 0) :: H)) (fun _ h => h) ?_
      refine VL.assign rfl ?_
      refine VL.nil ?_
      refine VX.next ?_
      refine VC.seq ?_
      refine VC.region ?_
      refine VL.move rfl ?_
      refine VL.neq rfl rfl ?_
      refine VL.case (fun h11_1 => ?_) (fun h11_1 => ?_)
      · refine VL.nil ?_
        refine VX.next ?_
        refine VC.yes rfl ?_
        refine VC.seq ?_
        refine VC.region ?_
        refine VL.build0 (cs := cat (objectV (object0) none 0)) built85 ?_
        refine VL.move rfl ?_
        refine VL.store (L := objectL) (qs := (objectV (object0) none 0)) (ps' := (objectV (object0) none 0)) 2 0 7 rfl rfl rfl (.inl kd85) rfl rfl rfl (objectV_ok1 object0 none 0) rfl rfl ?_
        refine VL.turn (G' := Own _ (blk g10 85 objectL (objectV ((objectOf (openP l) vs)) (gv.map fun g => (⟨g, 0, none⟩ : Addr)) cv) :: rch g2 ([] : List (List UInt8)) (endW ([] : List (List UInt8)) (lenW ((((((openP (l)).drop 1).drop 1).drop 1).drop 1).drop 1) (lenW (((((openP (l)).drop 1).drop 1).drop 1).drop 1) (lenW ((((openP (l)).drop 1).drop 1).drop 1) (lenW (((openP (l)).drop 1).drop 1) (lenW ((openP (l)).drop 1) (lenW (openP (l)) (openW (l)) 1) 1) 32) 4) 4) 64)) :: blk g1 85 objectL (objectV (object0) none 0) :: H)) (fun _ h => h) ?_
        refine VL.assign rfl ?_
        refine VL.nil ?_
        refine VX.next ?_
        refine VC.ret ?_
        refine VX.then_ret ?_
        refine VX.ret_cell (cs := cat (objectV (object0) none 0)) 2 rfl rfl rfl kd85 (fun _ h => h) rfl rfl (fun we hw => ?_)
        obtain ⟨hfin, _⟩ := object_fin hveq (.inl rfl)
        obtain ⟨e1, e2⟩ := why_none h11_1 hfin
        exact ⟨none, 0, by rw [e1]; exact congrArg (fun n : Nat => Value.tuple #[_, .int .i64 (n : Int)]) e2, hw.drop.drop.drop.sub (fun _ hs => by repeat (first | exact hs | apply List.mem_cons_of_mem)), by rw [e1]; exact Arr.none⟩
      · refine VL.nil ?_
        refine VX.next ?_
        refine VC.no rfl ?_
        refine VC.skip ?_
        refine VX.next ?_
        refine VC.seq ?_
        refine VC.region ?_
        refine VL.loads (cs := cat (objectV ((objectOf (openP l) vs)) (gv.map fun g => (⟨g, 0, none⟩ : Addr)) cv)) 0 0 7 rfl kd85 (fun _ h => h) rfl rfl rfl rfl ?_
        refine VL.store (L := objectL) (qs := (objectV ((objectOf (openP l) vs)) (gv.map fun g => (⟨g, 0, none⟩ : Addr)) cv)) (ps' := (objectV ((objectOf (openP l) vs)) (gv.map fun g => (⟨g, 0, none⟩ : Addr)) cv)) 2 0 7 rfl rfl rfl (.inl kd85) rfl rfl (objectV_len (objectOf_ok hvs)) (objectV_ok1 ((objectOf (openP l) vs)) (gv.map fun g => (⟨g, 0, none⟩ : Addr)) cv) rfl rfl ?_
        refine VL.turn (G' := Own _ (blk g10 85 objectL (objectV ((objectOf (openP l) vs)) (gv.map fun g => (⟨g, 0, none⟩ : Addr)) cv) :: rch g2 ([] : List (List UInt8)) (endW ([] : List (List UInt8)) (lenW ((((((openP (l)).drop 1).drop 1).drop 1).drop 1).drop 1) (lenW (((((openP (l)).drop 1).drop 1).drop 1).drop 1) (lenW ((((openP (l)).drop 1).drop 1).drop 1) (lenW (((openP (l)).drop 1).drop 1) (lenW ((openP (l)).drop 1) (lenW (openP (l)) (openW (l)) 1) 1) 32) 4) 4) 64)) :: blk g1 85 objectL (objectV ((objectOf (openP l) vs)) (gv.map fun g => (⟨g, 0, none⟩ : Addr)) cv) :: H)) (fun _ h => h) ?_
        refine VL.assign rfl ?_
        refine VL.nil ?_
        refine VX.next ?_
        refine VC.ret ?_
        refine VX.ret_cell (cs := cat (objectV ((objectOf (openP l) vs)) (gv.map fun g => (⟨g, 0, none⟩ : Addr)) cv)) 2 rfl rfl rfl (by rw [cat_size (objectV_len (objectOf_ok hvs))]; exact kd85) (fun _ h => h) rfl rfl (fun we hw => ?_)
        obtain ⟨hfin, hy2⟩ := object_fin hveq (.inl rfl)
        obtain ⟨y, e1⟩ := why_some h11_1 hfin
        have e3 := hy2 y e1
        rw [e1, e3]
        exact ⟨_, _, rfl, hw.drop.drop.drop.sub (fun _ hs => by repeat (first | exact hs | apply List.mem_cons_of_mem)), hAr.now (s := ⟨wr, _⟩) Mono_vouch hw.drop.drop.drop (by repeat (first | exact List.mem_cons_self .. | apply List.mem_cons_of_mem))⟩

end Go.Proofs.Ytcfecmoagfgnaaa

/- Items: the error's number, kind for kind. -/
namespace Go.Vc
section
variable {P : Program} {n : Nat} {Q : Exit → Act → World → Prop} {ops : Array Oper}
/-- It kept what is owned, and tells nothing. -/
theorem VL.finO0 {S : List Snap} {H : List Chunk} {f : Fact} {w0 : World} {σ : Sl} {G : World → Prop} (hG : ∀ w, G w → Own (⟨w0, keys H⟩ :: S) H w) (h : ∀ w, G w → f undef w) :
    VL P n ops (Post n Q (Still S H) (Turn (keys H)) f none false false w0) [] σ G :=
  VL.fin0 fun w hw => ⟨h w hw, ((hG w hw).after (List.mem_cons_self ..)).1, (hG w hw).lose⟩
end
end Go.Vc
namespace Go.Proofs.Ytcfecmoagfgnaaa
open Go.Vc Go.Pl

/-- The first byte's reading. -/
abbrev W1 (l : List UInt8) : Nat := lenW (openP l) (openW l) 1
theorem W1_cases (l : List UInt8) : (∃ a r, openP l = a :: r ∧ a.length = 1 ∧ W1 l = 0) ∨ (¬ fitsP [some 1] (openP l) ∧ W1 l = 141) := by
  obtain ⟨h1, h2⟩ := takesW_open (ks := [some 1]) (by simp) l
  by_cases hf : fitsP [some 1] (openP l)
  · refine .inl ?_
    have e : W1 l = 0 := h1 hf
    cases hp : openP l with
    | nil => rw [hp] at hf; exact hf.elim
    | cons a r => rw [hp] at hf; exact ⟨a, r, rfl, hf.1 1 rfl, e⟩
  · exact .inr ⟨hf, h2 hf⟩
theorem item_w0 {l : List UInt8} (h : ((W1 l : Nat) : Int) ≠ 0) : itemR l = none ∧ itemW l = W1 l := by
  rcases W1_cases l with ⟨_, _, _, _, e⟩ | ⟨hf, e⟩
  · rw [e] at h; exact absurd rfl h
  · have h1 : itemR l = none := by unfold itemR; exact if_pos hf
    refine ⟨h1, ?_⟩
    unfold itemW
    rw [h1, if_neg (by simp), if_neg (fun h => hf h.1), e]
theorem item_head {l : List UInt8} (h : ¬ ((W1 l : Nat) : Int) ≠ 0) : ∃ a r, openP l = a :: r ∧ a.length = 1 ∧ W1 l = 0 := by
  rcases W1_cases l with h1 | ⟨_, e⟩
  · exact h1
  · exact absurd (by rw [e]; decide) h
theorem firstFits {a : List UInt8} {r : List (List UInt8)} (h : a.length = 1) : fitsP [some 1] (a :: r) := ⟨fun n e => by cases e; exact h, trivial⟩
theorem item_none {l : List UInt8} (h : ¬ ((W1 l : Nat) : Int) ≠ 0) (h1 : takeN (openP l) 1 ≠ 1) (h2 : takeN (openP l) 1 ≠ 2) (h3 : takeN (openP l) 1 ≠ 3) (h4 : takeN (openP l) 1 ≠ 4) (h5 : takeN (openP l) 1 ≠ 5) (h6 : takeN (openP l) 1 ≠ 6) : itemR l = none ∧ itemW l = 140 := by
  obtain ⟨a, r, e, ha, hw⟩ := item_head h
  have hf : fitsP [some 1] (openP l) := by rw [e]; exact firstFits ha
  have h0 : itemR l = none := by
    unfold itemR
    simp only
    rw [if_neg (not_not_intro hf), if_neg h1, if_neg (by rintro (x | x) <;> contradiction), if_neg h3, if_neg (by rintro (x | x) <;> contradiction)]
  refine ⟨h0, ?_⟩
  unfold itemW
  rw [h0, if_neg (by simp), if_pos ⟨hf, by show takeN (openP l) 1 = 0 ∨ 6 < takeN (openP l) 1; omega⟩]
/-- With a kind that is known: the error is 141. -/
theorem itemW_of {l : List UInt8} (h1 : 1 ≤ takeN (openP l) 1) (h2 : takeN (openP l) 1 ≤ 6) : itemW l = if (itemR l).isSome then 0 else 141 := by
  unfold itemW
  split
  · rfl
  · exact if_neg (by rintro ⟨_, h⟩; have h : takeN (openP l) 1 = 0 ∨ 6 < takeN (openP l) 1 := h; omega)
theorem end2 {α : Type} (f : List UInt8 → Option α) (r : List (List UInt8)) : endW (r.drop 1) (failW (nextW r 0) (if (f (nextP r)).isSome then 0 else 141)) = if (if r.length = 1 then f (nextP r) else none).isSome then 0 else 141 := by
  match r with
  | [] => exact rfl
  | [b] => rw [if_pos (show [b].length = 1 from rfl)]; rfl
  | b :: c :: s =>
    rw [if_neg (show ¬ (b :: c :: s).length = 1 by simp)]
    show (if (c :: s) = [] then _ else failW (failW (nextW (b :: c :: s) 0) (if (f b).isSome then 0 else 141)) 141) = 141
    rw [if_neg (by simp), nextW_cons, failW_0]
    split <;> rfl
theorem item_w1 {l : List UInt8} (h : ¬ ((W1 l : Nat) : Int) ≠ 0) (hk : takeN (openP l) 1 = 1) : endW (((openP l).drop 1).drop 1) (failW (nextW ((openP l).drop 1) (W1 l)) (if (letterR (nextP ((openP l).drop 1))).isSome then 0 else 141)) = itemW l ∧ ∀ y, itemR l = some y → y = ⟨1, 0, 0, (letterR (nextP ((openP l).drop 1))).getD letter0, bundle0, object0⟩ := by
  obtain ⟨a, r, e, ha, hw⟩ := item_head h
  have hf : fitsP [some 1] (openP l) := by rw [e]; exact firstFits ha
  have h0 : itemR l = (if r.length = 1 then letterR (nextP r) else none).map fun y => ⟨1, 0, 0, y, bundle0, object0⟩ := by
    unfold itemR
    simp only
    rw [if_neg (not_not_intro hf), if_pos hk, e]
    show (if r.length + 1 = 2 then _ else _) = _
    by_cases hl : r.length = 1
    · rw [if_pos (by omega), if_pos hl]; rfl
    · rw [if_neg (by omega), if_neg hl]; rfl
  rw [itemW_of (by omega) (by omega), h0, hw, e]
  refine ⟨(end2 letterR r).trans (by cases (if r.length = 1 then letterR (nextP r) else none) <;> rfl), fun y hy => ?_⟩
  obtain ⟨z, hz, rfl⟩ := Option.map_eq_some_iff.1 hy
  split at hz
  · show _ = Itm.mk 1 0 0 ((letterR (nextP r)).getD letter0) bundle0 object0
    rw [hz]; rfl
  · cases hz
theorem item_w5 {l : List UInt8} (h : ¬ ((W1 l : Nat) : Int) ≠ 0) (hk : takeN (openP l) 1 = 5 ∨ takeN (openP l) 1 = 6) : endW (((openP l).drop 1).drop 1) (failW (nextW ((openP l).drop 1) (W1 l)) (if (objectR (nextP ((openP l).drop 1))).isSome then 0 else 141)) = itemW l ∧ ∀ y, itemR l = some y → y = ⟨takeN (openP l) 1, 0, 0, letter0, bundle0, (objectR (nextP ((openP l).drop 1))).getD object0⟩ := by
  obtain ⟨a, r, e, ha, hw⟩ := item_head h
  have hf : fitsP [some 1] (openP l) := by rw [e]; exact firstFits ha
  have h0 : itemR l = (if r.length = 1 then objectR (nextP r) else none).map fun y => ⟨takeN (openP l) 1, 0, 0, letter0, bundle0, y⟩ := by
    unfold itemR
    simp only
    rw [if_neg (not_not_intro hf), if_neg (show ¬ itemK (openP l) = 1 by show ¬ takeN (openP l) 1 = 1; omega), if_neg (show ¬ (itemK (openP l) = 2 ∨ itemK (openP l) = 4) by show ¬ (takeN (openP l) 1 = 2 ∨ takeN (openP l) 1 = 4); omega), if_neg (show ¬ itemK (openP l) = 3 by show ¬ takeN (openP l) 1 = 3; omega), if_pos hk, e]
    show (if r.length + 1 = 2 then _ else _) = _
    by_cases hl : r.length = 1
    · rw [if_pos (by omega), if_pos hl]; rfl
    · rw [if_neg (by omega), if_neg hl]; rfl
  rw [itemW_of (by omega) (by omega), h0, hw]
  rw [e]
  refine ⟨(end2 objectR r).trans (by cases (if r.length = 1 then objectR (nextP r) else none) <;> rfl), fun y hy => ?_⟩
  obtain ⟨z, hz, rfl⟩ := Option.map_eq_some_iff.1 hy
  split at hz
  · show _ = Itm.mk (takeN (a :: r) 1) 0 0 letter0 bundle0 ((objectR (nextP r)).getD object0)
    rw [hz]; rfl
  · cases hz
theorem item_w2 {l : List UInt8} (h : ¬ ((W1 l : Nat) : Int) ≠ 0) (hk : takeN (openP l) 1 = 2 ∨ takeN (openP l) 1 = 4) : endW ((((openP l).drop 1).drop 1).drop 1) (failW (lenW (((openP l).drop 1).drop 1) (lenW ((openP l).drop 1) (W1 l) 1) 1) 0) = itemW l ∧ ∀ y, itemR l = some y → y = ⟨takeN (openP l) 1, takeN ((openP l).drop 1) 1, takeN (((openP l).drop 1).drop 1) 1, letter0, bundle0, object0⟩ := by
  obtain ⟨a, r, e, ha, hw⟩ := item_head h
  have hf : fitsP [some 1] (openP l) := by rw [e]; exact firstFits ha
  have h0 : itemR l = if fitsP [some 1, some 1, some 1] (openP l) ∧ (openP l).length = 3 then some ⟨takeN (openP l) 1, takeN ((openP l).drop 1) 1, takeN (((openP l).drop 1).drop 1) 1, letter0, bundle0, object0⟩ else none := by
    unfold itemR
    simp only
    rw [if_neg (not_not_intro hf), if_neg (show ¬ itemK (openP l) = 1 by show ¬ takeN (openP l) 1 = 1; omega), if_pos hk]
  refine ⟨?_, fun y hy => ?_⟩
  · rw [itemW_of (by omega) (by omega), h0, hw]
    rw [e]
    have h2 : fitsP [some 1, some 1, some 1] (a :: r) ↔ fitsP [some 1, some 1] r := ⟨fun x => x.2, fun x => ⟨fun n e => by cases e; exact ha, x⟩⟩
    obtain ⟨h3, h4⟩ := takesW_0 [some 1, some 1] r
    have e3 : lenW (r.drop 1) (lenW r 0 1) 1 = takesW [some 1, some 1] r 0 := rfl
    show endW ((r.drop 1).drop 1) (failW (lenW (r.drop 1) (lenW r 0 1) 1) 0) = _
    rw [e3]
    by_cases hg : fitsP [some 1, some 1] r
    · rw [h3 hg]
      match r, hg with
      | [b, c], hg => rw [if_pos (show fitsP [some 1, some 1, some 1] [a, b, c] ∧ [a, b, c].length = 3 from ⟨⟨fun n e => by cases e; exact ha, hg⟩, rfl⟩)]; rfl
      | b :: c :: d :: s, _ => rw [if_neg (show ¬ (fitsP [some 1, some 1, some 1] (a :: b :: c :: d :: s) ∧ (a :: b :: c :: d :: s).length = 3) from fun x => absurd x.2 (by simp))]; rfl
      | [_], hg => exact hg.2.elim
      | [], hg => exact hg.elim
    · rw [h4 hg, if_neg (show ¬ (fitsP [some 1, some 1, some 1] (a :: r) ∧ (a :: r).length = 3) from fun x => hg (h2.1 x.1))]
      exact endW_141 _
  · rw [h0] at hy
    split at hy
    · exact (Option.some.inj hy).symm
    · cases hy
theorem item_w3 {l : List UInt8} (h : ¬ ((W1 l : Nat) : Int) ≠ 0) (hk : takeN (openP l) 1 = 3) : endW ((((openP l).drop 1).drop 1).drop 1) (failW (nextW (((openP l).drop 1).drop 1) (lenW ((openP l).drop 1) (W1 l) 1)) (if (bundleR (nextP (((openP l).drop 1).drop 1))).isSome then 0 else 141)) = itemW l ∧ ∀ y, itemR l = some y → y = ⟨3, takeN ((openP l).drop 1) 1, 0, letter0, (bundleR (nextP (((openP l).drop 1).drop 1))).getD bundle0, object0⟩ := by
  obtain ⟨a, r, e, ha, hw⟩ := item_head h
  have hf : fitsP [some 1] (openP l) := by rw [e]; exact firstFits ha
  have h0 : itemR l = if fitsP [some 1, some 1, none] (openP l) ∧ (openP l).length = 3 then (bundleR (nextP (((openP l).drop 1).drop 1))).map (fun y => ⟨3, takeN ((openP l).drop 1) 1, 0, letter0, y, object0⟩) else none := by
    unfold itemR
    simp only
    rw [if_neg (not_not_intro hf), if_neg (show ¬ itemK (openP l) = 1 by show ¬ takeN (openP l) 1 = 1; omega), if_neg (show ¬ (itemK (openP l) = 2 ∨ itemK (openP l) = 4) by show ¬ (takeN (openP l) 1 = 2 ∨ takeN (openP l) 1 = 4); omega), if_pos (show itemK (openP l) = 3 from hk)]
  refine ⟨?_, fun y hy => ?_⟩
  · rw [itemW_of (by omega) (by omega), h0, hw]
    rw [e]
    show endW ((r.drop 1).drop 1) (failW (nextW (r.drop 1) (lenW r 0 1)) (if (bundleR (nextP (r.drop 1))).isSome then 0 else 141)) = _
    match r with
    | [] =>
      rw [if_neg (show ¬ (fitsP [some 1, some 1, none] [a] ∧ [a].length = 3) from fun x => absurd x.2 (by simp))]; rfl
    | b :: s =>
      rw [lenW_cons]
      show endW (s.drop 1) (failW (nextW s (if b.length = 1 then 0 else 141)) (if (bundleR (nextP s)).isSome then 0 else 141)) = if (if fitsP [some 1, some 1, none] (a :: b :: s) ∧ (a :: b :: s).length = 3 then (bundleR (nextP s)).map (fun y => (⟨3, takeN (b :: s) 1, 0, letter0, y, object0⟩ : Itm)) else none).isSome then 0 else 141
      by_cases hb : b.length = 1
      · rw [if_pos hb, end2 bundleR s]
        by_cases hl : s.length = 1
        · rw [if_pos hl]
          have hfit : fitsP [some 1, some 1, none] (a :: b :: s) := by
            match s, hl with
            | [c], _ => exact ⟨fun n e => by cases e; exact ha, fun n e => by cases e; exact hb, fun n e => (by cases e), trivial⟩
          rw [if_pos (show fitsP [some 1, some 1, none] (a :: b :: s) ∧ (a :: b :: s).length = 3 from ⟨hfit, by simp [hl]⟩)]
          cases bundleR (nextP s) <;> rfl
        · rw [if_neg hl, if_neg (show ¬ (fitsP [some 1, some 1, none] (a :: b :: s) ∧ (a :: b :: s).length = 3) from fun x => hl (by have h := x.2; simp only [List.length_cons] at h; omega))]; rfl
      · rw [if_neg hb, nextW_141, failW_pos (by decide), endW_141, if_neg (show ¬ (fitsP [some 1, some 1, none] (a :: b :: s) ∧ (a :: b :: s).length = 3) from fun x => hb (x.1.2.1 1 rfl))]; rfl
  · rw [h0] at hy
    split at hy
    · obtain ⟨z, hz, rfl⟩ := Option.map_eq_some_iff.1 hy
      rw [hz]; rfl
    · cases hy
/-- The end: what the number says. -/
theorem itemW_none {l : List UInt8} (h1 : 1 ≤ takeN (openP l) 1) (h2 : takeN (openP l) 1 ≤ 6) {n : Nat} (hn : ((n : Nat) : Int) ≠ 0) (h : n = itemW l) : itemR l = none ∧ itemW l = 141 := by
  rw [itemW_of h1 h2] at h
  obtain ⟨e1, e2⟩ := why_none hn h
  exact ⟨e1, by rw [itemW_of h1 h2, e1]; rfl⟩
theorem itemW_some {l : List UInt8} (h1 : 1 ≤ takeN (openP l) 1) (h2 : takeN (openP l) 1 ≤ 6) {n : Nat} (hn : ¬ ((n : Nat) : Int) ≠ 0) (h : n = itemW l) : ∃ x, itemR l = some x ∧ itemW l = 0 := by
  rw [itemW_of h1 h2] at h
  obtain ⟨x, e1⟩ := why_some hn h
  exact ⟨x, e1, by rw [itemW_of h1 h2, e1]; rfl⟩

end Go.Proofs.Ytcfecmoagfgnaaa

