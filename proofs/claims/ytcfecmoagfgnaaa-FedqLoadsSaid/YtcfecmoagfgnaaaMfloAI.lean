/- The statement FedqLoads is proved, for every input: part 9 of 26 of the texts that it needs. -/
import Derived.Test.YtcfecmoagfgnaaaMfloAH
/- wire: what bytes are read as: bundles, headers, letters. -/
namespace Go.Proofs.Ytcfecmoagfgnaaa
open Go.Vc Go.Pl

theorem why_none {α : Type} {o : Option α} {n : Nat} (hn : (n : Int) ≠ 0) (h : n = if o.isSome then 0 else 141) : o = none ∧ n = 141 := by
 cases o with
 | none => exact ⟨rfl, h⟩
 | some x => exact absurd (by rw [h]; rfl) hn
theorem why_some {α : Type} {o : Option α} {n : Nat} (hn : ¬ (n : Int) ≠ 0) (h : n = if o.isSome then 0 else 141) : ∃ x, o = some x := by
 cases o with
 | none => exact absurd (show (n : Int) ≠ 0 by rw [h]; exact (by decide : ((141 : Nat) : Int) ≠ 0)) hn
 | some x => exact ⟨x, rfl⟩
theorem bundle_why' (l : List UInt8) : endW ((((((((openP l).drop 1).drop 1).drop 1).drop 1).drop 1)).drop 1) (takesW bundleK (openP l) (openW l)) = if (bundleR l).isSome then 0 else 141 := by
 have := bundle_why l
 simpa only [List.drop_drop] using this
theorem bundleR_of {l : List UInt8} {x : Bundle} (h : bundleR l = some x) : bundleOf (openP l) = x := by
 unfold bundleR at h
 split at h
 ·exact Option.some.inj h
 ·cases h
theorem bundleR_ok (l : List UInt8) : ((bundleR l).getD bundle0).ok := by
 cases h : bundleR l with
 | none => exact bundle0_ok
 | some x => exact (bundleR_iff.1 h).1
theorem header_why' (l : List UInt8) : endW (((((((((((openP l).drop 1).drop 1).drop 1).drop 1).drop 1)).drop 1).drop 1).drop 1).drop 1) (if (headerO (headerOf (openP l))).isSome = true ∧ firstOf (openP l) ≤ 1 then takesW headerK (openP l) (openW l) else failW (takesW headerK (openP l) (openW l)) 141) = if (headerR l).isSome then 0 else 141 := by
 have := header_why l
 simpa only [List.drop_drop] using this
abbrev headerS (s : List UInt8) : Header := ⟨s, false, zeros 32, zeros 32, zeros 32, 0, zeros 32, 0, 0⟩
theorem headerS_ok {s : List UInt8} (h : s.length = 32) : (headerS s).ok := ⟨h, rfl, rfl, rfl, header0_ok.id, rfl, header0_ok.n, header0_ok.prev⟩
abbrev letterS (a b : Nat) : Letter := ⟨a, b, header0, []⟩
theorem letterS_ok {a b : Nat} (h1 : a < 256) (h2 : b < 256) : (letterS a b).ok := ⟨h1, h2, header0_ok⟩
theorem headerR_of {l : List UInt8} {x : Header} (h : headerR l = some x) : headerOf (openP l) = x := by
 unfold headerR at h
 split at h
 ·exact Option.some.inj h
 ·cases h
theorem letter_why' (l : List UInt8) : endW ((((openP l).drop 1).drop 1).drop 1 |>.drop 1) (nextW ((((openP l).drop 1).drop 1).drop 1) (failW (takesW letterK (openP l) (openW l)) (if (headerR (nextP (((openP l).drop 1).drop 1))).isSome then 0 else 141))) = if (letterR l).isSome then 0 else 141 := by
 have := letter_why l
 simpa only [List.drop_drop] using this
theorem letterR_of {l : List UInt8} {x : Letter} (h : letterR l = some x) : ∃ hd, headerR (nextP (((openP l).drop 1).drop 1)) = some hd ∧ letterOf (openP l) hd = x := by
 unfold letterR at h
 split at h
 ·obtain ⟨hd, h1, h2⟩ := Option.map_eq_some_iff.1 h
  exact ⟨hd, h1, h2⟩
 ·cases h
theorem letterR_ok (l : List UInt8) : ((letterR l).getD letter0).ok := by
 cases h : letterR l with
 | none => exact letter0_ok
 | some x => exact (letterR_iff.1 h).1

theorem getBundle_w {S : List Snap} {H : List Chunk} {w : World} (ho : Own S H w) {p : Option Addr} {l : List UInt8} {c : Nat} (hA : Bytes (keys H) w p l c) : Calls Try.prog 61 #[.slice p l.length c] w (Ret fun v w' => v = .tuple #[.agg (cat (bundleV ((bundleR l).getD bundle0))).toArray, .int .i64 (((if (bundleR l).isSome then 0 else 141 : Nat)) : Int)] ∧ Own S H w') := by
 refine enter (G := Own (⟨w, keys H⟩ :: S) H) ho.keep Try.func61 rfl Try.ntmps61 rfl ?_
 refine VC.sr ?_
 refine VL.alloc (L := bundleL) (ps := (bundleV (bundle0))) zero82 rfl rfl (fun g1 => ?_)
 refine VL.assign rfl ?_
 refine VL.nn ?_
 refine VC.sr ?_
 refine VL.move rfl ?_
 refine VL.call Try.func121 rfl (by decide) rfl (fun w' hw => open_R hw (hA.nowA (s := ⟨w, _⟩) Mono.byte hw)) (fun v => ?_)
 refine VL.ex fun g2 => VL.fact fun e3 => ?_
 subst e3
 refine VL.assign rfl ?_
 refine VL.nn ?_
 refine VC.sr ?_
 refine VL.move rfl ?_
 refine VL.call Try.func122 rfl (by decide) rfl (fun w' hw => byte_R (i := 0) rfl hw) (fun v => ?_)
 refine VL.fact fun e4 => ?_
 subst e4
 refine VL.set0 ?_
 refine VL.move rfl ?_
 refine VL.call Try.func129 rfl (by decide) rfl (fun w' hw => key_R (i := 0) rfl hw) (fun v => ?_)
 refine VL.fact fun e5 => ?_
 subst e5
 refine VL.set0 ?_
 refine VL.move rfl ?_
 refine VL.call Try.func129 rfl (by decide) rfl (fun w' hw => key_R (i := 0) rfl hw) (fun v => ?_)
 refine VL.fact fun e6 => ?_
 subst e6
 refine VL.set0 ?_
 refine VL.move rfl ?_
 refine VL.call Try.func130 rfl (by decide) rfl (fun w' hw => short_R (i := 0) rfl hw) (fun v => ?_)
 refine VL.fact fun e7 => ?_
 subst e7
 refine VL.set0 ?_
 refine VL.move rfl ?_
 refine VL.call Try.func129 rfl (by decide) rfl (fun w' hw => key_R (i := 0) rfl hw) (fun v => ?_)
 refine VL.fact fun e8 => ?_
 subst e8
 refine VL.set0 ?_
 refine VL.move rfl ?_
 refine VL.call Try.func131 rfl (by decide) rfl (fun w' hw => sig_R (i := 0) rfl hw) (fun v => ?_)
 refine VL.fact fun e9 => ?_
 subst e9
 refine VL.set0 ?_
 refine VL.build (zs := bundleZ) (L := bundleFL) [(0, [.int .u8 (takeN (openP (l)) 1)]), (1, (takeB 32 ((openP (l)).drop 1)).map bv), (2, (takeB 32 (((openP (l)).drop 1).drop 1)).map bv), (3, [.int .u16 (takeN ((((openP (l)).drop 1).drop 1).drop 1) 2)]), (4, (takeB 32 (((((openP (l)).drop 1).drop 1).drop 1).drop 1)).map bv), (5, (takeB 64 ((((((openP (l)).drop 1).drop 1).drop 1).drop 1).drop 1)).map bv)] plan82 rfl ⟨⟨rfl, ⟨_, rfl, rfl⟩, rfl⟩, ⟨⟨rfl, ⟨_, rfl, rfl⟩, (arr_q (takeB_length ((openP (l)).drop 1) 32))⟩, ⟨⟨rfl, ⟨_, rfl, rfl⟩, (arr_q (takeB_length (((openP (l)).drop 1).drop 1) 32))⟩, ⟨⟨rfl, ⟨_, rfl, rfl⟩, rfl⟩, ⟨⟨rfl, ⟨_, rfl, rfl⟩, (arr_q (takeB_length (((((openP (l)).drop 1).drop 1).drop 1).drop 1) 32))⟩, ⟨⟨rfl, ⟨_, rfl, rfl⟩, (arr_q (takeB_length ((((((openP (l)).drop 1).drop 1).drop 1).drop 1).drop 1) 64))⟩, trivial⟩⟩⟩⟩⟩⟩ rfl ?_
 refine VL.newv (v' := .agg (cat (bundleV (bundleOf (openP l)))).toArray) rfl ?_
 refine VL.alloc (L := bundleL) (ps := (bundleV (bundle0))) zero82 rfl rfl (fun g10 => ?_)
 refine VL.store (L := bundleL) (qs := (bundleV (bundleOf (openP l)))) (ps' := (bundleV (bundleOf (openP l)))) 0 0 6 rfl rfl rfl (.inl kd82) rfl rfl (bundleV_len (bundleOf_ok (openP l))) (bundleV_ok1 (bundleOf (openP l))) rfl rfl ?_
 refine VL.set0 ?_
 refine VL.nn ?_
 refine VC.seq ?_
 refine VC.sr ?_
 refine VL.move rfl ?_
 refine VL.call Try.func126 rfl (by decide) rfl (fun w' hw => end_R (i := 1) rfl hw) (fun v => ?_)
 refine VL.fact fun e11 => ?_
 subst e11
 refine VL.set1 ?_
 refine VL.assign rfl ?_
 refine VL.nn ?_
 refine VC.sr ?_
 refine VL.move rfl ?_
 refine VL.neq rfl rfl ?_
 refine VL.case (fun h4_1 => ?_) (fun h4_1 => ?_)
 ·refine VL.nn ?_
  refine VC.yes rfl ?_
  refine VC.sr ?_
  refine VL.build0 (cs := cat (bundleV (bundle0))) built82 ?_
  refine VL.move rfl ?_
  refine VL.store (L := bundleL) (qs := (bundleV (bundle0))) (ps' := (bundleV (bundle0))) 2 0 6 rfl rfl rfl (.inl kd82) rfl rfl rfl (bundleV_ok1 bundle0) rfl rfl ?_
  refine VL.set2 ?_
  refine VL.assign rfl ?_
  refine VL.nn ?_
  refine VC.ret ?_
  refine VX.then_ret ?_
  refine VX.ret_cell (cs := cat (bundleV (bundle0))) 2 rfl rfl rfl kd82 (fun _ h => h) rfl rfl (fun we hw => ?_)
  obtain ⟨e1, e2⟩ := why_none h4_1 (bundle_why' l)
  exact ⟨by rw [e1, e2]; rfl, hw.drop.drop.drop.subA⟩
 ·refine VL.nn ?_
  refine VC.no rfl ?_
  refine VC.skip ?_
  refine VX.next ?_
  refine VC.sr ?_
  refine VL.loads (cs := cat (bundleV (bundleOf (openP l)))) 0 0 6 rfl kd82 (fun _ h => h) rfl rfl rfl rfl ?_
  refine VL.store (L := bundleL) (qs := (bundleV (bundleOf (openP l)))) (ps' := (bundleV (bundleOf (openP l)))) 2 0 6 rfl rfl rfl (.inl kd82) rfl rfl (bundleV_len (bundleOf_ok (openP l))) (bundleV_ok1 (bundleOf (openP l))) rfl rfl ?_
  refine VL.set2 ?_
  refine VL.assign rfl ?_
  refine VL.nn ?_
  refine VC.ret ?_
  refine VX.ret_cell (cs := cat (bundleV (bundleOf (openP l)))) 2 rfl rfl rfl (by rw [cat_size (bundleV_len (bundleOf_ok (openP l)))]; exact kd82) (fun _ h => h) rfl rfl (fun we hw => ?_)
  obtain ⟨y, e1⟩ := why_some h4_1 (bundle_why' l)
  exact ⟨by rw [e1, bundleR_of e1]; rfl, hw.drop.drop.drop.subA⟩

theorem header_w {S : List Snap} {H : List Chunk} {w : World} (ho : Own S H w) {p : Option Addr} {l : List UInt8} {c : Nat} (hA : Bytes (keys H) w p l c) : Calls Try.prog 123 #[.slice p l.length c] w (Ret fun v w' => v = .tuple #[.agg (cat (headerV (headerOf (openP l)))).toArray, .int .i64 (((if (headerR l).isSome then 0 else 141 : Nat)) : Int)] ∧ Own S H w') := by
 refine enter (G := Own (⟨w, keys H⟩ :: S) H) ho.keep Try.func123 rfl Try.ntmps123 rfl ?_
 refine VC.sr ?_
 refine VL.alloc (L := headerL) (ps := (headerV (header0))) zero70 rfl rfl (fun g1 => ?_)
 refine VL.assign rfl ?_
 refine VL.nn ?_
 refine VC.sr ?_
 refine VL.move rfl ?_
 refine VL.call Try.func121 rfl (by decide) rfl (fun w' hw => open_R hw (hA.nowA (s := ⟨w, _⟩) Mono.byte hw)) (fun v => ?_)
 refine VL.ex fun g2 => VL.fact fun e3 => ?_
 subst e3
 refine VL.assign rfl ?_
 refine VL.nn ?_
 refine VC.sr ?_
 refine VL.move rfl ?_
 refine VL.call Try.func129 rfl (by decide) rfl (fun w' hw => key_R (i := 0) rfl hw) (fun v => ?_)
 refine VL.fact fun e4 => ?_
 subst e4
 refine VL.set0 ?_
 refine VL.build (zs := headerZ) (L := headerFL) [(0, (takeB 32 (openP (l))).map bv)] plan70 rfl ⟨⟨rfl, ⟨_, rfl, rfl⟩, (arr_q (takeB_length (openP (l)) 32))⟩, trivial⟩ rfl ?_
 refine VL.newv (v' := .agg (cat (headerV ((headerS (takeB 32 (openP l)))))).toArray) rfl ?_
 refine VL.alloc (L := headerL) (ps := (headerV (header0))) zero70 rfl rfl (fun g5 => ?_)
 refine VL.store (L := headerL) (qs := (headerV ((headerS (takeB 32 (openP l)))))) (ps' := (headerV ((headerS (takeB 32 (openP l)))))) 0 0 9 rfl rfl rfl (.inl kd70) rfl rfl (headerV_len (headerS_ok (takeB_length (openP l) 32))) (headerV_ok1 ((headerS (takeB 32 (openP l))))) rfl rfl ?_
 refine VL.set0 ?_
 refine VL.nn ?_
 refine VC.sr ?_
 refine VL.move rfl ?_
 refine VL.call Try.func122 rfl (by decide) rfl (fun w' hw => byte_R (i := 1) rfl hw) (fun v => ?_)
 refine VL.fact fun e6 => ?_
 subst e6
 refine VL.set1 ?_
 refine VL.assign rfl ?_
 refine VL.nn ?_
 refine VC.sr ?_
 refine VL.move rfl ?_
 refine VL.eql rfl rfl ?_
 refine VL.newv (v' := .bool (decide (firstOf (openP l) = 1))) (by rw [Value.bool.injEq, decide_eq_decide]; exact natInt) ?_
 refine VL.fieldAddr rfl fo70_1 rfl ?_
 refine VL.store (L := headerL) (qs := [[.bool (decide (firstOf (openP l) = 1))]]) 0 1 1 rfl rfl rfl (.inr ⟨kd4, rfl⟩) rfl rfl rfl (by intro u hu; simp [cat] at hu; subst hu; rfl) rfl rfl ?_
 refine VL.set0 ?_
 refine VL.nn ?_
 refine VC.sr ?_
 refine VL.move rfl ?_
 refine VL.call Try.func129 rfl (by decide) rfl (fun w' hw => key_R (i := 1) rfl hw) (fun v => ?_)
 refine VL.fact fun e7 => ?_
 subst e7
 refine VL.set1 ?_
 refine VL.move rfl ?_
 refine VL.call Try.func129 rfl (by decide) rfl (fun w' hw => key_R (i := 1) rfl hw) (fun v => ?_)
 refine VL.fact fun e8 => ?_
 subst e8
 refine VL.set1 ?_
 refine VL.move rfl ?_
 refine VL.call Try.func129 rfl (by decide) rfl (fun w' hw => key_R (i := 1) rfl hw) (fun v => ?_)
 refine VL.fact fun e9 => ?_
 subst e9
 refine VL.set1 ?_
 refine VL.move rfl ?_
 refine VL.call Try.func130 rfl (by decide) rfl (fun w' hw => short_R (i := 1) rfl hw) (fun v => ?_)
 refine VL.fact fun e10 => ?_
 subst e10
 refine VL.set1 ?_
 refine VL.fieldAddr rfl fo70_2 rfl ?_
 refine VL.store (L := headerL) (qs := [(takeB 32 (((openP (l)).drop 1).drop 1)).map bv]) 0 2 1 rfl rfl rfl (.inl kd44) rfl rfl (arr_len (takeB_length (((openP (l)).drop 1).drop 1) 32)) (ok1_bytes _) rfl rfl ?_
 refine VL.set0 ?_
 refine VL.fieldAddr rfl fo70_3 rfl ?_
 refine VL.store (L := headerL) (qs := [(takeB 32 ((((openP (l)).drop 1).drop 1).drop 1)).map bv]) 0 3 1 rfl rfl rfl (.inl kd44) rfl rfl (arr_len (takeB_length ((((openP (l)).drop 1).drop 1).drop 1) 32)) (ok1_bytes _) rfl rfl ?_
 refine VL.set0 ?_
 refine VL.fieldAddr rfl fo70_4 rfl ?_
 refine VL.store (L := headerL) (qs := [(takeB 32 (((((openP (l)).drop 1).drop 1).drop 1).drop 1)).map bv]) 0 4 1 rfl rfl rfl (.inl kd44) rfl rfl (arr_len (takeB_length (((((openP (l)).drop 1).drop 1).drop 1).drop 1) 32)) (ok1_bytes _) rfl rfl ?_
 refine VL.set0 ?_
 refine VL.fieldAddr rfl fo70_5 rfl ?_
 refine VL.store (L := headerL) (qs := [[.int .u16 (takeN ((((((openP (l)).drop 1).drop 1).drop 1).drop 1).drop 1) 2)]]) 0 5 1 rfl rfl rfl (.inr ⟨kd68, rfl⟩) rfl rfl rfl (by intro u hu; simp [cat] at hu; subst hu; rfl) rfl rfl ?_
 refine VL.set0 ?_
 refine VL.nn ?_
 refine VC.sr ?_
 refine VL.move rfl ?_
 refine VL.call Try.func129 rfl (by decide) rfl (fun w' hw => key_R (i := 1) rfl hw) (fun v => ?_)
 refine VL.fact fun e11 => ?_
 subst e11
 refine VL.set1 ?_
 refine VL.move rfl ?_
 refine VL.call Try.func130 rfl (by decide) rfl (fun w' hw => short_R (i := 1) rfl hw) (fun v => ?_)
 refine VL.fact fun e12 => ?_
 subst e12
 refine VL.set1 ?_
 refine VL.move rfl ?_
 refine VL.call Try.func130 rfl (by decide) rfl (fun w' hw => short_R (i := 1) rfl hw) (fun v => ?_)
 refine VL.fact fun e13 => ?_
 subst e13
 refine VL.set1 ?_
 refine VL.fieldAddr rfl fo70_6 rfl ?_
 refine VL.store (L := headerL) (qs := [(takeB 32 (((((((openP (l)).drop 1).drop 1).drop 1).drop 1).drop 1).drop 1)).map bv]) 0 6 1 rfl rfl rfl (.inl kd44) rfl rfl (arr_len (takeB_length (((((((openP (l)).drop 1).drop 1).drop 1).drop 1).drop 1).drop 1) 32)) (ok1_bytes _) rfl rfl ?_
 refine VL.set0 ?_
 refine VL.fieldAddr rfl fo70_7 rfl ?_
 refine VL.store (L := headerL) (qs := [[.int .u16 (takeN ((((((((openP (l)).drop 1).drop 1).drop 1).drop 1).drop 1).drop 1).drop 1) 2)]]) 0 7 1 rfl rfl rfl (.inr ⟨kd68, rfl⟩) rfl rfl rfl (by intro u hu; simp [cat] at hu; subst hu; rfl) rfl rfl ?_
 refine VL.set0 ?_
 refine VL.fieldAddr rfl fo70_8 rfl ?_
 refine VL.store (L := headerL) (qs := [[.int .u16 (takeN (((((((((openP (l)).drop 1).drop 1).drop 1).drop 1).drop 1).drop 1).drop 1).drop 1) 2)]]) 0 8 1 rfl rfl rfl (.inr ⟨kd68, rfl⟩) rfl rfl rfl (by intro u hu; simp [cat] at hu; subst hu; rfl) rfl rfl ?_
 refine VL.set0 ?_
 refine VL.nn ?_
 refine VC.seq ?_
 refine VC.sr ?_
 refine VL.loads (cs := cat (headerV (headerOf (openP l)))) 0 0 9 rfl kd70 (fun _ h => h) rfl rfl rfl rfl ?_
 refine VL.call Try.func52 rfl (by decide) rfl (fun w' hw => headerBytes_w hw (x := headerOf (openP l)) (headerOf_ok (openP l))) (fun v => ?_)
 refine VL.at (fun w14 h1w => ?_)
 obtain ⟨p15, c16, rfl, hO18, hA17⟩ := h1w
 refine VL.toOwn hO18 ?_
 refine VL.move rfl ?_
 refine VL.extract rfl rfl ?_
 refine VL.extract rfl rfl ?_
 refine VL.assign rfl ?_
 refine VL.assign rfl ?_
 refine VL.nn ?_
 refine VC.sr ?_
 refine VL.move rfl ?_
 cases hs : (headerO (headerOf (openP l))).isSome
 ·refine VL.not rfl ?_
  refine VL.move rfl ?_
  refine VL.pass rfl rfl rfl rfl rfl ?_
  refine VL.pass rfl rfl rfl rfl rfl ?_
  refine VL.pick_t rfl rfl ?_
  refine VL.nn ?_
  refine VC.yes rfl ?_
  refine VC.region ?_
  refine VL.move rfl ?_
  refine VL.call Try.func125 rfl (by decide) rfl (fun w' hw => fail_R (i := 1) rfl hw (141)) (fun v => ?_)
  refine VL.fact fun e19 => ?_
  subst e19
  refine VL.set1 ?_
  refine VL.nn ?_
  refine VC.seq ?_
  refine VC.letCells 0 rfl (fun w20 hO22 hF21 => ?_)
  apply VC.anyTA 3 2 (F := [eqF _, eqF _, lateE _]) [⟨[], [5]⟩, ⟨[], [4]⟩, ⟨[(54, 1)], []⟩] [(53, 0), (55, 2)] [0, 2, 3, 4, 5, 6, 8, 9, 10, 11, 12, 13, 14, 15, 16, 17, 18, 19, 20, 21, 22, 23, 24, 25, 26, 27, 28, 29, 30, 31, 32, 33, 34, 35, 36, 37, 38, 39, 40, 41, 42, 43, 44, 45, 46, 47, 48, 49, 50, 51] rfl (by kernel_rfl) (by kernel_rfl) rfl rfl (by kernel_rfl) (by kernel_rfl) (by kernel_rfl) rfl ?obs10 ?end10
  case obs10 =>
   refine Obs.cons ?_ ?_
   ·refine obS (by kernel_rfl) rfl rfl (fun ph10 w10 hO10 => ?_)
    refine VL.loadsF (s := ⟨w20, _⟩) (cs := cat (headerV (headerOf (openP l)))) 0 9 rfl kd70 hF21 (fun _ e => e ▸ Still.ok hO10 (by repeat (first | exact List.mem_cons_self .. | apply List.mem_cons_of_mem))) rfl rfl rfl ?_
    exact VL.finS hO10 rfl rfl
   refine Obs.cons ?_ ?_
   ·refine obS (by kernel_rfl) rfl rfl (fun ph10 w10 hO10 => ?_)
    refine VL.move rfl ?_
    exact VL.finS hO10 rfl rfl
   refine Obs.cons ?_ ?_
   ·refine obK (by kernel_rfl) rfl (fun w10 hO10 => ?_)
    rintro _ rfl
    refine VL.toOwn hO10 ?_
    refine VL.call Try.func126 rfl (by decide) rfl (fun w' hw => end_R (i := 0) rfl hw) (fun v => ?_)
    exact VL.finC rfl (fun _ h => h.2) (fun _ h => ⟨w10, h⟩)
   exact Obs.nil
  case end10 =>
   intro w10 hO10
   rintro _ rfl _ ⟨wk10, rfl, hK24⟩
   replace hK24 : Own _ (rch g2 ((((((((((openP (l)).drop 1).drop 1).drop 1).drop 1).drop 1).drop 1).drop 1).drop 1).drop 1) (endW ((((((((((openP (l)).drop 1).drop 1).drop 1).drop 1).drop 1).drop 1).drop 1).drop 1).drop 1) (failW (lenW (((((((((openP (l)).drop 1).drop 1).drop 1).drop 1).drop 1).drop 1).drop 1).drop 1) (lenW ((((((((openP (l)).drop 1).drop 1).drop 1).drop 1).drop 1).drop 1).drop 1) (lenW (((((((openP (l)).drop 1).drop 1).drop 1).drop 1).drop 1).drop 1) (lenW ((((((openP (l)).drop 1).drop 1).drop 1).drop 1).drop 1) (lenW (((((openP (l)).drop 1).drop 1).drop 1).drop 1) (lenW ((((openP (l)).drop 1).drop 1).drop 1) (lenW (((openP (l)).drop 1).drop 1) (lenW ((openP (l)).drop 1) (lenW (openP (l)) (openW (l)) 32) 1) 32) 32) 32) 2) 32) 2) 2) (141))) :: blk g1 70 headerL (headerV (header0)) :: H) w10 := hK24
   refine VL.toOwn hK24 ?_
   refine VL.store (L := headerL) (qs := (headerV (headerOf (openP l)))) (ps' := (headerV (headerOf (openP l)))) 1 0 9 rfl rfl rfl (.inl kd70) rfl rfl (headerV_len (headerOf_ok (openP l))) (headerV_ok1 (headerOf (openP l))) rfl rfl ?_
   refine VL.set1 ?_
   refine VL.assign rfl ?_
   refine VL.nn ?_
   refine VC.ret ?_
   refine VX.ret_cell (cs := cat (headerV (headerOf (openP l)))) 1 rfl rfl rfl (by rw [cat_size (headerV_len (headerOf_ok (openP l)))]; exact kd70) (fun _ h => h) rfl rfl (fun we hw => ?_)
   have hc := header_why' l
   rw [show (if (headerO (headerOf (openP l))).isSome = true ∧ firstOf (openP l) ≤ 1 then takesW headerK (openP l) (openW l) else failW (takesW headerK (openP l) (openW l)) 141) = failW (takesW headerK (openP l) (openW l)) 141 from if_neg (fun h => by rw [hs] at h; cases h.1)] at hc
   exact ⟨congrArg (fun n : Nat => Value.tuple #[_, .int .i64 (n : Int)]) hc, hw.drop.drop.subA⟩
 ·refine VL.not rfl ?_
  refine VL.move rfl ?_
  refine VL.go rfl rfl rfl ?_
  refine VL.move rfl ?_
  refine VL.go rfl rfl rfl ?_
  refine VL.gtr rfl rfl ?_
  refine VL.case (fun h8_4 => ?_) (fun h8_4 => ?_)
  ·have h8_4 : ¬ firstOf (openP l) ≤ 1 := fun h => by have h8_4 : (1 : Int) < ((firstOf (openP l) : Nat) : Int) := h8_4; omega
   refine VL.pick_f rfl rfl ?_
   refine VL.nn ?_
   refine VC.yes rfl ?_
   refine VC.region ?_
   refine VL.move rfl ?_
   refine VL.call Try.func125 rfl (by decide) rfl (fun w' hw => fail_R (i := 1) rfl hw (141)) (fun v => ?_)
   refine VL.fact fun e25 => ?_
   subst e25
   refine VL.set1 ?_
   refine VL.nn ?_
   refine VC.seq ?_
   refine VC.letCells 0 rfl (fun w26 hO28 hF27 => ?_)
   apply VC.anyTA 3 2 (F := [eqF _, eqF _, lateE _]) [⟨[], [5]⟩, ⟨[], [4]⟩, ⟨[(54, 1)], []⟩] [(53, 0), (55, 2)] [0, 2, 3, 4, 5, 6, 8, 9, 10, 11, 12, 13, 14, 15, 16, 17, 18, 19, 20, 21, 22, 23, 24, 25, 26, 27, 28, 29, 30, 31, 32, 33, 34, 35, 36, 37, 38, 39, 40, 41, 42, 43, 44, 45, 46, 47, 48, 49, 50, 51] rfl (by kernel_rfl) (by kernel_rfl) rfl rfl (by kernel_rfl) (by kernel_rfl) (by kernel_rfl) rfl ?obs10 ?end10
   case obs10 =>
    refine Obs.cons ?_ ?_
    ·refine obS (by kernel_rfl) rfl rfl (fun ph10 w10 hO10 => ?_)
     refine VL.loadsF (s := ⟨w26, _⟩) (cs := cat (headerV (headerOf (openP l)))) 0 9 rfl kd70 hF27 (fun _ e => e ▸ Still.ok hO10 (by repeat (first | exact List.mem_cons_self .. | apply List.mem_cons_of_mem))) rfl rfl rfl ?_
     exact VL.finS hO10 rfl rfl
    refine Obs.cons ?_ ?_
    ·refine obS (by kernel_rfl) rfl rfl (fun ph10 w10 hO10 => ?_)
     refine VL.move rfl ?_
     exact VL.finS hO10 rfl rfl
    refine Obs.cons ?_ ?_
    ·refine obK (by kernel_rfl) rfl (fun w10 hO10 => ?_)
     rintro _ rfl
     refine VL.toOwn hO10 ?_
     refine VL.call Try.func126 rfl (by decide) rfl (fun w' hw => end_R (i := 0) rfl hw) (fun v => ?_)
     exact VL.finC rfl (fun _ h => h.2) (fun _ h => ⟨w10, h⟩)
    exact Obs.nil
   case end10 =>
    intro w10 hO10
    rintro _ rfl _ ⟨wk10, rfl, hK30⟩
    replace hK30 : Own _ (rch g2 ((((((((((openP (l)).drop 1).drop 1).drop 1).drop 1).drop 1).drop 1).drop 1).drop 1).drop 1) (endW ((((((((((openP (l)).drop 1).drop 1).drop 1).drop 1).drop 1).drop 1).drop 1).drop 1).drop 1) (failW (lenW (((((((((openP (l)).drop 1).drop 1).drop 1).drop 1).drop 1).drop 1).drop 1).drop 1) (lenW ((((((((openP (l)).drop 1).drop 1).drop 1).drop 1).drop 1).drop 1).drop 1) (lenW (((((((openP (l)).drop 1).drop 1).drop 1).drop 1).drop 1).drop 1) (lenW ((((((openP (l)).drop 1).drop 1).drop 1).drop 1).drop 1) (lenW (((((openP (l)).drop 1).drop 1).drop 1).drop 1) (lenW ((((openP (l)).drop 1).drop 1).drop 1) (lenW (((openP (l)).drop 1).drop 1) (lenW ((openP (l)).drop 1) (lenW (openP (l)) (openW (l)) 32) 1) 32) 32) 32) 2) 32) 2) 2) (141))) :: blk g1 70 headerL (headerV (header0)) :: H) w10 := hK30
    refine VL.toOwn hK30 ?_
    refine VL.store (L := headerL) (qs := (headerV (headerOf (openP l)))) (ps' := (headerV (headerOf (openP l)))) 1 0 9 rfl rfl rfl (.inl kd70) rfl rfl (headerV_len (headerOf_ok (openP l))) (headerV_ok1 (headerOf (openP l))) rfl rfl ?_
    refine VL.set1 ?_
    refine VL.assign rfl ?_
    refine VL.nn ?_
    refine VC.ret ?_
    refine VX.ret_cell (cs := cat (headerV (headerOf (openP l)))) 1 rfl rfl rfl (by rw [cat_size (headerV_len (headerOf_ok (openP l)))]; exact kd70) (fun _ h => h) rfl rfl (fun we hw => ?_)
    have hc := header_why' l
    rw [show (if (headerO (headerOf (openP l))).isSome = true ∧ firstOf (openP l) ≤ 1 then takesW headerK (openP l) (openW l) else failW (takesW headerK (openP l) (openW l)) 141) = failW (takesW headerK (openP l) (openW l)) 141 from if_neg (fun h => h8_4 h.2)] at hc
    exact ⟨congrArg (fun n : Nat => Value.tuple #[_, .int .i64 (n : Int)]) hc, hw.drop.drop.subA⟩
  ·have h8_4 : firstOf (openP l) ≤ 1 := by have h8_4 : ¬ (1 : Int) < ((firstOf (openP l) : Nat) : Int) := h8_4; omega
   refine VL.pick_f rfl rfl ?_
   refine VL.nn ?_
   refine VC.no rfl ?_
   refine VC.skip ?_
   refine VX.next ?_
   refine VC.seq ?_
   refine VC.letCells 0 rfl (fun w31 hO33 hF32 => ?_)
   apply VC.anyTA 3 2 (F := [eqF _, eqF _, lateE _]) [⟨[], [5]⟩, ⟨[], [4]⟩, ⟨[(54, 1)], []⟩] [(53, 0), (55, 2)] [0, 2, 3, 4, 5, 6, 8, 9, 10, 11, 12, 13, 14, 15, 16, 17, 18, 19, 20, 21, 22, 23, 24, 25, 26, 27, 28, 29, 30, 31, 32, 33, 34, 35, 36, 37, 38, 39, 40, 41, 42, 43, 44, 45, 46, 47, 48, 49, 50, 51] rfl (by kernel_rfl) (by kernel_rfl) rfl rfl (by kernel_rfl) (by kernel_rfl) (by kernel_rfl) rfl ?obs10 ?end10
   case obs10 =>
    refine Obs.cons ?_ ?_
    ·refine obS (by kernel_rfl) rfl rfl (fun ph10 w10 hO10 => ?_)
     refine VL.loadsF (s := ⟨w31, _⟩) (cs := cat (headerV (headerOf (openP l)))) 0 9 rfl kd70 hF32 (fun _ e => e ▸ Still.ok hO10 (by repeat (first | exact List.mem_cons_self .. | apply List.mem_cons_of_mem))) rfl rfl rfl ?_
     exact VL.finS hO10 rfl rfl
    refine Obs.cons ?_ ?_
    ·refine obS (by kernel_rfl) rfl rfl (fun ph10 w10 hO10 => ?_)
     refine VL.move rfl ?_
     exact VL.finS hO10 rfl rfl
    refine Obs.cons ?_ ?_
    ·refine obK (by kernel_rfl) rfl (fun w10 hO10 => ?_)
     rintro _ rfl
     refine VL.toOwn hO10 ?_
     refine VL.call Try.func126 rfl (by decide) rfl (fun w' hw => end_R (i := 0) rfl hw) (fun v => ?_)
     exact VL.finC rfl (fun _ h => h.2) (fun _ h => ⟨w10, h⟩)
    exact Obs.nil
   case end10 =>
    intro w10 hO10
    rintro _ rfl _ ⟨wk10, rfl, hK35⟩
    replace hK35 : Own _ (rch g2 ((((((((((openP (l)).drop 1).drop 1).drop 1).drop 1).drop 1).drop 1).drop 1).drop 1).drop 1) (endW ((((((((((openP (l)).drop 1).drop 1).drop 1).drop 1).drop 1).drop 1).drop 1).drop 1).drop 1) (lenW (((((((((openP (l)).drop 1).drop 1).drop 1).drop 1).drop 1).drop 1).drop 1).drop 1) (lenW ((((((((openP (l)).drop 1).drop 1).drop 1).drop 1).drop 1).drop 1).drop 1) (lenW (((((((openP (l)).drop 1).drop 1).drop 1).drop 1).drop 1).drop 1) (lenW ((((((openP (l)).drop 1).drop 1).drop 1).drop 1).drop 1) (lenW (((((openP (l)).drop 1).drop 1).drop 1).drop 1) (lenW ((((openP (l)).drop 1).drop 1).drop 1) (lenW (((openP (l)).drop 1).drop 1) (lenW ((openP (l)).drop 1) (lenW (openP (l)) (openW (l)) 32) 1) 32) 32) 32) 2) 32) 2) 2)) :: blk g1 70 headerL (headerV (header0)) :: H) w10 := hK35
    refine VL.toOwn hK35 ?_
    refine VL.store (L := headerL) (qs := (headerV (headerOf (openP l)))) (ps' := (headerV (headerOf (openP l)))) 1 0 9 rfl rfl rfl (.inl kd70) rfl rfl (headerV_len (headerOf_ok (openP l))) (headerV_ok1 (headerOf (openP l))) rfl rfl ?_
    refine VL.set1 ?_
    refine VL.assign rfl ?_
    refine VL.nn ?_
    refine VC.ret ?_
    refine VX.ret_cell (cs := cat (headerV (headerOf (openP l)))) 1 rfl rfl rfl (by rw [cat_size (headerV_len (headerOf_ok (openP l)))]; exact kd70) (fun _ h => h) rfl rfl (fun we hw => ?_)
    have hc := header_why' l
    rw [show (if (headerO (headerOf (openP l))).isSome = true ∧ firstOf (openP l) ≤ 1 then takesW headerK (openP l) (openW l) else failW (takesW headerK (openP l) (openW l)) 141) = takesW headerK (openP l) (openW l) from if_pos ⟨hs, h8_4⟩] at hc
    exact ⟨congrArg (fun n : Nat => Value.tuple #[_, .int .i64 (n : Int)]) hc, hw.drop.drop.subA⟩

theorem getLetter_w {S : List Snap} {H : List Chunk} {w : World} (ho : Own S H w) {p : Option Addr} {l : List UInt8} {c : Nat} (hA : Bytes (keys H) w p l c) : Calls Try.prog 54 #[.slice p l.length c] w (Ret fun v w' => ∃ p c, v = .tuple #[.agg (cat (letterV ((letterR l).getD letter0) p c)).toArray, .int .i64 (((if (letterR l).isSome then 0 else 141 : Nat)) : Int)] ∧ Own S H w' ∧ Bytes (keys H) w' p ((letterR l).getD letter0).body c) := by
 refine enter (G := Own (⟨w, keys H⟩ :: S) H) ho.keep Try.func54 rfl Try.ntmps54 rfl ?_
 refine VC.sr ?_
 refine VL.alloc (L := letterL) (ps := (letterV (letter0) none 0)) zero72 rfl rfl (fun g1 => ?_)
 refine VL.assign rfl ?_
 refine VL.nn ?_
 refine VC.sr ?_
 refine VL.move rfl ?_
 refine VL.call Try.func121 rfl (by decide) rfl (fun w' hw => open_R hw (hA.nowA (s := ⟨w, _⟩) Mono.byte hw)) (fun v => ?_)
 refine VL.ex fun g2 => VL.fact fun e3 => ?_
 subst e3
 refine VL.assign rfl ?_
 refine VL.nn ?_
 refine VC.sr ?_
 refine VL.move rfl ?_
 refine VL.call Try.func122 rfl (by decide) rfl (fun w' hw => byte_R (i := 0) rfl hw) (fun v => ?_)
 refine VL.fact fun e4 => ?_
 subst e4
 refine VL.set0 ?_
 refine VL.move rfl ?_
 refine VL.call Try.func122 rfl (by decide) rfl (fun w' hw => byte_R (i := 0) rfl hw) (fun v => ?_)
 refine VL.fact fun e5 => ?_
 subst e5
 refine VL.set0 ?_
 refine VL.build (zs := letterZ) (L := letterFL) [(0, [.int .u8 (takeN (openP (l)) 1)]), (1, [.int .u8 (takeN ((openP (l)).drop 1) 1)])] plan72 rfl ⟨⟨rfl, ⟨_, rfl, rfl⟩, rfl⟩, ⟨⟨rfl, ⟨_, rfl, rfl⟩, rfl⟩, trivial⟩⟩ rfl ?_
 refine VL.newv (v' := .agg (cat (letterV ((letterS (takeN (openP l) 1) (takeN ((openP l).drop 1) 1))) none 0)).toArray) rfl ?_
 refine VL.alloc (L := letterL) (ps := (letterV (letter0) none 0)) zero72 rfl rfl (fun g6 => ?_)
 refine VL.store (L := letterL) (qs := (letterV ((letterS (takeN (openP l) 1) (takeN ((openP l).drop 1) 1))) none 0)) (ps' := (letterV ((letterS (takeN (openP l) 1) (takeN ((openP l).drop 1) 1))) none 0)) 0 0 12 rfl rfl rfl (.inl kd72) rfl rfl (letterV_len (letterS_ok (takeN_lt (openP l) 1) (takeN_lt ((openP l).drop 1) 1))) (letterV_ok1 ((letterS (takeN (openP l) 1) (takeN ((openP l).drop 1) 1))) none 0) rfl rfl ?_
 refine VL.set0 ?_
 refine VL.nn ?_
 refine VC.sr ?_
 refine VL.move rfl ?_
 refine VL.call Try.func124 rfl (by decide) rfl (fun w' hw => piece_R (i := 1) rfl hw) (fun v => ?_)
 refine VL.at (fun w7 h1w => ?_)
 obtain ⟨p8, c9, rfl, hO11, hA10⟩ := h1w
 replace hO11 := ownSet1 hO11
 replace hA10 := arrSet1 hA10
 refine VL.toOwn hO11 ?_
 refine VL.call Try.func123 rfl (by decide) rfl (fun w' hw => header_w hw (hA10.nowA (s := ⟨w7, _⟩) Mono.byte hw)) (fun v => ?_)
 refine VL.fact fun e12 => ?_
 subst e12
 refine VL.move rfl ?_
 refine VL.extract rfl rfl ?_
 refine VL.extract rfl rfl ?_
 refine VL.alloc (L := headerL) (ps := (headerV (header0))) zero70 rfl rfl (fun g13 => ?_)
 refine VL.store (L := headerL) (qs := (headerV ((headerOf (openP (nextP (((openP (l)).drop 1).drop 1))))))) (ps' := (headerV ((headerOf (openP (nextP (((openP (l)).drop 1).drop 1))))))) 0 0 9 rfl rfl rfl (.inl kd70) rfl rfl (headerV_len (headerOf_ok (openP (nextP (((openP (l)).drop 1).drop 1))))) (headerV_ok1 ((headerOf (openP (nextP (((openP (l)).drop 1).drop 1)))))) rfl rfl ?_
 refine VL.set0 ?_
 refine VL.assign rfl ?_
 refine VL.nn ?_
 refine VC.sr ?_
 refine VL.move rfl ?_
 refine VL.move rfl ?_
 refine VL.call Try.func125 rfl (by decide) rfl (fun w' hw => fail_R (i := 2) rfl hw (if (headerR (nextP (((openP (l)).drop 1).drop 1))).isSome then 0 else 141)) (fun v => ?_)
 refine VL.fact fun e14 => ?_
 subst e14
 refine VL.set2 ?_
 refine VL.nn ?_
 refine VC.seq ?_
 refine VC.letCells 0 rfl (fun w15 hO17 hF16 => ?_)
 apply VC.anyTA 4 2 (F := [eqF _, eqF _, lateE _, eqF _]) [⟨[], [6]⟩, ⟨[], [4]⟩, ⟨[(26, 1)], []⟩, ⟨[], [5]⟩] [(25, 0), (27, 2), (28, 3)] [0, 2, 3, 4, 5, 6, 7, 8, 9, 10, 11, 12, 13, 14, 15, 16, 17, 18, 19, 20, 21, 22, 23, 29, 30, 31, 32, 33, 34, 35] rfl (by kernel_rfl) (by kernel_rfl) rfl rfl (by kernel_rfl) (by kernel_rfl) (by kernel_rfl) rfl ?obs5 ?end5
 case obs5 =>
  refine Obs.cons ?_ ?_
  ·refine obS (by kernel_rfl) rfl rfl (fun ph5 w5 hO5 => ?_)
   refine VL.loadsF (s := ⟨w15, _⟩) (cs := cat (headerV ((headerOf (openP (nextP (((openP (l)).drop 1).drop 1))))))) 0 9 rfl kd70 hF16 (fun _ e => e ▸ Still.ok hO5 (by repeat (first | exact List.mem_cons_self .. | apply List.mem_cons_of_mem))) rfl rfl rfl ?_
   exact VL.finS hO5 rfl rfl
  refine Obs.cons ?_ ?_
  ·refine obS (by kernel_rfl) rfl rfl (fun ph5 w5 hO5 => ?_)
   refine VL.move rfl ?_
   exact VL.finS hO5 rfl rfl
  refine Obs.cons ?_ ?_
  ·refine obK (by kernel_rfl) rfl (fun w5 hO5 => ?_)
   rintro _ rfl
   refine VL.toOwn hO5 ?_
   refine VL.call Try.func124 rfl (by decide) rfl (fun w' hw => piece_R (i := 1) rfl hw) (fun v => ?_)
   exact VL.finC rfl (fun _ ⟨_, _, _, h, _⟩ => h) (fun _ h => ⟨w5, h⟩)
  refine Obs.cons ?_ ?_
  ·refine obS (by kernel_rfl) rfl rfl (fun ph5 w5 hO5 => ?_)
   refine VL.fieldAddr rfl fo72_2 rfl ?_
   exact VL.finS hO5 rfl rfl
  exact Obs.nil
 case end5 =>
  intro w5 hO5
  rintro _ rfl _ ⟨wk5, p19, c20, rfl, hK23, hA21⟩ _ rfl
  replace hK23 : Own _ (blk g6 72 letterL (letterV ((letterS (takeN (openP l) 1) (takeN ((openP l).drop 1) 1))) none 0) :: rch g2 (((((openP (l)).drop 1).drop 1).drop 1).drop 1) (nextW ((((openP (l)).drop 1).drop 1).drop 1) (failW (nextW (((openP (l)).drop 1).drop 1) (lenW ((openP (l)).drop 1) (lenW (openP (l)) (openW (l)) 1) 1)) (if (headerR (nextP (((openP (l)).drop 1).drop 1))).isSome then 0 else 141))) :: blk g1 72 letterL (letterV (letter0) none 0) :: H) w5 := hK23
  refine VL.toOwn hK23 ?_
  refine VL.store (L := letterL) (qs := (headerV ((headerOf (openP (nextP (((openP (l)).drop 1).drop 1))))))) 0 2 9 rfl rfl rfl (.inl kd70) rfl rfl (headerV_len (headerOf_ok (openP (nextP (((openP (l)).drop 1).drop 1))))) (headerV_ok1 ((headerOf (openP (nextP (((openP (l)).drop 1).drop 1)))))) rfl rfl ?_
  refine VL.set0 ?_
  refine VL.fieldAddr rfl fo72_3 rfl ?_
  refine VL.store (L := letterL) (qs := [[.slice p19 (nextP ((((openP (l)).drop 1).drop 1).drop 1)).length c20]]) 0 11 1 rfl rfl rfl (.inr ⟨kd24, rfl⟩) rfl rfl rfl (by intro u hu; simp [cat] at hu; subst hu; rfl) rfl rfl ?_
  refine VL.set0 ?_
  refine VL.nn ?_
  refine VC.seq ?_
  refine VC.sr ?_
  refine VL.move rfl ?_
  refine VL.call Try.func126 rfl (by decide) rfl (fun w' hw => end_R (i := 1) rfl hw) (fun v => ?_)
  refine VL.fact fun e24 => ?_
  subst e24
  refine VL.set1 ?_
  refine VL.assign rfl ?_
  refine VL.nn ?_
  refine VC.sr ?_
  refine VL.move rfl ?_
  refine VL.neq rfl rfl ?_
  refine VL.case (fun h7_1 => ?_) (fun h7_1 => ?_)
  ·refine VL.nn ?_
   refine VC.yes rfl ?_
   refine VC.sr ?_
   refine VL.build0 (cs := cat (letterV (letter0) none 0)) built72 ?_
   refine VL.store (L := letterL) (qs := (letterV (letter0) none 0)) (ps' := (letterV (letter0) none 0)) 2 0 12 rfl rfl rfl (.inl kd72) rfl rfl rfl (letterV_ok1 letter0 none 0) rfl rfl ?_
   refine VL.set2 ?_
   refine VL.assign rfl ?_
   refine VL.nn ?_
   refine VC.ret ?_
   refine VX.then_ret ?_
   refine VX.ret_cell (cs := cat (letterV (letter0) none 0)) 2 rfl rfl rfl kd72 (fun _ h => h) rfl rfl (fun we hw => ?_)
   obtain ⟨e1, e2⟩ := why_none h7_1 (letter_why' l)
   exact ⟨none, 0, by rw [e1]; rfl, hw.drop.drop.drop.subA, by rw [e1]; exact Arr.none⟩
  ·refine VL.nn ?_
   refine VC.no rfl ?_
   refine VC.skip ?_
   refine VX.next ?_
   refine VC.sr ?_
   refine VL.loads (cs := cat (letterV (letterOf (openP l) (headerOf (openP (nextP (((openP l).drop 1).drop 1))))) p19 c20)) 0 0 12 rfl kd72 (fun _ h => h) rfl rfl rfl rfl ?_
   refine VL.store (L := letterL) (qs := (letterV (letterOf (openP l) (headerOf (openP (nextP (((openP l).drop 1).drop 1))))) p19 c20)) (ps' := (letterV (letterOf (openP l) (headerOf (openP (nextP (((openP l).drop 1).drop 1))))) p19 c20)) 2 0 12 rfl rfl rfl (.inl kd72) rfl rfl (letterV_len (⟨takeN_lt _ 1, takeN_lt _ 1, headerOf_ok _⟩ : Letter.ok _)) (letterV_ok1 (letterOf (openP l) (headerOf (openP (nextP (((openP l).drop 1).drop 1))))) p19 c20) rfl rfl ?_
   refine VL.set2 ?_
   refine VL.assign rfl ?_
   refine VL.nn ?_
   refine VC.ret ?_
   refine VX.ret_cell (cs := cat (letterV (letterOf (openP l) (headerOf (openP (nextP (((openP l).drop 1).drop 1))))) p19 c20)) 2 rfl rfl rfl (by rw [cat_size (letterV_len (⟨takeN_lt _ 1, takeN_lt _ 1, headerOf_ok _⟩ : Letter.ok _))]; exact kd72) (fun _ h => h) rfl rfl (fun we hw => ?_)
   obtain ⟨y, e1⟩ := why_some h7_1 (letter_why' l)
   obtain ⟨hd, e2, e3⟩ := letterR_of e1
   rw [e1, ← e3, ← headerR_of e2]
   exact ⟨_, _, rfl, hw.drop.drop.drop.subA, (hA21.nowA (s := ⟨w5, _⟩) Mono.byte hw.drop.drop.drop)⟩

end Go.Proofs.Ytcfecmoagfgnaaa

/- wire: bytes of objects. -/
namespace Go.Proofs.Ytcfecmoagfgnaaa
open Go.Vc Go.Pl

theorem vouchB_is (v : Vouch) : be 1 v.notary ++ v.sig = vouchB v := by rw [be_one]; rfl
theorem vouch_next {vs : List Vouch} {i : Nat} (h : i < vs.length) : (vs.take i).map vouchB ++ [be 1 (vs[i]'h).notary ++ (vs[i]'h).sig] = (vs.take (i + 1)).map vouchB := by
 rw [List.take_succ_eq_append_getElem h, List.map_append, vouchB_is]; rfl

theorem putObject_w {S : List Snap} {H : List Chunk} {w : World} (ho : Own S H w) {x : Object} (hx : x.ok) {q : Option Addr} {d : Nat} (hV : Arr 65 vouchR (keys H) w q x.vouches d) : Calls Try.prog 65 #[.agg (cat (objectV x q d)).toArray] w (RetO S H (objectO x)) := by
 have hx1 := hx.server
 have hx2 := hx.n
 have hx3 := hx.since
 have hx4 := hx.till
 refine enter (G := Own (⟨w, keys H⟩ :: S) H) ho.keep Try.func65 rfl Try.ntmps65 rfl ?_
 refine VC.sr ?_
 refine VL.box (L := objectL) (ps := (objectV (x) q d)) rfl rfl (objectV_len hx) (fun g1 => ?_)
 refine VL.assign rfl ?_
 refine VL.assign rfl ?_
 refine VL.nn ?_
 refine VC.sr ?_
 refine VL.fieldAddr rfl fo85_6 rfl ?_
 refine VL.load (v := .slice q (x.vouches).length d) 0 6 rfl kd83 (fun _ h => h) rfl rfl rfl ?_
 refine VL.len Try.underlying83 rfl rfl ?_
 refine VL.gtr rfl rfl ?_
 refine VL.case (fun h1_3 => ?_) (fun h1_3 => ?_)
 ·refine VL.build (zs := [[.slice none 0 0], [.bool false]]) [(1, [.bool true])] plan181 rfl ⟨⟨rfl, ⟨_, rfl, rfl⟩, rfl⟩, trivial⟩ rfl ?_
  refine VL.box (L := [1, 1]) (ps := [[rowV none 0 0], [.bool true]]) rfl rfl rfl (fun g2 => ?_)
  refine VL.turn (fun w' hw => Own.newW hw) ?_
  refine VL.assign rfl ?_
  refine VL.nn ?_
  refine VC.seq ?_
  refine VC.sr ?_
  refine VL.move rfl ?_
  refine VL.nilCheck rfl ?_
  refine VL.fieldAddr rfl fo181_1 rfl ?_
  refine VL.load (v := .bool true) 0 1 rfl kd4 (fun _ h => h) rfl rfl rfl ?_
  refine VL.nn ?_
  refine VC.yes rfl ?_
  refine VC.sr ?_
  refine VL.assign rfl ?_
  refine VL.assign rfl ?_
  refine VL.nn ?_
  refine VC.ret ?_
  refine VX.then_ret ?_
  refine VX.ret2 rfl rfl rfl (fun we hw => ?_)
  exact postO ((show (none : Option (List UInt8)) = objectO x from (if_neg (by omega)).symm)) ⟨none, 0, rfl, hw.drop.drop.drop.subA, Arr.none⟩
 ·refine VL.build (zs := [[.slice none 0 0], [.bool false]]) [(1, [.bool false])] plan181 rfl ⟨⟨rfl, ⟨_, rfl, rfl⟩, rfl⟩, trivial⟩ rfl ?_
  refine VL.box (L := [1, 1]) (ps := [[rowV none 0 0], [.bool false]]) rfl rfl rfl (fun g3 => ?_)
  refine VL.turn (fun w' hw => Own.newW hw) ?_
  refine VL.assign rfl ?_
  refine VL.nn ?_
  refine VC.seq ?_
  refine VC.sr ?_
  refine VL.move rfl ?_
  refine VL.nilCheck rfl ?_
  refine VL.fieldAddr rfl fo181_1 rfl ?_
  refine VL.load (v := .bool false) 0 1 rfl kd4 (fun _ h => h) rfl rfl rfl ?_
  refine VL.nn ?_
  refine VC.no rfl ?_
  refine VC.skip ?_
  refine VX.next ?_
  refine VC.sr ?_
  refine VL.move rfl ?_
  refine VL.fieldAddr rfl fo85_0 rfl ?_
  refine VL.load (v := .int .u8 (x.server)) 2 0 rfl kd5 (fun _ h => h) rfl rfl rfl ?_
  refine VL.conv (by rw [Try.underlying5]; rfl) Try.underlying22 rfl (inr_u64 (by omega)) ?_
  refine VL.call Try.func116 rfl (by decide) rfl (fun w' hw => num_w hw (by simp only [List.length_append, List.length_cons, List.length_nil, List.length_map]; omega) (x.server) (fits_small (by omega)) 1 (by decide) (by decide) (fits1 (by omega))) (fun v => ?_)
  refine VL.fact fun e6 => ?_
  subst e6
  refine VL.ex fun gp4 => VL.ex fun c5 => ?_
  refine VL.nn ?_
  refine VC.sr ?_
  refine VL.move rfl ?_
  refine VL.fieldAddr rfl fo85_1 rfl ?_
  refine VL.load (v := .int .u8 (x.n)) 2 1 rfl kd5 (fun _ h => h) rfl rfl rfl ?_
  refine VL.conv (by rw [Try.underlying5]; rfl) Try.underlying22 rfl (inr_u64 (by omega)) ?_
  refine VL.call Try.func116 rfl (by decide) rfl (fun w' hw => num_w hw (by simp only [List.length_append, List.length_cons, List.length_nil, List.length_map]; omega) (x.n) (fits_small (by omega)) 1 (by decide) (by decide) (fits1 (by omega))) (fun v => ?_)
  refine VL.fact fun e9 => ?_
  subst e9
  refine VL.ex fun gp7 => VL.ex fun c8 => ?_
  refine VL.nn ?_
  refine VC.sr ?_
  refine VL.move rfl ?_
  refine VL.fieldAddr rfl fo85_2 rfl ?_
  refine VL.loads (cs := (x.key).map bv) 2 2 1 rfl kd44 (fun _ h => h) rfl rfl rfl rfl ?_
  refine VL.call Try.func119 rfl (by decide) rfl (fun w' hw => key_w hw (by simp only [List.length_append, List.length_cons, List.length_nil, List.length_map]; omega) (l := x.key) hx.key) (fun v => ?_)
  refine VL.fact fun e12 => ?_
  subst e12
  refine VL.ex fun gp10 => VL.ex fun c11 => ?_
  refine VL.nn ?_
  refine VC.sr ?_
  refine VL.move rfl ?_
  refine VL.fieldAddr rfl fo85_3 rfl ?_
  refine VL.load (v := .int .u32 (x.since)) 2 3 rfl kd48 (fun _ h => h) rfl rfl rfl ?_
  refine VL.conv (by rw [Try.underlying48]; rfl) Try.underlying22 rfl (inr_u64 (by omega)) ?_
  refine VL.call Try.func116 rfl (by decide) rfl (fun w' hw => num_w hw (by simp only [List.length_append, List.length_cons, List.length_nil, List.length_map]; omega) (x.since) (fits_small (by omega)) 4 (by decide) (by decide) (fits4 (by omega))) (fun v => ?_)
  refine VL.fact fun e15 => ?_
  subst e15
  refine VL.ex fun gp13 => VL.ex fun c14 => ?_
  refine VL.nn ?_
  refine VC.sr ?_
  refine VL.move rfl ?_
  refine VL.fieldAddr rfl fo85_4 rfl ?_
  refine VL.load (v := .int .u32 (x.till)) 2 4 rfl kd48 (fun _ h => h) rfl rfl rfl ?_
  refine VL.conv (by rw [Try.underlying48]; rfl) Try.underlying22 rfl (inr_u64 (by omega)) ?_
  refine VL.call Try.func116 rfl (by decide) rfl (fun w' hw => num_w hw (by simp only [List.length_append, List.length_cons, List.length_nil, List.length_map]; omega) (x.till) (fits_small (by omega)) 4 (by decide) (by decide) (fits4 (by omega))) (fun v => ?_)
  refine VL.fact fun e18 => ?_
  subst e18
  refine VL.ex fun gp16 => VL.ex fun c17 => ?_
  refine VL.nn ?_
  refine VC.sr ?_
  refine VL.move rfl ?_
  refine VL.fieldAddr rfl fo85_5 rfl ?_
  refine VL.loads (cs := (x.sig).map bv) 2 5 1 rfl kd80 (fun _ h => h) rfl rfl rfl rfl ?_
  refine VL.call Try.func128 rfl (by decide) rfl (fun w' hw => sig_w hw (by simp only [List.length_append, List.length_cons, List.length_nil, List.length_map]; omega) (l := x.sig) hx.sig) (fun v => ?_)
  refine VL.fact fun e21 => ?_
  subst e21
  refine VL.ex fun gp19 => VL.ex fun c20 => ?_
  refine VL.nn ?_
  refine VC.seq ?_
  refine VC.sr ?_
  refine VL.fieldAddr rfl fo85_6 rfl ?_
  refine VL.load (v := .slice q (x.vouches).length d) 2 6 rfl kd83 (fun _ h => h) rfl rfl rfl ?_
  refine VL.len Try.underlying83 rfl rfl ?_
  refine VL.move rfl ?_
  refine VL.nn ?_
  refine VC.block ?_
  refine VC.loop (X := Nat × Option Nat × Nat) (fun (i, gp, c) => [(4, .pointer (some ⟨g3, 0, none⟩)), (46, .slice q x.vouches.length d), (47, .int .i64 x.vouches.length), (48, .int .i64 (i : Int))]) (fun (i, gp, c) w' => i ≤ x.vouches.length ∧ Own (⟨w, keys H⟩ :: S) (wblk g3 gp c ((objectP0 x ++ (x.vouches.take i).map vouchB)).length false :: brow gp c ((objectP0 x ++ (x.vouches.take i).map vouchB)) :: blk g1 85 objectL (objectV (x) q d) :: H) w') (fun (i, _) => x.vouches.length - i) (0, gp19, c20) ⟨rfl, rfl, rfl, rfl, trivial⟩ (fun w' h => ⟨Nat.zero_le _, h⟩) (fun (i, gp, c) => VC.fact fun hi => ?_)
  ·have hpl : (objectP0 x).length = 6 := rfl
   have htk : (List.take i x.vouches).length ≤ i := List.length_take_le _ _
   refine VC.sr ?_
   refine VL.lss rfl rfl ?_
   refine VL.case (fun h11 => ?_) (fun h11 => ?_)
   ·have hlt : i < x.vouches.length := by omega
    refine VL.nn ?_
    refine VC.seq ?_
    refine VC.yes rfl ?_
    refine VC.skip ?_
    refine VX.next ?_
    refine VC.seq ?_
    refine VC.block ?_
    refine VC.sr ?_
    refine VL.index (xs := x.vouches) rfl rfl Try.underlying83 sz83 hV (by omega) (by have hi := hlt; omega) ?_
    refine VL.elems (s := ⟨w, _⟩) (m := 65) (i) 0 rfl kd202 (fun _ h => h) (by repeat (first | exact List.mem_cons_self .. | apply List.mem_cons_of_mem)) hV (List.getElem?_eq_getElem hlt) (by simp) (by decide) (fun vs hl hr => ?_)
    obtain ⟨hy23, rfl⟩ := hr
    refine VL.newv (v' := .agg (cat (vouchV (x.vouches[i]'hlt))).toArray) (by rw [List.drop_zero, List.take_of_length_le (by rw [hl]; decide)]) ?_
    refine VL.alloc (L := vouchL) (ps := (vouchV (vouch0))) zero202 rfl rfl (fun g24 => ?_)
    refine VL.store (L := vouchL) (qs := (vouchV ((x.vouches[i]'hlt)))) (ps' := (vouchV ((x.vouches[i]'hlt)))) 0 0 2 rfl rfl rfl (.inl kd202) rfl rfl (vouchV_len hy23) (vouchV_ok1 ((x.vouches[i]'hlt))) rfl rfl ?_
    refine VL.set0 ?_
    refine VL.nn ?_
    refine VC.letCells 0 rfl (fun w25 hO27 hF26 => ?_)
    apply VC.anyTA 7 1008 (F := [eqF _, eqF _, eqF _, capF (be 1 ((x.vouches[i]'hlt).notary)) 1, eqF _, eqF _, bytesF ((be 1 ((x.vouches[i]'hlt).notary) ++ (x.vouches[i]'hlt).sig))]) [⟨[], [4]⟩, ⟨[], [6]⟩, ⟨[(53, 1)], []⟩, ⟨[(54, 2)], []⟩, ⟨[], [6]⟩, ⟨[(56, 4)], []⟩, ⟨[(55, 3), (57, 5)], []⟩] [(52, 0), (58, 6)] [0, 1, 2, 3, 4, 6, 7, 8, 9, 10, 11, 12, 13, 14, 15, 16, 17, 18, 19, 20, 22, 23, 24, 25, 27, 28, 29, 31, 32, 33, 34, 36, 37, 38, 39, 41, 42, 43, 45, 46, 47, 48, 49, 50, 51, 60, 61, 62, 63, 64] rfl (by kernel_rfl) (by kernel_rfl) rfl rfl (by kernel_rfl) (by kernel_rfl) (by kernel_rfl) rfl ?obs13 ?end13
    case obs13 =>
     refine Obs.cons ?_ ?_
     ·refine obS (by kernel_rfl) rfl rfl (fun ph13 w13 hO13 => ?_)
      refine VL.move rfl ?_
      exact VL.finS hO13 rfl rfl
     refine Obs.cons ?_ ?_
     ·refine obS (by kernel_rfl) rfl rfl (fun ph13 w13 hO13 => ?_)
      refine VL.fieldAddr rfl fo202_0 rfl ?_
      exact VL.finS hO13 rfl rfl
     refine Obs.cons ?_ ?_
     ·refine obS (by kernel_rfl) rfl rfl (fun ph13 w13 hO13 => ?_)
      rintro _ rfl
      refine VL.loadF (s := ⟨w25, _⟩) (v := .int .u8 ((x.vouches[i]'hlt).notary)) 0 rfl kd5 hF26 (fun _ e => e ▸ Still.ok hO13 (by repeat (first | exact List.mem_cons_self .. | apply List.mem_cons_of_mem))) rfl rfl ?_
      exact VL.finS hO13 rfl rfl
     refine Obs.cons ?_ ?_
     ·refine ob (by kernel_rfl) rfl (by kernel_rfl) rfl (fun w13 hO13 => ?_)
      rintro _ rfl
      refine VL.toOwn hO13 ?_
      refine VL.litByte (m := (x.vouches[i]'hlt).notary) el24 rfl (by have hm := hy23.notary; omega) (fun g28 w29 hO30 hA31 => ?_)
      exact VL.finO rfl (fun _ h => h.subA) (fun _ h => ⟨_, rfl, (hA31.nowA (s := ⟨w29, _⟩) Mono.byte h)⟩)
     refine Obs.cons ?_ ?_
     ·refine obS (by kernel_rfl) rfl rfl (fun ph13 w13 hO13 => ?_)
      refine VL.fieldAddr rfl fo202_1 rfl ?_
      exact VL.finS hO13 rfl rfl
     refine Obs.cons ?_ ?_
     ·refine obS (by kernel_rfl) rfl rfl (fun ph13 w13 hO13 => ?_)
      rintro _ rfl
      refine VL.sliceArrAt Try.underlying80 (by kernel_rfl) rfl ?_
      refine VL.newv (v' := .slice (some ⟨g24, 1, none⟩) ((x.vouches[i]'hlt).sig).length 64) (by rw [hy23.sig]) ?_
      exact VL.finS hO13 rfl rfl
     refine Obs.cons ?_ ?_
     ·refine ob (by kernel_rfl) rfl (by kernel_rfl) rfl (fun w13 hO13 => ?_)
      rintro _ ⟨p13_3, rfl, hA13_3⟩ _ rfl
      refine VL.toOwn hO13 ?_
      refine VL.appendFull el24 rfl rfl rfl (by simp only [be_length]; omega) (by have hl := hy23.sig; omega) (by simp only [be_length]; have hl := hy23.sig; omega) (by simp only [be_length]; have hl := hy23.sig; omega) (fun _ hw => (hA13_3.nowA (s := ⟨w13, _⟩) Mono.byte hw)) (fun _ hw => ((hF26.bytes 1 1 rfl rfl hy23.sig rfl).nowA (s := ⟨w25, _⟩) Mono.byte hw)) (fun g32 c36 w33 hO34 hA35 => ?_)
      exact VL.finO rfl (fun _ h => h.subA) (fun _ h => ⟨_, _, rfl, (hA35.nowA (s := ⟨w33, _⟩) Mono.byte h)⟩)
     exact Obs.nil
    case end13 =>
     intro w13 hO13
     rintro _ rfl _ ⟨p13_6, c13_6, rfl, hA13_6⟩
     refine VL.toOwn hO13 ?_
     refine VL.call Try.func117 rfl (by decide) rfl (fun w' hw => piece_w hw (by simp only [List.length_append, List.length_cons, List.length_nil, List.length_map]; omega) (hA13_6.nowA (s := ⟨w13, _⟩) Mono.byte hw) true) (fun v => ?_)
     refine VL.fact fun e39 => ?_
     subst e39
     refine VL.ex fun gp37 => VL.ex fun c38 => ?_
     refine VL.nil ?_
     refine VX.block_normal ?_
     refine VX.next ?_
     refine VC.region ?_
     refine VL.add rfl rfl (by simp only [InR]; omega) ?_
     refine VL.move rfl ?_
     refine VL.nil ?_
     refine VX.round (i + 1, gp37, c38) ⟨rfl, rfl, rfl, rfl, trivial⟩ (fun w' h => ⟨by omega, ?_⟩) (by show x.vouches.length - (i + 1) < x.vouches.length - i; omega)
     rw [← vouch_next hlt, ← List.append_assoc]
     exact h.subA
   ·obtain rfl : i = x.vouches.length := by omega
    refine VL.nn ?_
    refine VC.seq ?_
    refine VC.no rfl ?_
    refine VC.exit ?_
    refine VX.then_exit ?_
    refine VX.then_exit ?_
    refine VX.block_here ?_
    refine VX.next ?_
    refine VC.sr ?_
    refine VL.move rfl ?_
    refine VL.call Try.func118 rfl (by decide) rfl (fun w' hw => done_O hw) (fun v => ?_)
    refine VL.at (fun w40 h1w => ?_)
    obtain ⟨p41, c42, rfl, hO44, hA43⟩ := h1w
    refine VL.toOwn hO44 ?_
    refine VL.extract rfl rfl ?_
    refine VL.extract rfl rfl ?_
    refine VL.assign rfl ?_
    refine VL.assign rfl ?_
    refine VL.nn ?_
    refine VC.ret ?_
    refine VX.ret2 rfl rfl rfl (fun we hw => ?_)
    exact postO ((show joinO (objectP0 x ++ (x.vouches.take x.vouches.length).map vouchB) (!false) = objectO x from by rw [List.take_length]; unfold objectO; rw [if_pos (by omega)]; exact joinO_some (objectP_ok hx (by omega)) rfl)) ⟨p41, c42, rfl, hw.drop.subA, (hA43.nowA (s := ⟨w40, _⟩) Mono.byte hw.drop)⟩

theorem letter0_iff (x : Letter) : x = letter0 ↔ x.src = 0 ∧ x.dst = 0 ∧ x.header = header0 ∧ x.body.length = 0 := by
 constructor
 ·rintro rfl; exact ⟨rfl, rfl, rfl, rfl⟩
 ·obtain ⟨a, b, c, d⟩ := x
  rintro ⟨h1, h2, h3, h4⟩
  simp only at h1 h2 h3 h4
  subst h1 h2 h3
  rw [List.eq_nil_of_length_eq_zero h4]; rfl
theorem object0_iff (x : Object) : x = object0 ↔ x.server = 0 ∧ x.n = 0 ∧ x.key = zeros 32 ∧ x.since = 0 ∧ x.till = 0 ∧ x.sig = zeros 64 ∧ x.vouches.length = 0 := by
 constructor
 ·rintro rfl; exact ⟨rfl, rfl, rfl, rfl, rfl, rfl, rfl⟩
 ·obtain ⟨a, b, c, d, e, f, g⟩ := x
  rintro ⟨h1, h2, h3, h4, h5, h6, h7⟩
  simp only at h1 h2 h3 h4 h5 h6 h7
  subst h1 h2 h3 h4 h5 h6
  rw [List.eq_nil_of_length_eq_zero h7]; rfl

theorem emptyLetter_w {S : List Snap} {H : List Chunk} {w : World} (ho : Own S H w) {x : Letter} (hx : x.ok) {p : Option Addr} {c : Nat} : Calls Try.prog 138 #[.agg (cat (letterV x p c)).toArray] w (Ret fun v w' => ∃ b : Bool, v = .bool b ∧ (b = true ↔ x = letter0) ∧ Own S H w') := by
 refine enter (G := Own (⟨w, keys H⟩ :: S) H) ho.keep Try.func138 rfl Try.ntmps138 rfl ?_
 refine VC.sr ?_
 refine VL.box (L := letterL) (ps := (letterV (x) p c)) rfl rfl (letterV_len hx) (fun g1 => ?_)
 refine VL.assign rfl ?_
 refine VL.nn ?_
 refine VC.sr ?_
 refine VL.fieldAddr rfl fo72_0 rfl ?_
 refine VL.load (v := .int .u8 (x.src)) 0 0 rfl kd5 (fun _ h => h) rfl rfl rfl ?_
 refine VL.eql rfl rfl ?_
 refine VL.case (fun h1_2 => ?_) (fun h1_2 => ?_)
 ·have h1_2 : x.src = 0 := by omega
  refine VL.move rfl ?_
  refine VL.go rfl rfl rfl ?_
  refine VL.fieldAddr rfl fo72_1 rfl ?_
  refine VL.go rfl rfl rfl ?_
  refine VL.load (v := .int .u8 (x.dst)) 0 1 rfl kd5 (fun _ h => h) rfl rfl rfl ?_
  refine VL.go rfl rfl rfl ?_
  refine VL.eql rfl rfl ?_
  refine VL.case (fun h1_6 => ?_) (fun h1_6 => ?_)
  ·have h1_6 : x.dst = 0 := by omega
   refine VL.pick_t rfl rfl ?_
   refine VL.move rfl ?_
   refine VL.go rfl rfl rfl ?_
   refine VL.fieldAddr rfl fo72_2 rfl ?_
   refine VL.go rfl rfl rfl ?_
   refine VL.loads (cs := cat (headerV (x.header))) 0 2 9 rfl kd70 (fun _ h => h) rfl rfl rfl rfl ?_
   refine VL.go rfl rfl rfl ?_
   refine VL.build0 (cs := cat (headerV (header0))) built70 ?_
   refine VL.go rfl rfl rfl ?_
   refine VL.eqT guard70 rfl rfl (eqHeader hx.header header0_ok) (fun b h1_12 => ?_)
   cases b
   ·have h1_12 := mt h1_12.2 (by decide)
    refine VL.pick_t rfl rfl ?_
    refine VL.move rfl ?_
    refine VL.pass rfl rfl rfl rfl rfl ?_
    refine VL.pass rfl rfl rfl rfl rfl ?_
    refine VL.pass rfl rfl rfl rfl rfl ?_
    refine VL.pass rfl rfl rfl rfl rfl ?_
    refine VL.pick_f rfl rfl ?_
    refine VL.assign rfl ?_
    refine VL.nn ?_
    refine VC.ret ?_
    refine VX.ret1 rfl rfl (fun we hw => ?_)
    refine ⟨false, rfl, ?_, hw.drop.subA⟩
    rw [letter0_iff]
    simp [h1_2, h1_6, h1_12]
   ·have h1_12 := h1_12.1 rfl
    refine VL.pick_t rfl rfl ?_
    refine VL.move rfl ?_
    refine VL.go rfl rfl rfl ?_
    refine VL.fieldAddr rfl fo72_3 rfl ?_
    refine VL.go rfl rfl rfl ?_
    refine VL.load (v := .slice p (x.body).length c) 0 11 rfl kd24 (fun _ h => h) rfl rfl rfl ?_
    refine VL.go rfl rfl rfl ?_
    refine VL.len Try.underlying24 rfl rfl ?_
    refine VL.go rfl rfl rfl ?_
    refine VL.eql rfl rfl ?_
    refine VL.case (fun h1_18 => ?_) (fun h1_18 => ?_)
    ·have h1_18 : x.body.length = 0 := by omega
     refine VL.pick_t rfl rfl ?_
     refine VL.assign rfl ?_
     refine VL.nn ?_
     refine VC.ret ?_
     refine VX.ret1 rfl rfl (fun we hw => ?_)
     refine ⟨true, rfl, ?_, hw.drop.subA⟩
     rw [letter0_iff]
     simp [h1_2, h1_6, h1_12, h1_18]
    ·have h1_18 : ¬ x.body.length = 0 := by omega
     refine VL.pick_t rfl rfl ?_
     refine VL.assign rfl ?_
     refine VL.nn ?_
     refine VC.ret ?_
     refine VX.ret1 rfl rfl (fun we hw => ?_)
     refine ⟨false, rfl, ?_, hw.drop.subA⟩
     rw [letter0_iff]
     simp [h1_2, h1_6, h1_12, h1_18]
  ·have h1_6 : ¬ x.dst = 0 := by omega
   refine VL.pick_t rfl rfl ?_
   refine VL.move rfl ?_
   refine VL.pass rfl rfl rfl rfl rfl ?_
   refine VL.pass rfl rfl rfl rfl rfl ?_
   refine VL.pass rfl rfl rfl rfl rfl ?_
   refine VL.pass rfl rfl rfl rfl rfl ?_
   refine VL.pick_f rfl rfl ?_
   refine VL.move rfl ?_
   refine VL.pass rfl rfl rfl rfl rfl ?_
   refine VL.pass rfl rfl rfl rfl rfl ?_
   refine VL.pass rfl rfl rfl rfl rfl ?_
   refine VL.pass rfl rfl rfl rfl rfl ?_
   refine VL.pick_f rfl rfl ?_
   refine VL.assign rfl ?_
   refine VL.nn ?_
   refine VC.ret ?_
   refine VX.ret1 rfl rfl (fun we hw => ?_)
   refine ⟨false, rfl, ?_, hw.drop.subA⟩
   rw [letter0_iff]
   simp [h1_2, h1_6]
 ·have h1_2 : ¬ x.src = 0 := by omega
  refine VL.move rfl ?_
  refine VL.pass rfl rfl rfl rfl rfl ?_
  refine VL.pass rfl rfl rfl rfl rfl ?_
  refine VL.pass rfl rfl rfl rfl rfl ?_
  refine VL.pick_f rfl rfl ?_
  refine VL.move rfl ?_
  refine VL.pass rfl rfl rfl rfl rfl ?_
  refine VL.pass rfl rfl rfl rfl rfl ?_
  refine VL.pass rfl rfl rfl rfl rfl ?_
  refine VL.pass rfl rfl rfl rfl rfl ?_
  refine VL.pick_f rfl rfl ?_
  refine VL.move rfl ?_
  refine VL.pass rfl rfl rfl rfl rfl ?_
  refine VL.pass rfl rfl rfl rfl rfl ?_
  refine VL.pass rfl rfl rfl rfl rfl ?_
  refine VL.pass rfl rfl rfl rfl rfl ?_
  refine VL.pick_f rfl rfl ?_
  refine VL.assign rfl ?_
  refine VL.nn ?_
  refine VC.ret ?_
  refine VX.ret1 rfl rfl (fun we hw => ?_)
  refine ⟨false, rfl, ?_, hw.drop.subA⟩
  rw [letter0_iff]
  simp [h1_2]

theorem emptyObject_w {S : List Snap} {H : List Chunk} {w : World} (ho : Own S H w) {x : Object} (hx : x.ok) {q : Option Addr} {d : Nat} : Calls Try.prog 163 #[.agg (cat (objectV x q d)).toArray] w (Ret fun v w' => ∃ b : Bool, v = .bool b ∧ (b = true ↔ x = object0) ∧ Own S H w') := by
 refine enter (G := Own (⟨w, keys H⟩ :: S) H) ho.keep Try.func163 rfl Try.ntmps163 rfl ?_
 refine VC.sr ?_
 refine VL.box (L := objectL) (ps := (objectV (x) q d)) rfl rfl (objectV_len hx) (fun g1 => ?_)
 refine VL.assign rfl ?_
 refine VL.nn ?_
 refine VC.sr ?_
 refine VL.fieldAddr rfl fo85_0 rfl ?_
 refine VL.load (v := .int .u8 (x.server)) 0 0 rfl kd5 (fun _ h => h) rfl rfl rfl ?_
 refine VL.eql rfl rfl ?_
 refine VL.case (fun h1_2 => ?_) (fun h1_2 => ?_)
 ·have h1_2 : x.server = 0 := by omega
  refine VL.move rfl ?_
  refine VL.go rfl rfl rfl ?_
  refine VL.fieldAddr rfl fo85_1 rfl ?_
  refine VL.go rfl rfl rfl ?_
  refine VL.load (v := .int .u8 (x.n)) 0 1 rfl kd5 (fun _ h => h) rfl rfl rfl ?_
  refine VL.go rfl rfl rfl ?_
  refine VL.eql rfl rfl ?_
  refine VL.case (fun h1_6 => ?_) (fun h1_6 => ?_)
  ·have h1_6 : x.n = 0 := by omega
   refine VL.pick_t rfl rfl ?_
   refine VL.move rfl ?_
   refine VL.go rfl rfl rfl ?_
   refine VL.fieldAddr rfl fo85_2 rfl ?_
   refine VL.go rfl rfl rfl ?_
   refine VL.loads (cs := (x.key).map bv) 0 2 1 rfl kd44 (fun _ h => h) rfl rfl rfl rfl ?_
   refine VL.go rfl rfl rfl ?_
   refine VL.build0 (cs := (zeros 32).map bv) built44 ?_
   refine VL.go rfl rfl rfl ?_
   refine VL.eqT guard44 rfl rfl (eqKey 9998 hx.key rfl) (fun b h1_12 => ?_)
   cases b
   ·have h1_12 := mt h1_12.2 (by decide)
    refine VL.pick_t rfl rfl ?_
    refine VL.move rfl ?_
    refine VL.pass rfl rfl rfl rfl rfl ?_
    refine VL.pass rfl rfl rfl rfl rfl ?_
    refine VL.pass rfl rfl rfl rfl rfl ?_
    refine VL.pick_f rfl rfl ?_
    refine VL.move rfl ?_
    refine VL.pass rfl rfl rfl rfl rfl ?_
    refine VL.pass rfl rfl rfl rfl rfl ?_
    refine VL.pass rfl rfl rfl rfl rfl ?_
    refine VL.pick_f rfl rfl ?_
    refine VL.move rfl ?_
    refine VL.pass rfl rfl rfl rfl rfl ?_
    refine VL.pass rfl rfl rfl rfl rfl ?_
    refine VL.pass rfl rfl rfl rfl rfl ?_
    refine VL.pass rfl rfl rfl rfl rfl ?_
    refine VL.pick_f rfl rfl ?_
    refine VL.move rfl ?_
    refine VL.pass rfl rfl rfl rfl rfl ?_
    refine VL.pass rfl rfl rfl rfl rfl ?_
    refine VL.pass rfl rfl rfl rfl rfl ?_
    refine VL.pass rfl rfl rfl rfl rfl ?_
    refine VL.pick_f rfl rfl ?_
    refine VL.assign rfl ?_
    refine VL.nn ?_
    refine VC.ret ?_
    refine VX.ret1 rfl rfl (fun we hw => ?_)
    refine ⟨false, rfl, ?_, hw.drop.subA⟩
    rw [object0_iff]
    simp [h1_2, h1_6, h1_12]
   ·have h1_12 := h1_12.1 rfl
    refine VL.pick_t rfl rfl ?_
    refine VL.move rfl ?_
    refine VL.go rfl rfl rfl ?_
    refine VL.fieldAddr rfl fo85_3 rfl ?_
    refine VL.go rfl rfl rfl ?_
    refine VL.load (v := .int .u32 (x.since)) 0 3 rfl kd48 (fun _ h => h) rfl rfl rfl ?_
    refine VL.go rfl rfl rfl ?_
    refine VL.eql rfl rfl ?_
    refine VL.case (fun h1_17 => ?_) (fun h1_17 => ?_)
    ·have h1_17 : x.since = 0 := by omega
     refine VL.pick_t rfl rfl ?_
     refine VL.move rfl ?_
     refine VL.go rfl rfl rfl ?_
     refine VL.fieldAddr rfl fo85_4 rfl ?_
     refine VL.go rfl rfl rfl ?_
     refine VL.load (v := .int .u32 (x.till)) 0 4 rfl kd48 (fun _ h => h) rfl rfl rfl ?_
     refine VL.go rfl rfl rfl ?_
     refine VL.eql rfl rfl ?_
     refine VL.case (fun h1_22 => ?_) (fun h1_22 => ?_)
     ·have h1_22 : x.till = 0 := by omega
      refine VL.pick_t rfl rfl ?_
      refine VL.move rfl ?_
      refine VL.go rfl rfl rfl ?_
      refine VL.fieldAddr rfl fo85_5 rfl ?_
      refine VL.go rfl rfl rfl ?_
      refine VL.loads (cs := (x.sig).map bv) 0 5 1 rfl kd80 (fun _ h => h) rfl rfl rfl rfl ?_
      refine VL.go rfl rfl rfl ?_
      refine VL.build0 (cs := (zeros 64).map bv) built80 ?_
      refine VL.go rfl rfl rfl ?_
      refine VL.eqT guard80 rfl rfl (eqSig 9998 hx.sig rfl) (fun b h1_28 => ?_)
      cases b
      ·have h1_28 := mt h1_28.2 (by decide)
       refine VL.pick_t rfl rfl ?_
       refine VL.move rfl ?_
       refine VL.pass rfl rfl rfl rfl rfl ?_
       refine VL.pass rfl rfl rfl rfl rfl ?_
       refine VL.pass rfl rfl rfl rfl rfl ?_
       refine VL.pass rfl rfl rfl rfl rfl ?_
       refine VL.pick_f rfl rfl ?_
       refine VL.assign rfl ?_
       refine VL.nn ?_
       refine VC.ret ?_
       refine VX.ret1 rfl rfl (fun we hw => ?_)
       refine ⟨false, rfl, ?_, hw.drop.subA⟩
       rw [object0_iff]
       simp [h1_2, h1_6, h1_12, h1_17, h1_22, h1_28]
      ·have h1_28 := h1_28.1 rfl
       refine VL.pick_t rfl rfl ?_
       refine VL.move rfl ?_
       refine VL.go rfl rfl rfl ?_
       refine VL.fieldAddr rfl fo85_6 rfl ?_
       refine VL.go rfl rfl rfl ?_
       refine VL.load (v := .slice q (x.vouches).length d) 0 6 rfl kd83 (fun _ h => h) rfl rfl rfl ?_
       refine VL.go rfl rfl rfl ?_
       refine VL.len Try.underlying83 rfl rfl ?_
       refine VL.go rfl rfl rfl ?_
       refine VL.eql rfl rfl ?_
       refine VL.case (fun h1_34 => ?_) (fun h1_34 => ?_)
       ·have h1_34 : x.vouches.length = 0 := by omega
        refine VL.pick_t rfl rfl ?_
        refine VL.assign rfl ?_
        refine VL.nn ?_
        refine VC.ret ?_
        refine VX.ret1 rfl rfl (fun we hw => ?_)
        refine ⟨true, rfl, ?_, hw.drop.subA⟩
        rw [object0_iff]
        simp [h1_2, h1_6, h1_12, h1_17, h1_22, h1_28, h1_34]
       ·have h1_34 : ¬ x.vouches.length = 0 := by omega
        refine VL.pick_t rfl rfl ?_
        refine VL.assign rfl ?_
        refine VL.nn ?_
        refine VC.ret ?_
        refine VX.ret1 rfl rfl (fun we hw => ?_)
        refine ⟨false, rfl, ?_, hw.drop.subA⟩
        rw [object0_iff]
        simp [h1_2, h1_6, h1_12, h1_17, h1_22, h1_28, h1_34]
     ·have h1_22 : ¬ x.till = 0 := by omega
      refine VL.pick_t rfl rfl ?_
      refine VL.move rfl ?_
      refine VL.pass rfl rfl rfl rfl rfl ?_
      refine VL.pass rfl rfl rfl rfl rfl ?_
      refine VL.pass rfl rfl rfl rfl rfl ?_
      refine VL.pass rfl rfl rfl rfl rfl ?_
      refine VL.pick_f rfl rfl ?_
      refine VL.move rfl ?_
      refine VL.pass rfl rfl rfl rfl rfl ?_
      refine VL.pass rfl rfl rfl rfl rfl ?_
      refine VL.pass rfl rfl rfl rfl rfl ?_
      refine VL.pass rfl rfl rfl rfl rfl ?_
      refine VL.pick_f rfl rfl ?_
      refine VL.assign rfl ?_
      refine VL.nn ?_
      refine VC.ret ?_
      refine VX.ret1 rfl rfl (fun we hw => ?_)
      refine ⟨false, rfl, ?_, hw.drop.subA⟩
      rw [object0_iff]
      simp [h1_2, h1_6, h1_12, h1_17, h1_22]
    ·have h1_17 : ¬ x.since = 0 := by omega
     refine VL.pick_t rfl rfl ?_
     refine VL.move rfl ?_
     refine VL.pass rfl rfl rfl rfl rfl ?_
     refine VL.pass rfl rfl rfl rfl rfl ?_
     refine VL.pass rfl rfl rfl rfl rfl ?_
     refine VL.pick_f rfl rfl ?_
     refine VL.move rfl ?_
     refine VL.pass rfl rfl rfl rfl rfl ?_
     refine VL.pass rfl rfl rfl rfl rfl ?_
     refine VL.pass rfl rfl rfl rfl rfl ?_
     refine VL.pass rfl rfl rfl rfl rfl ?_
     refine VL.pick_f rfl rfl ?_
     refine VL.move rfl ?_
     refine VL.pass rfl rfl rfl rfl rfl ?_
     refine VL.pass rfl rfl rfl rfl rfl ?_
     refine VL.pass rfl rfl rfl rfl rfl ?_
     refine VL.pass rfl rfl rfl rfl rfl ?_
     refine VL.pick_f rfl rfl ?_
     refine VL.assign rfl ?_
     refine VL.nn ?_
     refine VC.ret ?_
     refine VX.ret1 rfl rfl (fun we hw => ?_)
     refine ⟨false, rfl, ?_, hw.drop.subA⟩
     rw [object0_iff]
     simp [h1_2, h1_6, h1_12, h1_17]
  ·have h1_6 : ¬ x.n = 0 := by omega
   refine VL.pick_t rfl rfl ?_
   refine VL.move rfl ?_
   refine VL.pass rfl rfl rfl rfl rfl ?_
   refine VL.pass rfl rfl rfl rfl rfl ?_
   refine VL.pass rfl rfl rfl rfl rfl ?_
   refine VL.pass rfl rfl rfl rfl rfl ?_
   refine VL.pick_f rfl rfl ?_
   refine VL.move rfl ?_
   refine VL.pass rfl rfl rfl rfl rfl ?_
   refine VL.pass rfl rfl rfl rfl rfl ?_
   refine VL.pass rfl rfl rfl rfl rfl ?_
   refine VL.pick_f rfl rfl ?_
   refine VL.move rfl ?_
   refine VL.pass rfl rfl rfl rfl rfl ?_
   refine VL.pass rfl rfl rfl rfl rfl ?_
   refine VL.pass rfl rfl rfl rfl rfl ?_
   refine VL.pick_f rfl rfl ?_
   refine VL.move rfl ?_
   refine VL.pass rfl rfl rfl rfl rfl ?_
   refine VL.pass rfl rfl rfl rfl rfl ?_
   refine VL.pass rfl rfl rfl rfl rfl ?_
   refine VL.pass rfl rfl rfl rfl rfl ?_
   refine VL.pick_f rfl rfl ?_
   refine VL.move rfl ?_
   refine VL.pass rfl rfl rfl rfl rfl ?_
   refine VL.pass rfl rfl rfl rfl rfl ?_
   refine VL.pass rfl rfl rfl rfl rfl ?_
   refine VL.pass rfl rfl rfl rfl rfl ?_
   refine VL.pick_f rfl rfl ?_
   refine VL.assign rfl ?_
   refine VL.nn ?_
   refine VC.ret ?_
   refine VX.ret1 rfl rfl (fun we hw => ?_)
   refine ⟨false, rfl, ?_, hw.drop.subA⟩
   rw [object0_iff]
   simp [h1_2, h1_6]
 ·have h1_2 : ¬ x.server = 0 := by omega
  refine VL.move rfl ?_
  refine VL.pass rfl rfl rfl rfl rfl ?_
  refine VL.pass rfl rfl rfl rfl rfl ?_
  refine VL.pass rfl rfl rfl rfl rfl ?_
  refine VL.pick_f rfl rfl ?_
  refine VL.move rfl ?_
  refine VL.pass rfl rfl rfl rfl rfl ?_
  refine VL.pass rfl rfl rfl rfl rfl ?_
  refine VL.pass rfl rfl rfl rfl rfl ?_
  refine VL.pass rfl rfl rfl rfl rfl ?_
  refine VL.pick_f rfl rfl ?_
  refine VL.move rfl ?_
  refine VL.pass rfl rfl rfl rfl rfl ?_
  refine VL.pass rfl rfl rfl rfl rfl ?_
  refine VL.pass rfl rfl rfl rfl rfl ?_
  refine VL.pick_f rfl rfl ?_
  refine VL.move rfl ?_
  refine VL.pass rfl rfl rfl rfl rfl ?_
  refine VL.pass rfl rfl rfl rfl rfl ?_
  refine VL.pass rfl rfl rfl rfl rfl ?_
  refine VL.pick_f rfl rfl ?_
  refine VL.move rfl ?_
  refine VL.pass rfl rfl rfl rfl rfl ?_
  refine VL.pass rfl rfl rfl rfl rfl ?_
  refine VL.pass rfl rfl rfl rfl rfl ?_
  refine VL.pass rfl rfl rfl rfl rfl ?_
  refine VL.pick_f rfl rfl ?_
  refine VL.move rfl ?_
  refine VL.pass rfl rfl rfl rfl rfl ?_
  refine VL.pass rfl rfl rfl rfl rfl ?_
  refine VL.pass rfl rfl rfl rfl rfl ?_
  refine VL.pass rfl rfl rfl rfl rfl ?_
  refine VL.pick_f rfl rfl ?_
  refine VL.assign rfl ?_
  refine VL.nn ?_
  refine VC.ret ?_
  refine VX.ret1 rfl rfl (fun we hw => ?_)
  refine ⟨false, rfl, ?_, hw.drop.subA⟩
  rw [object0_iff]
  simp [h1_2]

end Go.Proofs.Ytcfecmoagfgnaaa

