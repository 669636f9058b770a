/- The statement BagPlays is proved, for every input: part 8 of 19 of the texts that it needs. -/
import Derived.Test.YtcfecmoagfgnaaaMbplAG
/- wire: what bytes are read as: objects. -/
namespace Go.Proofs.Ytcfecmoagfgnaaa
open Go.Vc Go.Pl

theorem object_why' (l : List UInt8) : endW (vouchesW 4 (((((((openP l).drop 1).drop 1).drop 1).drop 1).drop 1).drop 1)).2.1 (if (vouchesW 4 (((((((openP l).drop 1).drop 1).drop 1).drop 1).drop 1).drop 1)).2.2 then (takesW objectK (openP l) (openW l)) else failW (takesW objectK (openP l) (openW l)) 141) = if (objectR l).isSome then 0 else 141 := by
 have := object_why l
 simpa only [List.drop_drop] using this
theorem object_vouches' {l : List UInt8} (h : (objectR l).isSome = true) : objectR l = some (objectOf (openP l) (vouchesW 4 (((((((openP l).drop 1).drop 1).drop 1).drop 1).drop 1).drop 1)).1) := by
 have := object_vouches h
 simpa only [List.drop_drop] using this
theorem object_fin {l : List UInt8} {vs : List Vouch} {ps : List (List UInt8)} (hv : vouchesW 4 (((((((openP l).drop 1).drop 1).drop 1).drop 1).drop 1).drop 1) = (vs ++ (vouchesW (4 - vs.length) ps).1, (vouchesW (4 - vs.length) ps).2.1, (vouchesW (4 - vs.length) ps).2.2)) (hx : ps = [] ∨ 4 ≤ vs.length) : endW ps (takesW objectK (openP l) (openW l)) = (if (objectR l).isSome then 0 else 141) ∧ ∀ y, objectR l = some y → y = objectOf (openP l) vs := by
 have e : vouchesW (4 - vs.length) ps = ([], ps, true) := by
  rcases hx with rfl | hx
  ·cases (4 - vs.length) <;> rfl
  ·rw [show 4 - vs.length = 0 by omega]
   cases ps <;> rfl
 rw [e] at hv
 have h1 := object_why' l
 rw [hv] at h1
 refine ⟨h1, fun y hy => ?_⟩
 have h2 := object_vouches' (l := l) (by rw [hy]; rfl)
 rw [hv, hy] at h2
 have := Option.some.inj h2
 rw [List.append_nil] at this
 exact this
theorem object_brk {l : List UInt8} {vs : List Vouch} {p : List UInt8} {r : List (List UInt8)} (hv : vouchesW 4 (((((((openP l).drop 1).drop 1).drop 1).drop 1).drop 1).drop 1) = (vs ++ (vouchesW (4 - vs.length) (p :: r)).1, (vouchesW (4 - vs.length) (p :: r)).2.1, (vouchesW (4 - vs.length) (p :: r)).2.2)) (hx : vs.length < 4) (hp : p.length ≠ 65) : objectR l = none ∧ endW r (failW (takesW objectK (openP l) (openW l)) 141) = 141 := by
 obtain ⟨k, hk⟩ : ∃ k, 4 - vs.length = k + 1 := ⟨4 - vs.length - 1, by omega⟩
 have e : vouchesW (4 - vs.length) (p :: r) = ([], r, false) := by rw [hk]; exact if_neg hp
 have hw : failW (takesW objectK (openP l) (openW l)) 141 = 141 := by
  obtain ⟨h1, h2⟩ := takesW_open (ks := objectK) (by simp) l
  by_cases hf : fitsP objectK (openP l)
  ·rw [h1 hf]; rfl
  ·rw [h2 hf]; rfl
 rw [e] at hv
 have h1 := object_why' l
 rw [hv] at h1
 have e2 : (if (vs ++ ([] : List Vouch), r, false).2.2 = true then (takesW objectK (openP l) (openW l)) else failW (takesW objectK (openP l) (openW l)) 141) = 141 := hw
 rw [e2, endW_141] at h1
 refine ⟨?_, by rw [hw, endW_141]⟩
 cases ho : objectR l with
 | none => rfl
 | some y => rw [ho] at h1; exact absurd h1 (by simp)
theorem vouch_step {l : List UInt8} {vs : List Vouch} {p : List UInt8} {r : List (List UInt8)} (hv : vouchesW 4 (((((((openP l).drop 1).drop 1).drop 1).drop 1).drop 1).drop 1) = (vs ++ (vouchesW (4 - vs.length) (p :: r)).1, (vouchesW (4 - vs.length) (p :: r)).2.1, (vouchesW (4 - vs.length) (p :: r)).2.2)) (hx : vs.length < 4) (hp : p.length = 65) : vouchesW 4 (((((((openP l).drop 1).drop 1).drop 1).drop 1).drop 1).drop 1) = ((vs ++ [vouchOf p]) ++ (vouchesW (4 - (vs ++ [vouchOf p]).length) r).1, (vouchesW (4 - (vs ++ [vouchOf p]).length) r).2.1, (vouchesW (4 - (vs ++ [vouchOf p]).length) r).2.2) := by
 obtain ⟨k, hk⟩ : ∃ k, 4 - vs.length = k + 1 := ⟨4 - vs.length - 1, by omega⟩
 have e : vouchesW (4 - vs.length) (p :: r) = (vouchOf p :: (vouchesW k r).1, (vouchesW k r).2.1, (vouchesW k r).2.2) := by rw [hk]; exact if_pos hp
 rw [hv, e, List.length_append, List.length_singleton, show 4 - (vs.length + 1) = k by omega, List.append_assoc]; rfl
abbrev vouchN (p : List UInt8) : Vouch := ⟨(p.headD 0).toNat, zeros 64⟩
theorem vouchN_ok (p : List UInt8) : (vouchN p).ok := ⟨UInt8.toNat_lt _, rfl⟩
theorem el83 : Elem Try.prog 83 202 65 65 (.agg (cat (vouchV vouch0)).toArray) := ⟨Try.underlying83, by kernel_rfl, by kernel_rfl, rfl, by decide⟩
theorem one_vouch {K : List Nat} {w : World} {v : Vouch} (hv : v.ok) (j : Nat) (y : Vouch) (hj : [v][j]? = some y) : vouchR K w ((([Value.agg (cat (vouchV v)).toArray].flatMap (·.cells.toList)).drop (j * 65)).take 65) y := by
 have hj0 : j = 0 := by have := (List.getElem?_eq_some_iff.1 hj).1; simp at this; exact this
 subst hj0
 simp at hj; subst hj
 refine ⟨hv, ?_⟩
 have e : [Value.agg (cat (vouchV v)).toArray].flatMap (·.cells.toList) = cat (vouchV v) := by simp [Value.cells]
 rw [e, Nat.zero_mul, List.drop_zero, List.take_of_length_le (by rw [cat_size (vouchV_len hv)]; decide)]
theorem objectOf_ok {l : List UInt8} {vs : List Vouch} (h : ∀ v ∈ vs, v.ok) : (objectOf (openP l) vs).ok := ⟨takeN_lt _ 1, takeN_lt _ 1, takeB_length _ _, takeN_lt _ 4, takeN_lt _ 4, takeB_length _ _, h⟩
theorem objectOf_nil (l : List UInt8) : (objectOf (openP l) []).ok := objectOf_ok (by simp)
theorem objectR_ok (l : List UInt8) : ((objectR l).getD object0).ok := by
 cases h : objectR l with
 | none => exact object0_ok
 | some x => exact (objectR_iff.1 h).1
theorem newRow {S : List Snap} {H : List Chunk} {w : World} (h : Own S H w) : Own S (arow 202 65 vouchR Mono_vouch none 0 ([] : List Vouch) :: H) w := Own.arow_nil Mono_vouch 202 65 h

theorem getObject_w {S : List Snap} {H : List Chunk} {w : World} (ho : Own S H w) {p : Option Addr} {l : List UInt8} {c : Nat} (hA : Bytes (keys H) w p l c) : Calls Try.prog 71 #[.slice p l.length c] w (Ret fun v w' => ∃ q d, v = .tuple #[.agg (cat (objectV ((objectR l).getD object0) q d)).toArray, .int .i64 (((if (objectR l).isSome then 0 else 141 : Nat)) : Int)] ∧ Own S H w' ∧ Arr 65 vouchR (keys H) w' q ((objectR l).getD object0).vouches d) := by
 refine enter (G := Own (⟨w, keys H⟩ :: S) H) ho.keep Try.func71 rfl Try.ntmps71 rfl ?_
 refine VC.sr ?_
 refine VL.alloc (L := objectL) (ps := (objectV (object0) none 0)) zero85 rfl rfl (fun g1 => ?_)
 refine VL.assign rfl ?_
 refine VL.nn ?_
 refine VC.sr ?_
 refine VL.move rfl ?_
 refine VL.call Try.func121 rfl (by decide) rfl (fun w' hw => open_R hw (hA.nowA (s := ⟨w, _⟩) Mono.byte hw)) (fun v => ?_)
 refine VL.ex fun g2 => VL.fact fun e3 => ?_
 subst e3
 refine VL.assign rfl ?_
 refine VL.nn ?_
 refine VC.sr ?_
 refine VL.move rfl ?_
 refine VL.call Try.func122 rfl (by decide) rfl (fun w' hw => byte_R (i := 0) rfl hw) (fun v => ?_)
 refine VL.fact fun e4 => ?_
 subst e4
 refine VL.set0 ?_
 refine VL.move rfl ?_
 refine VL.call Try.func122 rfl (by decide) rfl (fun w' hw => byte_R (i := 0) rfl hw) (fun v => ?_)
 refine VL.fact fun e5 => ?_
 subst e5
 refine VL.set0 ?_
 refine VL.move rfl ?_
 refine VL.call Try.func129 rfl (by decide) rfl (fun w' hw => key_R (i := 0) rfl hw) (fun v => ?_)
 refine VL.fact fun e6 => ?_
 subst e6
 refine VL.set0 ?_
 refine VL.move rfl ?_
 refine VL.call Try.func132 rfl (by decide) rfl (fun w' hw => num_R (i := 0) rfl hw 4 (by decide) (by decide)) (fun v => ?_)
 refine VL.fact fun e7 => ?_
 subst e7
 refine VL.set0 ?_
 refine VL.conv (by rw [Try.underlying22]; rfl) Try.underlying48 rfl (by have hlt := (takeN_lt ((((openP (l)).drop 1).drop 1).drop 1) 4); simp only [InR]; omega) ?_
 refine VL.move rfl ?_
 refine VL.call Try.func132 rfl (by decide) rfl (fun w' hw => num_R (i := 0) rfl hw 4 (by decide) (by decide)) (fun v => ?_)
 refine VL.fact fun e8 => ?_
 subst e8
 refine VL.set0 ?_
 refine VL.conv (by rw [Try.underlying22]; rfl) Try.underlying48 rfl (by have hlt := (takeN_lt (((((openP (l)).drop 1).drop 1).drop 1).drop 1) 4); simp only [InR]; omega) ?_
 refine VL.move rfl ?_
 refine VL.call Try.func131 rfl (by decide) rfl (fun w' hw => sig_R (i := 0) rfl hw) (fun v => ?_)
 refine VL.fact fun e9 => ?_
 subst e9
 refine VL.set0 ?_
 refine VL.build (zs := objectZ) (L := objectFL) [(0, [.int .u8 (takeN (openP (l)) 1)]), (1, [.int .u8 (takeN ((openP (l)).drop 1) 1)]), (2, (takeB 32 (((openP (l)).drop 1).drop 1)).map bv), (3, [.int .u32 (takeN ((((openP (l)).drop 1).drop 1).drop 1) 4)]), (4, [.int .u32 (takeN (((((openP (l)).drop 1).drop 1).drop 1).drop 1) 4)]), (5, (takeB 64 ((((((openP (l)).drop 1).drop 1).drop 1).drop 1).drop 1)).map bv)] plan85 rfl ⟨⟨rfl, ⟨_, rfl, rfl⟩, rfl⟩, ⟨⟨rfl, ⟨_, rfl, rfl⟩, rfl⟩, ⟨⟨rfl, ⟨_, rfl, rfl⟩, (arr_q (takeB_length (((openP (l)).drop 1).drop 1) 32))⟩, ⟨⟨rfl, ⟨_, rfl, rfl⟩, rfl⟩, ⟨⟨rfl, ⟨_, rfl, rfl⟩, rfl⟩, ⟨⟨rfl, ⟨_, rfl, rfl⟩, (arr_q (takeB_length ((((((openP (l)).drop 1).drop 1).drop 1).drop 1).drop 1) 64))⟩, trivial⟩⟩⟩⟩⟩⟩ rfl ?_
 refine VL.newv (v' := .agg (cat (objectV ((objectOf (openP l) [])) none 0)).toArray) rfl ?_
 refine VL.alloc (L := objectL) (ps := (objectV (object0) none 0)) zero85 rfl rfl (fun g10 => ?_)
 refine VL.store (L := objectL) (qs := (objectV ((objectOf (openP l) [])) none 0)) (ps' := (objectV ((objectOf (openP l) [])) none 0)) 0 0 7 rfl rfl rfl (.inl kd85) rfl rfl (objectV_len (objectOf_nil l)) (objectV_ok1 ((objectOf (openP l) [])) none 0) rfl rfl ?_
 refine VL.set0 ?_
 refine VL.nn ?_
 refine VC.seq ?_
 refine VC.block ?_
 refine VC.turn (G' := Own _ (arow 202 65 vouchR Mono_vouch none 0 ([] : List Vouch) :: blk g10 85 objectL (objectV ((objectOf (openP l) [])) none 0) :: rch g2 (((((((openP (l)).drop 1).drop 1).drop 1).drop 1).drop 1).drop 1) (lenW ((((((openP (l)).drop 1).drop 1).drop 1).drop 1).drop 1) (lenW (((((openP (l)).drop 1).drop 1).drop 1).drop 1) (lenW ((((openP (l)).drop 1).drop 1).drop 1) (lenW (((openP (l)).drop 1).drop 1) (lenW ((openP (l)).drop 1) (lenW (openP (l)) (openW (l)) 1) 1) 32) 4) 4) 64) :: blk g1 85 objectL (objectV (object0) none 0) :: H)) (fun w' h => newRow h) ?_
 refine VC.loop (X := List Vouch × List (List UInt8) × Option Nat × Nat) (fun _ => [(4, .pointer (some ⟨g2, 0, none⟩)), (5, .pointer (some ⟨g10, 0, none⟩)), (2, .pointer (some ⟨g1, 0, none⟩))]) (fun (vs, ps, gv, cv) w' => (vs.length ≤ 4 ∧ (∀ v ∈ vs, v.ok) ∧ vouchesW 4 (((((((openP l).drop 1).drop 1).drop 1).drop 1).drop 1).drop 1) = (vs ++ (vouchesW (4 - vs.length) ps).1, (vouchesW (4 - vs.length) ps).2.1, (vouchesW (4 - vs.length) ps).2.2)) ∧ Own (⟨w, keys H⟩ :: S) (arow 202 65 vouchR Mono_vouch gv cv vs :: blk g10 85 objectL (objectV ((objectOf (openP l) vs)) (gv.map fun g => (⟨g, 0, none⟩ : Addr)) cv) :: rch g2 ps (lenW ((((((openP (l)).drop 1).drop 1).drop 1).drop 1).drop 1) (lenW (((((openP (l)).drop 1).drop 1).drop 1).drop 1) (lenW ((((openP (l)).drop 1).drop 1).drop 1) (lenW (((openP (l)).drop 1).drop 1) (lenW ((openP (l)).drop 1) (lenW (openP (l)) (openW (l)) 1) 1) 32) 4) 4) 64) :: blk g1 85 objectL (objectV (object0) none 0) :: H) w') (fun (_, ps, _) => ps.length) ([], (((((((openP (l)).drop 1).drop 1).drop 1).drop 1).drop 1).drop 1), none, 0) ⟨rfl, rfl, rfl, trivial⟩ (fun w' h => ⟨⟨Nat.zero_le _, by simp, rfl⟩, h⟩) (fun (vs, ps, gv, cv) => VC.fact fun ⟨hn, hvs, hveq⟩ => ?_)
 ·skip
  refine VC.seq ?_
  refine VC.sr ?_
  refine VL.move rfl ?_
  refine VL.nilCheck rfl ?_
  refine VL.fieldAddr rfl fo196_0 rfl ?_
  refine loadParts 2 rfl rfl (fun p11 c12 w13 hO14 hA15 => ?_)
  refine VL.len Try.underlying31 rfl rfl ?_
  refine VL.gtr rfl rfl ?_
  refine VL.case (fun h3_5 => ?_) (fun h3_5 => ?_)
  ·obtain ⟨pc, rest, rfl⟩ : ∃ pc rest, ps = pc :: rest := by
    cases ps with
    | nil => exact absurd h3_5 (by simp)
    | cons a b => exact ⟨a, b, rfl⟩
   refine VL.move rfl ?_
   refine VL.go rfl rfl rfl ?_
   refine VL.fieldAddr rfl fo85_6 rfl ?_
   refine VL.go rfl rfl rfl ?_
   refine VL.load (v := .slice (gv.map fun g => (⟨g, 0, none⟩ : Addr)) ((objectOf (openP l) vs).vouches).length cv) 1 6 rfl kd83 (fun _ h => h) rfl rfl rfl ?_
   refine VL.go rfl rfl rfl ?_
   refine VL.len Try.underlying83 rfl rfl ?_
   refine VL.go rfl rfl rfl ?_
   refine VL.lss rfl rfl ?_
   refine VL.case (fun h3_10 => ?_) (fun h3_10 => ?_)
   ·have h3_10 : vs.length < 4 := by have h : ((vs.length : Nat) : Int) < 4 := h3_10; omega
    refine VL.pick_t rfl rfl ?_
    refine VL.nn ?_
    refine VC.yes rfl ?_
    refine VC.skip ?_
    refine VX.next ?_
    refine VC.block ?_
    refine VC.sr ?_
    refine VL.move rfl ?_
    refine VL.call Try.func124 rfl (by decide) rfl (fun w' hw => piece_R (i := 2) rfl hw) (fun v => ?_)
    refine VL.at (fun w16 h1w => ?_)
    obtain ⟨p17, c18, rfl, hO20, hA19⟩ := h1w
    replace hO20 := ownSet2 hO20
    replace hA19 := arrSet2 hA19
    refine VL.toOwn hO20 ?_
    refine VL.assign rfl ?_
    refine VL.nn ?_
    refine VC.seq ?_
    refine VC.sr ?_
    refine VL.move rfl ?_
    refine VL.len Try.underlying24 rfl rfl ?_
    refine VL.neq rfl rfl ?_
    refine VL.case (fun h5_2 => ?_) (fun h5_2 => ?_)
    ·have hpc : pc.length ≠ 65 := by have h : ((pc.length : Nat) : Int) ≠ 65 := h5_2; omega
     refine VL.nn ?_
     refine VC.yes rfl ?_
     refine VC.sr ?_
     refine VL.move rfl ?_
     refine VL.call Try.func125 rfl (by decide) rfl (fun w' hw => fail_R (i := 2) rfl hw (141)) (fun v => ?_)
     refine VL.fact fun e21 => ?_
     subst e21
     refine VL.set2 ?_
     refine VL.nn ?_
     refine VC.exit ?_
     refine VX.then_exit ?_
     refine VX.block_past rfl ?_
     refine VX.then_exit ?_
     refine VX.block_here ?_
     refine VX.next ?_
     refine VC.seq ?_
     refine VC.seq ?_
     refine VC.letArr (fun wr hOr hAr => ?_)
     refine VC.region ?_
     refine VL.move rfl ?_
     refine VL.call Try.func126 rfl (by decide) rfl (fun w' hw => end_R (i := 1) rfl hw) (fun v => ?_)
     refine VL.fact fun e22 => ?_
     subst e22
     refine VL.set1 ?_
     refine VL.assign rfl ?_
     refine VL.nn ?_
     refine VC.sr ?_
     refine VL.move rfl ?_
     refine VL.neq rfl rfl ?_
     refine VL.case (fun h11_1 => ?_) (fun h11_1 => ?_)
     ·refine VL.nn ?_
      refine VC.yes rfl ?_
      refine VC.sr ?_
      refine VL.build0 (cs := cat (objectV (object0) none 0)) built85 ?_
      refine VL.move rfl ?_
      refine VL.store (L := objectL) (qs := (objectV (object0) none 0)) (ps' := (objectV (object0) none 0)) 2 0 7 rfl rfl rfl (.inl kd85) rfl rfl rfl (objectV_ok1 object0 none 0) rfl rfl ?_
      refine VL.set2 ?_
      refine VL.assign rfl ?_
      refine VL.nn ?_
      refine VC.ret ?_
      refine VX.then_ret ?_
      refine VX.ret_cell (cs := cat (objectV (object0) none 0)) 2 rfl rfl rfl kd85 (fun _ h => h) rfl rfl (fun we hw => ?_)
      obtain ⟨e1, e2⟩ := object_brk hveq h3_10 hpc
      exact ⟨none, 0, by rw [e1]; exact congrArg (fun n : Nat => Value.tuple #[_, .int .i64 (n : Int)]) e2, hw.drop.drop.drop.subA, by rw [e1]; exact Arr.none⟩
     ·refine VL.nn ?_
      refine VC.no rfl ?_
      refine VC.skip ?_
      refine VX.next ?_
      refine VC.sr ?_
      refine VL.loads (cs := cat (objectV ((objectOf (openP l) vs)) (gv.map fun g => (⟨g, 0, none⟩ : Addr)) cv)) 0 0 7 rfl kd85 (fun _ h => h) rfl rfl rfl rfl ?_
      refine VL.store (L := objectL) (qs := (objectV ((objectOf (openP l) vs)) (gv.map fun g => (⟨g, 0, none⟩ : Addr)) cv)) (ps' := (objectV ((objectOf (openP l) vs)) (gv.map fun g => (⟨g, 0, none⟩ : Addr)) cv)) 2 0 7 rfl rfl rfl (.inl kd85) rfl rfl (objectV_len (objectOf_ok hvs)) (objectV_ok1 ((objectOf (openP l) vs)) (gv.map fun g => (⟨g, 0, none⟩ : Addr)) cv) rfl rfl ?_
      refine VL.set2 ?_
      refine VL.assign rfl ?_
      refine VL.nn ?_
      refine VC.ret ?_
      refine VX.ret_cell (cs := cat (objectV ((objectOf (openP l) vs)) (gv.map fun g => (⟨g, 0, none⟩ : Addr)) cv)) 2 rfl rfl rfl (by rw [cat_size (objectV_len (objectOf_ok hvs))]; exact kd85) (fun _ h => h) rfl rfl (fun we hw => ?_)
      exact absurd (fun e => absurd ((congrArg (fun n : Nat => (n : Int)) (object_brk hveq h3_10 hpc).2).symm.trans e) (by decide)) h11_1
    ·have hpc : pc.length = 65 := by have h : ¬ ((pc.length : Nat) : Int) ≠ 65 := h5_2; omega
     refine VL.nn ?_
     refine VC.no rfl ?_
     refine VC.skip ?_
     refine VX.next ?_
     refine VC.sr ?_
     refine VL.move rfl ?_
     refine VL.index (xs := pc) rfl rfl Try.underlying24 sz24 hA19 (by omega) (by omega) ?_
     refine VL.byte (s := ⟨w16, _⟩) rfl kd5 (fun _ h => h) (by repeat (first | exact List.mem_cons_self .. | apply List.mem_cons_of_mem)) hA19 (y := pc.headD 0) (by
      show pc[0]? = _
      cases pc with
      | nil => simp at hpc
      | cons a r => rfl) ?_
     refine VL.build (zs := vouchZ) (L := vouchFL) [(0, [.int .u8 ((pc.headD 0).toNat)])] plan202 rfl ⟨⟨rfl, ⟨_, rfl, rfl⟩, rfl⟩, trivial⟩ rfl ?_
     refine VL.newv (v' := .agg (cat (vouchV ((vouchN pc)))).toArray) rfl ?_
     refine VL.alloc (L := vouchL) (ps := (vouchV (vouch0))) zero202 rfl rfl (fun g23 => ?_)
     refine VL.store (L := vouchL) (qs := (vouchV ((vouchN pc)))) (ps' := (vouchV ((vouchN pc)))) 0 0 2 rfl rfl rfl (.inl kd202) rfl rfl (vouchV_len (vouchN_ok pc)) (vouchV_ok1 ((vouchN pc))) rfl rfl ?_
     refine VL.set0 ?_
     refine VL.nn ?_
     refine VC.seq ?_
     apply VC.anyTA 4 1005 (F := [eqF _, eqF _, eqF _, eqF _]) [⟨[], [7]⟩, ⟨[(49, 0)], []⟩, ⟨[], [6]⟩, ⟨[(51, 2)], []⟩] [(50, 1), (52, 3)] [0, 2, 3, 4, 5, 6, 7, 8, 9, 10, 11, 12, 13, 14, 15, 16, 17, 18, 19, 20, 21, 22, 23, 24, 25, 26, 27, 28, 29, 30, 31, 32, 33, 34, 35, 36, 37, 38, 39, 40, 41, 42, 43, 45, 46, 47, 48, 54, 55, 56, 57, 58, 59, 60, 61, 62, 63, 64, 65, 66] rfl (by kernel_rfl) (by kernel_rfl) rfl rfl (by kernel_rfl) (by kernel_rfl) (by kernel_rfl) rfl ?obs8 ?end8
     case obs8 =>
      refine Obs.cons ?_ ?_
      ·refine obS (by kernel_rfl) rfl rfl (fun ph8 w8 hO8 => ?_)
       refine VL.fieldAddr rfl fo202_1 rfl ?_
       exact VL.finS hO8 rfl rfl
      refine Obs.cons ?_ ?_
      ·refine obS (by kernel_rfl) rfl rfl (fun ph8 w8 hO8 => ?_)
       rintro _ rfl
       refine VL.sliceArrAt Try.underlying80 (by kernel_rfl) rfl ?_
       exact VL.finS hO8 rfl rfl
      refine Obs.cons ?_ ?_
      ·refine obS (by kernel_rfl) rfl rfl (fun ph8 w8 hO8 => ?_)
       refine VL.move rfl ?_
       exact VL.finS hO8 rfl rfl
      refine Obs.cons ?_ ?_
      ·refine obS (by kernel_rfl) rfl rfl (fun ph8 w8 hO8 => ?_)
       rintro _ rfl
       refine VL.dropE (l := pc) 1 rfl rfl Try.underlying24 sz24 (by omega) hA19.le ?_
       exact VL.finS hO8 rfl rfl
      exact Obs.nil
     case end8 =>
      intro w8 hO8
      rintro _ rfl _ rfl
      refine VL.toOwn hO8 ?_
      refine VL.copyPart (l := pc.drop 1) (ps' := vouchV (vouchOf pc)) 0 1 rfl Try.underlying24 (by kernel_rfl) rfl rfl rfl rfl rfl (by rw [List.length_drop]; omega) (by decide) (fun _ hw => (Arr.now (s := ⟨w16, _⟩) (hA19.drop 1 (Nat.le_trans (by omega) hA19.le)) Mono.byte hw (by repeat (first | exact List.mem_cons_self .. | apply List.mem_cons_of_mem))).bytes) rfl rfl (fun _ => ?_)
      refine VL.nn ?_
      refine VC.region ?_
      refine VL.fieldAddr rfl fo85_6 rfl ?_
      refine VL.load (v := .slice (gv.map fun g => (⟨g, 0, none⟩ : Addr)) ((objectOf (openP l) vs).vouches).length cv) 2 6 rfl kd83 (fun _ h => h) rfl rfl rfl ?_
      refine VL.loads (cs := cat (vouchV ((vouchOf pc)))) 0 0 2 rfl kd202 (fun _ h => h) rfl rfl rfl rfl ?_
      refine VL.lit el83 rfl rfl rfl (by intro v hv; simp only [List.mem_singleton] at hv; subst hv; show (cat (vouchV (vouchOf pc))).toArray.size = 65; rw [List.size_toArray, cat_size (vouchV_len (vouchOf_ok hpc))]; rfl) (by rw [show [Value.agg (cat (vouchV (vouchOf pc))).toArray].flatMap (·.cells.toList) = cat (vouchV (vouchOf pc)) by simp [Value.cells]]; exact vouchV_ok1 _) (fun gl => ?_)
      refine VL.letRow vouchR [vouchOf pc] rfl (fun w' hw => one_vouch (vouchOf_ok hpc)) (fun wl hOl hAl => ?_)
      refine VL.appends (R := vouchR) (hR := Mono_vouch) (ys := vs) (zs := [vouchOf pc]) 1 el83 rfl rfl rfl (fun _ h => h) rfl (fun _ hw => (hAl.nowA (s := ⟨wl, _⟩) Mono_vouch hw)) (fun _ _ _ _ h => by obtain ⟨_, rfl⟩ := h; exact vouchV_ok1 _) (by simp only [List.length_cons, List.length_nil]; omega) (fun gv2 cv2 => ?_) (by simp only [List.length_cons, List.length_nil]; omega)
      refine VL.set1 ?_
      refine VL.fieldAddr rfl fo85_6 rfl ?_
      refine VL.store (L := objectL) (qs := [[rowV gv2 (vs ++ [vouchOf pc]).length cv2]]) (ps' := (objectV ((objectOf (openP l) (vs ++ [vouchOf pc]))) (gv2.map fun g => (⟨g, 0, none⟩ : Addr)) cv2)) 2 6 1 rfl rfl rfl (.inr ⟨kd83, rfl⟩) rfl rfl rfl (by intro u hu; simp [cat] at hu; subst hu; rfl) rfl rfl ?_
      refine VL.set2 ?_
      refine VL.nil ?_
      refine VX.block_normal ?_
      refine VX.round (vs ++ [vouchOf pc], rest, gv2, cv2) ⟨rfl, rfl, rfl, trivial⟩ (fun w' h => ⟨⟨by rw [List.length_append, List.length_singleton]; omega, fun v hv => ?_, vouch_step hveq (by omega) hpc⟩, (h.drop).subA⟩) (by show rest.length < (pc :: rest).length; simp)
      rw [List.mem_append, List.mem_singleton] at hv
      rcases hv with hv | rfl
      ·exact hvs v hv
      ·exact vouchOf_ok hpc
   ·have h3_10 : 4 ≤ vs.length := by have h : ¬ ((vs.length : Nat) : Int) < 4 := h3_10; omega
    refine VL.pick_t rfl rfl ?_
    refine VL.nn ?_
    refine VC.no rfl ?_
    refine VC.exit ?_
    refine VX.then_exit ?_
    refine VX.then_exit ?_
    refine VX.block_here ?_
    refine VX.next ?_
    refine VC.seq ?_
    refine VC.seq ?_
    refine VC.letArr (fun wr hOr hAr => ?_)
    refine VC.region ?_
    refine VL.move rfl ?_
    refine VL.call Try.func126 rfl (by decide) rfl (fun w' hw => end_R (i := 1) rfl hw) (fun v => ?_)
    refine VL.fact fun e24 => ?_
    subst e24
    refine VL.set1 ?_
    refine VL.assign rfl ?_
    refine VL.nn ?_
    refine VC.sr ?_
    refine VL.move rfl ?_
    refine VL.neq rfl rfl ?_
    refine VL.case (fun h11_1 => ?_) (fun h11_1 => ?_)
    ·refine VL.nn ?_
     refine VC.yes rfl ?_
     refine VC.sr ?_
     refine VL.build0 (cs := cat (objectV (object0) none 0)) built85 ?_
     refine VL.move rfl ?_
     refine VL.store (L := objectL) (qs := (objectV (object0) none 0)) (ps' := (objectV (object0) none 0)) 2 0 7 rfl rfl rfl (.inl kd85) rfl rfl rfl (objectV_ok1 object0 none 0) rfl rfl ?_
     refine VL.set2 ?_
     refine VL.assign rfl ?_
     refine VL.nn ?_
     refine VC.ret ?_
     refine VX.then_ret ?_
     refine VX.ret_cell (cs := cat (objectV (object0) none 0)) 2 rfl rfl rfl kd85 (fun _ h => h) rfl rfl (fun we hw => ?_)
     obtain ⟨hfin, _⟩ := object_fin hveq (.inr h3_10)
     obtain ⟨e1, e2⟩ := why_none h11_1 hfin
     exact ⟨none, 0, by rw [e1]; exact congrArg (fun n : Nat => Value.tuple #[_, .int .i64 (n : Int)]) e2, hw.drop.drop.drop.subA, by rw [e1]; exact Arr.none⟩
    ·refine VL.nn ?_
     refine VC.no rfl ?_
     refine VC.skip ?_
     refine VX.next ?_
     refine VC.sr ?_
     refine VL.loads (cs := cat (objectV ((objectOf (openP l) vs)) (gv.map fun g => (⟨g, 0, none⟩ : Addr)) cv)) 0 0 7 rfl kd85 (fun _ h => h) rfl rfl rfl rfl ?_
     refine VL.store (L := objectL) (qs := (objectV ((objectOf (openP l) vs)) (gv.map fun g => (⟨g, 0, none⟩ : Addr)) cv)) (ps' := (objectV ((objectOf (openP l) vs)) (gv.map fun g => (⟨g, 0, none⟩ : Addr)) cv)) 2 0 7 rfl rfl rfl (.inl kd85) rfl rfl (objectV_len (objectOf_ok hvs)) (objectV_ok1 ((objectOf (openP l) vs)) (gv.map fun g => (⟨g, 0, none⟩ : Addr)) cv) rfl rfl ?_
     refine VL.set2 ?_
     refine VL.assign rfl ?_
     refine VL.nn ?_
     refine VC.ret ?_
     refine VX.ret_cell (cs := cat (objectV ((objectOf (openP l) vs)) (gv.map fun g => (⟨g, 0, none⟩ : Addr)) cv)) 2 rfl rfl rfl (by rw [cat_size (objectV_len (objectOf_ok hvs))]; exact kd85) (fun _ h => h) rfl rfl (fun we hw => ?_)
     obtain ⟨hfin, hy2⟩ := object_fin hveq (.inr h3_10)
     obtain ⟨y, e1⟩ := why_some h11_1 hfin
     have e3 := hy2 y e1
     rw [e1, e3]
     exact ⟨_, _, rfl, hw.drop.drop.drop.subA, hAr.nowA (s := ⟨wr, _⟩) Mono_vouch hw.drop.drop.drop⟩
  ·obtain rfl : ps = [] := List.eq_nil_of_length_eq_zero (by omega)
   refine VL.move rfl ?_
   refine VL.pass rfl rfl rfl rfl rfl ?_
   refine VL.pass rfl rfl rfl rfl rfl ?_
   refine VL.pass rfl rfl rfl rfl rfl ?_
   refine VL.pass rfl rfl rfl rfl rfl ?_
   refine VL.pick_f rfl rfl ?_
   refine VL.nn ?_
   refine VC.no rfl ?_
   refine VC.exit ?_
   refine VX.then_exit ?_
   refine VX.then_exit ?_
   refine VX.block_here ?_
   refine VX.next ?_
   refine VC.seq ?_
   refine VC.seq ?_
   refine VC.letArr (fun wr hOr hAr => ?_)
   refine VC.region ?_
   refine VL.move rfl ?_
   refine VL.call Try.func126 rfl (by decide) rfl (fun w' hw => end_R (i := 1) rfl hw) (fun v => ?_)
   refine VL.fact fun e25 => ?_
   subst e25
   refine VL.set1 ?_
   refine VL.assign rfl ?_
   refine VL.nn ?_
   refine VC.sr ?_
   refine VL.move rfl ?_
   refine VL.neq rfl rfl ?_
   refine VL.case (fun h11_1 => ?_) (fun h11_1 => ?_)
   ·refine VL.nn ?_
    refine VC.yes rfl ?_
    refine VC.sr ?_
    refine VL.build0 (cs := cat (objectV (object0) none 0)) built85 ?_
    refine VL.move rfl ?_
    refine VL.store (L := objectL) (qs := (objectV (object0) none 0)) (ps' := (objectV (object0) none 0)) 2 0 7 rfl rfl rfl (.inl kd85) rfl rfl rfl (objectV_ok1 object0 none 0) rfl rfl ?_
    refine VL.set2 ?_
    refine VL.assign rfl ?_
    refine VL.nn ?_
    refine VC.ret ?_
    refine VX.then_ret ?_
    refine VX.ret_cell (cs := cat (objectV (object0) none 0)) 2 rfl rfl rfl kd85 (fun _ h => h) rfl rfl (fun we hw => ?_)
    obtain ⟨hfin, _⟩ := object_fin hveq (.inl rfl)
    obtain ⟨e1, e2⟩ := why_none h11_1 hfin
    exact ⟨none, 0, by rw [e1]; exact congrArg (fun n : Nat => Value.tuple #[_, .int .i64 (n : Int)]) e2, hw.drop.drop.drop.subA, by rw [e1]; exact Arr.none⟩
   ·refine VL.nn ?_
    refine VC.no rfl ?_
    refine VC.skip ?_
    refine VX.next ?_
    refine VC.sr ?_
    refine VL.loads (cs := cat (objectV ((objectOf (openP l) vs)) (gv.map fun g => (⟨g, 0, none⟩ : Addr)) cv)) 0 0 7 rfl kd85 (fun _ h => h) rfl rfl rfl rfl ?_
    refine VL.store (L := objectL) (qs := (objectV ((objectOf (openP l) vs)) (gv.map fun g => (⟨g, 0, none⟩ : Addr)) cv)) (ps' := (objectV ((objectOf (openP l) vs)) (gv.map fun g => (⟨g, 0, none⟩ : Addr)) cv)) 2 0 7 rfl rfl rfl (.inl kd85) rfl rfl (objectV_len (objectOf_ok hvs)) (objectV_ok1 ((objectOf (openP l) vs)) (gv.map fun g => (⟨g, 0, none⟩ : Addr)) cv) rfl rfl ?_
    refine VL.set2 ?_
    refine VL.assign rfl ?_
    refine VL.nn ?_
    refine VC.ret ?_
    refine VX.ret_cell (cs := cat (objectV ((objectOf (openP l) vs)) (gv.map fun g => (⟨g, 0, none⟩ : Addr)) cv)) 2 rfl rfl rfl (by rw [cat_size (objectV_len (objectOf_ok hvs))]; exact kd85) (fun _ h => h) rfl rfl (fun we hw => ?_)
    obtain ⟨hfin, hy2⟩ := object_fin hveq (.inl rfl)
    obtain ⟨y, e1⟩ := why_some h11_1 hfin
    have e3 := hy2 y e1
    rw [e1, e3]
    exact ⟨_, _, rfl, hw.drop.drop.drop.subA, hAr.nowA (s := ⟨wr, _⟩) Mono_vouch hw.drop.drop.drop⟩

end Go.Proofs.Ytcfecmoagfgnaaa

/- Items: the error's number, kind for kind. -/
namespace Go.Vc
section
variable {P : Program} {n : Nat} {Q : Exit → Act → World → Prop} {ops : Array Oper}
end
end Go.Vc
namespace Go.Proofs.Ytcfecmoagfgnaaa
open Go.Vc Go.Pl

theorem end2 {α : Type} (f : List UInt8 → Option α) (r : List (List UInt8)) : endW (r.drop 1) (failW (nextW r 0) (if (f (nextP r)).isSome then 0 else 141)) = if (if r.length = 1 then f (nextP r) else none).isSome then 0 else 141 := by
 match r with
 | [] => exact rfl
 | [b] => rw [if_pos (show [b].length = 1 from rfl)]; rfl
 | b :: c :: s =>
  rw [if_neg (show ¬ (b :: c :: s).length = 1 by simp)]
  show (if (c :: s) = [] then _ else failW (failW (nextW (b :: c :: s) 0) (if (f b).isSome then 0 else 141)) 141) = 141
  rw [if_neg (by simp), nextW_cons, failW_0]
  split <;> rfl
end Go.Proofs.Ytcfecmoagfgnaaa

/- Calls as cells. -/
namespace Go.Proofs.Ytcfecmoagfgnaaa
open Go.Vc Go.Pl

structure Cal where
  kind : Nat
  seq : Nat
  peer : Nat
  mark : Nat
  bundles : List Bundle
  letter : Letter
structure Cal.ok (x : Cal) : Prop where
  kind : x.kind < 256
  seq : x.seq < 65536
  peer : x.peer < 256
  mark : x.mark < 65536
  bundles : ∀ b ∈ x.bundles, b.ok
  letter : x.letter.ok
end Go.Proofs.Ytcfecmoagfgnaaa

/- Struct arguments, opened. -/
namespace Go.Proofs.Ytcfecmoagfgnaaa
open Go.Vc Go.Pl

open Go.ChangeShapes Go.WideShapes Go.ChangeAt Go.RowKit
section
variable {Hh : Type} {enc : TypeId × Value → Hh} {P : Program} {W : World} {t : TypeId}
def natR (k : IntKind) (b : Nat) : Rel Nat := fun _ _ vs n => n < b ∧ vs = [.int k n]
theorem openNat {k : IntKind} {b : Nat} (hb : ∀ n : Int, (Lit.int k n).wf = true → 0 ≤ n ∧ n < b) (ht : P.underlying t = some (.int k)) : Opens enc P W t (natR k b) := by
 intro fuel cs x h
 cases fuel with
 | zero => simp [DataW.trod] at h
 | succ n =>
  unfold DataW.trod at h
  rw [ht] at h
  split at h <;> simp_all
  rename_i k0 k n' heq
  subst heq
  obtain ⟨⟨rfl, hw⟩, _⟩ := h
  obtain ⟨h1, h2⟩ := hb _ hw
  refine ⟨n'.toNat, by omega, ?_⟩
  rw [Int.toNat_of_nonneg h1]
theorem openU8 (ht : P.underlying t = some (.int .u8)) : Opens enc P W t (natR .u8 256) := openNat (fun n h => by have := bounds_u8 h; omega) ht
theorem openU32 (ht : P.underlying t = some (.int .u32)) : Opens enc P W t (natR .u32 4294967296) := openNat (fun n h => by have := bounds_u32 h; omega) ht
def FieldsAt (enc : TypeId × Value → Hh) (P : Program) (W : World) (fuel : Nat) (cs : List Value) : List (TypeId × Nat × Nat) → Prop
  | [] => True
  | e :: r => (∃ z, DataW.trod enc P W 0 (fun _ => true) true fuel e.1 ((cs.drop e.2.1).take e.2.2) = some z) ∧ FieldsAt enc P W fuel cs r
theorem openFields {fs : Array Field} {fuel : Nat} {cs : List Value} {x : DataW Hh × List MemPlace} (L : List (TypeId × Nat × Nat)) (ht : P.underlying t = some (.struct fs)) (hL : fs.toList.map (fun f => (f.type, f.offset, P.cellsOf f.type)) = L) (h : DataW.trod enc P W 0 (fun _ => true) true fuel t cs = some x) :
  cs.length = P.cellsOf t ∧ ∃ m, FieldsAt enc P W m cs L := by
 obtain ⟨xs, m, _, _, hl, hxl, hx⟩ := DataW.trod_struct ht h
 refine ⟨hl, m, ?_⟩
 subst hL
 have key : ∀ (gs : List Field), (∀ f ∈ gs, ∃ z, DataW.trod enc P W 0 (fun _ => true) true m f.type ((cs.drop f.offset).take (P.cellsOf f.type)) = some z) → FieldsAt enc P W m cs (gs.map (fun f => (f.type, f.offset, P.cellsOf f.type))) := by
  intro gs
  induction gs with
  | nil => intro _; trivial
  | cons g r ih => intro hg; exact ⟨hg g (by simp), ih fun f hf => hg f (by simp [hf])⟩
 refine key _ fun f hf => ?_
 obtain ⟨i, hi⟩ := List.mem_iff_getElem?.1 hf
 have hlt : i < xs.length := by
  have := (List.getElem?_eq_some_iff.1 hi).1
  simp at this hxl; omega
 have h1 := hx i f (by simpa using hi)
 rw [List.getElem?_eq_getElem hlt] at h1
 exact ⟨_, h1⟩
/-- Cells, cut where the fields begin. -/
theorem cutCells {cs a : List Value} (o n : Nat) (h : (cs.drop o).take n = a) : cs.drop o = a ++ cs.drop (o + n) := by
 rw [← h, ← List.drop_drop, List.take_append_drop]
theorem Opens.struct {fs : Array Field} {X : Type} {R : Rel X} {r : Reach} {base : Nat} {v : Value} {d : DataW Hh} {ps : List MemPlace} (ht : P.underlying t = some (.struct fs)) (h : Opens enc P W t R) (hval : Value.okWide P W r base t v) (hd : DataW.Trod enc P W 0 (fun _ => true) true t v d ps) :
  ∃ cs y, v = .agg cs.toArray ∧ R [] W cs y := by
 obtain ⟨fuel, hf⟩ := hd
 obtain ⟨y, hy⟩ := h _ _ _ hf
 unfold Value.okWide at hval
 rw [ht] at hval
 obtain ⟨cs, rfl, _⟩ := hval
 exact ⟨cs.toList, y, by simp, by simpa [Value.cells] using hy⟩
end
section
variable {Hh : Type} {enc : TypeId × Value → Hh} {W : World}

def objectR' : Rel Object := fun K w vs x => ∃ p c, x.ok ∧ vs = cat (objectV x p c) ∧ Arr 65 vouchR K w p x.vouches c
end
end Go.Proofs.Ytcfecmoagfgnaaa

/- Lists of items; replies: their bytes; what bytes are read as. -/
namespace Go.Proofs.Ytcfecmoagfgnaaa
open Go.Vc Go.Pl

structure Rep where
  seq : Nat
  tag : Nat
  mark : Nat
  items : List Itm
structure Rep.ok (x : Rep) : Prop where
  seq : x.seq < 65536
  tag : x.tag < 256
  mark : x.mark < 65536
  items : ∀ i ∈ x.items, i.ok
structure Trn where
  seq : Nat
  items : List Itm
structure Trn.ok (x : Trn) : Prop where
  seq : x.seq < 65536
  items : ∀ i ∈ x.items, i.ok
def restItems (c : List (List UInt8)) : Option (List Itm) :=
  if c.length ≤ 4 ∧ ∀ p ∈ c, (itemR p).isSome = true then some (c.map fun p => (itemR p).getD item0) else none
/-! The loop that reads items. -/
def IInv (c : List (List UInt8)) (why0 : Nat) (xs : List Itm) (ps : List (List UInt8)) (why : Nat) : Prop :=
  (∀ x ∈ xs, x.ok) ∧ xs.length ≤ 4 ∧ ((why = why0 ∧ ∃ d, c = d ++ ps ∧ d.map itemR = xs.map some) ∨ (why = 141 ∧ ∃ p ∈ c, itemR p = none))
theorem IInv.start (c : List (List UInt8)) (why0 : Nat) : IInv c why0 [] c why0 := ⟨by simp, by simp, .inl ⟨rfl, [], rfl, rfl⟩⟩
theorem IInv.step {c : List (List UInt8)} {xs : List Itm} {p : List UInt8} {r : List (List UInt8)} (h : IInv c 0 xs (p :: r) 0) (h4 : xs.length < 4) : IInv c 0 (xs ++ [(itemR p).getD item0]) r (if (itemR p).isSome then 0 else 141) := by
 obtain ⟨h1, h2, h3⟩ := h
 refine ⟨fun b hb => ?_, by simp; omega, ?_⟩
 ·rcases List.mem_append.1 hb with hb | hb
  ·exact h1 b hb
  ·rw [List.mem_singleton] at hb; subst hb; exact itemR_ok p
 ·rcases h3 with ⟨_, d, hd, hm⟩ | ⟨h, _⟩
  ·cases hp : itemR p with
   | none => exact .inr ⟨rfl, p, by rw [hd]; simp, hp⟩
   | some b => exact .inl ⟨rfl, d ++ [p], by rw [hd]; simp, by simp [hm, hp]⟩
  ·cases h
theorem IInv.done {c : List (List UInt8)} {why0 : Nat} (h0 : why0 = 0 ∨ why0 = 141) {xs : List Itm} {ps : List (List UInt8)} {why : Nat} (h : IInv c why0 xs ps why) (hx : ps = [] ∨ 4 ≤ xs.length ∨ why ≠ 0) : endW ps why = (if why0 = 0 ∧ (restItems c).isSome = true then 0 else 141) ∧ (why0 = 0 → ∀ ys, restItems c = some ys → ys = xs) := by
 obtain ⟨h1, h2, h3⟩ := h
 rcases h3 with ⟨rfl, d, hd, hm⟩ | ⟨rfl, p, hp, hpn⟩
 ·rcases h0 with rfl | rfl
  ·have hlen : d.length = xs.length := by have := congrArg List.length hm; simpa using this
   by_cases hps : ps = []
   ·subst hps
    rw [List.append_nil] at hd
    have hall : ∀ p ∈ d, (itemR p).isSome = true := fun p hp => by
     have : itemR p ∈ xs.map some := by rw [← hm]; exact List.mem_map.2 ⟨p, hp, rfl⟩
     obtain ⟨b, _, e⟩ := List.mem_map.1 this
     rw [← e]; rfl
    have e2 : d.map (fun p => (itemR p).getD item0) = xs := by
     have := congrArg (List.map fun o : Option Itm => o.getD item0) hm
     rw [List.map_map, List.map_map] at this
     refine this.trans ?_
     conv => rhs; rw [← List.map_id xs]
     exact List.map_congr_left fun _ _ => rfl
    have hr : restItems c = some xs := by
     unfold restItems
     rw [hd, if_pos ⟨by omega, hall⟩, e2]
    rw [hr]
    exact ⟨rfl, fun _ ys hy => (Option.some.inj hy).symm⟩
   ·have h9 : 4 ≤ xs.length := by
     rcases hx with hx | hx | hx
     ·exact absurd hx hps
     ·exact hx
     ·exact absurd rfl hx
    have hpl : 0 < ps.length := List.length_pos_iff.2 hps
    have hr : restItems c = none := by
     unfold restItems
     exact if_neg (fun h => by have h1 := h.1; rw [hd, List.length_append] at h1; omega)
    rw [hr]
    refine ⟨?_, fun _ ys hy => by cases hy⟩
    unfold endW
    rw [if_neg hps]; rfl
  ·exact ⟨(endW_141 _).trans (if_neg (fun h => by cases h.1)).symm, fun h => by cases h⟩
 ·have hr : restItems c = none := by
   unfold restItems
   exact if_neg (fun h => by have := h.2 p hp; rw [hpn] at this; cases this)
  rw [hr]
  exact ⟨(endW_141 _).trans (if_neg (fun h => by cases h.2)).symm, fun _ ys hy => by cases hy⟩
end Go.Proofs.Ytcfecmoagfgnaaa

/- The reference: letters. -/
namespace Go.Proofs.Ytcfecmoagfgnaaa
open Go.Vc Go.Pl

theorem num_S {S : List Snap} {H : List Chunk} {w : World} (ho : Own S H w) (m k : Nat) (hm : m ≤ 4294967295) (h1 : 1 ≤ k) (h8 : k ≤ 8) (hf : Fits k m) : Calls Try.prog 108 #[.int .i64 m, .int .i64 k] w (Ret fun v w' => ∃ p c, v = .slice p (be k m).length c ∧ Own S H w' ∧ Bytes (keys H) w' p (be k m) c) :=
 calls_mono (num_any ho m k hm h1 h8 hf) fun v w' ⟨h1, p, c, e, hA⟩ => ⟨p, c, by rw [be_length]; exact e, h1, hA⟩
theorem join_O {S : List Snap} {H : List Chunk} {w : World} (ho : Own S H w) {p : Option Addr} {ls : List (List UInt8)} {c : Nat} (hA : Arr 1 bytesR (keys H) w p ls c) : Calls Try.prog 31 #[.slice p ls.length c] w (RetO S H (joinO ls true)) := by
 refine calls_mono (refJoin_any ho hA) fun v w' ⟨h1, h2⟩ => ?_
 rcases h2 with ⟨h3, p, c, e, hA⟩ | ⟨h3, e⟩
 ·rw [joinO_some h3 rfl]
  exact ⟨p, c, e, h1, hA⟩
 ·rw [joinO_none fun h => h3 h.1]
  exact ⟨none, 0, e, h1, Arr.none⟩
theorem bytes_T {S : List Snap} {H : List Chunk} {w : World} (ho : Own S H w) {p q : Option Addr} {l k : List UInt8} {c d : Nat} (hA : Bytes (keys H) w p l c) (hB : Bytes (keys H) w q k d) (e : l = k) : Calls Try.prog 27 #[.slice p l.length c, .slice q k.length d] w (Ret fun v w' => v = .bool true ∧ Own S H w') :=
 calls_mono (bytes_any ho hA hB) fun v w' ⟨h1, h2⟩ => ⟨by rw [h2, decide_eq_true e], h1⟩

end Go.Proofs.Ytcfecmoagfgnaaa

/- A row of slices that the call keeps in its hand. -/
namespace Go.Vc
open Go.Proofs.Ytcfecmoagfgnaaa
section
variable {P : Program} {n : Nat} {Q : Exit → Act → World → Prop} {σ : Sl} {ops : Array Oper} {rest : List Oper} {d : Nat} {ty : TypeId} {pos : String} {aft : Array Edge} {S : List Snap} {H : List Chunk}
theorem VL.litB {t : TypeId} {by_ : Nat} {z : Value} {len : Nat} {parts : List (Nat × Operand)} {vs : List Value} (ls : List (List UInt8)) (hE : Elem P t 24 1 by_ z) (hlen : Nat.ble (len * 1) 16777216 = true) (hk : parts.length = len)
  (hp : evps σ 0 parts = some vs) (hv : ∀ v ∈ vs, v.cells.size = 1) (h1 : ok1 (vs.flatMap (·.cells.toList))) (hm : len = ls.length)
  (hr : ∀ g w, Own S (row 24 1 (some g) len len (vs.flatMap (·.cells.toList)) :: H) w → RowOf (keys (row 24 1 (some g) len len (vs.flatMap (·.cells.toList)) :: H)) w (vs.flatMap (·.cells.toList)) ls)
  (h : ∀ v, VL P n ops Q rest ((d, v) :: σ) (fun w' => ∃ g, v = rowV (some g) len len ∧ Own S (brow (some g) len ls :: H) w')) (hdn : Nat.blt d n = true := by rfl) : VL P n ops Q (⟨some d, .buildSlice t len parts.toArray, ty, pos, aft, none⟩ :: rest) σ (Own S H) :=
 VL.lit hE hlen hk hp hv h1 (fun g => VL.turn (fun w' hw => ⟨g, rfl, hw.asArr (Mono.slice Mono.byte) hm ((hr g w' hw).at_)⟩) (h (rowV (some g) len len))) hdn
/-- An array in an element of a slice, as a slice. -/
theorem VL.sliceIn {X : Type} {R : Rel X} {sz c : Nat} {xs : List X} {p : Option Addr} {K : List Nat} {w' : World} {G : World → Prop} {t e : TypeId} {m o : Nat} {x : Operand} {y : X} (j i : Nat) (l : List UInt8) (ht : P.underlying t = some (.array m e)) (he : ((P.info? e).map (·.size)).isSome = true) (hx : ev σ x = some (pAt p o)) (hA : Arr sz R K w' p xs c)
  (hj : xs[j]? = some y) (ho : o = j * sz + i) (hl : l.length = m) (hm : m ≤ maxLen) (hr : ∀ vs, R K w' vs y → (vs.drop i).take m = l.map bv)
  (h : ∀ q, Bytes K w' (some q) l m → VL P n ops Q rest ((d, .slice (some q) l.length m) :: σ) G) (hdn : Nat.blt d n = true := by rfl) : VL P n ops Q (⟨some d, .slice t x none none none, ty, pos, aft, none⟩ :: rest) σ G := by
 have hn := (List.getElem?_eq_some_iff.1 hj).1
 obtain ⟨a, rfl⟩ := hA.isAt (by omega)
 have hc0 : 0 < c := by have := hA.le; omega
 obtain ⟨h1, h2, h3, cs, el, fr, hg, hcs⟩ := hA.at_ a rfl hc0
 obtain ⟨vs, hvl, hvr, hvc⟩ := hcs j y hj
 have hB : Bytes K w' (some ⟨a.block, a.off + o, none⟩) l m := by
  refine ⟨by omega, hm, fun e => (by cases e), fun a' ea _ => ?_⟩
  cases ea
  refine ⟨rfl, h2, h3, cs, el, fr, hg, fun k b hk => ⟨[bv b], rfl, rfl, fun q v hv => ?_⟩⟩
  have hq : q = 0 := by have := (List.getElem?_eq_some_iff.1 hv).1; simp at this; exact this
  subst hq
  simp at hv; subst hv
  have hkl := (List.getElem?_eq_some_iff.1 hk).1
  have e1 : ((vs.drop i).take m)[k]? = some (bv b) := by rw [hr vs hvr, List.getElem?_map, hk]; rfl
  rw [List.getElem?_take_of_lt (by omega), List.getElem?_drop] at e1
  have := hvc (i + k) (bv b) e1
  rw [show (⟨a.block, a.off + o, none⟩ : Addr).off + (k * 1 + 0) = a.off + (j * sz + (i + k)) by show a.off + o + (k * 1 + 0) = _; omega]
  exact this
 have := h ⟨a.block, a.off + o, none⟩ hB
 rw [hl] at this
 exact VL.sliceArrAt ht he (by rw [hx]; rfl) this hdn
theorem bytesR_ok1 : ∀ (K : List Nat) (w : World) (vs : List Value) (y : List UInt8), bytesR K w vs y → ok1 vs := by
 rintro K w vs y ⟨p, c, rfl, _⟩ u hu
 simp at hu; subst hu; rfl
end
end Go.Vc

/- The reference: objects; one against the other. -/
namespace Go.Proofs.Ytcfecmoagfgnaaa
open Go.Vc Go.Pl

theorem bytes_B {S : List Snap} {H : List Chunk} {w : World} (ho : Own S H w) {p q : Option Addr} {l k : List UInt8} {c d : Nat} (hA : Bytes (keys H) w p l c) (hB : Bytes (keys H) w q k d) : Calls Try.prog 27 #[.slice p l.length c, .slice q k.length d] w (Ret fun v w' => ∃ b : Bool, v = .bool b ∧ (b = true ↔ l = k) ∧ Own S H w') :=
 calls_mono (bytes_any ho hA hB) fun v w' ⟨h1, h2⟩ => ⟨decide (l = k), h2, by simp, h1⟩
theorem vouch_sig {K : List Nat} {w : World} {v : Vouch} {vs : List Value} (h : vouchR K w vs v) : (vs.drop 1).take 64 = v.sig.map bv := by
 obtain ⟨hv, rfl⟩ := h
 have : (v.sig.map bv).length = 64 := by rw [List.length_map]; exact hv.sig
 simp [cat, List.take_of_length_le, this]
end Go.Proofs.Ytcfecmoagfgnaaa

/- The reference: bundles, objects, items. -/
namespace Go.Proofs.Ytcfecmoagfgnaaa
open Go.Vc Go.Pl

theorem refObject_w {S : List Snap} {H : List Chunk} {w : World} (ho : Own S H w) {x : Object} (hx : x.ok) {q : Option Addr} {d : Nat} (hV : Arr 65 vouchR (keys H) w q x.vouches d) : Calls Try.prog 66 #[.agg (cat (objectV x q d)).toArray] w (RetO S H (objectO x)) := by
 have hx1 := hx.server
 have hx2 := hx.n
 have hx3 := hx.since
 have hx4 := hx.till
 refine enter (G := Own (⟨w, keys H⟩ :: S) H) ho.keep Try.func66 rfl Try.ntmps66 rfl ?_
 refine VC.sr ?_
 refine VL.box (L := objectL) (ps := (objectV (x) q d)) rfl rfl (objectV_len hx) (fun g1 => ?_)
 refine VL.assign rfl ?_
 refine VL.assign rfl ?_
 refine VL.nn ?_
 refine VC.seq ?_
 refine VC.sr ?_
 refine VL.fieldAddr rfl fo85_6 rfl ?_
 refine VL.load (v := .slice q (x.vouches).length d) 0 6 rfl kd83 (fun _ h => h) rfl rfl rfl ?_
 refine VL.len Try.underlying83 rfl rfl ?_
 refine VL.gtr rfl rfl ?_
 refine VL.case (fun h1_3 => ?_) (fun h1_3 => ?_)
 ·refine VL.nn ?_
  refine VC.yes rfl ?_
  refine VC.sr ?_
  refine VL.assign rfl ?_
  refine VL.assign rfl ?_
  refine VL.nn ?_
  refine VC.ret ?_
  refine VX.then_ret ?_
  refine VX.ret2 rfl rfl rfl (fun we hw => ?_)
  exact postO ((show (none : Option (List UInt8)) = objectO x from (if_neg (by omega)).symm)) ⟨none, 0, rfl, hw.drop.subA, Arr.none⟩
 ·refine VL.nn ?_
  refine VC.no rfl ?_
  refine VC.skip ?_
  refine VX.next ?_
  refine VC.seq ?_
  refine VC.letCells 0 rfl (fun w2 hO4 hF3 => ?_)
  apply VC.anyTA 18 1020 (F := [eqF _, eqF _, capF (be 1 (x.server)) 1, eqF _, eqF _, capF (be 1 (x.n)) 1, eqF _, eqF _, eqF _, eqF _, eqF _, bytesF (be 4 (x.since)), eqF _, eqF _, eqF _, bytesF (be 4 (x.till)), eqF _, eqF _]) [⟨[], [1]⟩, ⟨[(11, 0)], []⟩, ⟨[(12, 1)], []⟩, ⟨[], [1]⟩, ⟨[(14, 3)], []⟩, ⟨[(15, 4)], []⟩, ⟨[], [1]⟩, ⟨[(17, 6)], []⟩, ⟨[], [1]⟩, ⟨[(19, 8)], []⟩, ⟨[(20, 9)], []⟩, ⟨[(21, 10)], []⟩, ⟨[], [1]⟩, ⟨[(23, 12)], []⟩, ⟨[(24, 13)], []⟩, ⟨[(25, 14)], []⟩, ⟨[], [1]⟩, ⟨[(27, 16)], []⟩] [(13, 2), (16, 5), (18, 7), (22, 11), (26, 15), (28, 17)] [0, 1, 2, 3, 4, 5, 6, 7, 8, 9, 10, 29, 30, 31, 32, 33, 34, 35, 36, 37, 38, 39, 40, 41, 42, 43, 44, 45, 46, 47, 48, 49, 50, 51, 52, 53, 54, 55, 56, 57, 58] rfl (by kernel_rfl) (by kernel_rfl) rfl rfl (by kernel_rfl) (by kernel_rfl) (by kernel_rfl) rfl ?obs3 ?end3
  case obs3 =>
   refine Obs.cons ?_ ?_
   ·refine obS (by kernel_rfl) rfl rfl (fun ph3 w3 hO3 => ?_)
    refine VL.fieldAddr rfl fo85_0 rfl ?_
    exact VL.finS hO3 rfl rfl
   refine Obs.cons ?_ ?_
   ·refine obS (by kernel_rfl) rfl rfl (fun ph3 w3 hO3 => ?_)
    rintro _ rfl
    refine VL.loadF (s := ⟨w2, _⟩) (v := .int .u8 (x.server)) 0 rfl kd5 hF3 (fun _ e => e ▸ Still.ok hO3 (by repeat (first | exact List.mem_cons_self .. | apply List.mem_cons_of_mem))) rfl rfl ?_
    exact VL.finS hO3 rfl rfl
   refine Obs.cons ?_ ?_
   ·refine ob (by kernel_rfl) rfl (by kernel_rfl) rfl (fun w3 hO3 => ?_)
    rintro _ rfl
    refine VL.toOwn hO3 ?_
    refine VL.litByte (m := x.server) el24 rfl (by have hm := hx.server; omega) (fun g5 w6 hO7 hA8 => ?_)
    exact VL.finO rfl (fun _ h => h.subA) (fun _ h => ⟨_, rfl, (hA8.nowA (s := ⟨w6, _⟩) Mono.byte h)⟩)
   refine Obs.cons ?_ ?_
   ·refine obS (by kernel_rfl) rfl rfl (fun ph3 w3 hO3 => ?_)
    refine VL.fieldAddr rfl fo85_1 rfl ?_
    exact VL.finS hO3 rfl rfl
   refine Obs.cons ?_ ?_
   ·refine obS (by kernel_rfl) rfl rfl (fun ph3 w3 hO3 => ?_)
    rintro _ rfl
    refine VL.loadF (s := ⟨w2, _⟩) (v := .int .u8 (x.n)) 1 rfl kd5 hF3 (fun _ e => e ▸ Still.ok hO3 (by repeat (first | exact List.mem_cons_self .. | apply List.mem_cons_of_mem))) rfl rfl ?_
    exact VL.finS hO3 rfl rfl
   refine Obs.cons ?_ ?_
   ·refine ob (by kernel_rfl) rfl (by kernel_rfl) rfl (fun w3 hO3 => ?_)
    rintro _ rfl
    refine VL.toOwn hO3 ?_
    refine VL.litByte (m := x.n) el24 rfl (by have hm := hx.n; omega) (fun g9 w10 hO11 hA12 => ?_)
    exact VL.finO rfl (fun _ h => h.subA) (fun _ h => ⟨_, rfl, (hA12.nowA (s := ⟨w10, _⟩) Mono.byte h)⟩)
   refine Obs.cons ?_ ?_
   ·refine obS (by kernel_rfl) rfl rfl (fun ph3 w3 hO3 => ?_)
    refine VL.fieldAddr rfl fo85_2 rfl ?_
    exact VL.finS hO3 rfl rfl
   refine Obs.cons ?_ ?_
   ·refine obS (by kernel_rfl) rfl rfl (fun ph3 w3 hO3 => ?_)
    rintro _ rfl
    refine VL.sliceArrAt Try.underlying44 (by kernel_rfl) rfl ?_
    refine VL.newv (v' := .slice (some ⟨g1, 2, none⟩) (x.key).length 32) (by rw [hx.key]) ?_
    exact VL.finS hO3 rfl rfl
   refine Obs.cons ?_ ?_
   ·refine obS (by kernel_rfl) rfl rfl (fun ph3 w3 hO3 => ?_)
    refine VL.fieldAddr rfl fo85_3 rfl ?_
    exact VL.finS hO3 rfl rfl
   refine Obs.cons ?_ ?_
   ·refine obS (by kernel_rfl) rfl rfl (fun ph3 w3 hO3 => ?_)
    rintro _ rfl
    refine VL.loadF (s := ⟨w2, _⟩) (v := .int .u32 (x.since)) 3 rfl kd48 hF3 (fun _ e => e ▸ Still.ok hO3 (by repeat (first | exact List.mem_cons_self .. | apply List.mem_cons_of_mem))) rfl rfl ?_
    exact VL.finS hO3 rfl rfl
   refine Obs.cons ?_ ?_
   ·refine obS (by kernel_rfl) rfl rfl (fun ph3 w3 hO3 => ?_)
    rintro _ rfl
    refine VL.conv (by rw [Try.underlying48]; rfl) Try.underlying3 rfl (by simp only [InR]; omega) ?_
    exact VL.finS hO3 rfl rfl
   refine Obs.cons ?_ ?_
   ·refine ob (by kernel_rfl) rfl (by kernel_rfl) rfl (fun w3 hO3 => ?_)
    rintro _ rfl
    refine VL.toOwn hO3 ?_
    refine VL.call Try.func108 rfl (by decide) rfl (fun w' hw => num_S hw (x.since) 4 (by omega) (by decide) (by decide) (fits4 (by omega))) (fun v => ?_)
    refine VL.at (fun w13 h1w => ?_)
    obtain ⟨p14, c15, rfl, hO17, hA16⟩ := h1w
    refine VL.toOwn hO17 ?_
    exact VL.finO rfl (fun _ h => h.subA) (fun _ h => ⟨_, _, rfl, (hA16.nowA (s := ⟨w13, _⟩) Mono.byte h)⟩)
   refine Obs.cons ?_ ?_
   ·refine obS (by kernel_rfl) rfl rfl (fun ph3 w3 hO3 => ?_)
    refine VL.fieldAddr rfl fo85_4 rfl ?_
    exact VL.finS hO3 rfl rfl
   refine Obs.cons ?_ ?_
   ·refine obS (by kernel_rfl) rfl rfl (fun ph3 w3 hO3 => ?_)
    rintro _ rfl
    refine VL.loadF (s := ⟨w2, _⟩) (v := .int .u32 (x.till)) 4 rfl kd48 hF3 (fun _ e => e ▸ Still.ok hO3 (by repeat (first | exact List.mem_cons_self .. | apply List.mem_cons_of_mem))) rfl rfl ?_
    exact VL.finS hO3 rfl rfl
   refine Obs.cons ?_ ?_
   ·refine obS (by kernel_rfl) rfl rfl (fun ph3 w3 hO3 => ?_)
    rintro _ rfl
    refine VL.conv (by rw [Try.underlying48]; rfl) Try.underlying3 rfl (by simp only [InR]; omega) ?_
    exact VL.finS hO3 rfl rfl
   refine Obs.cons ?_ ?_
   ·refine ob (by kernel_rfl) rfl (by kernel_rfl) rfl (fun w3 hO3 => ?_)
    rintro _ rfl
    refine VL.toOwn hO3 ?_
    refine VL.call Try.func108 rfl (by decide) rfl (fun w' hw => num_S hw (x.till) 4 (by omega) (by decide) (by decide) (fits4 (by omega))) (fun v => ?_)
    refine VL.at (fun w18 h1w => ?_)
    obtain ⟨p19, c20, rfl, hO22, hA21⟩ := h1w
    refine VL.toOwn hO22 ?_
    exact VL.finO rfl (fun _ h => h.subA) (fun _ h => ⟨_, _, rfl, (hA21.nowA (s := ⟨w18, _⟩) Mono.byte h)⟩)
   refine Obs.cons ?_ ?_
   ·refine obS (by kernel_rfl) rfl rfl (fun ph3 w3 hO3 => ?_)
    refine VL.fieldAddr rfl fo85_5 rfl ?_
    exact VL.finS hO3 rfl rfl
   refine Obs.cons ?_ ?_
   ·refine obS (by kernel_rfl) rfl rfl (fun ph3 w3 hO3 => ?_)
    rintro _ rfl
    refine VL.sliceArrAt Try.underlying80 (by kernel_rfl) rfl ?_
    refine VL.newv (v' := .slice (some ⟨g1, 36, none⟩) (x.sig).length 64) (by rw [hx.sig]) ?_
    exact VL.finS hO3 rfl rfl
   exact Obs.nil
  case end3 =>
   intro w3 hO3
   rintro _ ⟨p3_2, rfl, hA3_2⟩ _ ⟨p3_5, rfl, hA3_5⟩ _ rfl _ ⟨p3_11, c3_11, rfl, hA3_11⟩ _ ⟨p3_15, c3_15, rfl, hA3_15⟩ _ rfl
   refine VL.toOwn hO3 ?_
   refine VL.litB [be 1 (x.server), be 1 (x.n), x.key, be 4 (x.since), be 4 (x.till), x.sig] el31 rfl rfl rfl (by simp [Value.cells]) (by intro u hu; simp [Value.cells] at hu; rcases hu with rfl | rfl | rfl | rfl | rfl | rfl <;> rfl) rfl (fun _ w' hw => ⟨⟨_, _, rfl, (hA3_2.nowA (s := ⟨w3, _⟩) Mono.byte hw)⟩, ⟨⟨_, _, rfl, (hA3_5.nowA (s := ⟨w3, _⟩) Mono.byte hw)⟩, ⟨⟨_, _, rfl, ((hF3.bytes 2 2 rfl rfl hx.key rfl).nowA (s := ⟨w2, _⟩) Mono.byte hw)⟩, ⟨⟨_, _, rfl, (hA3_11.nowA (s := ⟨w3, _⟩) Mono.byte hw)⟩, ⟨⟨_, _, rfl, (hA3_15.nowA (s := ⟨w3, _⟩) Mono.byte hw)⟩, ⟨⟨_, _, rfl, ((hF3.bytes 5 36 rfl rfl hx.sig rfl).nowA (s := ⟨w2, _⟩) Mono.byte hw)⟩, trivial⟩⟩⟩⟩⟩⟩) (fun v => ?_)
   refine VL.ex fun g23 => VL.fact fun e24 => ?_
   subst e24
   refine VL.assign rfl ?_
   refine VL.nn ?_
   refine VC.seq ?_
   refine VC.sr ?_
   refine VL.assign rfl ?_
   refine VL.nn ?_
   refine VC.block ?_
   refine VC.loop (X := Nat × Option Nat × Nat) (fun (i, gp, c) => [(1, .pointer (some ⟨g1, 0, none⟩)), (4, rowV gp (objectP0 x ++ (x.vouches.take i).map vouchB).length c), (5, .int .i64 (i : Int))]) (fun (i, gp, c) w' => i ≤ x.vouches.length ∧ Own (⟨w2, keys H⟩ :: ⟨w, keys H⟩ :: S) (brow gp c ((objectP0 x ++ (x.vouches.take i).map vouchB)) :: H) w') (fun (i, _) => x.vouches.length - i) (0, (some g23), 6) ⟨rfl, rfl, rfl, trivial⟩ (fun w' h => ⟨Nat.zero_le _, h.subA⟩) (fun (i, gp, c) => VC.fact fun hi => ?_)
   ·have hpl : (objectP0 x).length = 6 := rfl
    have htk : (List.take i x.vouches).length ≤ i := List.length_take_le _ _
    refine VC.seq ?_
    refine VC.sr ?_
    refine VL.move rfl ?_
    refine VL.fieldAddr rfl fo85_6 rfl ?_
    refine VL.loadF (s := ⟨w2, _⟩) (v := .slice q (x.vouches).length d) 6 rfl kd83 hF3 (fun _ h => (h.after (by repeat (first | exact List.mem_cons_self .. | apply List.mem_cons_of_mem))).1) rfl rfl ?_
    refine VL.len Try.underlying83 rfl rfl ?_
    refine VL.lss rfl rfl ?_
    refine VL.case (fun h5 => ?_) (fun h5 => ?_)
    ·have hlt : i < x.vouches.length := by omega
     refine VL.nn ?_
     refine VC.yes rfl ?_
     refine VC.skip ?_
     refine VX.next ?_
     refine VC.seq ?_
     refine VC.block ?_
     refine VC.sr ?_
     refine VL.fieldAddr rfl fo85_6 rfl ?_
     refine VL.loadF (s := ⟨w2, _⟩) (v := .slice q (x.vouches).length d) 6 rfl kd83 hF3 (fun _ h => (h.after (by repeat (first | exact List.mem_cons_self .. | apply List.mem_cons_of_mem))).1) rfl rfl ?_
     refine VL.move rfl ?_
     refine VL.index (xs := x.vouches) rfl rfl Try.underlying83 sz83 hV (by omega) (by have hi := hlt; omega) ?_
     refine VL.fieldAt rfl (by obtain ⟨a, ha⟩ := hV.isAt (by have hi := hlt; omega); rw [ha]; rfl) fo202_0 ?_
     refine VL.elem (s := ⟨w, _⟩) (i) 0 rfl kd5 (fun _ h => h) (by repeat (first | exact List.mem_cons_self .. | apply List.mem_cons_of_mem)) Mono_vouch hV (List.getElem?_eq_getElem hlt) (by simp) (by decide) (fun vs v hl hr hv => ?_)
     obtain ⟨hy25, rfl⟩ := hr
     have ehy25 : v = .int .u8 ((x.vouches[i]'hlt).notary : Nat) := (Option.some.inj (hv.symm.trans rfl))
     subst ehy25
     refine VL.litByte (m := (x.vouches[i]'hlt).notary) el24 rfl (by have hm := (hx.vouches _ (List.getElem_mem hlt)).notary; omega) (fun g26 w27 hO28 hA29 => ?_)
     refine VL.assign rfl ?_
     refine VL.nn ?_
     refine VC.region ?_
     refine VL.move rfl ?_
     refine VL.move rfl ?_
     refine VL.fieldAddr rfl fo85_6 rfl ?_
     refine VL.loadF (s := ⟨w2, _⟩) (v := .slice q (x.vouches).length d) 6 rfl kd83 hF3 (fun _ h => (h.after (by repeat (first | exact List.mem_cons_self .. | apply List.mem_cons_of_mem))).1) rfl rfl ?_
     refine VL.move rfl ?_
     refine VL.index (xs := x.vouches) rfl rfl Try.underlying83 sz83 hV (by omega) (by have hi := hlt; omega) ?_
     refine VL.fieldAt rfl (by obtain ⟨a, ha⟩ := hV.isAt (by have hi := hlt; omega); rw [ha]; rfl) fo202_1 ?_
     refine VL.sliceIn (i) 1 ((x.vouches[i]'hlt).sig) Try.underlying80 (by kernel_rfl) rfl hV (List.getElem?_eq_getElem hlt) (by simp) (hx.vouches _ (List.getElem_mem hlt)).sig (by decide) (fun vs hr => vouch_sig hr) (fun q30 hA31 => ?_)
     refine VL.appendFull el24 rfl rfl rfl (by simp only [be_length]; omega) (by have hl := (hx.vouches _ (List.getElem_mem hlt)).sig; omega) (by simp only [be_length]; have hl := (hx.vouches _ (List.getElem_mem hlt)).sig; omega) (by simp only [be_length]; have hl := (hx.vouches _ (List.getElem_mem hlt)).sig; omega) (fun _ hw => (hA29.nowA (s := ⟨w27, _⟩) Mono.byte hw)) (fun _ hw => (hA31.nowA (s := ⟨w, _⟩) Mono.byte hw)) (fun g32 c36 w33 hO34 hA35 => ?_)
     refine VL.lit el31 rfl rfl rfl (by simp [Value.cells]) (by intro u hu; simp [Value.cells] at hu; rcases hu with rfl <;> rfl) (fun g37 => ?_)
     refine VL.letRowS [(be 1 ((x.vouches[i]'hlt).notary) ++ (x.vouches[i]'hlt).sig)] rfl (fun w' hw => ⟨⟨_, _, rfl, (hA35.nowA (s := ⟨w33, _⟩) Mono.byte hw)⟩, trivial⟩) (fun w38 hO39 hA40 => ?_)
     refine VL.appends (R := bytesR) (hR := Mono.slice Mono.byte) (ys := (objectP0 x ++ (x.vouches.take i).map vouchB)) (zs := [(be 1 ((x.vouches[i]'hlt).notary) ++ (x.vouches[i]'hlt).sig)]) 0 el31 rfl rfl rfl (fun _ h => h) rfl (fun _ hw => (hA40.nowA (s := ⟨w38, _⟩) (Mono.slice Mono.byte) hw)) bytesR_ok1 (by simp only [List.length_append, List.length_cons, List.length_nil, List.length_map]; omega) (fun g41 c42 => ?_) (by simp only [List.length_append, List.length_cons, List.length_nil, List.length_map]; omega)
     refine VL.set0 ?_
     refine VL.assign rfl ?_
     refine VL.nil ?_
     refine VX.block_normal ?_
     refine VX.next ?_
     refine VC.region ?_
     refine VL.move rfl ?_
     refine VL.add rfl rfl (by simp only [InR]; omega) ?_
     refine VL.assign rfl ?_
     refine VL.nil ?_
     have el : objectP0 x ++ (x.vouches.take i).map vouchB ++ [be 1 (x.vouches[i]'hlt).notary ++ (x.vouches[i]'hlt).sig] = objectP0 x ++ (x.vouches.take (i + 1)).map vouchB := by rw [← vouch_next hlt, List.append_assoc]
     refine VX.round (i + 1, g41, c42) ⟨rfl, congrArg (fun l : List (List UInt8) => some (rowV g41 l.length c42)) el, rfl, trivial⟩ (fun w' h => ⟨by omega, ?_⟩) (by show x.vouches.length - (i + 1) < x.vouches.length - i; omega)
     rw [← el]
     exact h.subA
    ·have hie : i = x.vouches.length := by omega
     refine VL.nn ?_
     refine VC.no rfl ?_
     refine VC.exit ?_
     refine VX.then_exit ?_
     refine VX.then_exit ?_
     refine VX.block_here ?_
     refine VX.next ?_
     refine VC.seq ?_
     refine VC.letArr (fun wr hOr hAr => ?_)
     refine VC.region ?_
     refine VL.move rfl ?_
     refine VL.call Try.func31 rfl (by decide) rfl (fun w' hw => join_O (ls := (objectP0 x ++ (x.vouches.take i).map vouchB)) hw (hAr.nowA (s := ⟨wr, _⟩) (Mono.slice Mono.byte) hw)) (fun v => ?_)
     refine VL.at (fun w43 h1w => ?_)
     obtain ⟨p44, c45, rfl, hO47, hA46⟩ := h1w
     refine VL.toOwn hO47 ?_
     refine VL.extract rfl rfl ?_
     refine VL.extract rfl rfl ?_
     refine VL.assign rfl ?_
     refine VL.assign rfl ?_
     refine VL.nn ?_
     refine VC.ret ?_
     refine VX.ret2 rfl rfl rfl (fun we hw => ?_)
     exact postO ((show joinO (objectP0 x ++ (x.vouches.take i).map vouchB) true = objectO x from by rw [hie, List.take_length]; unfold objectO; rw [if_pos (by omega)]; exact joinO_some (objectP_ok hx (by omega)) rfl)) ⟨p44, c45, rfl, hw.subA, (hA46.nowA (s := ⟨w43, _⟩) Mono.byte hw)⟩

end Go.Proofs.Ytcfecmoagfgnaaa

/- Calls: their bytes; what bytes are read as. -/
namespace Go.Proofs.Ytcfecmoagfgnaaa
open Go.Vc Go.Pl

/-! The error's number. -/
/-- Where the loop over bundles stands. -/
def CInv (c : List (List UInt8)) (bs : List Bundle) (ps : List (List UInt8)) (e : Nat) : Prop :=
  (∀ b ∈ bs, b.ok) ∧ bs.length ≤ 9 ∧ ((e = 0 ∧ ∃ d, c = d ++ ps ∧ d.map bundleR = bs.map some) ∨ (e = 141 ∧ ∃ p ∈ c, bundleR p = none))
theorem CInv.start (c : List (List UInt8)) : CInv c [] c 0 := ⟨by simp, by simp, .inl ⟨rfl, [], rfl, rfl⟩⟩
theorem CInv.step {c : List (List UInt8)} {bs : List Bundle} {p : List UInt8} {r : List (List UInt8)} (h : CInv c bs (p :: r) 0) (h8 : bs.length ≤ 8) : CInv c (bs ++ [(bundleR p).getD bundle0]) r (if (bundleR p).isSome then 0 else 141) := by
 obtain ⟨h1, h2, h3⟩ := h
 refine ⟨fun b hb => ?_, by simp; omega, ?_⟩
 ·rcases List.mem_append.1 hb with hb | hb
  ·exact h1 b hb
  ·rw [List.mem_singleton] at hb; subst hb; exact bundleR_ok p
 ·rcases h3 with ⟨_, d, hd, hm⟩ | ⟨h, _⟩
  ·cases hp : bundleR p with
   | none => exact .inr ⟨rfl, p, by rw [hd]; simp, hp⟩
   | some b => exact .inl ⟨rfl, d ++ [p], by rw [hd]; simp, by simp [hm, hp]⟩
  ·cases h
end Go.Proofs.Ytcfecmoagfgnaaa

