/- The statement FedqLoads is proved, for every input: part 11 of 26 of the texts that it needs. -/
import Derived.Test.YtcfecmoagfgnaaaMfloAJ
/- wire: what bytes are read as: objects. -/
namespace Go.Proofs.Ytcfecmoagfgnaaa
open Go.Vc Go.Pl

theorem object_why' (l : List UInt8) : endW (vouchesW 4 (((((((openP l).drop 1).drop 1).drop 1).drop 1).drop 1).drop 1)).2.1 (if (vouchesW 4 (((((((openP l).drop 1).drop 1).drop 1).drop 1).drop 1).drop 1)).2.2 then (takesW objectK (openP l) (openW l)) else failW (takesW objectK (openP l) (openW l)) 141) = if (objectR l).isSome then 0 else 141 := by
 have := object_why l
 simpa only [List.drop_drop] using this
theorem object_vouches' {l : List UInt8} (h : (objectR l).isSome = true) : objectR l = some (objectOf (openP l) (vouchesW 4 (((((((openP l).drop 1).drop 1).drop 1).drop 1).drop 1).drop 1)).1) := by
 have := object_vouches h
 simpa only [List.drop_drop] using this
theorem object_fin {l : List UInt8} {vs : List Vouch} {ps : List (List UInt8)} (hv : vouchesW 4 (((((((openP l).drop 1).drop 1).drop 1).drop 1).drop 1).drop 1) = (vs ++ (vouchesW (4 - vs.length) ps).1, (vouchesW (4 - vs.length) ps).2.1, (vouchesW (4 - vs.length) ps).2.2)) (hx : ps = [] ∨ 4 ≤ vs.length) : endW ps (takesW objectK (openP l) (openW l)) = (if (objectR l).isSome then 0 else 141) ∧ ∀ y, objectR l = some y → y = objectOf (openP l) vs := by
 have e : vouchesW (4 - vs.length) ps = ([], ps, true) := by
  rcases hx with rfl | hx
  ·cases (4 - vs.length) <;> rfl
  ·rw [show 4 - vs.length = 0 by omega]
   cases ps <;> rfl
 rw [e] at hv
 have h1 := object_why' l
 rw [hv] at h1
 refine ⟨h1, fun y hy => ?_⟩
 have h2 := object_vouches' (l := l) (by rw [hy]; rfl)
 rw [hv, hy] at h2
 have := Option.some.inj h2
 rw [List.append_nil] at this
 exact this
theorem object_brk {l : List UInt8} {vs : List Vouch} {p : List UInt8} {r : List (List UInt8)} (hv : vouchesW 4 (((((((openP l).drop 1).drop 1).drop 1).drop 1).drop 1).drop 1) = (vs ++ (vouchesW (4 - vs.length) (p :: r)).1, (vouchesW (4 - vs.length) (p :: r)).2.1, (vouchesW (4 - vs.length) (p :: r)).2.2)) (hx : vs.length < 4) (hp : p.length ≠ 65) : objectR l = none ∧ endW r (failW (takesW objectK (openP l) (openW l)) 141) = 141 := by
 obtain ⟨k, hk⟩ : ∃ k, 4 - vs.length = k + 1 := ⟨4 - vs.length - 1, by omega⟩
 have e : vouchesW (4 - vs.length) (p :: r) = ([], r, false) := by rw [hk]; exact if_neg hp
 have hw : failW (takesW objectK (openP l) (openW l)) 141 = 141 := by
  obtain ⟨h1, h2⟩ := takesW_open (ks := objectK) (by simp) l
  by_cases hf : fitsP objectK (openP l)
  ·rw [h1 hf]; rfl
  ·rw [h2 hf]; rfl
 rw [e] at hv
 have h1 := object_why' l
 rw [hv] at h1
 have e2 : (if (vs ++ ([] : List Vouch), r, false).2.2 = true then (takesW objectK (openP l) (openW l)) else failW (takesW objectK (openP l) (openW l)) 141) = 141 := hw
 rw [e2, endW_141] at h1
 refine ⟨?_, by rw [hw, endW_141]⟩
 cases ho : objectR l with
 | none => rfl
 | some y => rw [ho] at h1; exact absurd h1 (by simp)
theorem vouch_step {l : List UInt8} {vs : List Vouch} {p : List UInt8} {r : List (List UInt8)} (hv : vouchesW 4 (((((((openP l).drop 1).drop 1).drop 1).drop 1).drop 1).drop 1) = (vs ++ (vouchesW (4 - vs.length) (p :: r)).1, (vouchesW (4 - vs.length) (p :: r)).2.1, (vouchesW (4 - vs.length) (p :: r)).2.2)) (hx : vs.length < 4) (hp : p.length = 65) : vouchesW 4 (((((((openP l).drop 1).drop 1).drop 1).drop 1).drop 1).drop 1) = ((vs ++ [vouchOf p]) ++ (vouchesW (4 - (vs ++ [vouchOf p]).length) r).1, (vouchesW (4 - (vs ++ [vouchOf p]).length) r).2.1, (vouchesW (4 - (vs ++ [vouchOf p]).length) r).2.2) := by
 obtain ⟨k, hk⟩ : ∃ k, 4 - vs.length = k + 1 := ⟨4 - vs.length - 1, by omega⟩
 have e : vouchesW (4 - vs.length) (p :: r) = (vouchOf p :: (vouchesW k r).1, (vouchesW k r).2.1, (vouchesW k r).2.2) := by rw [hk]; exact if_pos hp
 rw [hv, e, List.length_append, List.length_singleton, show 4 - (vs.length + 1) = k by omega, List.append_assoc]; rfl
abbrev vouchN (p : List UInt8) : Vouch := ⟨(p.headD 0).toNat, zeros 64⟩
theorem vouchN_ok (p : List UInt8) : (vouchN p).ok := ⟨UInt8.toNat_lt _, rfl⟩
theorem el83 : Elem Try.prog 83 202 65 65 (.agg (cat (vouchV vouch0)).toArray) := ⟨Try.underlying83, by kernel_rfl, by kernel_rfl, rfl, by decide⟩
theorem one_vouch {K : List Nat} {w : World} {v : Vouch} (hv : v.ok) (j : Nat) (y : Vouch) (hj : [v][j]? = some y) : vouchR K w ((([Value.agg (cat (vouchV v)).toArray].flatMap (·.cells.toList)).drop (j * 65)).take 65) y := by
 have hj0 : j = 0 := by have := (List.getElem?_eq_some_iff.1 hj).1; simp at this; exact this
 subst hj0
 simp at hj; subst hj
 refine ⟨hv, ?_⟩
 have e : [Value.agg (cat (vouchV v)).toArray].flatMap (·.cells.toList) = cat (vouchV v) := by simp [Value.cells]
 rw [e, Nat.zero_mul, List.drop_zero, List.take_of_length_le (by rw [cat_size (vouchV_len hv)]; decide)]
theorem objectOf_ok {l : List UInt8} {vs : List Vouch} (h : ∀ v ∈ vs, v.ok) : (objectOf (openP l) vs).ok := ⟨takeN_lt _ 1, takeN_lt _ 1, takeB_length _ _, takeN_lt _ 4, takeN_lt _ 4, takeB_length _ _, h⟩
theorem objectOf_nil (l : List UInt8) : (objectOf (openP l) []).ok := objectOf_ok (by simp)
theorem objectR_ok (l : List UInt8) : ((objectR l).getD object0).ok := by
 cases h : objectR l with
 | none => exact object0_ok
 | some x => exact (objectR_iff.1 h).1
theorem newRow {S : List Snap} {H : List Chunk} {w : World} (h : Own S H w) : Own S (arow 202 65 vouchR Mono_vouch none 0 ([] : List Vouch) :: H) w := Own.arow_nil Mono_vouch 202 65 h

theorem getObject_w {S : List Snap} {H : List Chunk} {w : World} (ho : Own S H w) {p : Option Addr} {l : List UInt8} {c : Nat} (hA : Bytes (keys H) w p l c) : Calls Try.prog 71 #[.slice p l.length c] w (Ret fun v w' => ∃ q d, v = .tuple #[.agg (cat (objectV ((objectR l).getD object0) q d)).toArray, .int .i64 (((if (objectR l).isSome then 0 else 141 : Nat)) : Int)] ∧ Own S H w' ∧ Arr 65 vouchR (keys H) w' q ((objectR l).getD object0).vouches d) := by
 refine enter (G := Own (⟨w, keys H⟩ :: S) H) ho.keep Try.func71 rfl Try.ntmps71 rfl ?_
 refine VC.sr ?_
 refine VL.alloc (L := objectL) (ps := (objectV (object0) none 0)) zero85 rfl rfl (fun g1 => ?_)
 refine VL.assign rfl ?_
 refine VL.nn ?_
 refine VC.sr ?_
 refine VL.move rfl ?_
 refine VL.call Try.func121 rfl (by decide) rfl (fun w' hw => open_R hw (hA.nowA (s := ⟨w, _⟩) Mono.byte hw)) (fun v => ?_)
 refine VL.ex fun g2 => VL.fact fun e3 => ?_
 subst e3
 refine VL.assign rfl ?_
 refine VL.nn ?_
 refine VC.sr ?_
 refine VL.move rfl ?_
 refine VL.call Try.func122 rfl (by decide) rfl (fun w' hw => byte_R (i := 0) rfl hw) (fun v => ?_)
 refine VL.fact fun e4 => ?_
 subst e4
 refine VL.set0 ?_
 refine VL.move rfl ?_
 refine VL.call Try.func122 rfl (by decide) rfl (fun w' hw => byte_R (i := 0) rfl hw) (fun v => ?_)
 refine VL.fact fun e5 => ?_
 subst e5
 refine VL.set0 ?_
 refine VL.move rfl ?_
 refine VL.call Try.func129 rfl (by decide) rfl (fun w' hw => key_R (i := 0) rfl hw) (fun v => ?_)
 refine VL.fact fun e6 => ?_
 subst e6
 refine VL.set0 ?_
 refine VL.move rfl ?_
 refine VL.call Try.func132 rfl (by decide) rfl (fun w' hw => num_R (i := 0) rfl hw 4 (by decide) (by decide)) (fun v => ?_)
 refine VL.fact fun e7 => ?_
 subst e7
 refine VL.set0 ?_
 refine VL.conv (by rw [Try.underlying22]; rfl) Try.underlying48 rfl (by have hlt := (takeN_lt ((((openP (l)).drop 1).drop 1).drop 1) 4); simp only [InR]; omega) ?_
 refine VL.move rfl ?_
 refine VL.call Try.func132 rfl (by decide) rfl (fun w' hw => num_R (i := 0) rfl hw 4 (by decide) (by decide)) (fun v => ?_)
 refine VL.fact fun e8 => ?_
 subst e8
 refine VL.set0 ?_
 refine VL.conv (by rw [Try.underlying22]; rfl) Try.underlying48 rfl (by have hlt := (takeN_lt (((((openP (l)).drop 1).drop 1).drop 1).drop 1) 4); simp only [InR]; omega) ?_
 refine VL.move rfl ?_
 refine VL.call Try.func131 rfl (by decide) rfl (fun w' hw => sig_R (i := 0) rfl hw) (fun v => ?_)
 refine VL.fact fun e9 => ?_
 subst e9
 refine VL.set0 ?_
 refine VL.build (zs := objectZ) (L := objectFL) [(0, [.int .u8 (takeN (openP (l)) 1)]), (1, [.int .u8 (takeN ((openP (l)).drop 1) 1)]), (2, (takeB 32 (((openP (l)).drop 1).drop 1)).map bv), (3, [.int .u32 (takeN ((((openP (l)).drop 1).drop 1).drop 1) 4)]), (4, [.int .u32 (takeN (((((openP (l)).drop 1).drop 1).drop 1).drop 1) 4)]), (5, (takeB 64 ((((((openP (l)).drop 1).drop 1).drop 1).drop 1).drop 1)).map bv)] plan85 rfl ⟨⟨rfl, ⟨_, rfl, rfl⟩, rfl⟩, ⟨⟨rfl, ⟨_, rfl, rfl⟩, rfl⟩, ⟨⟨rfl, ⟨_, rfl, rfl⟩, (arr_q (takeB_length (((openP (l)).drop 1).drop 1) 32))⟩, ⟨⟨rfl, ⟨_, rfl, rfl⟩, rfl⟩, ⟨⟨rfl, ⟨_, rfl, rfl⟩, rfl⟩, ⟨⟨rfl, ⟨_, rfl, rfl⟩, (arr_q (takeB_length ((((((openP (l)).drop 1).drop 1).drop 1).drop 1).drop 1) 64))⟩, trivial⟩⟩⟩⟩⟩⟩ rfl ?_
 refine VL.newv (v' := .agg (cat (objectV ((objectOf (openP l) [])) none 0)).toArray) rfl ?_
 refine VL.alloc (L := objectL) (ps := (objectV (object0) none 0)) zero85 rfl rfl (fun g10 => ?_)
 refine VL.store (L := objectL) (qs := (objectV ((objectOf (openP l) [])) none 0)) (ps' := (objectV ((objectOf (openP l) [])) none 0)) 0 0 7 rfl rfl rfl (.inl kd85) rfl rfl (objectV_len (objectOf_nil l)) (objectV_ok1 ((objectOf (openP l) [])) none 0) rfl rfl ?_
 refine VL.set0 ?_
 refine VL.nn ?_
 refine VC.seq ?_
 refine VC.block ?_
 refine VC.turn (G' := Own _ (arow 202 65 vouchR Mono_vouch none 0 ([] : List Vouch) :: blk g10 85 objectL (objectV ((objectOf (openP l) [])) none 0) :: rch g2 (((((((openP (l)).drop 1).drop 1).drop 1).drop 1).drop 1).drop 1) (lenW ((((((openP (l)).drop 1).drop 1).drop 1).drop 1).drop 1) (lenW (((((openP (l)).drop 1).drop 1).drop 1).drop 1) (lenW ((((openP (l)).drop 1).drop 1).drop 1) (lenW (((openP (l)).drop 1).drop 1) (lenW ((openP (l)).drop 1) (lenW (openP (l)) (openW (l)) 1) 1) 32) 4) 4) 64) :: blk g1 85 objectL (objectV (object0) none 0) :: H)) (fun w' h => newRow h) ?_
 refine VC.loop (X := List Vouch × List (List UInt8) × Option Nat × Nat) (fun _ => [(4, .pointer (some ⟨g2, 0, none⟩)), (5, .pointer (some ⟨g10, 0, none⟩)), (2, .pointer (some ⟨g1, 0, none⟩))]) (fun (vs, ps, gv, cv) w' => (vs.length ≤ 4 ∧ (∀ v ∈ vs, v.ok) ∧ vouchesW 4 (((((((openP l).drop 1).drop 1).drop 1).drop 1).drop 1).drop 1) = (vs ++ (vouchesW (4 - vs.length) ps).1, (vouchesW (4 - vs.length) ps).2.1, (vouchesW (4 - vs.length) ps).2.2)) ∧ Own (⟨w, keys H⟩ :: S) (arow 202 65 vouchR Mono_vouch gv cv vs :: blk g10 85 objectL (objectV ((objectOf (openP l) vs)) (gv.map fun g => (⟨g, 0, none⟩ : Addr)) cv) :: rch g2 ps (lenW ((((((openP (l)).drop 1).drop 1).drop 1).drop 1).drop 1) (lenW (((((openP (l)).drop 1).drop 1).drop 1).drop 1) (lenW ((((openP (l)).drop 1).drop 1).drop 1) (lenW (((openP (l)).drop 1).drop 1) (lenW ((openP (l)).drop 1) (lenW (openP (l)) (openW (l)) 1) 1) 32) 4) 4) 64) :: blk g1 85 objectL (objectV (object0) none 0) :: H) w') (fun (_, ps, _) => ps.length) ([], (((((((openP (l)).drop 1).drop 1).drop 1).drop 1).drop 1).drop 1), none, 0) ⟨rfl, rfl, rfl, trivial⟩ (fun w' h => ⟨⟨Nat.zero_le _, by simp, rfl⟩, h⟩) (fun (vs, ps, gv, cv) => VC.fact fun ⟨hn, hvs, hveq⟩ => ?_)
 ·skip
  refine VC.seq ?_
  refine VC.sr ?_
  refine VL.move rfl ?_
  refine VL.nilCheck rfl ?_
  refine VL.fieldAddr rfl fo196_0 rfl ?_
  refine loadParts 2 rfl rfl (fun p11 c12 w13 hO14 hA15 => ?_)
  refine VL.len Try.underlying31 rfl rfl ?_
  refine VL.gtr rfl rfl ?_
  refine VL.case (fun h3_5 => ?_) (fun h3_5 => ?_)
  ·obtain ⟨pc, rest, rfl⟩ : ∃ pc rest, ps = pc :: rest := by
    cases ps with
    | nil => exact absurd h3_5 (by simp)
    | cons a b => exact ⟨a, b, rfl⟩
   refine VL.move rfl ?_
   refine VL.go rfl rfl rfl ?_
   refine VL.fieldAddr rfl fo85_6 rfl ?_
   refine VL.go rfl rfl rfl ?_
   refine VL.load (v := .slice (gv.map fun g => (⟨g, 0, none⟩ : Addr)) ((objectOf (openP l) vs).vouches).length cv) 1 6 rfl kd83 (fun _ h => h) rfl rfl rfl ?_
   refine VL.go rfl rfl rfl ?_
   refine VL.len Try.underlying83 rfl rfl ?_
   refine VL.go rfl rfl rfl ?_
   refine VL.lss rfl rfl ?_
   refine VL.case (fun h3_10 => ?_) (fun h3_10 => ?_)
   ·have h3_10 : vs.length < 4 := by have h : ((vs.length : Nat) : Int) < 4 := h3_10; omega
    refine VL.pick_t rfl rfl ?_
    refine VL.nn ?_
    refine VC.yes rfl ?_
    refine VC.skip ?_
    refine VX.next ?_
    refine VC.block ?_
    refine VC.sr ?_
    refine VL.move rfl ?_
    refine VL.call Try.func124 rfl (by decide) rfl (fun w' hw => piece_R (i := 2) rfl hw) (fun v => ?_)
    refine VL.at (fun w16 h1w => ?_)
    obtain ⟨p17, c18, rfl, hO20, hA19⟩ := h1w
    replace hO20 := ownSet2 hO20
    replace hA19 := arrSet2 hA19
    refine VL.toOwn hO20 ?_
    refine VL.assign rfl ?_
    refine VL.nn ?_
    refine VC.seq ?_
    refine VC.sr ?_
    refine VL.move rfl ?_
    refine VL.len Try.underlying24 rfl rfl ?_
    refine VL.neq rfl rfl ?_
    refine VL.case (fun h5_2 => ?_) (fun h5_2 => ?_)
    ·have hpc : pc.length ≠ 65 := by have h : ((pc.length : Nat) : Int) ≠ 65 := h5_2; omega
     refine VL.nn ?_
     refine VC.yes rfl ?_
     refine VC.sr ?_
     refine VL.move rfl ?_
     refine VL.call Try.func125 rfl (by decide) rfl (fun w' hw => fail_R (i := 2) rfl hw (141)) (fun v => ?_)
     refine VL.fact fun e21 => ?_
     subst e21
     refine VL.set2 ?_
     refine VL.nn ?_
     refine VC.exit ?_
     refine VX.then_exit ?_
     refine VX.block_past rfl ?_
     refine VX.then_exit ?_
     refine VX.block_here ?_
     refine VX.next ?_
     refine VC.seq ?_
     refine VC.seq ?_
     refine VC.letArr (fun wr hOr hAr => ?_)
     refine VC.region ?_
     refine VL.move rfl ?_
     refine VL.call Try.func126 rfl (by decide) rfl (fun w' hw => end_R (i := 1) rfl hw) (fun v => ?_)
     refine VL.fact fun e22 => ?_
     subst e22
     refine VL.set1 ?_
     refine VL.assign rfl ?_
     refine VL.nn ?_
     refine VC.sr ?_
     refine VL.move rfl ?_
     refine VL.neq rfl rfl ?_
     refine VL.case (fun h11_1 => ?_) (fun h11_1 => ?_)
     ·refine VL.nn ?_
      refine VC.yes rfl ?_
      refine VC.sr ?_
      refine VL.build0 (cs := cat (objectV (object0) none 0)) built85 ?_
      refine VL.move rfl ?_
      refine VL.store (L := objectL) (qs := (objectV (object0) none 0)) (ps' := (objectV (object0) none 0)) 2 0 7 rfl rfl rfl (.inl kd85) rfl rfl rfl (objectV_ok1 object0 none 0) rfl rfl ?_
      refine VL.set2 ?_
      refine VL.assign rfl ?_
      refine VL.nn ?_
      refine VC.ret ?_
      refine VX.then_ret ?_
      refine VX.ret_cell (cs := cat (objectV (object0) none 0)) 2 rfl rfl rfl kd85 (fun _ h => h) rfl rfl (fun we hw => ?_)
      obtain ⟨e1, e2⟩ := object_brk hveq h3_10 hpc
      exact ⟨none, 0, by rw [e1]; exact congrArg (fun n : Nat => Value.tuple #[_, .int .i64 (n : Int)]) e2, hw.drop.drop.drop.subA, by rw [e1]; exact Arr.none⟩
     ·refine VL.nn ?_
      refine VC.no rfl ?_
      refine VC.skip ?_
      refine VX.next ?_
      refine VC.sr ?_
      refine VL.loads (cs := cat (objectV ((objectOf (openP l) vs)) (gv.map fun g => (⟨g, 0, none⟩ : Addr)) cv)) 0 0 7 rfl kd85 (fun _ h => h) rfl rfl rfl rfl ?_
      refine VL.store (L := objectL) (qs := (objectV ((objectOf (openP l) vs)) (gv.map fun g => (⟨g, 0, none⟩ : Addr)) cv)) (ps' := (objectV ((objectOf (openP l) vs)) (gv.map fun g => (⟨g, 0, none⟩ : Addr)) cv)) 2 0 7 rfl rfl rfl (.inl kd85) rfl rfl (objectV_len (objectOf_ok hvs)) (objectV_ok1 ((objectOf (openP l) vs)) (gv.map fun g => (⟨g, 0, none⟩ : Addr)) cv) rfl rfl ?_
      refine VL.set2 ?_
      refine VL.assign rfl ?_
      refine VL.nn ?_
      refine VC.ret ?_
      refine VX.ret_cell (cs := cat (objectV ((objectOf (openP l) vs)) (gv.map fun g => (⟨g, 0, none⟩ : Addr)) cv)) 2 rfl rfl rfl (by rw [cat_size (objectV_len (objectOf_ok hvs))]; exact kd85) (fun _ h => h) rfl rfl (fun we hw => ?_)
      exact absurd (fun e => absurd ((congrArg (fun n : Nat => (n : Int)) (object_brk hveq h3_10 hpc).2).symm.trans e) (by decide)) h11_1
    ·have hpc : pc.length = 65 := by have h : ¬ ((pc.length : Nat) : Int) ≠ 65 := h5_2; omega
     refine VL.nn ?_
     refine VC.no rfl ?_
     refine VC.skip ?_
     refine VX.next ?_
     refine VC.sr ?_
     refine VL.move rfl ?_
     refine VL.index (xs := pc) rfl rfl Try.underlying24 sz24 hA19 (by omega) (by omega) ?_
     refine VL.byte (s := ⟨w16, _⟩) rfl kd5 (fun _ h => h) (by repeat (first | exact List.mem_cons_self .. | apply List.mem_cons_of_mem)) hA19 (y := pc.headD 0) (by
      show pc[0]? = _
      cases pc with
      | nil => simp at hpc
      | cons a r => rfl) ?_
     refine VL.build (zs := vouchZ) (L := vouchFL) [(0, [.int .u8 ((pc.headD 0).toNat)])] plan202 rfl ⟨⟨rfl, ⟨_, rfl, rfl⟩, rfl⟩, trivial⟩ rfl ?_
     refine VL.newv (v' := .agg (cat (vouchV ((vouchN pc)))).toArray) rfl ?_
     refine VL.alloc (L := vouchL) (ps := (vouchV (vouch0))) zero202 rfl rfl (fun g23 => ?_)
     refine VL.store (L := vouchL) (qs := (vouchV ((vouchN pc)))) (ps' := (vouchV ((vouchN pc)))) 0 0 2 rfl rfl rfl (.inl kd202) rfl rfl (vouchV_len (vouchN_ok pc)) (vouchV_ok1 ((vouchN pc))) rfl rfl ?_
     refine VL.set0 ?_
     refine VL.nn ?_
     refine VC.seq ?_
     apply VC.anyTA 4 1005 (F := [eqF _, eqF _, eqF _, eqF _]) [⟨[], [7]⟩, ⟨[(49, 0)], []⟩, ⟨[], [6]⟩, ⟨[(51, 2)], []⟩] [(50, 1), (52, 3)] [0, 2, 3, 4, 5, 6, 7, 8, 9, 10, 11, 12, 13, 14, 15, 16, 17, 18, 19, 20, 21, 22, 23, 24, 25, 26, 27, 28, 29, 30, 31, 32, 33, 34, 35, 36, 37, 38, 39, 40, 41, 42, 43, 45, 46, 47, 48, 54, 55, 56, 57, 58, 59, 60, 61, 62, 63, 64, 65, 66] rfl (by kernel_rfl) (by kernel_rfl) rfl rfl (by kernel_rfl) (by kernel_rfl) (by kernel_rfl) rfl ?obs8 ?end8
     case obs8 =>
      refine Obs.cons ?_ ?_
      ·refine obS (by kernel_rfl) rfl rfl (fun ph8 w8 hO8 => ?_)
       refine VL.fieldAddr rfl fo202_1 rfl ?_
       exact VL.finS hO8 rfl rfl
      refine Obs.cons ?_ ?_
      ·refine obS (by kernel_rfl) rfl rfl (fun ph8 w8 hO8 => ?_)
       rintro _ rfl
       refine VL.sliceArrAt Try.underlying80 (by kernel_rfl) rfl ?_
       exact VL.finS hO8 rfl rfl
      refine Obs.cons ?_ ?_
      ·refine obS (by kernel_rfl) rfl rfl (fun ph8 w8 hO8 => ?_)
       refine VL.move rfl ?_
       exact VL.finS hO8 rfl rfl
      refine Obs.cons ?_ ?_
      ·refine obS (by kernel_rfl) rfl rfl (fun ph8 w8 hO8 => ?_)
       rintro _ rfl
       refine VL.dropE (l := pc) 1 rfl rfl Try.underlying24 sz24 (by omega) hA19.le ?_
       exact VL.finS hO8 rfl rfl
      exact Obs.nil
     case end8 =>
      intro w8 hO8
      rintro _ rfl _ rfl
      refine VL.toOwn hO8 ?_
      refine VL.copyPart (l := pc.drop 1) (ps' := vouchV (vouchOf pc)) 0 1 rfl Try.underlying24 (by kernel_rfl) rfl rfl rfl rfl rfl (by rw [List.length_drop]; omega) (by decide) (fun _ hw => (Arr.now (s := ⟨w16, _⟩) (hA19.drop 1 (Nat.le_trans (by omega) hA19.le)) Mono.byte hw (by repeat (first | exact List.mem_cons_self .. | apply List.mem_cons_of_mem))).bytes) rfl rfl (fun _ => ?_)
      refine VL.nn ?_
      refine VC.region ?_
      refine VL.fieldAddr rfl fo85_6 rfl ?_
      refine VL.load (v := .slice (gv.map fun g => (⟨g, 0, none⟩ : Addr)) ((objectOf (openP l) vs).vouches).length cv) 2 6 rfl kd83 (fun _ h => h) rfl rfl rfl ?_
      refine VL.loads (cs := cat (vouchV ((vouchOf pc)))) 0 0 2 rfl kd202 (fun _ h => h) rfl rfl rfl rfl ?_
      refine VL.lit el83 rfl rfl rfl (by intro v hv; simp only [List.mem_singleton] at hv; subst hv; show (cat (vouchV (vouchOf pc))).toArray.size = 65; rw [List.size_toArray, cat_size (vouchV_len (vouchOf_ok hpc))]; rfl) (by rw [show [Value.agg (cat (vouchV (vouchOf pc))).toArray].flatMap (·.cells.toList) = cat (vouchV (vouchOf pc)) by simp [Value.cells]]; exact vouchV_ok1 _) (fun gl => ?_)
      refine VL.letRow vouchR [vouchOf pc] rfl (fun w' hw => one_vouch (vouchOf_ok hpc)) (fun wl hOl hAl => ?_)
      refine VL.appends (R := vouchR) (hR := Mono_vouch) (ys := vs) (zs := [vouchOf pc]) 1 el83 rfl rfl rfl (fun _ h => h) rfl (fun _ hw => (hAl.nowA (s := ⟨wl, _⟩) Mono_vouch hw)) (fun _ _ _ _ h => by obtain ⟨_, rfl⟩ := h; exact vouchV_ok1 _) (by simp only [List.length_cons, List.length_nil]; omega) (fun gv2 cv2 => ?_) (by simp only [List.length_cons, List.length_nil]; omega)
      refine VL.set1 ?_
      refine VL.fieldAddr rfl fo85_6 rfl ?_
      refine VL.store (L := objectL) (qs := [[rowV gv2 (vs ++ [vouchOf pc]).length cv2]]) (ps' := (objectV ((objectOf (openP l) (vs ++ [vouchOf pc]))) (gv2.map fun g => (⟨g, 0, none⟩ : Addr)) cv2)) 2 6 1 rfl rfl rfl (.inr ⟨kd83, rfl⟩) rfl rfl rfl (by intro u hu; simp [cat] at hu; subst hu; rfl) rfl rfl ?_
      refine VL.set2 ?_
      refine VL.nil ?_
      refine VX.block_normal ?_
      refine VX.round (vs ++ [vouchOf pc], rest, gv2, cv2) ⟨rfl, rfl, rfl, trivial⟩ (fun w' h => ⟨⟨by rw [List.length_append, List.length_singleton]; omega, fun v hv => ?_, vouch_step hveq (by omega) hpc⟩, (h.drop).subA⟩) (by show rest.length < (pc :: rest).length; simp)
      rw [List.mem_append, List.mem_singleton] at hv
      rcases hv with hv | rfl
      ·exact hvs v hv
      ·exact vouchOf_ok hpc
   ·have h3_10 : 4 ≤ vs.length := by have h : ¬ ((vs.length : Nat) : Int) < 4 := h3_10; omega
    refine VL.pick_t rfl rfl ?_
    refine VL.nn ?_
    refine VC.no rfl ?_
    refine VC.exit ?_
    refine VX.then_exit ?_
    refine VX.then_exit ?_
    refine VX.block_here ?_
    refine VX.next ?_
    refine VC.seq ?_
    refine VC.seq ?_
    refine VC.letArr (fun wr hOr hAr => ?_)
    refine VC.region ?_
    refine VL.move rfl ?_
    refine VL.call Try.func126 rfl (by decide) rfl (fun w' hw => end_R (i := 1) rfl hw) (fun v => ?_)
    refine VL.fact fun e24 => ?_
    subst e24
    refine VL.set1 ?_
    refine VL.assign rfl ?_
    refine VL.nn ?_
    refine VC.sr ?_
    refine VL.move rfl ?_
    refine VL.neq rfl rfl ?_
    refine VL.case (fun h11_1 => ?_) (fun h11_1 => ?_)
    ·refine VL.nn ?_
     refine VC.yes rfl ?_
     refine VC.sr ?_
     refine VL.build0 (cs := cat (objectV (object0) none 0)) built85 ?_
     refine VL.move rfl ?_
     refine VL.store (L := objectL) (qs := (objectV (object0) none 0)) (ps' := (objectV (object0) none 0)) 2 0 7 rfl rfl rfl (.inl kd85) rfl rfl rfl (objectV_ok1 object0 none 0) rfl rfl ?_
     refine VL.set2 ?_
     refine VL.assign rfl ?_
     refine VL.nn ?_
     refine VC.ret ?_
     refine VX.then_ret ?_
     refine VX.ret_cell (cs := cat (objectV (object0) none 0)) 2 rfl rfl rfl kd85 (fun _ h => h) rfl rfl (fun we hw => ?_)
     obtain ⟨hfin, _⟩ := object_fin hveq (.inr h3_10)
     obtain ⟨e1, e2⟩ := why_none h11_1 hfin
     exact ⟨none, 0, by rw [e1]; exact congrArg (fun n : Nat => Value.tuple #[_, .int .i64 (n : Int)]) e2, hw.drop.drop.drop.subA, by rw [e1]; exact Arr.none⟩
    ·refine VL.nn ?_
     refine VC.no rfl ?_
     refine VC.skip ?_
     refine VX.next ?_
     refine VC.sr ?_
     refine VL.loads (cs := cat (objectV ((objectOf (openP l) vs)) (gv.map fun g => (⟨g, 0, none⟩ : Addr)) cv)) 0 0 7 rfl kd85 (fun _ h => h) rfl rfl rfl rfl ?_
     refine VL.store (L := objectL) (qs := (objectV ((objectOf (openP l) vs)) (gv.map fun g => (⟨g, 0, none⟩ : Addr)) cv)) (ps' := (objectV ((objectOf (openP l) vs)) (gv.map fun g => (⟨g, 0, none⟩ : Addr)) cv)) 2 0 7 rfl rfl rfl (.inl kd85) rfl rfl (objectV_len (objectOf_ok hvs)) (objectV_ok1 ((objectOf (openP l) vs)) (gv.map fun g => (⟨g, 0, none⟩ : Addr)) cv) rfl rfl ?_
     refine VL.set2 ?_
     refine VL.assign rfl ?_
     refine VL.nn ?_
     refine VC.ret ?_
     refine VX.ret_cell (cs := cat (objectV ((objectOf (openP l) vs)) (gv.map fun g => (⟨g, 0, none⟩ : Addr)) cv)) 2 rfl rfl rfl (by rw [cat_size (objectV_len (objectOf_ok hvs))]; exact kd85) (fun _ h => h) rfl rfl (fun we hw => ?_)
     obtain ⟨hfin, hy2⟩ := object_fin hveq (.inr h3_10)
     obtain ⟨y, e1⟩ := why_some h11_1 hfin
     have e3 := hy2 y e1
     rw [e1, e3]
     exact ⟨_, _, rfl, hw.drop.drop.drop.subA, hAr.nowA (s := ⟨wr, _⟩) Mono_vouch hw.drop.drop.drop⟩
  ·obtain rfl : ps = [] := List.eq_nil_of_length_eq_zero (by omega)
   refine VL.move rfl ?_
   refine VL.pass rfl rfl rfl rfl rfl ?_
   refine VL.pass rfl rfl rfl rfl rfl ?_
   refine VL.pass rfl rfl rfl rfl rfl ?_
   refine VL.pass rfl rfl rfl rfl rfl ?_
   refine VL.pick_f rfl rfl ?_
   refine VL.nn ?_
   refine VC.no rfl ?_
   refine VC.exit ?_
   refine VX.then_exit ?_
   refine VX.then_exit ?_
   refine VX.block_here ?_
   refine VX.next ?_
   refine VC.seq ?_
   refine VC.seq ?_
   refine VC.letArr (fun wr hOr hAr => ?_)
   refine VC.region ?_
   refine VL.move rfl ?_
   refine VL.call Try.func126 rfl (by decide) rfl (fun w' hw => end_R (i := 1) rfl hw) (fun v => ?_)
   refine VL.fact fun e25 => ?_
   subst e25
   refine VL.set1 ?_
   refine VL.assign rfl ?_
   refine VL.nn ?_
   refine VC.sr ?_
   refine VL.move rfl ?_
   refine VL.neq rfl rfl ?_
   refine VL.case (fun h11_1 => ?_) (fun h11_1 => ?_)
   ·refine VL.nn ?_
    refine VC.yes rfl ?_
    refine VC.sr ?_
    refine VL.build0 (cs := cat (objectV (object0) none 0)) built85 ?_
    refine VL.move rfl ?_
    refine VL.store (L := objectL) (qs := (objectV (object0) none 0)) (ps' := (objectV (object0) none 0)) 2 0 7 rfl rfl rfl (.inl kd85) rfl rfl rfl (objectV_ok1 object0 none 0) rfl rfl ?_
    refine VL.set2 ?_
    refine VL.assign rfl ?_
    refine VL.nn ?_
    refine VC.ret ?_
    refine VX.then_ret ?_
    refine VX.ret_cell (cs := cat (objectV (object0) none 0)) 2 rfl rfl rfl kd85 (fun _ h => h) rfl rfl (fun we hw => ?_)
    obtain ⟨hfin, _⟩ := object_fin hveq (.inl rfl)
    obtain ⟨e1, e2⟩ := why_none h11_1 hfin
    exact ⟨none, 0, by rw [e1]; exact congrArg (fun n : Nat => Value.tuple #[_, .int .i64 (n : Int)]) e2, hw.drop.drop.drop.subA, by rw [e1]; exact Arr.none⟩
   ·refine VL.nn ?_
    refine VC.no rfl ?_
    refine VC.skip ?_
    refine VX.next ?_
    refine VC.sr ?_
    refine VL.loads (cs := cat (objectV ((objectOf (openP l) vs)) (gv.map fun g => (⟨g, 0, none⟩ : Addr)) cv)) 0 0 7 rfl kd85 (fun _ h => h) rfl rfl rfl rfl ?_
    refine VL.store (L := objectL) (qs := (objectV ((objectOf (openP l) vs)) (gv.map fun g => (⟨g, 0, none⟩ : Addr)) cv)) (ps' := (objectV ((objectOf (openP l) vs)) (gv.map fun g => (⟨g, 0, none⟩ : Addr)) cv)) 2 0 7 rfl rfl rfl (.inl kd85) rfl rfl (objectV_len (objectOf_ok hvs)) (objectV_ok1 ((objectOf (openP l) vs)) (gv.map fun g => (⟨g, 0, none⟩ : Addr)) cv) rfl rfl ?_
    refine VL.set2 ?_
    refine VL.assign rfl ?_
    refine VL.nn ?_
    refine VC.ret ?_
    refine VX.ret_cell (cs := cat (objectV ((objectOf (openP l) vs)) (gv.map fun g => (⟨g, 0, none⟩ : Addr)) cv)) 2 rfl rfl rfl (by rw [cat_size (objectV_len (objectOf_ok hvs))]; exact kd85) (fun _ h => h) rfl rfl (fun we hw => ?_)
    obtain ⟨hfin, hy2⟩ := object_fin hveq (.inl rfl)
    obtain ⟨y, e1⟩ := why_some h11_1 hfin
    have e3 := hy2 y e1
    rw [e1, e3]
    exact ⟨_, _, rfl, hw.drop.drop.drop.subA, hAr.nowA (s := ⟨wr, _⟩) Mono_vouch hw.drop.drop.drop⟩

end Go.Proofs.Ytcfecmoagfgnaaa

/- Items: the error's number, kind for kind. -/
namespace Go.Vc
section
variable {P : Program} {n : Nat} {Q : Exit → Act → World → Prop} {ops : Array Oper}
/-- It kept what is owned, and tells nothing. -/
theorem VL.finO0 {S : List Snap} {H : List Chunk} {f : Fact} {w0 : World} {σ : Sl} {G : World → Prop} (hG : ∀ w, G w → Own (⟨w0, keys H⟩ :: S) H w) (h : ∀ w, G w → f undef w) :
  VL P n ops (Post n Q (Still S H) (Turn (keys H)) f none false false w0) [] σ G :=
 VL.fin0 fun w hw => ⟨h w hw, ((hG w hw).after (List.mem_cons_self ..)).1, (hG w hw).lose⟩
end
end Go.Vc
namespace Go.Proofs.Ytcfecmoagfgnaaa
open Go.Vc Go.Pl

/-- The first byte's reading. -/
abbrev W1 (l : List UInt8) : Nat := lenW (openP l) (openW l) 1
theorem W1_cases (l : List UInt8) : (∃ a r, openP l = a :: r ∧ a.length = 1 ∧ W1 l = 0) ∨ (¬ fitsP [some 1] (openP l) ∧ W1 l = 141) := by
 obtain ⟨h1, h2⟩ := takesW_open (ks := [some 1]) (by simp) l
 by_cases hf : fitsP [some 1] (openP l)
 ·refine .inl ?_
  have e : W1 l = 0 := h1 hf
  cases hp : openP l with
  | nil => rw [hp] at hf; exact hf.elim
  | cons a r => rw [hp] at hf; exact ⟨a, r, rfl, hf.1 1 rfl, e⟩
 ·exact .inr ⟨hf, h2 hf⟩
theorem item_w0 {l : List UInt8} (h : ((W1 l : Nat) : Int) ≠ 0) : itemR l = none ∧ itemW l = W1 l := by
 rcases W1_cases l with ⟨_, _, _, _, e⟩ | ⟨hf, e⟩
 ·rw [e] at h; exact absurd rfl h
 ·have h1 : itemR l = none := by unfold itemR; exact if_pos hf
  refine ⟨h1, ?_⟩
  unfold itemW
  rw [h1, if_neg (by simp), if_neg (fun h => hf h.1), e]
theorem item_head {l : List UInt8} (h : ¬ ((W1 l : Nat) : Int) ≠ 0) : ∃ a r, openP l = a :: r ∧ a.length = 1 ∧ W1 l = 0 := by
 rcases W1_cases l with h1 | ⟨_, e⟩
 ·exact h1
 ·exact absurd (by rw [e]; decide) h
theorem firstFits {a : List UInt8} {r : List (List UInt8)} (h : a.length = 1) : fitsP [some 1] (a :: r) := ⟨fun n e => by cases e; exact h, trivial⟩
theorem item_none {l : List UInt8} (h : ¬ ((W1 l : Nat) : Int) ≠ 0) (h1 : takeN (openP l) 1 ≠ 1) (h2 : takeN (openP l) 1 ≠ 2) (h3 : takeN (openP l) 1 ≠ 3) (h4 : takeN (openP l) 1 ≠ 4) (h5 : takeN (openP l) 1 ≠ 5) (h6 : takeN (openP l) 1 ≠ 6) : itemR l = none ∧ itemW l = 140 := by
 obtain ⟨a, r, e, ha, hw⟩ := item_head h
 have hf : fitsP [some 1] (openP l) := by rw [e]; exact firstFits ha
 have h0 : itemR l = none := by
  unfold itemR
  simp only
  rw [if_neg (not_not_intro hf), if_neg h1, if_neg (by rintro (x | x) <;> contradiction), if_neg h3, if_neg (by rintro (x | x) <;> contradiction)]
 refine ⟨h0, ?_⟩
 unfold itemW
 rw [h0, if_neg (by simp), if_pos ⟨hf, by show takeN (openP l) 1 = 0 ∨ 6 < takeN (openP l) 1; omega⟩]
/-- With a kind that is known: the error is 141. -/
theorem itemW_of {l : List UInt8} (h1 : 1 ≤ takeN (openP l) 1) (h2 : takeN (openP l) 1 ≤ 6) : itemW l = if (itemR l).isSome then 0 else 141 := by
 unfold itemW
 split
 ·rfl
 ·exact if_neg (by rintro ⟨_, h⟩; have h : takeN (openP l) 1 = 0 ∨ 6 < takeN (openP l) 1 := h; omega)
theorem end2 {α : Type} (f : List UInt8 → Option α) (r : List (List UInt8)) : endW (r.drop 1) (failW (nextW r 0) (if (f (nextP r)).isSome then 0 else 141)) = if (if r.length = 1 then f (nextP r) else none).isSome then 0 else 141 := by
 match r with
 | [] => exact rfl
 | [b] => rw [if_pos (show [b].length = 1 from rfl)]; rfl
 | b :: c :: s =>
  rw [if_neg (show ¬ (b :: c :: s).length = 1 by simp)]
  show (if (c :: s) = [] then _ else failW (failW (nextW (b :: c :: s) 0) (if (f b).isSome then 0 else 141)) 141) = 141
  rw [if_neg (by simp), nextW_cons, failW_0]
  split <;> rfl
theorem item_w1 {l : List UInt8} (h : ¬ ((W1 l : Nat) : Int) ≠ 0) (hk : takeN (openP l) 1 = 1) : endW (((openP l).drop 1).drop 1) (failW (nextW ((openP l).drop 1) (W1 l)) (if (letterR (nextP ((openP l).drop 1))).isSome then 0 else 141)) = itemW l ∧ ∀ y, itemR l = some y → y = ⟨1, 0, 0, (letterR (nextP ((openP l).drop 1))).getD letter0, bundle0, object0⟩ := by
 obtain ⟨a, r, e, ha, hw⟩ := item_head h
 have hf : fitsP [some 1] (openP l) := by rw [e]; exact firstFits ha
 have h0 : itemR l = (if r.length = 1 then letterR (nextP r) else none).map fun y => ⟨1, 0, 0, y, bundle0, object0⟩ := by
  unfold itemR
  simp only
  rw [if_neg (not_not_intro hf), if_pos hk, e]
  show (if r.length + 1 = 2 then _ else _) = _
  by_cases hl : r.length = 1
  ·rw [if_pos (by omega), if_pos hl]; rfl
  ·rw [if_neg (by omega), if_neg hl]; rfl
 rw [itemW_of (by omega) (by omega), h0, hw, e]
 refine ⟨(end2 letterR r).trans (by cases (if r.length = 1 then letterR (nextP r) else none) <;> rfl), fun y hy => ?_⟩
 obtain ⟨z, hz, rfl⟩ := Option.map_eq_some_iff.1 hy
 split at hz
 ·show _ = Itm.mk 1 0 0 ((letterR (nextP r)).getD letter0) bundle0 object0
  rw [hz]; rfl
 ·cases hz
theorem item_w5 {l : List UInt8} (h : ¬ ((W1 l : Nat) : Int) ≠ 0) (hk : takeN (openP l) 1 = 5 ∨ takeN (openP l) 1 = 6) : endW (((openP l).drop 1).drop 1) (failW (nextW ((openP l).drop 1) (W1 l)) (if (objectR (nextP ((openP l).drop 1))).isSome then 0 else 141)) = itemW l ∧ ∀ y, itemR l = some y → y = ⟨takeN (openP l) 1, 0, 0, letter0, bundle0, (objectR (nextP ((openP l).drop 1))).getD object0⟩ := by
 obtain ⟨a, r, e, ha, hw⟩ := item_head h
 have hf : fitsP [some 1] (openP l) := by rw [e]; exact firstFits ha
 have h0 : itemR l = (if r.length = 1 then objectR (nextP r) else none).map fun y => ⟨takeN (openP l) 1, 0, 0, letter0, bundle0, y⟩ := by
  unfold itemR
  simp only
  rw [if_neg (not_not_intro hf), if_neg (show ¬ itemK (openP l) = 1 by show ¬ takeN (openP l) 1 = 1; omega), if_neg (show ¬ (itemK (openP l) = 2 ∨ itemK (openP l) = 4) by show ¬ (takeN (openP l) 1 = 2 ∨ takeN (openP l) 1 = 4); omega), if_neg (show ¬ itemK (openP l) = 3 by show ¬ takeN (openP l) 1 = 3; omega), if_pos hk, e]
  show (if r.length + 1 = 2 then _ else _) = _
  by_cases hl : r.length = 1
  ·rw [if_pos (by omega), if_pos hl]; rfl
  ·rw [if_neg (by omega), if_neg hl]; rfl
 rw [itemW_of (by omega) (by omega), h0, hw]
 rw [e]
 refine ⟨(end2 objectR r).trans (by cases (if r.length = 1 then objectR (nextP r) else none) <;> rfl), fun y hy => ?_⟩
 obtain ⟨z, hz, rfl⟩ := Option.map_eq_some_iff.1 hy
 split at hz
 ·show _ = Itm.mk (takeN (a :: r) 1) 0 0 letter0 bundle0 ((objectR (nextP r)).getD object0)
  rw [hz]; rfl
 ·cases hz
theorem item_w2 {l : List UInt8} (h : ¬ ((W1 l : Nat) : Int) ≠ 0) (hk : takeN (openP l) 1 = 2 ∨ takeN (openP l) 1 = 4) : endW ((((openP l).drop 1).drop 1).drop 1) (failW (lenW (((openP l).drop 1).drop 1) (lenW ((openP l).drop 1) (W1 l) 1) 1) 0) = itemW l ∧ ∀ y, itemR l = some y → y = ⟨takeN (openP l) 1, takeN ((openP l).drop 1) 1, takeN (((openP l).drop 1).drop 1) 1, letter0, bundle0, object0⟩ := by
 obtain ⟨a, r, e, ha, hw⟩ := item_head h
 have hf : fitsP [some 1] (openP l) := by rw [e]; exact firstFits ha
 have h0 : itemR l = if fitsP [some 1, some 1, some 1] (openP l) ∧ (openP l).length = 3 then some ⟨takeN (openP l) 1, takeN ((openP l).drop 1) 1, takeN (((openP l).drop 1).drop 1) 1, letter0, bundle0, object0⟩ else none := by
  unfold itemR
  simp only
  rw [if_neg (not_not_intro hf), if_neg (show ¬ itemK (openP l) = 1 by show ¬ takeN (openP l) 1 = 1; omega), if_pos hk]
 refine ⟨?_, fun y hy => ?_⟩
 ·rw [itemW_of (by omega) (by omega), h0, hw]
  rw [e]
  have h2 : fitsP [some 1, some 1, some 1] (a :: r) ↔ fitsP [some 1, some 1] r := ⟨fun x => x.2, fun x => ⟨fun n e => by cases e; exact ha, x⟩⟩
  obtain ⟨h3, h4⟩ := takesW_0 [some 1, some 1] r
  have e3 : lenW (r.drop 1) (lenW r 0 1) 1 = takesW [some 1, some 1] r 0 := rfl
  show endW ((r.drop 1).drop 1) (failW (lenW (r.drop 1) (lenW r 0 1) 1) 0) = _
  rw [e3]
  by_cases hg : fitsP [some 1, some 1] r
  ·rw [h3 hg]
   match r, hg with
   | [b, c], hg => rw [if_pos (show fitsP [some 1, some 1, some 1] [a, b, c] ∧ [a, b, c].length = 3 from ⟨⟨fun n e => by cases e; exact ha, hg⟩, rfl⟩)]; rfl
   | b :: c :: d :: s, _ => rw [if_neg (show ¬ (fitsP [some 1, some 1, some 1] (a :: b :: c :: d :: s) ∧ (a :: b :: c :: d :: s).length = 3) from fun x => absurd x.2 (by simp))]; rfl
   | [_], hg => exact hg.2.elim
   | [], hg => exact hg.elim
  ·rw [h4 hg, if_neg (show ¬ (fitsP [some 1, some 1, some 1] (a :: r) ∧ (a :: r).length = 3) from fun x => hg (h2.1 x.1))]
   exact endW_141 _
 ·rw [h0] at hy
  split at hy
  ·exact (Option.some.inj hy).symm
  ·cases hy
theorem item_w3 {l : List UInt8} (h : ¬ ((W1 l : Nat) : Int) ≠ 0) (hk : takeN (openP l) 1 = 3) : endW ((((openP l).drop 1).drop 1).drop 1) (failW (nextW (((openP l).drop 1).drop 1) (lenW ((openP l).drop 1) (W1 l) 1)) (if (bundleR (nextP (((openP l).drop 1).drop 1))).isSome then 0 else 141)) = itemW l ∧ ∀ y, itemR l = some y → y = ⟨3, takeN ((openP l).drop 1) 1, 0, letter0, (bundleR (nextP (((openP l).drop 1).drop 1))).getD bundle0, object0⟩ := by
 obtain ⟨a, r, e, ha, hw⟩ := item_head h
 have hf : fitsP [some 1] (openP l) := by rw [e]; exact firstFits ha
 have h0 : itemR l = if fitsP [some 1, some 1, none] (openP l) ∧ (openP l).length = 3 then (bundleR (nextP (((openP l).drop 1).drop 1))).map (fun y => ⟨3, takeN ((openP l).drop 1) 1, 0, letter0, y, object0⟩) else none := by
  unfold itemR
  simp only
  rw [if_neg (not_not_intro hf), if_neg (show ¬ itemK (openP l) = 1 by show ¬ takeN (openP l) 1 = 1; omega), if_neg (show ¬ (itemK (openP l) = 2 ∨ itemK (openP l) = 4) by show ¬ (takeN (openP l) 1 = 2 ∨ takeN (openP l) 1 = 4); omega), if_pos (show itemK (openP l) = 3 from hk)]
 refine ⟨?_, fun y hy => ?_⟩
 ·rw [itemW_of (by omega) (by omega), h0, hw]
  rw [e]
  show endW ((r.drop 1).drop 1) (failW (nextW (r.drop 1) (lenW r 0 1)) (if (bundleR (nextP (r.drop 1))).isSome then 0 else 141)) = _
  match r with
  | [] =>
   rw [if_neg (show ¬ (fitsP [some 1, some 1, none] [a] ∧ [a].length = 3) from fun x => absurd x.2 (by simp))]; rfl
  | b :: s =>
   rw [lenW_cons]
   show endW (s.drop 1) (failW (nextW s (if b.length = 1 then 0 else 141)) (if (bundleR (nextP s)).isSome then 0 else 141)) = if (if fitsP [some 1, some 1, none] (a :: b :: s) ∧ (a :: b :: s).length = 3 then (bundleR (nextP s)).map (fun y => (⟨3, takeN (b :: s) 1, 0, letter0, y, object0⟩ : Itm)) else none).isSome then 0 else 141
   by_cases hb : b.length = 1
   ·rw [if_pos hb, end2 bundleR s]
    by_cases hl : s.length = 1
    ·rw [if_pos hl]
     have hfit : fitsP [some 1, some 1, none] (a :: b :: s) := by
      match s, hl with
      | [c], _ => exact ⟨fun n e => by cases e; exact ha, fun n e => by cases e; exact hb, fun n e => (by cases e), trivial⟩
     rw [if_pos (show fitsP [some 1, some 1, none] (a :: b :: s) ∧ (a :: b :: s).length = 3 from ⟨hfit, by simp [hl]⟩)]
     cases bundleR (nextP s) <;> rfl
    ·rw [if_neg hl, if_neg (show ¬ (fitsP [some 1, some 1, none] (a :: b :: s) ∧ (a :: b :: s).length = 3) from fun x => hl (by have h := x.2; simp only [List.length_cons] at h; omega))]; rfl
   ·rw [if_neg hb, nextW_141, failW_pos (by decide), endW_141, if_neg (show ¬ (fitsP [some 1, some 1, none] (a :: b :: s) ∧ (a :: b :: s).length = 3) from fun x => hb (x.1.2.1 1 rfl))]; rfl
 ·rw [h0] at hy
  split at hy
  ·obtain ⟨z, hz, rfl⟩ := Option.map_eq_some_iff.1 hy
   rw [hz]; rfl
  ·cases hy
/-- The end: what the number says. -/
theorem itemW_none {l : List UInt8} (h1 : 1 ≤ takeN (openP l) 1) (h2 : takeN (openP l) 1 ≤ 6) {n : Nat} (hn : ((n : Nat) : Int) ≠ 0) (h : n = itemW l) : itemR l = none ∧ itemW l = 141 := by
 rw [itemW_of h1 h2] at h
 obtain ⟨e1, e2⟩ := why_none hn h
 exact ⟨e1, by rw [itemW_of h1 h2, e1]; rfl⟩
theorem itemW_some {l : List UInt8} (h1 : 1 ≤ takeN (openP l) 1) (h2 : takeN (openP l) 1 ≤ 6) {n : Nat} (hn : ¬ ((n : Nat) : Int) ≠ 0) (h : n = itemW l) : ∃ x, itemR l = some x ∧ itemW l = 0 := by
 rw [itemW_of h1 h2] at h
 obtain ⟨x, e1⟩ := why_some hn h
 exact ⟨x, e1, by rw [itemW_of h1 h2, e1]; rfl⟩

end Go.Proofs.Ytcfecmoagfgnaaa

