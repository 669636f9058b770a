/- The statement WireReplies is proved, for every input: part 6 of 6 of the texts that it needs. -/
import Derived.Test.YtcfecmoagfgnaaaMrepE
import Derived.Test.YtcfecmoagfgnaaaRows
/- wire: what bytes are read as: replies. -/
namespace Go.Proofs.Ytcfecmoagfgnaaa
open Go.Vc Go.Pl

theorem Own.front {S : List Snap} {H : List Chunk} {w : World} {i : Nat} {c : Chunk} (hi : H[i]? = some c) (h : Own S H w) : Own S (c :: H.eraseIdx i) w := h.perm (perm_at hi).symm
theorem rep_end {l : List UInt8} {xs : List Itm} {ps : List (List UInt8)} {why : Nat} (h : IInv ((((openP l).drop 1).drop 1).drop 1) (lenW (((openP l).drop 1).drop 1) (lenW ((openP l).drop 1) (lenW (openP l) (openW l) 2) 1) 2) xs ps why) (hx : ps = [] ∨ 4 ≤ xs.length ∨ why ≠ 0) : endW ps why = (if (repR l).isSome then 0 else 141) ∧ ∀ y, repR l = some y → y = ⟨takeN (openP l) 2, takeN ((openP l).drop 1) 1, takeN (((openP l).drop 1).drop 1) 2, xs⟩ := by
  obtain ⟨h1, h2⟩ := takesW_open (ks := repK) (by simp) l
  by_cases hf : fitsP repK (openP l)
  · have hw : lenW (((openP l).drop 1).drop 1) (lenW ((openP l).drop 1) (lenW (openP l) (openW l) 2) 1) 2 = 0 := h1 hf
    rw [hw] at h
    obtain ⟨e1, e2⟩ := h.done (.inl rfl) hx
    have hr : repR l = (restItems ((((openP l).drop 1).drop 1).drop 1)).map fun xs => ⟨takeN (openP l) 2, takeN ((openP l).drop 1) 1, takeN (((openP l).drop 1).drop 1) 2, xs⟩ := if_pos hf
    rw [hr, e1]
    refine ⟨by cases restItems ((((openP l).drop 1).drop 1).drop 1) <;> rfl, fun y hy => ?_⟩
    obtain ⟨ys, hys, rfl⟩ := Option.map_eq_some_iff.1 hy
    rw [e2 rfl ys hys]
  · have hw : lenW (((openP l).drop 1).drop 1) (lenW ((openP l).drop 1) (lenW (openP l) (openW l) 2) 1) 2 = 141 := h2 hf
    rw [hw] at h
    obtain ⟨e1, _⟩ := h.done (.inr rfl) hx
    have hr : repR l = none := if_neg hf
    rw [hr, e1]
    exact ⟨rfl, fun y hy => by cases hy⟩
theorem trn_end {l : List UInt8} {xs : List Itm} {ps : List (List UInt8)} {why : Nat} (h : IInv ((openP l).drop 1) (lenW (openP l) (openW l) 2) xs ps why) (hx : ps = [] ∨ 4 ≤ xs.length ∨ why ≠ 0) : endW ps why = (if (trnR l).isSome then 0 else 141) ∧ ∀ y, trnR l = some y → y = ⟨takeN (openP l) 2, xs⟩ := by
  obtain ⟨h1, h2⟩ := takesW_open (ks := [some 2]) (by simp) l
  by_cases hf : fitsP [some 2] (openP l)
  · have hw : lenW (openP l) (openW l) 2 = 0 := h1 hf
    rw [hw] at h
    obtain ⟨e1, e2⟩ := h.done (.inl rfl) hx
    have hr : trnR l = (restItems ((openP l).drop 1)).map fun xs => ⟨takeN (openP l) 2, xs⟩ := if_pos hf
    rw [hr, e1]
    refine ⟨by cases restItems ((openP l).drop 1) <;> rfl, fun y hy => ?_⟩
    obtain ⟨ys, hys, rfl⟩ := Option.map_eq_some_iff.1 hy
    rw [e2 rfl ys hys]
  · have hw : lenW (openP l) (openW l) 2 = 141 := h2 hf
    rw [hw] at h
    obtain ⟨e1, _⟩ := h.done (.inr rfl) hx
    have hr : trnR l = none := if_neg hf
    rw [hr, e1]
    exact ⟨rfl, fun y hy => by cases hy⟩

theorem getRep_w {S : List Snap} {H : List Chunk} {w : World} (ho : Own S H w) {p : Option Addr} {l : List UInt8} {c : Nat} (hA : Bytes (keys H) w p l c) : Calls Try.prog 88 #[.slice p l.length c] w (Ret fun v w' => ∃ q d, v = .tuple #[.agg (cat (repV ((repR l).getD rep0) q d)).toArray, .int .i64 (((if (repR l).isSome then 0 else 141 : Nat)) : Int)] ∧ Own S H w' ∧ Arr 433 itemR' (keys H) w' q ((repR l).getD rep0).items d) := by
  refine enter (G := Own (⟨w, keys H⟩ :: S) H) ho.keep Try.func88 rfl Try.ntmps88 rfl ?_
  refine VC.seq ?_
  refine VC.region ?_
  refine VL.alloc (L := repL) (ps := (repV (rep0) none 0)) zero128 rfl rfl (fun g1 => ?_)
  refine VL.assign rfl ?_
  refine VL.nil ?_
  refine VX.next ?_
  refine VC.seq ?_
  refine VC.region ?_
  refine VL.move rfl ?_
  refine VL.call Try.func121 rfl (by decide) rfl (fun w' hw => open_R hw (hA.now (s := ⟨w, _⟩) Mono.byte hw (by repeat (first | exact List.mem_cons_self .. | apply List.mem_cons_of_mem)))) (fun v => ?_)
  refine VL.ex fun g2 => VL.fact fun e3 => ?_
  subst e3
  refine VL.assign rfl ?_
  refine VL.nil ?_
  refine VX.next ?_
  refine VC.seq ?_
  refine VC.region ?_
  refine VL.move rfl ?_
  refine VL.call Try.func130 rfl (by decide) rfl (fun w' hw => short_R (i := 0) rfl hw) (fun v => ?_)
  refine VL.fact fun e4 => ?_
  subst e4
  refine VL.turn (G' := Own _ (rch g2 ((openP (l)).drop 1) (lenW (openP (l)) (openW (l)) 2) :: blk g1 128 repL (repV (rep0) none 0) :: H)) (fun _ h => h) ?_
  refine VL.move rfl ?_
  refine VL.call Try.func122 rfl (by decide) rfl (fun w' hw => byte_R (i := 0) rfl hw) (fun v => ?_)
  refine VL.fact fun e5 => ?_
  subst e5
  refine VL.turn (G' := Own _ (rch g2 (((openP (l)).drop 1).drop 1) (lenW ((openP (l)).drop 1) (lenW (openP (l)) (openW (l)) 2) 1) :: blk g1 128 repL (repV (rep0) none 0) :: H)) (fun _ h => h) ?_
  refine VL.move rfl ?_
  refine VL.call Try.func130 rfl (by decide) rfl (fun w' hw => short_R (i := 0) rfl hw) (fun v => ?_)
  refine VL.fact fun e6 => ?_
  subst e6
  refine VL.turn (G' := Own _ (rch g2 ((((openP (l)).drop 1).drop 1).drop 1) (lenW (((openP (l)).drop 1).drop 1) (lenW ((openP (l)).drop 1) (lenW (openP (l)) (openW (l)) 2) 1) 2) :: blk g1 128 repL (repV (rep0) none 0) :: H)) (fun _ h => h) ?_
  refine VL.build (zs := repZ) (L := repFL) [(0, [.int .u16 (takeN (openP (l)) 2)]), (1, [.int .u8 (takeN ((openP (l)).drop 1) 1)]), (2, [.int .u16 (takeN (((openP (l)).drop 1).drop 1) 2)])] plan128 rfl ⟨⟨rfl, ⟨_, rfl, rfl⟩, rfl⟩, ⟨⟨rfl, ⟨_, rfl, rfl⟩, rfl⟩, ⟨⟨rfl, ⟨_, rfl, rfl⟩, rfl⟩, trivial⟩⟩⟩ rfl ?_
  refine VL.newv (v' := .agg (cat (repV ((Rep.mk (takeN (openP l) 2) (takeN ((openP l).drop 1) 1) (takeN (((openP l).drop 1).drop 1) 2) [])) none 0)).toArray) rfl ?_
  refine VL.alloc (L := repL) (ps := (repV (rep0) none 0)) zero128 rfl rfl (fun g7 => ?_)
  refine VL.store (L := repL) (qs := (repV ((Rep.mk (takeN (openP l) 2) (takeN ((openP l).drop 1) 1) (takeN (((openP l).drop 1).drop 1) 2) [])) none 0)) (ps' := (repV ((Rep.mk (takeN (openP l) 2) (takeN ((openP l).drop 1) 1) (takeN (((openP l).drop 1).drop 1) 2) [])) none 0)) 0 0 4 rfl rfl rfl (.inl kd128) rfl rfl (repV_len (⟨takeN_lt _ 2, takeN_lt _ 1, takeN_lt _ 2, by simp⟩ : Rep.ok (Rep.mk (takeN (openP l) 2) (takeN ((openP l).drop 1) 1) (takeN (((openP l).drop 1).drop 1) 2) []))) (repV_ok1 ((Rep.mk (takeN (openP l) 2) (takeN ((openP l).drop 1) 1) (takeN (((openP l).drop 1).drop 1) 2) [])) none 0) rfl rfl ?_
  refine VL.turn (G' := Own _ (blk g7 128 repL (repV ((Rep.mk (takeN (openP l) 2) (takeN ((openP l).drop 1) 1) (takeN (((openP l).drop 1).drop 1) 2) [])) none 0) :: rch g2 ((((openP (l)).drop 1).drop 1).drop 1) (lenW (((openP (l)).drop 1).drop 1) (lenW ((openP (l)).drop 1) (lenW (openP (l)) (openW (l)) 2) 1) 2) :: blk g1 128 repL (repV (rep0) none 0) :: H)) (fun _ h => h) ?_
  refine VL.nil ?_
  refine VX.next ?_
  refine VC.seq ?_
  refine VC.region ?_
  refine VL.move rfl ?_
  refine VL.call Try.func148 rfl (by decide) rfl (fun w' hw => getItems_w (Own.front (i := 1) rfl hw)) (fun v => ?_)
  refine VL.at (fun w8 h1w => ?_)
  obtain ⟨q, d, xs, ps, why, rfl, hI, hE, hO9, hA10⟩ := h1w
  replace hO9 : Own _ (rch g2 ps why :: blk g7 128 repL (repV ((Rep.mk (takeN (openP l) 2) (takeN ((openP l).drop 1) 1) (takeN (((openP l).drop 1).drop 1) 2) [])) none 0) :: blk g1 128 repL (repV (rep0) none 0) :: H) w8 := hO9
  replace hA10 : Arr 433 itemR' (keys (rch g2 ps why :: blk g7 128 repL (repV ((Rep.mk (takeN (openP l) 2) (takeN ((openP l).drop 1) 1) (takeN (((openP l).drop 1).drop 1) 2) [])) none 0) :: blk g1 128 repL (repV (rep0) none 0) :: H)) w8 q xs d := hA10
  have hxs : ∀ x ∈ xs, x.ok := hI.1
  refine VL.toOwn hO9 ?_
  refine VL.fieldAddr rfl fo128_3 rfl ?_
  refine VL.store (L := repL) (qs := [[.slice q (xs).length d]]) (ps' := [[.int .u16 ((Rep.mk (takeN (openP l) 2) (takeN ((openP l).drop 1) 1) (takeN (((openP l).drop 1).drop 1) 2) []).seq)], [.int .u8 ((Rep.mk (takeN (openP l) 2) (takeN ((openP l).drop 1) 1) (takeN (((openP l).drop 1).drop 1) 2) []).tag)], [.int .u16 ((Rep.mk (takeN (openP l) 2) (takeN ((openP l).drop 1) 1) (takeN (((openP l).drop 1).drop 1) 2) []).mark)], [.slice q (xs).length d]]) 1 3 1 rfl rfl rfl (.inr ⟨kd126, rfl⟩) rfl rfl rfl (by intro u hu; simp [cat] at hu; subst hu; rfl) rfl rfl ?_
  refine VL.turn (G' := Own _ (rch g2 ps why :: blk g7 128 repL [[.int .u16 ((Rep.mk (takeN (openP l) 2) (takeN ((openP l).drop 1) 1) (takeN (((openP l).drop 1).drop 1) 2) []).seq)], [.int .u8 ((Rep.mk (takeN (openP l) 2) (takeN ((openP l).drop 1) 1) (takeN (((openP l).drop 1).drop 1) 2) []).tag)], [.int .u16 ((Rep.mk (takeN (openP l) 2) (takeN ((openP l).drop 1) 1) (takeN (((openP l).drop 1).drop 1) 2) []).mark)], [.slice q (xs).length d]] :: blk g1 128 repL (repV (rep0) none 0) :: H)) (fun _ h => h) ?_
  refine VL.nil ?_
  refine VX.next ?_
  refine VC.seq ?_
  refine VC.seq ?_
  refine VC.region ?_
  refine VL.move rfl ?_
  refine VL.call Try.func126 rfl (by decide) rfl (fun w' hw => end_R (i := 0) rfl hw) (fun v => ?_)
  refine VL.fact fun e11 => ?_
  subst e11
  refine VL.turn (G' := Own _ (rch g2 ps (endW ps why) :: blk g7 128 repL [[.int .u16 ((Rep.mk (takeN (openP l) 2) (takeN ((openP l).drop 1) 1) (takeN (((openP l).drop 1).drop 1) 2) []).seq)], [.int .u8 ((Rep.mk (takeN (openP l) 2) (takeN ((openP l).drop 1) 1) (takeN (((openP l).drop 1).drop 1) 2) []).tag)], [.int .u16 ((Rep.mk (takeN (openP l) 2) (takeN ((openP l).drop 1) 1) (takeN (((openP l).drop 1).drop 1) 2) []).mark)], [.slice q (xs).length d]] :: blk g1 128 repL (repV (rep0) none 0) :: H)) (fun _ h => h) ?_
  refine VL.assign rfl ?_
  refine VL.nil ?_
  refine VX.next ?_
  refine VC.seq ?_
  refine VC.region ?_
  refine VL.move rfl ?_
  refine VL.neq rfl rfl ?_
  refine VL.case (fun h5 => ?_) (fun h5 => ?_)
  · refine VL.nil ?_
    refine VX.next ?_
    refine VC.yes rfl ?_
    refine VC.seq ?_
    refine VC.region ?_
    refine VL.build0 (cs := cat (repV (rep0) none 0)) built128 ?_
    refine VL.move rfl ?_
    refine VL.store (L := repL) (qs := (repV (rep0) none 0)) (ps' := (repV (rep0) none 0)) 2 0 4 rfl rfl rfl (.inl kd128) rfl rfl rfl (repV_ok1 rep0 none 0) rfl rfl ?_
    refine VL.turn (G' := Own _ (rch g2 ps (endW ps why) :: blk g7 128 repL [[.int .u16 ((Rep.mk (takeN (openP l) 2) (takeN ((openP l).drop 1) 1) (takeN (((openP l).drop 1).drop 1) 2) []).seq)], [.int .u8 ((Rep.mk (takeN (openP l) 2) (takeN ((openP l).drop 1) 1) (takeN (((openP l).drop 1).drop 1) 2) []).tag)], [.int .u16 ((Rep.mk (takeN (openP l) 2) (takeN ((openP l).drop 1) 1) (takeN (((openP l).drop 1).drop 1) 2) []).mark)], [.slice q (xs).length d]] :: blk g1 128 repL (repV (rep0) none 0) :: H)) (fun _ h => h) ?_
    refine VL.assign rfl ?_
    refine VL.nil ?_
    refine VX.next ?_
    refine VC.ret ?_
    refine VX.then_ret ?_
    refine VX.ret_cell (cs := cat (repV (rep0) none 0)) 2 rfl rfl rfl kd128 (fun _ h => h) rfl rfl (fun we hw => ?_)
    obtain ⟨e1, e2⟩ := why_none h5 (rep_end hI hE).1
    exact ⟨none, 0, by rw [e1]; exact congrArg (fun n : Nat => Value.tuple #[_, .int .i64 (n : Int)]) e2, hw.drop.drop.drop.sub (fun _ hs => by repeat (first | exact hs | apply List.mem_cons_of_mem)), by rw [e1]; exact Arr.none⟩
  · refine VL.nil ?_
    refine VX.next ?_
    refine VC.no rfl ?_
    refine VC.skip ?_
    refine VX.next ?_
    refine VC.seq ?_
    refine VC.region ?_
    refine VL.loads (cs := cat (repV ((Rep.mk (takeN (openP l) 2) (takeN ((openP l).drop 1) 1) (takeN (((openP l).drop 1).drop 1) 2) xs)) q d)) 1 0 4 rfl kd128 (fun _ h => h) rfl rfl rfl rfl ?_
    refine VL.store (L := repL) (qs := (repV ((Rep.mk (takeN (openP l) 2) (takeN ((openP l).drop 1) 1) (takeN (((openP l).drop 1).drop 1) 2) xs)) q d)) (ps' := (repV ((Rep.mk (takeN (openP l) 2) (takeN ((openP l).drop 1) 1) (takeN (((openP l).drop 1).drop 1) 2) xs)) q d)) 2 0 4 rfl rfl rfl (.inl kd128) rfl rfl (repV_len (⟨takeN_lt _ 2, takeN_lt _ 1, takeN_lt _ 2, hxs⟩ : Rep.ok (Rep.mk (takeN (openP l) 2) (takeN ((openP l).drop 1) 1) (takeN (((openP l).drop 1).drop 1) 2) xs))) (repV_ok1 ((Rep.mk (takeN (openP l) 2) (takeN ((openP l).drop 1) 1) (takeN (((openP l).drop 1).drop 1) 2) xs)) q d) rfl rfl ?_
    refine VL.turn (G' := Own _ (rch g2 ps (endW ps why) :: blk g7 128 repL [[.int .u16 ((Rep.mk (takeN (openP l) 2) (takeN ((openP l).drop 1) 1) (takeN (((openP l).drop 1).drop 1) 2) []).seq)], [.int .u8 ((Rep.mk (takeN (openP l) 2) (takeN ((openP l).drop 1) 1) (takeN (((openP l).drop 1).drop 1) 2) []).tag)], [.int .u16 ((Rep.mk (takeN (openP l) 2) (takeN ((openP l).drop 1) 1) (takeN (((openP l).drop 1).drop 1) 2) []).mark)], [.slice q (xs).length d]] :: blk g1 128 repL (repV ((Rep.mk (takeN (openP l) 2) (takeN ((openP l).drop 1) 1) (takeN (((openP l).drop 1).drop 1) 2) xs)) q d) :: H)) (fun _ h => h) ?_
    refine VL.assign rfl ?_
    refine VL.nil ?_
    refine VX.next ?_
    refine VC.ret ?_
    refine VX.ret_cell (cs := cat (repV ((Rep.mk (takeN (openP l) 2) (takeN ((openP l).drop 1) 1) (takeN (((openP l).drop 1).drop 1) 2) xs)) q d)) 2 rfl rfl rfl (by rw [cat_size (repV_len (⟨takeN_lt _ 2, takeN_lt _ 1, takeN_lt _ 2, hxs⟩ : Rep.ok (Rep.mk (takeN (openP l) 2) (takeN ((openP l).drop 1) 1) (takeN (((openP l).drop 1).drop 1) 2) xs)))]; exact kd128) (fun _ h => h) rfl rfl (fun we hw => ?_)
    obtain ⟨y, e1⟩ := why_some h5 (rep_end hI hE).1
    have e3 := (rep_end hI hE).2 y e1
    rw [e1, e3]
    exact ⟨_, _, rfl, hw.drop.drop.drop.sub (fun _ hs => by repeat (first | exact hs | apply List.mem_cons_of_mem)), (hA10.now (s := ⟨w8, _⟩) Mono_item hw.drop.drop.drop (by repeat (first | exact List.mem_cons_self .. | apply List.mem_cons_of_mem)))⟩

theorem getTrn_w {S : List Snap} {H : List Chunk} {w : World} (ho : Own S H w) {p : Option Addr} {l : List UInt8} {c : Nat} (hA : Bytes (keys H) w p l c) : Calls Try.prog 89 #[.slice p l.length c] w (Ret fun v w' => ∃ q d, v = .tuple #[.agg (cat (trnV ((trnR l).getD trn0) q d)).toArray, .int .i64 (((if (trnR l).isSome then 0 else 141 : Nat)) : Int)] ∧ Own S H w' ∧ Arr 433 itemR' (keys H) w' q ((trnR l).getD trn0).items d) := by
  refine enter (G := Own (⟨w, keys H⟩ :: S) H) ho.keep Try.func89 rfl Try.ntmps89 rfl ?_
  refine VC.seq ?_
  refine VC.region ?_
  refine VL.alloc (L := trnL) (ps := (trnV (trn0) none 0)) zero132 rfl rfl (fun g1 => ?_)
  refine VL.assign rfl ?_
  refine VL.nil ?_
  refine VX.next ?_
  refine VC.seq ?_
  refine VC.region ?_
  refine VL.move rfl ?_
  refine VL.call Try.func121 rfl (by decide) rfl (fun w' hw => open_R hw (hA.now (s := ⟨w, _⟩) Mono.byte hw (by repeat (first | exact List.mem_cons_self .. | apply List.mem_cons_of_mem)))) (fun v => ?_)
  refine VL.ex fun g2 => VL.fact fun e3 => ?_
  subst e3
  refine VL.assign rfl ?_
  refine VL.nil ?_
  refine VX.next ?_
  refine VC.seq ?_
  refine VC.region ?_
  refine VL.move rfl ?_
  refine VL.call Try.func130 rfl (by decide) rfl (fun w' hw => short_R (i := 0) rfl hw) (fun v => ?_)
  refine VL.fact fun e4 => ?_
  subst e4
  refine VL.turn (G' := Own _ (rch g2 ((openP (l)).drop 1) (lenW (openP (l)) (openW (l)) 2) :: blk g1 132 trnL (trnV (trn0) none 0) :: H)) (fun _ h => h) ?_
  refine VL.build (zs := trnZ) (L := trnFL) [(0, [.int .u16 (takeN (openP (l)) 2)])] plan132 rfl ⟨⟨rfl, ⟨_, rfl, rfl⟩, rfl⟩, trivial⟩ rfl ?_
  refine VL.newv (v' := .agg (cat (trnV ((Trn.mk (takeN (openP l) 2) [])) none 0)).toArray) rfl ?_
  refine VL.alloc (L := trnL) (ps := (trnV (trn0) none 0)) zero132 rfl rfl (fun g5 => ?_)
  refine VL.store (L := trnL) (qs := (trnV ((Trn.mk (takeN (openP l) 2) [])) none 0)) (ps' := (trnV ((Trn.mk (takeN (openP l) 2) [])) none 0)) 0 0 2 rfl rfl rfl (.inl kd132) rfl rfl (trnV_len (⟨takeN_lt _ 2, by simp⟩ : Trn.ok (Trn.mk (takeN (openP l) 2) []))) (trnV_ok1 ((Trn.mk (takeN (openP l) 2) [])) none 0) rfl rfl ?_
  refine VL.turn (G' := Own _ (blk g5 132 trnL (trnV ((Trn.mk (takeN (openP l) 2) [])) none 0) :: rch g2 ((openP (l)).drop 1) (lenW (openP (l)) (openW (l)) 2) :: blk g1 132 trnL (trnV (trn0) none 0) :: H)) (fun _ h => h) ?_
  refine VL.nil ?_
  refine VX.next ?_
  refine VC.seq ?_
  refine VC.region ?_
  refine VL.move rfl ?_
  refine VL.call Try.func148 rfl (by decide) rfl (fun w' hw => getItems_w (Own.front (i := 1) rfl hw)) (fun v => ?_)
  refine VL.at (fun w6 h1w => ?_)
  obtain ⟨q, d, xs, ps, why, rfl, hI, hE, hO7, hA8⟩ := h1w
  replace hO7 : Own _ (rch g2 ps why :: blk g5 132 trnL (trnV ((Trn.mk (takeN (openP l) 2) [])) none 0) :: blk g1 132 trnL (trnV (trn0) none 0) :: H) w6 := hO7
  replace hA8 : Arr 433 itemR' (keys (rch g2 ps why :: blk g5 132 trnL (trnV ((Trn.mk (takeN (openP l) 2) [])) none 0) :: blk g1 132 trnL (trnV (trn0) none 0) :: H)) w6 q xs d := hA8
  have hxs : ∀ x ∈ xs, x.ok := hI.1
  refine VL.toOwn hO7 ?_
  refine VL.fieldAddr rfl fo132_1 rfl ?_
  refine VL.store (L := trnL) (qs := [[.slice q (xs).length d]]) (ps' := [[.int .u16 ((Trn.mk (takeN (openP l) 2) []).seq)], [.slice q (xs).length d]]) 1 1 1 rfl rfl rfl (.inr ⟨kd126, rfl⟩) rfl rfl rfl (by intro u hu; simp [cat] at hu; subst hu; rfl) rfl rfl ?_
  refine VL.turn (G' := Own _ (rch g2 ps why :: blk g5 132 trnL [[.int .u16 ((Trn.mk (takeN (openP l) 2) []).seq)], [.slice q (xs).length d]] :: blk g1 132 trnL (trnV (trn0) none 0) :: H)) (fun _ h => h) ?_
  refine VL.nil ?_
  refine VX.next ?_
  refine VC.seq ?_
  refine VC.seq ?_
  refine VC.region ?_
  refine VL.move rfl ?_
  refine VL.call Try.func126 rfl (by decide) rfl (fun w' hw => end_R (i := 0) rfl hw) (fun v => ?_)
  refine VL.fact fun e9 => ?_
  subst e9
  refine VL.turn (G' := Own _ (rch g2 ps (endW ps why) :: blk g5 132 trnL [[.int .u16 ((Trn.mk (takeN (openP l) 2) []).seq)], [.slice q (xs).length d]] :: blk g1 132 trnL (trnV (trn0) none 0) :: H)) (fun _ h => h) ?_
  refine VL.assign rfl ?_
  refine VL.nil ?_
  refine VX.next ?_
  refine VC.seq ?_
  refine VC.region ?_
  refine VL.move rfl ?_
  refine VL.neq rfl rfl ?_
  refine VL.case (fun h5 => ?_) (fun h5 => ?_)
  · refine VL.nil ?_
    refine VX.next ?_
    refine VC.yes rfl ?_
    refine VC.seq ?_
    refine VC.region ?_
    refine VL.build0 (cs := cat (trnV (trn0) none 0)) built132 ?_
    refine VL.move rfl ?_
    refine VL.store (L := trnL) (qs := (trnV (trn0) none 0)) (ps' := (trnV (trn0) none 0)) 2 0 2 rfl rfl rfl (.inl kd132) rfl rfl rfl (trnV_ok1 trn0 none 0) rfl rfl ?_
    refine VL.turn (G' := Own _ (rch g2 ps (endW ps why) :: blk g5 132 trnL [[.int .u16 ((Trn.mk (takeN (openP l) 2) []).seq)], [.slice q (xs).length d]] :: blk g1 132 trnL (trnV (trn0) none 0) :: H)) (fun _ h => h) ?_
    refine VL.assign rfl ?_
    refine VL.nil ?_
    refine VX.next ?_
    refine VC.ret ?_
    refine VX.then_ret ?_
    refine VX.ret_cell (cs := cat (trnV (trn0) none 0)) 2 rfl rfl rfl kd132 (fun _ h => h) rfl rfl (fun we hw => ?_)
    obtain ⟨e1, e2⟩ := why_none h5 (trn_end hI hE).1
    exact ⟨none, 0, by rw [e1]; exact congrArg (fun n : Nat => Value.tuple #[_, .int .i64 (n : Int)]) e2, hw.drop.drop.drop.sub (fun _ hs => by repeat (first | exact hs | apply List.mem_cons_of_mem)), by rw [e1]; exact Arr.none⟩
  · refine VL.nil ?_
    refine VX.next ?_
    refine VC.no rfl ?_
    refine VC.skip ?_
    refine VX.next ?_
    refine VC.seq ?_
    refine VC.region ?_
    refine VL.loads (cs := cat (trnV ((Trn.mk (takeN (openP l) 2) xs)) q d)) 1 0 2 rfl kd132 (fun _ h => h) rfl rfl rfl rfl ?_
    refine VL.store (L := trnL) (qs := (trnV ((Trn.mk (takeN (openP l) 2) xs)) q d)) (ps' := (trnV ((Trn.mk (takeN (openP l) 2) xs)) q d)) 2 0 2 rfl rfl rfl (.inl kd132) rfl rfl (trnV_len (⟨takeN_lt _ 2, hxs⟩ : Trn.ok (Trn.mk (takeN (openP l) 2) xs))) (trnV_ok1 ((Trn.mk (takeN (openP l) 2) xs)) q d) rfl rfl ?_
    refine VL.turn (G' := Own _ (rch g2 ps (endW ps why) :: blk g5 132 trnL [[.int .u16 ((Trn.mk (takeN (openP l) 2) []).seq)], [.slice q (xs).length d]] :: blk g1 132 trnL (trnV ((Trn.mk (takeN (openP l) 2) xs)) q d) :: H)) (fun _ h => h) ?_
    refine VL.assign rfl ?_
    refine VL.nil ?_
    refine VX.next ?_
    refine VC.ret ?_
    refine VX.ret_cell (cs := cat (trnV ((Trn.mk (takeN (openP l) 2) xs)) q d)) 2 rfl rfl rfl (by rw [cat_size (trnV_len (⟨takeN_lt _ 2, hxs⟩ : Trn.ok (Trn.mk (takeN (openP l) 2) xs)))]; exact kd132) (fun _ h => h) rfl rfl (fun we hw => ?_)
    obtain ⟨y, e1⟩ := why_some h5 (trn_end hI hE).1
    have e3 := (trn_end hI hE).2 y e1
    rw [e1, e3]
    exact ⟨_, _, rfl, hw.drop.drop.drop.sub (fun _ hs => by repeat (first | exact hs | apply List.mem_cons_of_mem)), (hA8.now (s := ⟨w6, _⟩) Mono_item hw.drop.drop.drop (by repeat (first | exact List.mem_cons_self .. | apply List.mem_cons_of_mem)))⟩

end Go.Proofs.Ytcfecmoagfgnaaa

/- Lists of items, one against the other. -/
namespace Go.Proofs.Ytcfecmoagfgnaaa
open Go.Vc Go.Pl

/-- An item's value, with its slices. -/
def itemF {K : List Nat} (y : Itm) : SFact K :=
  ⟨fun v w => ∃ p c q d, v = .agg (cat (itemV y p c q d)).toArray ∧ Bytes K w p y.letter.body c ∧ Arr 65 vouchR K w q y.object.vouches d, false,
   fun _ _ w _ hs ⟨p, c, q, d, e, h1, h2⟩ => ⟨p, c, q, d, e, Arr.after (s := ⟨w, K⟩) h1 Mono.byte ⟨hs, fun _ hk => .inl hk⟩, Arr.after (s := ⟨w, K⟩) h2 Mono_vouch ⟨hs, fun _ hk => .inl hk⟩⟩⟩

theorem sameLists_w {S : List Snap} {H : List Chunk} {w : World} (ho : Own S H w) {xs : List Itm} (hxs : ∀ x ∈ xs, x.ok) {p : Option Addr} {c : Nat} (hX : Arr 433 itemR' (keys H) w p xs c) {p2 : Option Addr} {c2 : Nat} (hY : Arr 433 itemR' (keys H) w p2 xs c2) : Calls Try.prog 90 #[.slice p xs.length c, .slice p2 xs.length c2] w (Ret fun v w' => v = .bool true ∧ Own S H w') := by
  have hsm := hX.small
  refine enter (G := Own (⟨w, keys H⟩ :: S) H) ho.keep Try.func90 rfl Try.ntmps90 rfl ?_
  refine VC.seq ?_
  refine VC.region ?_
  refine VL.assign rfl ?_
  refine VL.nil ?_
  refine VX.next ?_
  refine VC.seq ?_
  refine VC.seq ?_
  refine VC.region ?_
  refine VL.move rfl ?_
  refine VL.len Try.underlying126 rfl rfl ?_
  refine VL.move rfl ?_
  refine VL.len Try.underlying126 rfl rfl ?_
  refine VL.neq rfl rfl ?_
  refine VL.no (by omega) ?_
  refine VL.nil ?_
  refine VX.next ?_
  refine VC.no rfl ?_
  refine VC.skip ?_
  refine VX.next ?_
  refine VC.seq ?_
  refine VC.seq ?_
  refine VC.region ?_
  refine VL.assign rfl ?_
  refine VL.nil ?_
  refine VX.next ?_
  refine VC.block ?_
  refine VC.loop (X := Nat) (fun i => [(0, .slice p xs.length c), (1, .slice p2 xs.length c2), (5, .int .i64 (i : Int))]) (fun i w' => i ≤ xs.length ∧ Own (⟨w, keys H⟩ :: S) H w') (fun i => xs.length - i) 0 ⟨rfl, rfl, rfl, trivial⟩ (fun w' h => ⟨Nat.zero_le _, h.sub (fun _ hs => by repeat (first | exact hs | apply List.mem_cons_of_mem))⟩) (fun i => VC.fact fun hi => ?_)
  · skip
    refine VC.seq ?_
    refine VC.seq ?_
    refine VC.region ?_
    refine VL.move rfl ?_
    refine VL.move rfl ?_
    refine VL.len Try.underlying126 rfl rfl ?_
    refine VL.lss rfl rfl ?_
    refine VL.case (fun h4 => ?_) (fun h4 => ?_)
    · have hlt : i < xs.length := by omega
      refine VL.nil ?_
      refine VX.next ?_
      refine VC.yes rfl ?_
      refine VC.skip ?_
      refine VX.next ?_
      refine VC.seq ?_
      refine VC.block ?_
      refine VC.seq ?_
      apply VC.anyTA 8 1010 (F := [eqF _, eqF _, eqF _, itemF (xs[i]'hlt), eqF _, eqF _, eqF _, itemF (xs[i]'hlt)]) [⟨[], [0]⟩, ⟨[], [5]⟩, ⟨[(17, 0), (18, 1)], []⟩, ⟨[(19, 2)], []⟩, ⟨[], [1]⟩, ⟨[], [5]⟩, ⟨[(21, 4), (22, 5)], []⟩, ⟨[(23, 6)], []⟩] [(20, 3), (24, 7)] [0, 1, 4, 5, 6, 7, 8, 9, 10, 11, 12, 13, 14, 15, 16, 25, 26] rfl (by kernel_rfl) (by kernel_rfl) rfl rfl (by kernel_rfl) (by kernel_rfl) (by kernel_rfl) rfl ?obs6 ?end6
      case obs6 =>
        refine Obs.cons ?_ ?_
        · refine obS (by kernel_rfl) rfl rfl (fun ph6 w6 hO6 => ?_)
          refine VL.move rfl ?_
          exact VL.finS hO6 rfl rfl
        refine Obs.cons ?_ ?_
        · refine obS (by kernel_rfl) rfl rfl (fun ph6 w6 hO6 => ?_)
          refine VL.move rfl ?_
          exact VL.finS hO6 rfl rfl
        refine Obs.cons ?_ ?_
        · refine obS (by kernel_rfl) rfl rfl (fun ph6 w6 hO6 => ?_)
          rintro _ rfl _ rfl
          refine VL.index (xs := xs) rfl rfl Try.underlying126 sz126 hX (by omega) (by have hi := hlt; omega) ?_
          exact VL.finS hO6 rfl rfl
        refine Obs.cons ?_ ?_
        · refine ob (by kernel_rfl) rfl (by kernel_rfl) rfl (fun w6 hO6 => ?_)
          rintro _ rfl
          refine VL.elems (s := ⟨w, _⟩) (m := 433) (i) 0 rfl kd87 (fun _ e => e ▸ hO6) (by repeat (first | exact List.mem_cons_self .. | apply List.mem_cons_of_mem)) hX (List.getElem?_eq_getElem hlt) (by simp) (by decide) (fun vs hl hr => ?_)
          obtain ⟨p9, c9, q9, d9, hy9, rfl, hA9, hV9⟩ := hr
          refine VL.newv (v' := .agg (cat (itemV (xs[i]'hlt) p9 c9 q9 d9)).toArray) (by rw [List.drop_zero, List.take_of_length_le (by rw [hl]; decide)]) ?_
          exact VL.finS hO6 rfl ⟨_, _, _, _, rfl, hA9.now (s := ⟨w, _⟩) Mono.byte hO6 (by repeat (first | exact List.mem_cons_self .. | apply List.mem_cons_of_mem)), hV9.now (s := ⟨w, _⟩) Mono_vouch hO6 (by repeat (first | exact List.mem_cons_self .. | apply List.mem_cons_of_mem))⟩
        refine Obs.cons ?_ ?_
        · refine obS (by kernel_rfl) rfl rfl (fun ph6 w6 hO6 => ?_)
          refine VL.move rfl ?_
          exact VL.finS hO6 rfl rfl
        refine Obs.cons ?_ ?_
        · refine obS (by kernel_rfl) rfl rfl (fun ph6 w6 hO6 => ?_)
          refine VL.move rfl ?_
          exact VL.finS hO6 rfl rfl
        refine Obs.cons ?_ ?_
        · refine obS (by kernel_rfl) rfl rfl (fun ph6 w6 hO6 => ?_)
          rintro _ rfl _ rfl
          refine VL.index (xs := xs) rfl rfl Try.underlying126 sz126 hY (by omega) (by have hi := hlt; omega) ?_
          exact VL.finS hO6 rfl rfl
        refine Obs.cons ?_ ?_
        · refine ob (by kernel_rfl) rfl (by kernel_rfl) rfl (fun w6 hO6 => ?_)
          rintro _ rfl
          refine VL.elems (s := ⟨w, _⟩) (m := 433) (i) 0 rfl kd87 (fun _ e => e ▸ hO6) (by repeat (first | exact List.mem_cons_self .. | apply List.mem_cons_of_mem)) hY (List.getElem?_eq_getElem hlt) (by simp) (by decide) (fun vs hl hr => ?_)
          obtain ⟨p9, c9, q9, d9, hy9, rfl, hA9, hV9⟩ := hr
          refine VL.newv (v' := .agg (cat (itemV (xs[i]'hlt) p9 c9 q9 d9)).toArray) (by rw [List.drop_zero, List.take_of_length_le (by rw [hl]; decide)]) ?_
          exact VL.finS hO6 rfl ⟨_, _, _, _, rfl, hA9.now (s := ⟨w, _⟩) Mono.byte hO6 (by repeat (first | exact List.mem_cons_self .. | apply List.mem_cons_of_mem)), hV9.now (s := ⟨w, _⟩) Mono_vouch hO6 (by repeat (first | exact List.mem_cons_self .. | apply List.mem_cons_of_mem))⟩
        exact Obs.nil
      case end6 =>
        intro w6 hO6
        rintro _ ⟨pa3, ca3, qa3, da3, rfl, hAa3, hVa3⟩ _ ⟨pa7, ca7, qa7, da7, rfl, hAa7, hVa7⟩
        refine VL.toOwn hO6 ?_
        refine VL.call Try.func59 rfl (by decide) rfl (fun w' hw => sameItems_e hw (hxs _ (List.getElem_mem hlt)) (hAa3.now (s := ⟨w6, _⟩) Mono.byte hw (by repeat (first | exact List.mem_cons_self .. | apply List.mem_cons_of_mem))) (hVa3.now (s := ⟨w6, _⟩) Mono_vouch hw (by repeat (first | exact List.mem_cons_self .. | apply List.mem_cons_of_mem))) (hAa7.now (s := ⟨w6, _⟩) Mono.byte hw (by repeat (first | exact List.mem_cons_self .. | apply List.mem_cons_of_mem))) (hVa7.now (s := ⟨w6, _⟩) Mono_vouch hw (by repeat (first | exact List.mem_cons_self .. | apply List.mem_cons_of_mem))) rfl) (fun v => ?_)
        refine VL.fact fun e1 => ?_
        subst e1
        refine VL.not rfl ?_
        refine VL.nil ?_
        refine VX.next ?_
        refine VC.no rfl ?_
        refine VC.skip ?_
        refine VX.block_normal ?_
        refine VX.next ?_
        refine VC.region ?_
        refine VL.move rfl ?_
        refine VL.add rfl rfl (by simp only [InR]; omega) ?_
        refine VL.assign rfl ?_
        refine VL.nil ?_
        refine VX.round (i + 1) ⟨rfl, rfl, rfl, trivial⟩ (fun w' h => ⟨by omega, h.sub (fun _ hs => by repeat (first | exact hs | apply List.mem_cons_of_mem))⟩) (by show xs.length - (i + 1) < xs.length - i; omega)
    · have hie : i = xs.length := by omega
      refine VL.nil ?_
      refine VX.next ?_
      refine VC.no rfl ?_
      refine VC.exit ?_
      refine VX.then_exit ?_
      refine VX.then_exit ?_
      refine VX.block_here ?_
      refine VX.next ?_
      refine VC.seq ?_
      refine VC.region ?_
      refine VL.assign rfl ?_
      refine VL.nil ?_
      refine VX.next ?_
      refine VC.ret ?_
      refine VX.ret1 rfl rfl (fun we hw => ?_)
      exact ⟨rfl, hw.sub (fun _ hs => by repeat (first | exact hs | apply List.mem_cons_of_mem))⟩

theorem sameLists_e {S : List Snap} {H : List Chunk} {w : World} (ho : Own S H w) {xs ys : List Itm} (hxs : ∀ x ∈ xs, x.ok) {p : Option Addr} {c : Nat} (hX : Arr 433 itemR' (keys H) w p xs c) {p2 : Option Addr} {c2 : Nat} (hY : Arr 433 itemR' (keys H) w p2 ys c2) (e : ys = xs) : Calls Try.prog 90 #[.slice p xs.length c, .slice p2 ys.length c2] w (Ret fun v w' => v = .bool true ∧ Own S H w') := by
  subst e; exact sameLists_w ho hxs hX hY

end Go.Proofs.Ytcfecmoagfgnaaa

/- The law on replies. -/
namespace Go.Proofs.Ytcfecmoagfgnaaa
open Go.Vc Go.Pl

theorem rep_back {x : Rep} (hx : x.ok) (h : (repO x).isSome = true) : repR ((repO x).getD []) = some x := by
  obtain ⟨l, hl⟩ := Option.isSome_iff_exists.1 h
  rw [hl]
  exact repR_iff.2 ⟨hx, hl⟩
abbrev trnOf (x : Rep) : Trn := ⟨x.seq, x.items⟩
theorem trnOf_ok {x : Rep} (hx : x.ok) : (trnOf x).ok := ⟨hx.seq, hx.items⟩
theorem trn_back {x : Rep} (hx : x.ok) (h : (trnO (trnOf x)).isSome = true) : trnR ((trnO (trnOf x)).getD []) = some (trnOf x) := by
  obtain ⟨l, hl⟩ := Option.isSome_iff_exists.1 h
  rw [hl]
  exact trnR_iff.2 ⟨trnOf_ok hx, hl⟩
/-- Three short pieces or one: the room is the same. -/
theorem both_some {x : Rep} (h : (repO x).isSome = true) : (trnO (trnOf x)).isSome = true := by
  obtain ⟨l, hl⟩ := Option.isSome_iff_exists.1 h
  obtain ⟨h1, h2, _⟩ := joinO_eq hl
  unfold trnO
  have hj : joinOk ([be 2 (trnOf x).seq] ++ itemsP (trnOf x).items) := by
    refine ⟨?_, fun p hp => ?_⟩
    · have := h1.1
      simp only [repP, List.length_append, List.length_cons, List.length_nil] at this ⊢
      omega
    · rcases List.mem_append.1 hp with hp | hp
      · rw [List.mem_singleton] at hp; subst hp; rw [be_length]; decide
      · exact h1.2 p (List.mem_append.2 (.inr hp))
  rw [joinO_some hj h2]; rfl

theorem wireReplies_w {S : List Snap} {H : List Chunk} {w : World} (ho : Own S H w) {x : Rep} (hx : x.ok) {q : Option Addr} {d : Nat} (hV : Arr 433 itemR' (keys H) w q x.items d) : Calls Try.prog 19 #[.agg (cat (repV x q d)).toArray] w (Ret fun v w' => v = .bool true ∧ Own S H w') := by
  refine enter (G := Own (⟨w, keys H⟩ :: S) H) ho.keep Try.func19 rfl Try.ntmps19 rfl ?_
  refine VC.seq ?_
  refine VC.region ?_
  refine VL.box (L := repL) (ps := (repV (x) q d)) rfl rfl (repV_len hx) (fun g1 => ?_)
  refine VL.assign rfl ?_
  refine VL.nil ?_
  refine VX.next ?_
  refine VC.seq ?_
  refine VC.seq ?_
  refine VC.region ?_
  refine VL.call Try.func49 rfl (by decide) rfl (fun w' hw => alive_w hw) (fun v => ?_)
  refine VL.fact fun e2 => ?_
  subst e2
  refine VL.not rfl ?_
  refine VL.nil ?_
  refine VX.next ?_
  refine VC.no rfl ?_
  refine VC.skip ?_
  refine VX.next ?_
  refine VC.seq ?_
  refine VC.region ?_
  refine VL.loads (cs := cat (repV (x) q d)) 0 0 4 rfl kd128 (fun _ h => h) rfl rfl rfl rfl ?_
  refine VL.call Try.func84 rfl (by decide) rfl (fun w' hw => putRep_w hw (x := x) hx (hV.now (s := ⟨w, _⟩) Mono_item hw (by repeat (first | exact List.mem_cons_self .. | apply List.mem_cons_of_mem)))) (fun v => ?_)
  refine VL.at (fun w3 h1w => ?_)
  obtain ⟨p4, c5, rfl, hO7, hA6⟩ := h1w
  refine VL.toOwn hO7 ?_
  refine VL.move rfl ?_
  refine VL.extract rfl rfl ?_
  refine VL.extract rfl rfl ?_
  refine VL.assign rfl ?_
  refine VL.assign rfl ?_
  refine VL.nil ?_
  refine VX.next ?_
  refine VC.seq ?_
  refine VC.region ?_
  refine VL.loads (cs := cat (repV (x) q d)) 0 0 4 rfl kd128 (fun _ h => h) rfl rfl rfl rfl ?_
  refine VL.call Try.func85 rfl (by decide) rfl (fun w' hw => refRep_w hw (x := x) hx (hV.now (s := ⟨w, _⟩) Mono_item hw (by repeat (first | exact List.mem_cons_self .. | apply List.mem_cons_of_mem)))) (fun v => ?_)
  refine VL.at (fun w8 h1w => ?_)
  obtain ⟨p9, c10, rfl, hO12, hA11⟩ := h1w
  refine VL.toOwn hO12 ?_
  refine VL.move rfl ?_
  refine VL.extract rfl rfl ?_
  refine VL.extract rfl rfl ?_
  refine VL.assign rfl ?_
  refine VL.assign rfl ?_
  refine VL.nil ?_
  refine VX.next ?_
  refine VC.seq ?_
  refine VC.region ?_
  refine VL.fieldAddr rfl fo128_0 rfl ?_
  refine VL.load (v := .int .u16 (x.seq)) 0 0 rfl kd68 (fun _ h => h) rfl rfl rfl ?_
  refine VL.fieldAddr rfl fo128_3 rfl ?_
  refine VL.load (v := .slice q (x.items).length d) 0 3 rfl kd126 (fun _ h => h) rfl rfl rfl ?_
  refine VL.build (zs := trnZ) (L := trnFL) [(0, [.int .u16 (x.seq)]), (1, [.slice q (x.items).length d])] plan132 rfl ⟨⟨rfl, ⟨_, rfl, rfl⟩, rfl⟩, ⟨⟨rfl, ⟨_, rfl, rfl⟩, rfl⟩, trivial⟩⟩ rfl ?_
  refine VL.newv (v' := .agg (cat (trnV ((trnOf x)) q d)).toArray) rfl ?_
  refine VL.call Try.func86 rfl (by decide) rfl (fun w' hw => putTrn_w hw (x := (trnOf x)) (trnOf_ok hx) (hV.now (s := ⟨w, _⟩) Mono_item hw (by repeat (first | exact List.mem_cons_self .. | apply List.mem_cons_of_mem)))) (fun v => ?_)
  refine VL.at (fun w13 h1w => ?_)
  obtain ⟨p14, c15, rfl, hO17, hA16⟩ := h1w
  refine VL.toOwn hO17 ?_
  refine VL.move rfl ?_
  refine VL.extract rfl rfl ?_
  refine VL.extract rfl rfl ?_
  refine VL.assign rfl ?_
  refine VL.assign rfl ?_
  refine VL.nil ?_
  refine VX.next ?_
  refine VC.seq ?_
  refine VC.region ?_
  refine VL.fieldAddr rfl fo128_0 rfl ?_
  refine VL.load (v := .int .u16 (x.seq)) 0 0 rfl kd68 (fun _ h => h) rfl rfl rfl ?_
  refine VL.fieldAddr rfl fo128_3 rfl ?_
  refine VL.load (v := .slice q (x.items).length d) 0 3 rfl kd126 (fun _ h => h) rfl rfl rfl ?_
  refine VL.build (zs := trnZ) (L := trnFL) [(0, [.int .u16 (x.seq)]), (1, [.slice q (x.items).length d])] plan132 rfl ⟨⟨rfl, ⟨_, rfl, rfl⟩, rfl⟩, ⟨⟨rfl, ⟨_, rfl, rfl⟩, rfl⟩, trivial⟩⟩ rfl ?_
  refine VL.newv (v' := .agg (cat (trnV ((trnOf x)) q d)).toArray) rfl ?_
  refine VL.call Try.func87 rfl (by decide) rfl (fun w' hw => refTrn_w hw (x := (trnOf x)) (trnOf_ok hx) (hV.now (s := ⟨w, _⟩) Mono_item hw (by repeat (first | exact List.mem_cons_self .. | apply List.mem_cons_of_mem)))) (fun v => ?_)
  refine VL.at (fun w18 h1w => ?_)
  obtain ⟨p19, c20, rfl, hO22, hA21⟩ := h1w
  refine VL.toOwn hO22 ?_
  refine VL.move rfl ?_
  refine VL.extract rfl rfl ?_
  refine VL.extract rfl rfl ?_
  refine VL.assign rfl ?_
  refine VL.assign rfl ?_
  refine VL.nil ?_
  refine VX.next ?_
  refine VC.seq ?_
  refine VC.seq ?_
  refine VC.region ?_
  refine VL.move rfl ?_
  refine VL.move rfl ?_
  refine VL.neb Try.underlying4 rfl rfl ?_
  refine VL.sets (show _ = false by simp) ?_
  refine VL.move rfl ?_
  refine VL.go rfl rfl rfl ?_
  refine VL.move rfl ?_
  refine VL.go rfl rfl rfl ?_
  refine VL.move rfl ?_
  refine VL.go rfl rfl rfl ?_
  refine VL.call Try.func27 rfl (by decide) rfl (fun w' hw => bytes_T hw (hA6.now (s := ⟨w3, _⟩) Mono.byte hw (by repeat (first | exact List.mem_cons_self .. | apply List.mem_cons_of_mem))) (hA11.now (s := ⟨w8, _⟩) Mono.byte hw (by repeat (first | exact List.mem_cons_self .. | apply List.mem_cons_of_mem))) rfl) (fun v => ?_)
  refine VL.fact fun e23 => ?_
  subst e23
  refine VL.go rfl rfl rfl ?_
  refine VL.not rfl ?_
  refine VL.pick_f rfl rfl ?_
  refine VL.move rfl ?_
  refine VL.go rfl rfl rfl ?_
  refine VL.move rfl ?_
  refine VL.go rfl rfl rfl ?_
  refine VL.move rfl ?_
  refine VL.go rfl rfl rfl ?_
  refine VL.neb Try.underlying4 rfl rfl ?_
  refine VL.sets (show _ = false by simp) ?_
  refine VL.pick_f rfl rfl ?_
  refine VL.move rfl ?_
  refine VL.go rfl rfl rfl ?_
  refine VL.move rfl ?_
  refine VL.go rfl rfl rfl ?_
  refine VL.move rfl ?_
  refine VL.go rfl rfl rfl ?_
  refine VL.call Try.func27 rfl (by decide) rfl (fun w' hw => bytes_T hw (hA16.now (s := ⟨w13, _⟩) Mono.byte hw (by repeat (first | exact List.mem_cons_self .. | apply List.mem_cons_of_mem))) (hA21.now (s := ⟨w18, _⟩) Mono.byte hw (by repeat (first | exact List.mem_cons_self .. | apply List.mem_cons_of_mem))) rfl) (fun v => ?_)
  refine VL.fact fun e24 => ?_
  subst e24
  refine VL.go rfl rfl rfl ?_
  refine VL.not rfl ?_
  refine VL.pick_f rfl rfl ?_
  refine VL.nil ?_
  refine VX.next ?_
  refine VC.no rfl ?_
  refine VC.skip ?_
  refine VX.next ?_
  refine VC.seq ?_
  refine VC.region ?_
  refine VL.move rfl ?_
  refine VL.call Try.func88 rfl (by decide) rfl (fun w' hw => getRep_w hw (hA6.now (s := ⟨w3, _⟩) Mono.byte hw (by repeat (first | exact List.mem_cons_self .. | apply List.mem_cons_of_mem)))) (fun v => ?_)
  refine VL.at (fun w25 h1w => ?_)
  obtain ⟨q27, d28, rfl, hO26, hA29⟩ := h1w
  refine VL.toOwn hO26 ?_
  refine VL.move rfl ?_
  refine VL.extract rfl rfl ?_
  refine VL.extract rfl rfl ?_
  refine VL.alloc (L := repL) (ps := (repV (rep0) none 0)) zero128 rfl rfl (fun g30 => ?_)
  refine VL.store (L := repL) (qs := (repV (((repR (((repO x).getD []))).getD rep0)) q27 d28)) (ps' := (repV (((repR (((repO x).getD []))).getD rep0)) q27 d28)) 0 0 4 rfl rfl rfl (.inl kd128) rfl rfl (repV_len (repR_ok (((repO x).getD [])))) (repV_ok1 (((repR (((repO x).getD []))).getD rep0)) q27 d28) rfl rfl ?_
  refine VL.turn (G' := Own _ (blk g30 128 repL (repV (((repR (((repO x).getD []))).getD rep0)) q27 d28) :: blk g1 128 repL (repV (x) q d) :: H)) (fun _ h => h) ?_
  refine VL.assign rfl ?_
  refine VL.nil ?_
  refine VX.next ?_
  refine VC.seq ?_
  refine VC.region ?_
  refine VL.move rfl ?_
  refine VL.call Try.func89 rfl (by decide) rfl (fun w' hw => getTrn_w hw (hA16.now (s := ⟨w13, _⟩) Mono.byte hw (by repeat (first | exact List.mem_cons_self .. | apply List.mem_cons_of_mem)))) (fun v => ?_)
  refine VL.at (fun w31 h1w => ?_)
  obtain ⟨q33, d34, rfl, hO32, hA35⟩ := h1w
  refine VL.toOwn hO32 ?_
  refine VL.move rfl ?_
  refine VL.extract rfl rfl ?_
  refine VL.extract rfl rfl ?_
  refine VL.alloc (L := trnL) (ps := (trnV (trn0) none 0)) zero132 rfl rfl (fun g36 => ?_)
  refine VL.store (L := trnL) (qs := (trnV (((trnR (((trnO ((trnOf x))).getD []))).getD trn0)) q33 d34)) (ps' := (trnV (((trnR (((trnO ((trnOf x))).getD []))).getD trn0)) q33 d34)) 0 0 2 rfl rfl rfl (.inl kd132) rfl rfl (trnV_len (trnR_ok (((trnO ((trnOf x))).getD [])))) (trnV_ok1 (((trnR (((trnO ((trnOf x))).getD []))).getD trn0)) q33 d34) rfl rfl ?_
  refine VL.turn (G' := Own _ (blk g36 132 trnL (trnV (((trnR (((trnO ((trnOf x))).getD []))).getD trn0)) q33 d34) :: blk g30 128 repL (repV (((repR (((repO x).getD []))).getD rep0)) q27 d28) :: blk g1 128 repL (repV (x) q d) :: H)) (fun _ h => h) ?_
  refine VL.assign rfl ?_
  refine VL.nil ?_
  refine VX.next ?_
  refine VC.seq ?_
  refine VC.region ?_
  refine VL.move rfl ?_
  cases hs : (repO x).isSome
  · refine VL.not rfl ?_
    refine VL.move rfl ?_
    refine VL.pass rfl rfl rfl rfl rfl ?_
    refine VL.pass rfl rfl rfl rfl rfl ?_
    refine VL.pass rfl rfl rfl rfl rfl ?_
    refine VL.passu rfl rfl rfl rfl ?_
    refine VL.passu rfl rfl rfl rfl ?_
    refine VL.pass rfl rfl rfl rfl rfl ?_
    refine VL.pass rfl rfl rfl rfl rfl ?_
    refine VL.passu rfl rfl rfl rfl ?_
    refine VL.passu rfl rfl rfl rfl ?_
    refine VL.passu rfl rfl rfl rfl ?_
    refine VL.passu rfl rfl rfl rfl ?_
    refine VL.passu rfl rfl rfl rfl ?_
    refine VL.pass rfl rfl rfl rfl rfl ?_
    refine VL.pass rfl rfl rfl rfl rfl ?_
    refine VL.passu rfl rfl rfl rfl ?_
    refine VL.passu rfl rfl rfl rfl ?_
    refine VL.passu rfl rfl rfl rfl ?_
    refine VL.passu rfl rfl rfl rfl ?_
    refine VL.passu rfl rfl rfl rfl ?_
    refine VL.pass rfl rfl rfl rfl rfl ?_
    refine VL.pass rfl rfl rfl rfl rfl ?_
    refine VL.passu rfl rfl rfl rfl ?_
    refine VL.passu rfl rfl rfl rfl ?_
    refine VL.passu rfl rfl rfl rfl ?_
    refine VL.passu rfl rfl rfl rfl ?_
    refine VL.passu rfl rfl rfl rfl ?_
    refine VL.pass rfl rfl rfl rfl rfl ?_
    refine VL.pass rfl rfl rfl rfl rfl ?_
    refine VL.passu rfl rfl rfl rfl ?_
    refine VL.passu rfl rfl rfl rfl ?_
    refine VL.passu rfl rfl rfl rfl ?_
    refine VL.passu rfl rfl rfl rfl ?_
    refine VL.passu rfl rfl rfl rfl ?_
    refine VL.pass rfl rfl rfl rfl rfl ?_
    refine VL.pass rfl rfl rfl rfl rfl ?_
    refine VL.passu rfl rfl rfl rfl ?_
    refine VL.passu rfl rfl rfl rfl ?_
    refine VL.passu rfl rfl rfl rfl ?_
    refine VL.passu rfl rfl rfl rfl ?_
    refine VL.passu rfl rfl rfl rfl ?_
    refine VL.pass rfl rfl rfl rfl rfl ?_
    refine VL.pass rfl rfl rfl rfl rfl ?_
    refine VL.passu rfl rfl rfl rfl ?_
    refine VL.passu rfl rfl rfl rfl ?_
    refine VL.passu rfl rfl rfl rfl ?_
    refine VL.passu rfl rfl rfl rfl ?_
    refine VL.passu rfl rfl rfl rfl ?_
    refine VL.pass rfl rfl rfl rfl rfl ?_
    refine VL.pick_t rfl rfl ?_
    refine VL.assign rfl ?_
    refine VL.nil ?_
    refine VX.next ?_
    refine VC.ret ?_
    refine VX.ret1 rfl rfl (fun we hw => ?_)
    exact ⟨rfl, hw.drop.drop.drop.sub (fun _ hs => by repeat (first | exact hs | apply List.mem_cons_of_mem))⟩
  · have hb := rep_back hx hs
    have hb2 := trn_back hx (both_some hs)
    refine VL.not rfl ?_
    refine VL.move rfl ?_
    refine VL.go rfl rfl rfl ?_
    refine VL.move rfl ?_
    refine VL.go rfl rfl rfl ?_
    refine VL.eql rfl rfl ?_
    refine VL.yes (err_0 hb) ?_
    refine VL.go rfl rfl rfl ?_
    refine VL.move rfl ?_
    refine VL.go rfl rfl rfl ?_
    refine VL.move rfl ?_
    refine VL.go rfl rfl rfl ?_
    refine VL.eql rfl rfl ?_
    refine VL.yes (err_0 hb2) ?_
    refine VL.go rfl rfl rfl ?_
    refine VL.pick_t rfl rfl ?_
    refine VL.go rfl rfl rfl ?_
    refine VL.move rfl ?_
    refine VL.go rfl rfl rfl ?_
    refine VL.fieldAddr rfl fo128_0 rfl ?_
    refine VL.go rfl rfl rfl ?_
    refine VL.load (v := .int .u16 (((repR (((repO x).getD []))).getD rep0).seq)) 1 0 rfl kd68 (fun _ h => h) rfl rfl rfl ?_
    refine VL.go rfl rfl rfl ?_
    refine VL.fieldAddr rfl fo128_0 rfl ?_
    refine VL.go rfl rfl rfl ?_
    refine VL.load (v := .int .u16 (x.seq)) 2 0 rfl kd68 (fun _ h => h) rfl rfl rfl ?_
    refine VL.go rfl rfl rfl ?_
    refine VL.eql rfl rfl ?_
    refine VL.yes (congrArg (fun y : Rep => ((y.seq : Nat) : Int)) (back_is hb)) ?_
    refine VL.go rfl rfl rfl ?_
    refine VL.pick_t rfl rfl ?_
    refine VL.go rfl rfl rfl ?_
    refine VL.move rfl ?_
    refine VL.go rfl rfl rfl ?_
    refine VL.fieldAddr rfl fo128_1 rfl ?_
    refine VL.go rfl rfl rfl ?_
    refine VL.load (v := .int .u8 (((repR (((repO x).getD []))).getD rep0).tag)) 1 1 rfl kd5 (fun _ h => h) rfl rfl rfl ?_
    refine VL.go rfl rfl rfl ?_
    refine VL.fieldAddr rfl fo128_1 rfl ?_
    refine VL.go rfl rfl rfl ?_
    refine VL.load (v := .int .u8 (x.tag)) 2 1 rfl kd5 (fun _ h => h) rfl rfl rfl ?_
    refine VL.go rfl rfl rfl ?_
    refine VL.eql rfl rfl ?_
    refine VL.yes (congrArg (fun y : Rep => ((y.tag : Nat) : Int)) (back_is hb)) ?_
    refine VL.go rfl rfl rfl ?_
    refine VL.pick_t rfl rfl ?_
    refine VL.go rfl rfl rfl ?_
    refine VL.move rfl ?_
    refine VL.go rfl rfl rfl ?_
    refine VL.fieldAddr rfl fo128_2 rfl ?_
    refine VL.go rfl rfl rfl ?_
    refine VL.load (v := .int .u16 (((repR (((repO x).getD []))).getD rep0).mark)) 1 2 rfl kd68 (fun _ h => h) rfl rfl rfl ?_
    refine VL.go rfl rfl rfl ?_
    refine VL.fieldAddr rfl fo128_2 rfl ?_
    refine VL.go rfl rfl rfl ?_
    refine VL.load (v := .int .u16 (x.mark)) 2 2 rfl kd68 (fun _ h => h) rfl rfl rfl ?_
    refine VL.go rfl rfl rfl ?_
    refine VL.eql rfl rfl ?_
    refine VL.yes (congrArg (fun y : Rep => ((y.mark : Nat) : Int)) (back_is hb)) ?_
    refine VL.go rfl rfl rfl ?_
    refine VL.pick_t rfl rfl ?_
    refine VL.go rfl rfl rfl ?_
    refine VL.move rfl ?_
    refine VL.go rfl rfl rfl ?_
    refine VL.fieldAddr rfl fo128_3 rfl ?_
    refine VL.go rfl rfl rfl ?_
    refine VL.load (v := .slice q (x.items).length d) 2 3 rfl kd126 (fun _ h => h) rfl rfl rfl ?_
    refine VL.go rfl rfl rfl ?_
    refine VL.fieldAddr rfl fo128_3 rfl ?_
    refine VL.go rfl rfl rfl ?_
    refine VL.load (v := .slice q27 (((repR (((repO x).getD []))).getD rep0).items).length d28) 1 3 rfl kd126 (fun _ h => h) rfl rfl rfl ?_
    refine VL.go rfl rfl rfl ?_
    refine VL.call Try.func90 rfl (by decide) rfl (fun w' hw => sameLists_e hw hx.items (hV.now (s := ⟨w, _⟩) Mono_item hw (by repeat (first | exact List.mem_cons_self .. | apply List.mem_cons_of_mem))) (hA29.now (s := ⟨w25, _⟩) Mono_item hw (by repeat (first | exact List.mem_cons_self .. | apply List.mem_cons_of_mem))) (congrArg Rep.items (back_is hb))) (fun v => ?_)
    refine VL.fact fun e37 => ?_
    subst e37
    refine VL.go rfl rfl rfl ?_
    refine VL.pick_t rfl rfl ?_
    refine VL.go rfl rfl rfl ?_
    refine VL.move rfl ?_
    refine VL.go rfl rfl rfl ?_
    refine VL.fieldAddr rfl fo132_0 rfl ?_
    refine VL.go rfl rfl rfl ?_
    refine VL.load (v := .int .u16 (((trnR (((trnO ((trnOf x))).getD []))).getD trn0).seq)) 0 0 rfl kd68 (fun _ h => h) rfl rfl rfl ?_
    refine VL.go rfl rfl rfl ?_
    refine VL.fieldAddr rfl fo128_0 rfl ?_
    refine VL.go rfl rfl rfl ?_
    refine VL.load (v := .int .u16 (x.seq)) 2 0 rfl kd68 (fun _ h => h) rfl rfl rfl ?_
    refine VL.go rfl rfl rfl ?_
    refine VL.eql rfl rfl ?_
    refine VL.yes (congrArg (fun y : Trn => ((y.seq : Nat) : Int)) (back_is hb2)) ?_
    refine VL.go rfl rfl rfl ?_
    refine VL.pick_t rfl rfl ?_
    refine VL.go rfl rfl rfl ?_
    refine VL.move rfl ?_
    refine VL.go rfl rfl rfl ?_
    refine VL.fieldAddr rfl fo128_3 rfl ?_
    refine VL.go rfl rfl rfl ?_
    refine VL.load (v := .slice q (x.items).length d) 2 3 rfl kd126 (fun _ h => h) rfl rfl rfl ?_
    refine VL.go rfl rfl rfl ?_
    refine VL.fieldAddr rfl fo132_1 rfl ?_
    refine VL.go rfl rfl rfl ?_
    refine VL.load (v := .slice q33 (((trnR (((trnO ((trnOf x))).getD []))).getD trn0).items).length d34) 0 1 rfl kd126 (fun _ h => h) rfl rfl rfl ?_
    refine VL.go rfl rfl rfl ?_
    refine VL.call Try.func90 rfl (by decide) rfl (fun w' hw => sameLists_e hw hx.items (hV.now (s := ⟨w, _⟩) Mono_item hw (by repeat (first | exact List.mem_cons_self .. | apply List.mem_cons_of_mem))) (hA35.now (s := ⟨w31, _⟩) Mono_item hw (by repeat (first | exact List.mem_cons_self .. | apply List.mem_cons_of_mem))) (congrArg Trn.items (back_is hb2))) (fun v => ?_)
    refine VL.fact fun e38 => ?_
    subst e38
    refine VL.go rfl rfl rfl ?_
    refine VL.pick_t rfl rfl ?_
    refine VL.pick_f rfl rfl ?_
    refine VL.assign rfl ?_
    refine VL.nil ?_
    refine VX.next ?_
    refine VC.ret ?_
    refine VX.ret1 rfl rfl (fun we hw => ?_)
    exact ⟨rfl, hw.drop.drop.drop.sub (fun _ hs => by repeat (first | exact hs | apply List.mem_cons_of_mem))⟩

end Go.Proofs.Ytcfecmoagfgnaaa

/- Replies as arguments, opened. -/
namespace Go.Proofs.Ytcfecmoagfgnaaa
open Go.Vc Go.Pl

open Go.ChangeShapes Go.WideShapes Go.ChangeAt Go.RowKit
section
variable {Hh : Type} {enc : TypeId × Value → Hh} {W : World}
def repR' : Rel Rep := fun K w vs x => ∃ q d, x.ok ∧ vs = cat (repV x q d) ∧ Arr 433 itemR' K w q x.items d
theorem open128 : Opens enc Try.prog W 128 repR' := by
  intro fuel cs x h
  obtain ⟨hl, m, hz0, hz1, hz2, hz3, _⟩ := openFields [(68, 0, 1), (5, 1, 1), (68, 2, 1), (126, 3, 1)] Try.underlying128 (by kernel_rfl) h
  rw [show Try.prog.cellsOf 128 = 4 by kernel_rfl] at hl
  obtain ⟨z0, hz0⟩ := hz0
  obtain ⟨y0, ho0, hy0⟩ := (openU16 Try.underlying68) _ _ _ hz0
  obtain ⟨z1, hz1⟩ := hz1
  obtain ⟨y1, ho1, hy1⟩ := (openU8 Try.underlying5) _ _ _ hz1
  obtain ⟨z2, hz2⟩ := hz2
  obtain ⟨y2, ho2, hy2⟩ := (openU16 Try.underlying68) _ _ _ hz2
  obtain ⟨z3, hz3⟩ := hz3
  obtain ⟨y3, p3, c3, hy3, hA3⟩ := (Opens.slice (sz := 433) Try.underlying126 (by kernel_rfl) (by decide) open87) _ _ _ hz3
  have hbs : ∀ b ∈ y3, b.ok := fun b hb => by
    obtain ⟨i, hi⟩ := List.mem_iff_getElem?.1 hb
    obtain ⟨vs, a, _, _, h1, _⟩ := hA3.cell hi
    obtain ⟨_, _, _, _, h2, _⟩ := h1
    exact h2
  refine ⟨⟨y0, y1, y2, y3⟩, p3, c3, ⟨ho0, ho1, ho2, hbs⟩, ?_, hA3⟩
  have e0 : cs = cs.drop 0 := rfl
  have f0 := cutCells 0 1 hy0
  have f1 := cutCells 1 1 hy1
  have f2 := cutCells 2 1 hy2
  have f3 := cutCells 3 1 hy3
  have fe : cs.drop 4 = [] := List.drop_eq_nil_of_le (by omega)
  rw [e0, f0, f1, f2, f3, fe]
  simp only [cat, List.append_assoc, List.append_nil, List.nil_append]
end
end Go.Proofs.Ytcfecmoagfgnaaa

/- The dump's head, taken apart once: its kernel's run is long. -/
set_option maxRecDepth 100000
namespace Go.Proofs.Ytcfecmoagfgnaaa
open Go

def signs : List Char := [104, 97, 114, 110, 101, 115, 115, 32, 102, 100, 52, 102, 57, 98, 57, 102, 49, 55, 56, 57, 57, 51, 101, 97, 57, 99, 99, 102, 101, 98, 51, 98, 102, 53, 98, 50, 100, 102, 54, 99, 50, 101, 100, 98, 49, 51, 57, 102, 51, 101, 52, 102, 100, 56, 51, 97, 49, 50, 97, 97, 48, 99, 53, 98, 50, 54, 97, 51, 52, 53, 48, 48, 32, 99, 117, 116, 32, 97, 116, 32, 109, 105, 115, 115, 105, 118, 101, 47, 109, 105, 115, 115, 105, 118, 101, 108, 97, 119, 48, 50, 46, 79, 99, 116, 101, 116, 78, 117, 109, 98, 101, 114, 115, 32, 109, 105, 115, 115, 105, 118, 101, 47, 109, 105, 115, 115, 105, 118, 101, 108, 97, 119, 48, 50, 46, 79, 99, 116, 101, 116, 74, 111, 105, 110, 115, 32, 109, 105, 115, 115, 105, 118, 101, 47, 109, 105, 115, 115, 105, 118, 101, 108, 97, 119, 48, 50, 46, 79, 99, 116, 101, 116, 83, 112, 108, 105, 116, 115, 32, 109, 105, 115, 115, 105, 118, 101, 47, 109, 105, 115, 115, 105, 118, 101, 108, 97, 119, 48, 50, 46, 79, 99, 116, 101, 116, 67, 117, 116, 32, 109, 105, 115, 115, 105, 118, 101, 47, 109, 105, 115, 115, 105, 118, 101, 108, 97, 119, 48, 50, 46, 79, 99, 116, 101, 116, 79, 119, 110, 32, 109, 105, 115, 115, 105, 118, 101, 47, 109, 105, 115, 115, 105, 118, 101, 108, 97, 119, 48, 50, 46, 79, 99, 116, 101, 116, 66, 121, 116, 101, 115, 32, 109, 105, 115, 115, 105, 118, 101, 47, 109, 105, 115, 115, 105, 118, 101, 108, 97, 119, 50, 52, 46, 66, 97, 103, 82, 105, 112, 101, 32, 109, 105, 115, 115, 105, 118, 101, 47, 109, 105, 115, 115, 105, 118, 101, 108, 97, 119, 50, 52, 46, 66, 97, 103, 80, 108, 97, 121, 115, 32, 109, 105, 115, 115, 105, 118, 101, 47, 109, 105, 115, 115, 105, 118, 101, 108, 97, 119, 50, 52, 46, 66, 97, 103, 79, 119, 110, 32, 109, 105, 115, 115, 105, 118, 101, 47, 109, 105, 115, 115, 105, 118, 101, 108, 97, 119, 49, 52, 46, 87, 105, 114, 101, 76, 101, 116, 116, 101, 114, 115, 32, 109, 105, 115, 115, 105, 118, 101, 47, 109, 105, 115, 115, 105, 118, 101, 108, 97, 119, 49, 52, 46, 87, 105, 114, 101, 73, 116, 101, 109, 115, 32, 109, 105, 115, 115, 105, 118, 101, 47, 109, 105, 115, 115, 105, 118, 101, 108, 97, 119, 49, 52, 46, 87, 105, 114, 101, 66, 117, 110, 100, 108, 101, 115, 32, 109, 105, 115, 115, 105, 118, 101, 47, 109, 105, 115, 115, 105, 118, 101, 108, 97, 119, 49, 52, 46, 87, 105, 114, 101, 79, 98, 106, 101, 99, 116, 115, 32, 109, 105, 115, 115, 105, 118, 101, 47, 109, 105, 115, 115, 105, 118, 101, 108, 97, 119, 50, 49, 46, 70, 101, 100, 113, 84, 97, 107, 101, 115, 32, 109, 105, 115, 115, 105, 118, 101, 47, 109, 105, 115, 115, 105, 118, 101, 108, 97, 119, 49, 52, 46, 87, 105, 114, 101, 67, 97, 108, 108, 115, 32, 109, 105, 115, 115, 105, 118, 101, 47, 109, 105, 115, 115, 105, 118, 101, 108, 97, 119, 49, 52, 46, 87, 105, 114, 101, 84, 117, 114, 110, 101, 100, 32, 109, 105, 115, 115, 105, 118, 101, 47, 109, 105, 115, 115, 105, 118, 101, 108, 97, 119, 49, 52, 46, 87, 105, 114, 101, 82, 101, 112, 108, 105, 101, 115, 32, 109, 105, 115, 115, 105, 118, 101, 47, 109, 105, 115, 115, 105, 118, 101, 108, 97, 119, 49, 52, 46, 87, 105, 114, 101, 80, 97, 99, 107, 101, 116, 115, 32, 109, 105, 115, 115, 105, 118, 101, 47, 109, 105, 115, 115, 105, 118, 101, 108, 97, 119, 49, 52, 46, 87, 105, 114, 101, 82, 101, 97, 100, 115, 32, 109, 105, 115, 115, 105, 118, 101, 47, 109, 105, 115, 115, 105, 118, 101, 108, 97, 119, 50, 49, 46, 70, 101, 100, 113, 82, 111, 119, 115, 32, 109, 105, 115, 115, 105, 118, 101, 47, 109, 105, 115, 115, 105, 118, 101, 108, 97, 119, 50, 49, 46, 70, 101, 100, 113, 76, 111, 97, 100, 115].map Char.ofNat
def words : List (List Char) := [[104, 97, 114, 110, 101, 115, 115], [102, 100, 52, 102, 57, 98, 57, 102, 49, 55, 56, 57, 57, 51, 101, 97, 57, 99, 99, 102, 101, 98, 51, 98, 102, 53, 98, 50, 100, 102, 54, 99, 50, 101, 100, 98, 49, 51, 57, 102, 51, 101, 52, 102, 100, 56, 51, 97, 49, 50, 97, 97, 48, 99, 53, 98, 50, 54, 97, 51, 52, 53, 48, 48], [99, 117, 116], [97, 116], [109, 105, 115, 115, 105, 118, 101, 47, 109, 105, 115, 115, 105, 118, 101, 108, 97, 119, 48, 50, 46, 79, 99, 116, 101, 116, 78, 117, 109, 98, 101, 114, 115], [109, 105, 115, 115, 105, 118, 101, 47, 109, 105, 115, 115, 105, 118, 101, 108, 97, 119, 48, 50, 46, 79, 99, 116, 101, 116, 74, 111, 105, 110, 115], [109, 105, 115, 115, 105, 118, 101, 47, 109, 105, 115, 115, 105, 118, 101, 108, 97, 119, 48, 50, 46, 79, 99, 116, 101, 116, 83, 112, 108, 105, 116, 115], [109, 105, 115, 115, 105, 118, 101, 47, 109, 105, 115, 115, 105, 118, 101, 108, 97, 119, 48, 50, 46, 79, 99, 116, 101, 116, 67, 117, 116], [109, 105, 115, 115, 105, 118, 101, 47, 109, 105, 115, 115, 105, 118, 101, 108, 97, 119, 48, 50, 46, 79, 99, 116, 101, 116, 79, 119, 110], [109, 105, 115, 115, 105, 118, 101, 47, 109, 105, 115, 115, 105, 118, 101, 108, 97, 119, 48, 50, 46, 79, 99, 116, 101, 116, 66, 121, 116, 101, 115], [109, 105, 115, 115, 105, 118, 101, 47, 109, 105, 115, 115, 105, 118, 101, 108, 97, 119, 50, 52, 46, 66, 97, 103, 82, 105, 112, 101], [109, 105, 115, 115, 105, 118, 101, 47, 109, 105, 115, 115, 105, 118, 101, 108, 97, 119, 50, 52, 46, 66, 97, 103, 80, 108, 97, 121, 115], [109, 105, 115, 115, 105, 118, 101, 47, 109, 105, 115, 115, 105, 118, 101, 108, 97, 119, 50, 52, 46, 66, 97, 103, 79, 119, 110], [109, 105, 115, 115, 105, 118, 101, 47, 109, 105, 115, 115, 105, 118, 101, 108, 97, 119, 49, 52, 46, 87, 105, 114, 101, 76, 101, 116, 116, 101, 114, 115], [109, 105, 115, 115, 105, 118, 101, 47, 109, 105, 115, 115, 105, 118, 101, 108, 97, 119, 49, 52, 46, 87, 105, 114, 101, 73, 116, 101, 109, 115], [109, 105, 115, 115, 105, 118, 101, 47, 109, 105, 115, 115, 105, 118, 101, 108, 97, 119, 49, 52, 46, 87, 105, 114, 101, 66, 117, 110, 100, 108, 101, 115], [109, 105, 115, 115, 105, 118, 101, 47, 109, 105, 115, 115, 105, 118, 101, 108, 97, 119, 49, 52, 46, 87, 105, 114, 101, 79, 98, 106, 101, 99, 116, 115], [109, 105, 115, 115, 105, 118, 101, 47, 109, 105, 115, 115, 105, 118, 101, 108, 97, 119, 50, 49, 46, 70, 101, 100, 113, 84, 97, 107, 101, 115], [109, 105, 115, 115, 105, 118, 101, 47, 109, 105, 115, 115, 105, 118, 101, 108, 97, 119, 49, 52, 46, 87, 105, 114, 101, 67, 97, 108, 108, 115], [109, 105, 115, 115, 105, 118, 101, 47, 109, 105, 115, 115, 105, 118, 101, 108, 97, 119, 49, 52, 46, 87, 105, 114, 101, 84, 117, 114, 110, 101, 100], [109, 105, 115, 115, 105, 118, 101, 47, 109, 105, 115, 115, 105, 118, 101, 108, 97, 119, 49, 52, 46, 87, 105, 114, 101, 82, 101, 112, 108, 105, 101, 115], [109, 105, 115, 115, 105, 118, 101, 47, 109, 105, 115, 115, 105, 118, 101, 108, 97, 119, 49, 52, 46, 87, 105, 114, 101, 80, 97, 99, 107, 101, 116, 115], [109, 105, 115, 115, 105, 118, 101, 47, 109, 105, 115, 115, 105, 118, 101, 108, 97, 119, 49, 52, 46, 87, 105, 114, 101, 82, 101, 97, 100, 115], [109, 105, 115, 115, 105, 118, 101, 47, 109, 105, 115, 115, 105, 118, 101, 108, 97, 119, 50, 49, 46, 70, 101, 100, 113, 82, 111, 119, 115], [109, 105, 115, 115, 105, 118, 101, 47, 109, 105, 115, 115, 105, 118, 101, 108, 97, 119, 50, 49, 46, 70, 101, 100, 113, 76, 111, 97, 100, 115]].map (List.map Char.ofNat)
theorem signs_is : Try.prog.initOrder.toList = signs := String.toList_ofList (l := signs)
theorem words_is : wordsSigns Try.prog.initOrder.toList = words := by rw [signs_is]; kernel_rfl
theorem mayEnter_is : Try.prog.mayEnter = true := by unfold Program.mayEnter; rw [words_is]; kernel_rfl
theorem headLifts_is : Try.prog.headLifts = [] := by unfold Program.headLifts; rw [words_is]; kernel_rfl
theorem liftsFinal_is : Try.prog.liftsFinal = Rows.octetJoinsRow.lifted := by unfold Program.liftsFinal; rw [words_is, headLifts_is]; kernel_rfl
theorem make_is : Try.prog.make = some Rows.octetJoinsRow.make := by unfold Program.make; rw [words_is, headLifts_is]; kernel_rfl
end Go.Proofs.Ytcfecmoagfgnaaa

/- The statement WireReplies. -/
set_option maxRecDepth 100000
namespace Go.Proofs.Ytcfecmoagfgnaaa.wireReplies
open Go.ChangeShapes Go.WideShapes Go.ChangeAt Go.RowKit Go.Vc Go.Pl

theorem own : ownKnob Try.prog.godebug = none := by kernel_rfl

theorem lifted (os : Os) (started : os.Started) (H : Type) (enc : TypeId × Value → H) :
    ReturnsInHanded {} Try.checked os 19 .any (Rows.wireRepliesSpec.pre6 enc Try.prog Try.f19 Rows.wireRepliesRow.domain false) (Rows.wireRepliesSpec.post enc Try.prog Try.f19 false true false false) := by
  refine law_of (C := Try.checked) (tb := 4) started own (by kernel_rfl) Try.func19
    (ChangeSpec.witness6 (enc := enc) (C := Try.checked) false ⟨#[], #[.agg (cat (repV rep0 none 0)).toArray], []⟩ 8 (by kernel_rfl) (by kernel_rfl) (by kernel_rfl) (by kernel_rfl)) rfl (by kernel_rfl) Try.underlying4 (by kernel_rfl) (by kernel_rfl) ?_
  intro W base args ds ps hval0 hAA hsz
  have hval : ∀ (j : Nat) t v, Try.f19.params[j]? = some t → args[j]? = some v → Value.okWide Try.prog W .any base t v := hval0
  have hA : DataW.TrodAll enc Try.prog W 0 (fun _ => true) true Try.f19.params.toList args.toList ds ps := hAA
  rw [Try.params19] at hA hval
  obtain ⟨v0, vs0, d0, ds0, p0, q0, hargs, rfl, rfl, h0, r0⟩ := trodAll_cons hA
  obtain ⟨rfl, rfl, rfl⟩ := trodAll_nil r0
  obtain rfl : args = #[v0] := by cases args; simp_all
  obtain ⟨cs0, x0, rfl, q0, d0, hx0, rfl, hV0⟩ := Opens.struct Try.underlying128 open128 (hval 0 128 v0 rfl rfl) h0
  exact ⟨rfl, wireReplies_w (Own.start W) hx0 hV0⟩

theorem closed : joinedFacts Try.prog 19 Try.f19 Rows.wireRepliesSpec Rows.wireRepliesRow = true := by
  unfold joinedFacts
  rw [mayEnter_is, liftsFinal_is, make_is]
  kernel_rfl

theorem over : Rows.wireRepliesRow.holds Try.pinned (OpenSpec.ofChange Rows.wireRepliesSpec) :=
  OpenClaim.holds_of_wide 19 Try.f19 rfl rfl rfl rfl rfl rfl rfl ⟨rfl, rfl, rfl, rfl, rfl⟩ rfl rfl rfl rfl rfl (by kernel_rfl) Try.func19 closed
    (of_decide_eq_true (by kernel_rfl)) (by unfold Func.isWrapper; first | (rw [if_pos (by decide +kernel)]; kernel_rfl) | (rw [if_neg (by decide +kernel)]; exact ⟨rfl, rfl⟩))
    (fun os started H enc _ => lifted os started H enc)

/-- The statement. -/
theorem proved : Rows.WireRepliesSaid :=
  over
end Go.Proofs.Ytcfecmoagfgnaaa.wireReplies

