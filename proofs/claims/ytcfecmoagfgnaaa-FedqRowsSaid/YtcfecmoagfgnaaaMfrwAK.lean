/- The statement FedqRows is proved, for every input: part 11 of 21 of the texts that it needs. -/
import Derived.Test.YtcfecmoagfgnaaaMfrwAJ
/- Items: the error's number, kind for kind. -/
namespace Go.Vc
section
variable {P : Program} {n : Nat} {Q : Exit → Act → World → Prop} {ops : Array Oper}
/-- It kept what is owned, and tells nothing. -/
theorem VL.finO0 {S : List Snap} {H : List Chunk} {f : Fact} {w0 : World} {σ : Sl} {G : World → Prop} (hG : ∀ w, G w → Own (⟨w0, keys H⟩ :: S) H w) (h : ∀ w, G w → f undef w) :
  VL P n ops (Post n Q (Still S H) (Turn (keys H)) f none false false w0) [] σ G :=
 VL.fin0 fun w hw => ⟨h w hw, ((hG w hw).after (List.mem_cons_self ..)).1, (hG w hw).lose⟩
end
end Go.Vc
namespace Go.Proofs.Ytcfecmoagfgnaaa
open Go.Vc Go.Pl

/-- The first byte's reading. -/
abbrev W1 (l : List UInt8) : Nat := lenW (openP l) (openW l) 1
theorem W1_cases (l : List UInt8) : (∃ a r, openP l = a :: r ∧ a.length = 1 ∧ W1 l = 0) ∨ (¬ fitsP [some 1] (openP l) ∧ W1 l = 141) := by
 obtain ⟨h1, h2⟩ := takesW_open (ks := [some 1]) (by simp) l
 by_cases hf : fitsP [some 1] (openP l)
 ·refine .inl ?_
  have e : W1 l = 0 := h1 hf
  cases hp : openP l with
  | nil => rw [hp] at hf; exact hf.elim
  | cons a r => rw [hp] at hf; exact ⟨a, r, rfl, hf.1 1 rfl, e⟩
 ·exact .inr ⟨hf, h2 hf⟩
theorem item_w0 {l : List UInt8} (h : ((W1 l : Nat) : Int) ≠ 0) : itemR l = none ∧ itemW l = W1 l := by
 rcases W1_cases l with ⟨_, _, _, _, e⟩ | ⟨hf, e⟩
 ·rw [e] at h; exact absurd rfl h
 ·have h1 : itemR l = none := by unfold itemR; exact if_pos hf
  refine ⟨h1, ?_⟩
  unfold itemW
  rw [h1, if_neg (by simp), if_neg (fun h => hf h.1), e]
theorem item_head {l : List UInt8} (h : ¬ ((W1 l : Nat) : Int) ≠ 0) : ∃ a r, openP l = a :: r ∧ a.length = 1 ∧ W1 l = 0 := by
 rcases W1_cases l with h1 | ⟨_, e⟩
 ·exact h1
 ·exact absurd (by rw [e]; decide) h
theorem firstFits {a : List UInt8} {r : List (List UInt8)} (h : a.length = 1) : fitsP [some 1] (a :: r) := ⟨fun n e => by cases e; exact h, trivial⟩
theorem item_none {l : List UInt8} (h : ¬ ((W1 l : Nat) : Int) ≠ 0) (h1 : takeN (openP l) 1 ≠ 1) (h2 : takeN (openP l) 1 ≠ 2) (h3 : takeN (openP l) 1 ≠ 3) (h4 : takeN (openP l) 1 ≠ 4) (h5 : takeN (openP l) 1 ≠ 5) (h6 : takeN (openP l) 1 ≠ 6) : itemR l = none ∧ itemW l = 140 := by
 obtain ⟨a, r, e, ha, hw⟩ := item_head h
 have hf : fitsP [some 1] (openP l) := by rw [e]; exact firstFits ha
 have h0 : itemR l = none := by
  unfold itemR
  simp only
  rw [if_neg (not_not_intro hf), if_neg h1, if_neg (by rintro (x | x) <;> contradiction), if_neg h3, if_neg (by rintro (x | x) <;> contradiction)]
 refine ⟨h0, ?_⟩
 unfold itemW
 rw [h0, if_neg (by simp), if_pos ⟨hf, by show takeN (openP l) 1 = 0 ∨ 6 < takeN (openP l) 1; omega⟩]
/-- With a kind that is known: the error is 141. -/
theorem itemW_of {l : List UInt8} (h1 : 1 ≤ takeN (openP l) 1) (h2 : takeN (openP l) 1 ≤ 6) : itemW l = if (itemR l).isSome then 0 else 141 := by
 unfold itemW
 split
 ·rfl
 ·exact if_neg (by rintro ⟨_, h⟩; have h : takeN (openP l) 1 = 0 ∨ 6 < takeN (openP l) 1 := h; omega)
theorem end2 {α : Type} (f : List UInt8 → Option α) (r : List (List UInt8)) : endW (r.drop 1) (failW (nextW r 0) (if (f (nextP r)).isSome then 0 else 141)) = if (if r.length = 1 then f (nextP r) else none).isSome then 0 else 141 := by
 match r with
 | [] => exact rfl
 | [b] => rw [if_pos (show [b].length = 1 from rfl)]; rfl
 | b :: c :: s =>
  rw [if_neg (show ¬ (b :: c :: s).length = 1 by simp)]
  show (if (c :: s) = [] then _ else failW (failW (nextW (b :: c :: s) 0) (if (f b).isSome then 0 else 141)) 141) = 141
  rw [if_neg (by simp), nextW_cons, failW_0]
  split <;> rfl
theorem item_w1 {l : List UInt8} (h : ¬ ((W1 l : Nat) : Int) ≠ 0) (hk : takeN (openP l) 1 = 1) : endW (((openP l).drop 1).drop 1) (failW (nextW ((openP l).drop 1) (W1 l)) (if (letterR (nextP ((openP l).drop 1))).isSome then 0 else 141)) = itemW l ∧ ∀ y, itemR l = some y → y = ⟨1, 0, 0, (letterR (nextP ((openP l).drop 1))).getD letter0, bundle0, object0⟩ := by
 obtain ⟨a, r, e, ha, hw⟩ := item_head h
 have hf : fitsP [some 1] (openP l) := by rw [e]; exact firstFits ha
 have h0 : itemR l = (if r.length = 1 then letterR (nextP r) else none).map fun y => ⟨1, 0, 0, y, bundle0, object0⟩ := by
  unfold itemR
  simp only
  rw [if_neg (not_not_intro hf), if_pos hk, e]
  show (if r.length + 1 = 2 then _ else _) = _
  by_cases hl : r.length = 1
  ·rw [if_pos (by omega), if_pos hl]; rfl
  ·rw [if_neg (by omega), if_neg hl]; rfl
 rw [itemW_of (by omega) (by omega), h0, hw, e]
 refine ⟨(end2 letterR r).trans (by cases (if r.length = 1 then letterR (nextP r) else none) <;> rfl), fun y hy => ?_⟩
 obtain ⟨z, hz, rfl⟩ := Option.map_eq_some_iff.1 hy
 split at hz
 ·show _ = Itm.mk 1 0 0 ((letterR (nextP r)).getD letter0) bundle0 object0
  rw [hz]; rfl
 ·cases hz
theorem item_w5 {l : List UInt8} (h : ¬ ((W1 l : Nat) : Int) ≠ 0) (hk : takeN (openP l) 1 = 5 ∨ takeN (openP l) 1 = 6) : endW (((openP l).drop 1).drop 1) (failW (nextW ((openP l).drop 1) (W1 l)) (if (objectR (nextP ((openP l).drop 1))).isSome then 0 else 141)) = itemW l ∧ ∀ y, itemR l = some y → y = ⟨takeN (openP l) 1, 0, 0, letter0, bundle0, (objectR (nextP ((openP l).drop 1))).getD object0⟩ := by
 obtain ⟨a, r, e, ha, hw⟩ := item_head h
 have hf : fitsP [some 1] (openP l) := by rw [e]; exact firstFits ha
 have h0 : itemR l = (if r.length = 1 then objectR (nextP r) else none).map fun y => ⟨takeN (openP l) 1, 0, 0, letter0, bundle0, y⟩ := by
  unfold itemR
  simp only
  rw [if_neg (not_not_intro hf), if_neg (show ¬ itemK (openP l) = 1 by show ¬ takeN (openP l) 1 = 1; omega), if_neg (show ¬ (itemK (openP l) = 2 ∨ itemK (openP l) = 4) by show ¬ (takeN (openP l) 1 = 2 ∨ takeN (openP l) 1 = 4); omega), if_neg (show ¬ itemK (openP l) = 3 by show ¬ takeN (openP l) 1 = 3; omega), if_pos hk, e]
  show (if r.length + 1 = 2 then _ else _) = _
  by_cases hl : r.length = 1
  ·rw [if_pos (by omega), if_pos hl]; rfl
  ·rw [if_neg (by omega), if_neg hl]; rfl
 rw [itemW_of (by omega) (by omega), h0, hw]
 rw [e]
 refine ⟨(end2 objectR r).trans (by cases (if r.length = 1 then objectR (nextP r) else none) <;> rfl), fun y hy => ?_⟩
 obtain ⟨z, hz, rfl⟩ := Option.map_eq_some_iff.1 hy
 split at hz
 ·show _ = Itm.mk (takeN (a :: r) 1) 0 0 letter0 bundle0 ((objectR (nextP r)).getD object0)
  rw [hz]; rfl
 ·cases hz
theorem item_w2 {l : List UInt8} (h : ¬ ((W1 l : Nat) : Int) ≠ 0) (hk : takeN (openP l) 1 = 2 ∨ takeN (openP l) 1 = 4) : endW ((((openP l).drop 1).drop 1).drop 1) (failW (lenW (((openP l).drop 1).drop 1) (lenW ((openP l).drop 1) (W1 l) 1) 1) 0) = itemW l ∧ ∀ y, itemR l = some y → y = ⟨takeN (openP l) 1, takeN ((openP l).drop 1) 1, takeN (((openP l).drop 1).drop 1) 1, letter0, bundle0, object0⟩ := by
 obtain ⟨a, r, e, ha, hw⟩ := item_head h
 have hf : fitsP [some 1] (openP l) := by rw [e]; exact firstFits ha
 have h0 : itemR l = if fitsP [some 1, some 1, some 1] (openP l) ∧ (openP l).length = 3 then some ⟨takeN (openP l) 1, takeN ((openP l).drop 1) 1, takeN (((openP l).drop 1).drop 1) 1, letter0, bundle0, object0⟩ else none := by
  unfold itemR
  simp only
  rw [if_neg (not_not_intro hf), if_neg (show ¬ itemK (openP l) = 1 by show ¬ takeN (openP l) 1 = 1; omega), if_pos hk]
 refine ⟨?_, fun y hy => ?_⟩
 ·rw [itemW_of (by omega) (by omega), h0, hw]
  rw [e]
  have h2 : fitsP [some 1, some 1, some 1] (a :: r) ↔ fitsP [some 1, some 1] r := ⟨fun x => x.2, fun x => ⟨fun n e => by cases e; exact ha, x⟩⟩
  obtain ⟨h3, h4⟩ := takesW_0 [some 1, some 1] r
  have e3 : lenW (r.drop 1) (lenW r 0 1) 1 = takesW [some 1, some 1] r 0 := rfl
  show endW ((r.drop 1).drop 1) (failW (lenW (r.drop 1) (lenW r 0 1) 1) 0) = _
  rw [e3]
  by_cases hg : fitsP [some 1, some 1] r
  ·rw [h3 hg]
   match r, hg with
   | [b, c], hg => rw [if_pos (show fitsP [some 1, some 1, some 1] [a, b, c] ∧ [a, b, c].length = 3 from ⟨⟨fun n e => by cases e; exact ha, hg⟩, rfl⟩)]; rfl
   | b :: c :: d :: s, _ => rw [if_neg (show ¬ (fitsP [some 1, some 1, some 1] (a :: b :: c :: d :: s) ∧ (a :: b :: c :: d :: s).length = 3) from fun x => absurd x.2 (by simp))]; rfl
   | [_], hg => exact hg.2.elim
   | [], hg => exact hg.elim
  ·rw [h4 hg, if_neg (show ¬ (fitsP [some 1, some 1, some 1] (a :: r) ∧ (a :: r).length = 3) from fun x => hg (h2.1 x.1))]
   exact endW_141 _
 ·rw [h0] at hy
  split at hy
  ·exact (Option.some.inj hy).symm
  ·cases hy
theorem item_w3 {l : List UInt8} (h : ¬ ((W1 l : Nat) : Int) ≠ 0) (hk : takeN (openP l) 1 = 3) : endW ((((openP l).drop 1).drop 1).drop 1) (failW (nextW (((openP l).drop 1).drop 1) (lenW ((openP l).drop 1) (W1 l) 1)) (if (bundleR (nextP (((openP l).drop 1).drop 1))).isSome then 0 else 141)) = itemW l ∧ ∀ y, itemR l = some y → y = ⟨3, takeN ((openP l).drop 1) 1, 0, letter0, (bundleR (nextP (((openP l).drop 1).drop 1))).getD bundle0, object0⟩ := by
 obtain ⟨a, r, e, ha, hw⟩ := item_head h
 have hf : fitsP [some 1] (openP l) := by rw [e]; exact firstFits ha
 have h0 : itemR l = if fitsP [some 1, some 1, none] (openP l) ∧ (openP l).length = 3 then (bundleR (nextP (((openP l).drop 1).drop 1))).map (fun y => ⟨3, takeN ((openP l).drop 1) 1, 0, letter0, y, object0⟩) else none := by
  unfold itemR
  simp only
  rw [if_neg (not_not_intro hf), if_neg (show ¬ itemK (openP l) = 1 by show ¬ takeN (openP l) 1 = 1; omega), if_neg (show ¬ (itemK (openP l) = 2 ∨ itemK (openP l) = 4) by show ¬ (takeN (openP l) 1 = 2 ∨ takeN (openP l) 1 = 4); omega), if_pos (show itemK (openP l) = 3 from hk)]
 refine ⟨?_, fun y hy => ?_⟩
 ·rw [itemW_of (by omega) (by omega), h0, hw]
  rw [e]
  show endW ((r.drop 1).drop 1) (failW (nextW (r.drop 1) (lenW r 0 1)) (if (bundleR (nextP (r.drop 1))).isSome then 0 else 141)) = _
  match r with
  | [] =>
   rw [if_neg (show ¬ (fitsP [some 1, some 1, none] [a] ∧ [a].length = 3) from fun x => absurd x.2 (by simp))]; rfl
  | b :: s =>
   rw [lenW_cons]
   show endW (s.drop 1) (failW (nextW s (if b.length = 1 then 0 else 141)) (if (bundleR (nextP s)).isSome then 0 else 141)) = if (if fitsP [some 1, some 1, none] (a :: b :: s) ∧ (a :: b :: s).length = 3 then (bundleR (nextP s)).map (fun y => (⟨3, takeN (b :: s) 1, 0, letter0, y, object0⟩ : Itm)) else none).isSome then 0 else 141
   by_cases hb : b.length = 1
   ·rw [if_pos hb, end2 bundleR s]
    by_cases hl : s.length = 1
    ·rw [if_pos hl]
     have hfit : fitsP [some 1, some 1, none] (a :: b :: s) := by
      match s, hl with
      | [c], _ => exact ⟨fun n e => by cases e; exact ha, fun n e => by cases e; exact hb, fun n e => (by cases e), trivial⟩
     rw [if_pos (show fitsP [some 1, some 1, none] (a :: b :: s) ∧ (a :: b :: s).length = 3 from ⟨hfit, by simp [hl]⟩)]
     cases bundleR (nextP s) <;> rfl
    ·rw [if_neg hl, if_neg (show ¬ (fitsP [some 1, some 1, none] (a :: b :: s) ∧ (a :: b :: s).length = 3) from fun x => hl (by have h := x.2; simp only [List.length_cons] at h; omega))]; rfl
   ·rw [if_neg hb, nextW_141, failW_pos (by decide), endW_141, if_neg (show ¬ (fitsP [some 1, some 1, none] (a :: b :: s) ∧ (a :: b :: s).length = 3) from fun x => hb (x.1.2.1 1 rfl))]; rfl
 ·rw [h0] at hy
  split at hy
  ·obtain ⟨z, hz, rfl⟩ := Option.map_eq_some_iff.1 hy
   rw [hz]; rfl
  ·cases hy
/-- The end: what the number says. -/
theorem itemW_none {l : List UInt8} (h1 : 1 ≤ takeN (openP l) 1) (h2 : takeN (openP l) 1 ≤ 6) {n : Nat} (hn : ((n : Nat) : Int) ≠ 0) (h : n = itemW l) : itemR l = none ∧ itemW l = 141 := by
 rw [itemW_of h1 h2] at h
 obtain ⟨e1, e2⟩ := why_none hn h
 exact ⟨e1, by rw [itemW_of h1 h2, e1]; rfl⟩
theorem itemW_some {l : List UInt8} (h1 : 1 ≤ takeN (openP l) 1) (h2 : takeN (openP l) 1 ≤ 6) {n : Nat} (hn : ¬ ((n : Nat) : Int) ≠ 0) (h : n = itemW l) : ∃ x, itemR l = some x ∧ itemW l = 0 := by
 rw [itemW_of h1 h2] at h
 obtain ⟨x, e1⟩ := why_some hn h
 exact ⟨x, e1, by rw [itemW_of h1 h2, e1]; rfl⟩

end Go.Proofs.Ytcfecmoagfgnaaa

/- wire: what bytes are read as: items. -/
namespace Go.Proofs.Ytcfecmoagfgnaaa
open Go.Vc Go.Pl

theorem getItem_w {S : List Snap} {H : List Chunk} {w : World} (ho : Own S H w) {p : Option Addr} {l : List UInt8} {c : Nat} (hA : Bytes (keys H) w p l c) : Calls Try.prog 58 #[.slice p l.length c] w (Ret fun v w' => ∃ p c q d, v = .tuple #[.agg (cat (itemV ((itemR l).getD item0) p c q d)).toArray, .int .i64 ((itemW l : Nat) : Int)] ∧ Own S H w' ∧ Bytes (keys H) w' p ((itemR l).getD item0).letter.body c ∧ Arr 65 vouchR (keys H) w' q ((itemR l).getD item0).object.vouches d) := by
 refine enter (G := Own (⟨w, keys H⟩ :: S) H) ho.keep Try.func58 rfl Try.ntmps58 rfl ?_
 refine VC.sr ?_
 refine VL.alloc (L := itemL) (ps := (itemV (item0) none 0 none 0)) zero87 rfl rfl (fun g1 => ?_)
 refine VL.assign rfl ?_
 refine VL.nn ?_
 refine VC.sr ?_
 refine VL.move rfl ?_
 refine VL.call Try.func121 rfl (by decide) rfl (fun w' hw => open_R hw (hA.nowA (s := ⟨w, _⟩) Mono.byte hw)) (fun v => ?_)
 refine VL.ex fun g2 => VL.fact fun e3 => ?_
 subst e3
 refine VL.assign rfl ?_
 refine VL.nn ?_
 refine VC.sr ?_
 refine VL.move rfl ?_
 refine VL.call Try.func122 rfl (by decide) rfl (fun w' hw => byte_R (i := 0) rfl hw) (fun v => ?_)
 refine VL.fact fun e4 => ?_
 subst e4
 refine VL.set0 ?_
 refine VL.build (zs := itemZ) (L := itemFL) [(0, [.int .u8 (takeN (openP (l)) 1)])] plan87 rfl ⟨⟨rfl, ⟨_, rfl, rfl⟩, rfl⟩, trivial⟩ rfl ?_
 refine VL.newv (v' := .agg (cat (itemV ((Itm.mk (takeN (openP l) 1) 0 0 letter0 bundle0 object0)) none 0 none 0)).toArray) (by kernel_rfl) ?_
 refine VL.alloc (L := itemL) (ps := (itemV (item0) none 0 none 0)) zero87 rfl rfl (fun g5 => ?_)
 refine VL.store (L := itemL) (qs := (itemV ((Itm.mk (takeN (openP l) 1) 0 0 letter0 bundle0 object0)) none 0 none 0)) (ps' := (itemV ((Itm.mk (takeN (openP l) 1) 0 0 letter0 bundle0 object0)) none 0 none 0)) 0 0 28 rfl rfl rfl (.inl kd87) rfl rfl (itemV_len (⟨takeN_lt _ 1, show (0 : Nat) < 256 by decide, show (0 : Nat) < 256 by decide, letter0_ok, bundle0_ok, object0_ok⟩ : Itm.ok _)) (itemV_ok1 ((Itm.mk (takeN (openP l) 1) 0 0 letter0 bundle0 object0)) none 0 none 0) rfl rfl ?_
 refine VL.set0 ?_
 refine VL.nn ?_
 refine VC.seq ?_
 refine VC.sr ?_
 refine VL.move rfl ?_
 refine VL.nilCheck rfl ?_
 refine VL.fieldAddr rfl fo196_1 rfl ?_
 refine loadWhy 1 rfl (fun _ h => h) rfl ?_
 refine VL.neq rfl rfl ?_
 refine VL.case (fun h3_4 => ?_) (fun h3_4 => ?_)
 ·refine VL.nn ?_
  refine VC.yes rfl ?_
  refine VC.seq ?_
  apply VC.anyTA 6 1007 (F := [eqF _, eqF _, eqF _, eqF _, eqF _, eqF _]) [⟨[], []⟩, ⟨[], [4]⟩, ⟨[(18, 1)], []⟩, ⟨[(19, 2)], []⟩, ⟨[(20, 3)], []⟩, ⟨[(17, 0)], [2]⟩] [(21, 4)] [0, 2, 3, 4, 5, 6, 7, 8, 9, 10, 11, 12, 13, 14, 15, 16, 22, 23, 24, 25, 26, 27, 28, 29, 30, 31, 32, 33, 34, 35, 36, 37, 38, 39, 40, 41, 42, 43, 44, 45, 46, 47, 48, 49, 50, 51, 52, 53, 54, 55, 56, 57, 58, 59, 60, 61, 62, 63, 64, 65, 66, 68, 69, 70, 71, 72] rfl (by kernel_rfl) (by kernel_rfl) rfl rfl (by kernel_rfl) (by kernel_rfl) (by kernel_rfl) rfl ?obs4 ?end4
  case obs4 =>
   refine Obs.cons ?_ ?_
   ·refine obS (by kernel_rfl) rfl rfl (fun ph4 w4 hO4 => ?_)
    refine VL.build0 (cs := cat (itemV (item0) none 0 none 0)) built87 ?_
    exact VL.finS hO4 rfl rfl
   refine Obs.cons ?_ ?_
   ·refine obS (by kernel_rfl) rfl rfl (fun ph4 w4 hO4 => ?_)
    refine VL.move rfl ?_
    exact VL.finS hO4 rfl rfl
   refine Obs.cons ?_ ?_
   ·refine obS (by kernel_rfl) rfl rfl (fun ph4 w4 hO4 => ?_)
    rintro _ rfl
    refine VL.nilCheck rfl ?_
    exact VL.finS hO4 rfl rfl
   refine Obs.cons ?_ ?_
   ·refine obS (by kernel_rfl) rfl rfl (fun ph4 w4 hO4 => ?_)
    rintro _ rfl
    refine VL.fieldAddr rfl fo196_1 rfl ?_
    exact VL.finS hO4 rfl rfl
   refine Obs.cons ?_ ?_
   ·refine ob (by kernel_rfl) rfl (by kernel_rfl) rfl (fun w4 hO4 => ?_)
    rintro _ rfl
    refine loadWhy 1 rfl (fun _ e => e ▸ hO4) rfl ?_
    exact VL.finS hO4 rfl rfl
   refine Obs.cons ?_ ?_
   ·refine ob (by kernel_rfl) rfl (by kernel_rfl) rfl (fun w4 hO4 => ?_)
    rintro _ rfl
    refine VL.toOwn hO4 ?_
    refine VL.store (L := itemL) (qs := (itemV (item0) none 0 none 0)) (ps' := (itemV (item0) none 0 none 0)) 2 0 28 rfl rfl rfl (.inl kd87) rfl rfl (itemV_len item0_ok) (itemV_ok1 item0 none 0 none 0) rfl rfl ?_
    refine VL.set2 ?_
    exact VL.finO0 (fun _ h => h) (fun _ h => rfl)
   exact Obs.nil
  case end4 =>
   intro w4 hO4
   rintro _ rfl
   refine VL.toOwn hO4 ?_
   refine VL.assign rfl ?_
   refine VL.nn ?_
   refine VC.ret ?_
   refine VX.then_ret ?_
   refine VX.ret_cell (cs := cat (itemV (item0) none 0 none 0)) 2 rfl rfl rfl (by rw [cat_size (itemV_len item0_ok)]; exact kd87) (fun _ h => h) rfl rfl (fun we hw => ?_)
   obtain ⟨e1, e2⟩ := item_w0 h3_4
   exact ⟨none, 0, none, 0, by rw [e1]; exact congrArg (fun n : Nat => Value.tuple #[_, .int .i64 (n : Int)]) (e2).symm, hw.drop.drop.drop.subA, by rw [e1]; exact Arr.none, by rw [e1]; exact Arr.none⟩
 ·refine VL.nn ?_
  refine VC.no rfl ?_
  refine VC.skip ?_
  refine VX.next ?_
  refine VC.sr ?_
  refine VL.assign rfl ?_
  refine VL.nn ?_
  refine VC.seq ?_
  refine VC.sr ?_
  refine VL.fieldAddr rfl fo87_0 rfl ?_
  refine VL.load (v := .int .u8 ((Itm.mk (takeN (openP l) 1) 0 0 letter0 bundle0 object0).kind)) 0 0 rfl kd5 (fun _ h => h) rfl rfl rfl ?_
  refine VL.nn ?_
  refine VC.block ?_
  refine VC.sr ?_
  refine VL.eql rfl rfl ?_
  refine VL.case (fun h8_0 => ?_) (fun h8_0 => ?_)
  ·have h8_0 : takeN (openP l) 1 = 1 := by have h : ((takeN (openP l) 1 : Nat) : Int) = 1 := h8_0; omega
   refine VL.assign rfl ?_
   refine VL.nn ?_
   refine VC.yes rfl ?_
   refine VC.region ?_
   refine VL.move rfl ?_
   refine VL.call Try.func124 rfl (by decide) rfl (fun w' hw => piece_R (i := 1) rfl hw) (fun v => ?_)
   refine VL.at (fun w6 h1w => ?_)
   obtain ⟨p7, c8, rfl, hO10, hA9⟩ := h1w
   replace hO10 := ownSet1 hO10
   replace hA9 := arrSet1 hA9
   refine VL.toOwn hO10 ?_
   refine VL.call Try.func54 rfl (by decide) rfl (fun w' hw => getLetter_w hw (hA9.nowA (s := ⟨w6, _⟩) Mono.byte hw)) (fun v => ?_)
   refine VL.at (fun w11 h1w => ?_)
   obtain ⟨p13, c14, rfl, hO12, hA15⟩ := h1w
   refine VL.toOwn hO12 ?_
   refine VL.move rfl ?_
   refine VL.extract rfl rfl ?_
   refine VL.extract rfl rfl ?_
   refine VL.fieldAddr rfl fo87_3 rfl ?_
   refine VL.store (L := itemL) (qs := (letterV (((letterR (nextP ((openP (l)).drop 1))).getD letter0)) p13 c14)) 0 3 12 rfl rfl rfl (.inl kd72) rfl rfl (letterV_len (letterR_ok (nextP ((openP (l)).drop 1)))) (letterV_ok1 (((letterR (nextP ((openP (l)).drop 1))).getD letter0)) p13 c14) rfl rfl ?_
   refine VL.set0 ?_
   refine VL.assign rfl ?_
   refine VL.nil ?_
   refine VX.block_normal ?_
   refine VX.next ?_
   refine VC.sr ?_
   refine VL.move rfl ?_
   refine VL.move rfl ?_
   refine VL.call Try.func125 rfl (by decide) rfl (fun w' hw => fail_R (i := 1) rfl hw (if (letterR (nextP ((openP (l)).drop 1))).isSome then 0 else 141)) (fun v => ?_)
   refine VL.fact fun e16 => ?_
   subst e16
   refine VL.set1 ?_
   refine VL.nn ?_
   refine VC.seq ?_
   refine VC.sr ?_
   refine VL.move rfl ?_
   refine VL.call Try.func126 rfl (by decide) rfl (fun w' hw => end_R (i := 1) rfl hw) (fun v => ?_)
   refine VL.fact fun e17 => ?_
   subst e17
   refine VL.set1 ?_
   refine VL.neq rfl rfl ?_
   refine VL.case (fun h20_2 => ?_) (fun h20_2 => ?_)
   ·refine VL.nn ?_
    refine VC.yes rfl ?_
    refine VC.sr ?_
    refine VL.build0 (cs := cat (itemV (item0) none 0 none 0)) built87 ?_
    refine VL.store (L := itemL) (qs := (itemV (item0) none 0 none 0)) (ps' := (itemV (item0) none 0 none 0)) 2 0 28 rfl rfl rfl (.inl kd87) rfl rfl (itemV_len item0_ok) (itemV_ok1 item0 none 0 none 0) rfl rfl ?_
    refine VL.set2 ?_
    refine VL.assign rfl ?_
    refine VL.nn ?_
    refine VC.ret ?_
    refine VX.then_ret ?_
    refine VX.ret_cell (cs := cat (itemV (item0) none 0 none 0)) 2 rfl rfl rfl (by rw [cat_size (itemV_len item0_ok)]; exact kd87) (fun _ h => h) rfl rfl (fun we hw => ?_)
    obtain ⟨hn1, _⟩ := item_w1 h3_4 h8_0
    obtain ⟨e1, e2⟩ := itemW_none (by omega) (by omega) h20_2 hn1
    exact ⟨none, 0, none, 0, by rw [e1]; exact congrArg (fun n : Nat => Value.tuple #[_, .int .i64 (n : Int)]) (e2).symm, hw.drop.drop.drop.subA, by rw [e1]; exact Arr.none, by rw [e1]; exact Arr.none⟩
   ·refine VL.nn ?_
    refine VC.no rfl ?_
    refine VC.skip ?_
    refine VX.next ?_
    refine VC.sr ?_
    refine VL.loads (cs := cat (itemV ((Itm.mk (takeN (openP l) 1) 0 0 ((letterR (nextP ((openP l).drop 1))).getD letter0) bundle0 object0)) p13 c14 none 0)) 0 0 28 rfl kd87 (fun _ h => h) rfl rfl rfl rfl ?_
    refine VL.store (L := itemL) (qs := (itemV ((Itm.mk (takeN (openP l) 1) 0 0 ((letterR (nextP ((openP l).drop 1))).getD letter0) bundle0 object0)) p13 c14 none 0)) (ps' := (itemV ((Itm.mk (takeN (openP l) 1) 0 0 ((letterR (nextP ((openP l).drop 1))).getD letter0) bundle0 object0)) p13 c14 none 0)) 2 0 28 rfl rfl rfl (.inl kd87) rfl rfl (itemV_len (⟨takeN_lt _ 1, (show (0 : Nat) < 256 by decide), (show (0 : Nat) < 256 by decide), (letterR_ok _), bundle0_ok, object0_ok⟩ : Itm.ok _)) (itemV_ok1 ((Itm.mk (takeN (openP l) 1) 0 0 ((letterR (nextP ((openP l).drop 1))).getD letter0) bundle0 object0)) p13 c14 none 0) rfl rfl ?_
    refine VL.set2 ?_
    refine VL.assign rfl ?_
    refine VL.nn ?_
    refine VC.ret ?_
    refine VX.ret_cell (cs := cat (itemV ((Itm.mk (takeN (openP l) 1) 0 0 ((letterR (nextP ((openP l).drop 1))).getD letter0) bundle0 object0)) p13 c14 none 0)) 2 rfl rfl rfl (by rw [cat_size (itemV_len (⟨takeN_lt _ 1, (show (0 : Nat) < 256 by decide), (show (0 : Nat) < 256 by decide), (letterR_ok _), bundle0_ok, object0_ok⟩ : Itm.ok _))]; exact kd87) (fun _ h => h) rfl rfl (fun we hw => ?_)
    obtain ⟨hn1, hn2⟩ := item_w1 h3_4 h8_0
    obtain ⟨y, e1, e2⟩ := itemW_some (by omega) (by omega) h20_2 hn1
    have e3 := hn2 y e1
    have e4 := h8_0
    rw [e1, e2, e3]
    exact ⟨_, _, _, _, by rw [e4]; rfl, hw.drop.drop.drop.subA, (hA15.nowA (s := ⟨w11, _⟩) Mono.byte hw.drop.drop.drop), Arr.none⟩
  ·have h8_0 : takeN (openP l) 1 ≠ 1 := by have h : ¬ ((takeN (openP l) 1 : Nat) : Int) = 1 := h8_0; omega
   refine VL.assign rfl ?_
   refine VL.nn ?_
   refine VC.no rfl ?_
   refine VC.seq ?_
   refine VC.sr ?_
   refine VL.eql rfl rfl ?_
   refine VL.case (fun h10_0 => ?_) (fun h10_0 => ?_)
   ·have h10_0 : takeN (openP l) 1 = 2 := by have h : ((takeN (openP l) 1 : Nat) : Int) = 2 := h10_0; omega
    refine VL.assign rfl ?_
    refine VL.nn ?_
    refine VC.yes rfl ?_
    refine VC.skip ?_
    refine VX.next ?_
    refine VC.yes rfl ?_
    refine VC.region ?_
    refine VL.move rfl ?_
    refine VL.call Try.func122 rfl (by decide) rfl (fun w' hw => byte_R (i := 1) rfl hw) (fun v => ?_)
    refine VL.fact fun e18 => ?_
    subst e18
    refine VL.set1 ?_
    refine VL.move rfl ?_
    refine VL.call Try.func122 rfl (by decide) rfl (fun w' hw => byte_R (i := 1) rfl hw) (fun v => ?_)
    refine VL.fact fun e19 => ?_
    subst e19
    refine VL.set1 ?_
    refine VL.fieldAddr rfl fo87_1 rfl ?_
    refine VL.store (L := itemL) (qs := [[.int .u8 (takeN ((openP (l)).drop 1) 1)]]) 0 1 1 rfl rfl rfl (.inr ⟨kd5, rfl⟩) rfl rfl rfl (by intro u hu; simp [cat] at hu; subst hu; rfl) rfl rfl ?_
    refine VL.set0 ?_
    refine VL.fieldAddr rfl fo87_2 rfl ?_
    refine VL.store (L := itemL) (qs := [[.int .u8 (takeN (((openP (l)).drop 1).drop 1) 1)]]) 0 2 1 rfl rfl rfl (.inr ⟨kd5, rfl⟩) rfl rfl rfl (by intro u hu; simp [cat] at hu; subst hu; rfl) rfl rfl ?_
    refine VL.set0 ?_
    refine VL.nil ?_
    refine VX.block_normal ?_
    refine VX.next ?_
    refine VC.sr ?_
    refine VL.move rfl ?_
    refine VL.move rfl ?_
    refine VL.call Try.func125 rfl (by decide) rfl (fun w' hw => fail_R (i := 1) rfl hw (0)) (fun v => ?_)
    refine VL.fact fun e20 => ?_
    subst e20
    refine VL.set1 ?_
    refine VL.nn ?_
    refine VC.seq ?_
    refine VC.sr ?_
    refine VL.move rfl ?_
    refine VL.call Try.func126 rfl (by decide) rfl (fun w' hw => end_R (i := 1) rfl hw) (fun v => ?_)
    refine VL.fact fun e21 => ?_
    subst e21
    refine VL.set1 ?_
    refine VL.neq rfl rfl ?_
    refine VL.case (fun h20_2 => ?_) (fun h20_2 => ?_)
    ·refine VL.nn ?_
     refine VC.yes rfl ?_
     refine VC.sr ?_
     refine VL.build0 (cs := cat (itemV (item0) none 0 none 0)) built87 ?_
     refine VL.store (L := itemL) (qs := (itemV (item0) none 0 none 0)) (ps' := (itemV (item0) none 0 none 0)) 2 0 28 rfl rfl rfl (.inl kd87) rfl rfl (itemV_len item0_ok) (itemV_ok1 item0 none 0 none 0) rfl rfl ?_
     refine VL.set2 ?_
     refine VL.assign rfl ?_
     refine VL.nn ?_
     refine VC.ret ?_
     refine VX.then_ret ?_
     refine VX.ret_cell (cs := cat (itemV (item0) none 0 none 0)) 2 rfl rfl rfl (by rw [cat_size (itemV_len item0_ok)]; exact kd87) (fun _ h => h) rfl rfl (fun we hw => ?_)
     obtain ⟨hn1, _⟩ := item_w2 h3_4 (.inl h10_0)
     obtain ⟨e1, e2⟩ := itemW_none (by omega) (by omega) h20_2 hn1
     exact ⟨none, 0, none, 0, by rw [e1]; exact congrArg (fun n : Nat => Value.tuple #[_, .int .i64 (n : Int)]) (e2).symm, hw.drop.drop.drop.subA, by rw [e1]; exact Arr.none, by rw [e1]; exact Arr.none⟩
    ·refine VL.nn ?_
     refine VC.no rfl ?_
     refine VC.skip ?_
     refine VX.next ?_
     refine VC.sr ?_
     refine VL.loads (cs := cat (itemV ((Itm.mk (takeN (openP l) 1) (takeN ((openP l).drop 1) 1) (takeN (((openP l).drop 1).drop 1) 1) letter0 bundle0 object0)) none 0 none 0)) 0 0 28 rfl kd87 (fun _ h => h) rfl rfl rfl rfl ?_
     refine VL.store (L := itemL) (qs := (itemV ((Itm.mk (takeN (openP l) 1) (takeN ((openP l).drop 1) 1) (takeN (((openP l).drop 1).drop 1) 1) letter0 bundle0 object0)) none 0 none 0)) (ps' := (itemV ((Itm.mk (takeN (openP l) 1) (takeN ((openP l).drop 1) 1) (takeN (((openP l).drop 1).drop 1) 1) letter0 bundle0 object0)) none 0 none 0)) 2 0 28 rfl rfl rfl (.inl kd87) rfl rfl (itemV_len (⟨takeN_lt _ 1, (takeN_lt _ 1), (takeN_lt _ 1), letter0_ok, bundle0_ok, object0_ok⟩ : Itm.ok _)) (itemV_ok1 ((Itm.mk (takeN (openP l) 1) (takeN ((openP l).drop 1) 1) (takeN (((openP l).drop 1).drop 1) 1) letter0 bundle0 object0)) none 0 none 0) rfl rfl ?_
     refine VL.set2 ?_
     refine VL.assign rfl ?_
     refine VL.nn ?_
     refine VC.ret ?_
     refine VX.ret_cell (cs := cat (itemV ((Itm.mk (takeN (openP l) 1) (takeN ((openP l).drop 1) 1) (takeN (((openP l).drop 1).drop 1) 1) letter0 bundle0 object0)) none 0 none 0)) 2 rfl rfl rfl (by rw [cat_size (itemV_len (⟨takeN_lt _ 1, (takeN_lt _ 1), (takeN_lt _ 1), letter0_ok, bundle0_ok, object0_ok⟩ : Itm.ok _))]; exact kd87) (fun _ h => h) rfl rfl (fun we hw => ?_)
     obtain ⟨hn1, hn2⟩ := item_w2 h3_4 (.inl h10_0)
     obtain ⟨y, e1, e2⟩ := itemW_some (by omega) (by omega) h20_2 hn1
     have e3 := hn2 y e1
     rw [e1, e2, e3]
     exact ⟨_, _, _, _, rfl, hw.drop.drop.drop.subA, Arr.none, Arr.none⟩
   ·have h10_0 : takeN (openP l) 1 ≠ 2 := by have h : ¬ ((takeN (openP l) 1 : Nat) : Int) = 2 := h10_0; omega
    refine VL.assign rfl ?_
    refine VL.nn ?_
    refine VC.no rfl ?_
    refine VC.region ?_
    refine VL.eql rfl rfl ?_
    refine VL.case (fun h11_0 => ?_) (fun h11_0 => ?_)
    ·have h11_0 : takeN (openP l) 1 = 4 := by have h : ((takeN (openP l) 1 : Nat) : Int) = 4 := h11_0; omega
     refine VL.assign rfl ?_
     refine VL.nn ?_
     refine VC.yes rfl ?_
     refine VC.region ?_
     refine VL.move rfl ?_
     refine VL.call Try.func122 rfl (by decide) rfl (fun w' hw => byte_R (i := 1) rfl hw) (fun v => ?_)
     refine VL.fact fun e22 => ?_
     subst e22
     refine VL.set1 ?_
     refine VL.move rfl ?_
     refine VL.call Try.func122 rfl (by decide) rfl (fun w' hw => byte_R (i := 1) rfl hw) (fun v => ?_)
     refine VL.fact fun e23 => ?_
     subst e23
     refine VL.set1 ?_
     refine VL.fieldAddr rfl fo87_1 rfl ?_
     refine VL.store (L := itemL) (qs := [[.int .u8 (takeN ((openP (l)).drop 1) 1)]]) 0 1 1 rfl rfl rfl (.inr ⟨kd5, rfl⟩) rfl rfl rfl (by intro u hu; simp [cat] at hu; subst hu; rfl) rfl rfl ?_
     refine VL.set0 ?_
     refine VL.fieldAddr rfl fo87_2 rfl ?_
     refine VL.store (L := itemL) (qs := [[.int .u8 (takeN (((openP (l)).drop 1).drop 1) 1)]]) 0 2 1 rfl rfl rfl (.inr ⟨kd5, rfl⟩) rfl rfl rfl (by intro u hu; simp [cat] at hu; subst hu; rfl) rfl rfl ?_
     refine VL.set0 ?_
     refine VL.nil ?_
     refine VX.block_normal ?_
     refine VX.next ?_
     refine VC.sr ?_
     refine VL.move rfl ?_
     refine VL.move rfl ?_
     refine VL.call Try.func125 rfl (by decide) rfl (fun w' hw => fail_R (i := 1) rfl hw (0)) (fun v => ?_)
     refine VL.fact fun e24 => ?_
     subst e24
     refine VL.set1 ?_
     refine VL.nn ?_
     refine VC.seq ?_
     refine VC.sr ?_
     refine VL.move rfl ?_
     refine VL.call Try.func126 rfl (by decide) rfl (fun w' hw => end_R (i := 1) rfl hw) (fun v => ?_)
     refine VL.fact fun e25 => ?_
     subst e25
     refine VL.set1 ?_
     refine VL.neq rfl rfl ?_
     refine VL.case (fun h20_2 => ?_) (fun h20_2 => ?_)
     ·refine VL.nn ?_
      refine VC.yes rfl ?_
      refine VC.sr ?_
      refine VL.build0 (cs := cat (itemV (item0) none 0 none 0)) built87 ?_
      refine VL.store (L := itemL) (qs := (itemV (item0) none 0 none 0)) (ps' := (itemV (item0) none 0 none 0)) 2 0 28 rfl rfl rfl (.inl kd87) rfl rfl (itemV_len item0_ok) (itemV_ok1 item0 none 0 none 0) rfl rfl ?_
      refine VL.set2 ?_
      refine VL.assign rfl ?_
      refine VL.nn ?_
      refine VC.ret ?_
      refine VX.then_ret ?_
      refine VX.ret_cell (cs := cat (itemV (item0) none 0 none 0)) 2 rfl rfl rfl (by rw [cat_size (itemV_len item0_ok)]; exact kd87) (fun _ h => h) rfl rfl (fun we hw => ?_)
      obtain ⟨hn1, _⟩ := item_w2 h3_4 (.inr h11_0)
      obtain ⟨e1, e2⟩ := itemW_none (by omega) (by omega) h20_2 hn1
      exact ⟨none, 0, none, 0, by rw [e1]; exact congrArg (fun n : Nat => Value.tuple #[_, .int .i64 (n : Int)]) (e2).symm, hw.drop.drop.drop.subA, by rw [e1]; exact Arr.none, by rw [e1]; exact Arr.none⟩
     ·refine VL.nn ?_
      refine VC.no rfl ?_
      refine VC.skip ?_
      refine VX.next ?_
      refine VC.sr ?_
      refine VL.loads (cs := cat (itemV ((Itm.mk (takeN (openP l) 1) (takeN ((openP l).drop 1) 1) (takeN (((openP l).drop 1).drop 1) 1) letter0 bundle0 object0)) none 0 none 0)) 0 0 28 rfl kd87 (fun _ h => h) rfl rfl rfl rfl ?_
      refine VL.store (L := itemL) (qs := (itemV ((Itm.mk (takeN (openP l) 1) (takeN ((openP l).drop 1) 1) (takeN (((openP l).drop 1).drop 1) 1) letter0 bundle0 object0)) none 0 none 0)) (ps' := (itemV ((Itm.mk (takeN (openP l) 1) (takeN ((openP l).drop 1) 1) (takeN (((openP l).drop 1).drop 1) 1) letter0 bundle0 object0)) none 0 none 0)) 2 0 28 rfl rfl rfl (.inl kd87) rfl rfl (itemV_len (⟨takeN_lt _ 1, (takeN_lt _ 1), (takeN_lt _ 1), letter0_ok, bundle0_ok, object0_ok⟩ : Itm.ok _)) (itemV_ok1 ((Itm.mk (takeN (openP l) 1) (takeN ((openP l).drop 1) 1) (takeN (((openP l).drop 1).drop 1) 1) letter0 bundle0 object0)) none 0 none 0) rfl rfl ?_
      refine VL.set2 ?_
      refine VL.assign rfl ?_
      refine VL.nn ?_
      refine VC.ret ?_
      refine VX.ret_cell (cs := cat (itemV ((Itm.mk (takeN (openP l) 1) (takeN ((openP l).drop 1) 1) (takeN (((openP l).drop 1).drop 1) 1) letter0 bundle0 object0)) none 0 none 0)) 2 rfl rfl rfl (by rw [cat_size (itemV_len (⟨takeN_lt _ 1, (takeN_lt _ 1), (takeN_lt _ 1), letter0_ok, bundle0_ok, object0_ok⟩ : Itm.ok _))]; exact kd87) (fun _ h => h) rfl rfl (fun we hw => ?_)
      obtain ⟨hn1, hn2⟩ := item_w2 h3_4 (.inr h11_0)
      obtain ⟨y, e1, e2⟩ := itemW_some (by omega) (by omega) h20_2 hn1
      have e3 := hn2 y e1
      rw [e1, e2, e3]
      exact ⟨_, _, _, _, rfl, hw.drop.drop.drop.subA, Arr.none, Arr.none⟩
    ·have h11_0 : takeN (openP l) 1 ≠ 4 := by have h : ¬ ((takeN (openP l) 1 : Nat) : Int) = 4 := h11_0; omega
     refine VL.assign rfl ?_
     refine VL.nn ?_
     refine VC.no rfl ?_
     refine VC.sr ?_
     refine VL.eql rfl rfl ?_
     refine VL.case (fun h13_0 => ?_) (fun h13_0 => ?_)
     ·have h13_0 : takeN (openP l) 1 = 3 := by have h : ((takeN (openP l) 1 : Nat) : Int) = 3 := h13_0; omega
      refine VL.assign rfl ?_
      refine VL.nn ?_
      refine VC.yes rfl ?_
      refine VC.sr ?_
      refine VL.move rfl ?_
      refine VL.call Try.func122 rfl (by decide) rfl (fun w' hw => byte_R (i := 1) rfl hw) (fun v => ?_)
      refine VL.fact fun e26 => ?_
      subst e26
      refine VL.set1 ?_
      refine VL.fieldAddr rfl fo87_1 rfl ?_
      refine VL.store (L := itemL) (qs := [[.int .u8 (takeN ((openP (l)).drop 1) 1)]]) 0 1 1 rfl rfl rfl (.inr ⟨kd5, rfl⟩) rfl rfl rfl (by intro u hu; simp [cat] at hu; subst hu; rfl) rfl rfl ?_
      refine VL.set0 ?_
      refine VL.nn ?_
      refine VC.region ?_
      refine VL.move rfl ?_
      refine VL.call Try.func124 rfl (by decide) rfl (fun w' hw => piece_R (i := 1) rfl hw) (fun v => ?_)
      refine VL.at (fun w27 h1w => ?_)
      obtain ⟨p28, c29, rfl, hO31, hA30⟩ := h1w
      replace hO31 := ownSet1 hO31
      replace hA30 := arrSet1 hA30
      refine VL.toOwn hO31 ?_
      refine VL.call Try.func61 rfl (by decide) rfl (fun w' hw => getBundle_w hw (hA30.nowA (s := ⟨w27, _⟩) Mono.byte hw)) (fun v => ?_)
      refine VL.fact fun e32 => ?_
      subst e32
      refine VL.move rfl ?_
      refine VL.extract rfl rfl ?_
      refine VL.extract rfl rfl ?_
      refine VL.fieldAddr rfl fo87_4 rfl ?_
      refine VL.store (L := itemL) (qs := (bundleV (((bundleR (nextP (((openP (l)).drop 1).drop 1))).getD bundle0)))) 0 15 6 rfl rfl rfl (.inl kd82) rfl rfl (bundleV_len (bundleR_ok (nextP (((openP (l)).drop 1).drop 1)))) (bundleV_ok1 (((bundleR (nextP (((openP (l)).drop 1).drop 1))).getD bundle0))) rfl rfl ?_
      refine VL.set0 ?_
      refine VL.assign rfl ?_
      refine VL.nil ?_
      refine VX.block_normal ?_
      refine VX.next ?_
      refine VC.sr ?_
      refine VL.move rfl ?_
      refine VL.move rfl ?_
      refine VL.call Try.func125 rfl (by decide) rfl (fun w' hw => fail_R (i := 1) rfl hw (if (bundleR (nextP (((openP (l)).drop 1).drop 1))).isSome then 0 else 141)) (fun v => ?_)
      refine VL.fact fun e33 => ?_
      subst e33
      refine VL.set1 ?_
      refine VL.nn ?_
      refine VC.seq ?_
      refine VC.sr ?_
      refine VL.move rfl ?_
      refine VL.call Try.func126 rfl (by decide) rfl (fun w' hw => end_R (i := 1) rfl hw) (fun v => ?_)
      refine VL.fact fun e34 => ?_
      subst e34
      refine VL.set1 ?_
      refine VL.neq rfl rfl ?_
      refine VL.case (fun h20_2 => ?_) (fun h20_2 => ?_)
      ·refine VL.nn ?_
       refine VC.yes rfl ?_
       refine VC.sr ?_
       refine VL.build0 (cs := cat (itemV (item0) none 0 none 0)) built87 ?_
       refine VL.store (L := itemL) (qs := (itemV (item0) none 0 none 0)) (ps' := (itemV (item0) none 0 none 0)) 2 0 28 rfl rfl rfl (.inl kd87) rfl rfl (itemV_len item0_ok) (itemV_ok1 item0 none 0 none 0) rfl rfl ?_
       refine VL.set2 ?_
       refine VL.assign rfl ?_
       refine VL.nn ?_
       refine VC.ret ?_
       refine VX.then_ret ?_
       refine VX.ret_cell (cs := cat (itemV (item0) none 0 none 0)) 2 rfl rfl rfl (by rw [cat_size (itemV_len item0_ok)]; exact kd87) (fun _ h => h) rfl rfl (fun we hw => ?_)
       obtain ⟨hn1, _⟩ := item_w3 h3_4 h13_0
       obtain ⟨e1, e2⟩ := itemW_none (by omega) (by omega) h20_2 hn1
       exact ⟨none, 0, none, 0, by rw [e1]; exact congrArg (fun n : Nat => Value.tuple #[_, .int .i64 (n : Int)]) (e2).symm, hw.drop.drop.drop.subA, by rw [e1]; exact Arr.none, by rw [e1]; exact Arr.none⟩
      ·refine VL.nn ?_
       refine VC.no rfl ?_
       refine VC.skip ?_
       refine VX.next ?_
       refine VC.sr ?_
       refine VL.loads (cs := cat (itemV ((Itm.mk (takeN (openP l) 1) (takeN ((openP l).drop 1) 1) 0 letter0 ((bundleR (nextP (((openP l).drop 1).drop 1))).getD bundle0) object0)) none 0 none 0)) 0 0 28 rfl kd87 (fun _ h => h) rfl rfl rfl rfl ?_
       refine VL.store (L := itemL) (qs := (itemV ((Itm.mk (takeN (openP l) 1) (takeN ((openP l).drop 1) 1) 0 letter0 ((bundleR (nextP (((openP l).drop 1).drop 1))).getD bundle0) object0)) none 0 none 0)) (ps' := (itemV ((Itm.mk (takeN (openP l) 1) (takeN ((openP l).drop 1) 1) 0 letter0 ((bundleR (nextP (((openP l).drop 1).drop 1))).getD bundle0) object0)) none 0 none 0)) 2 0 28 rfl rfl rfl (.inl kd87) rfl rfl (itemV_len (⟨takeN_lt _ 1, (takeN_lt _ 1), (show (0 : Nat) < 256 by decide), letter0_ok, (bundleR_ok _), object0_ok⟩ : Itm.ok _)) (itemV_ok1 ((Itm.mk (takeN (openP l) 1) (takeN ((openP l).drop 1) 1) 0 letter0 ((bundleR (nextP (((openP l).drop 1).drop 1))).getD bundle0) object0)) none 0 none 0) rfl rfl ?_
       refine VL.set2 ?_
       refine VL.assign rfl ?_
       refine VL.nn ?_
       refine VC.ret ?_
       refine VX.ret_cell (cs := cat (itemV ((Itm.mk (takeN (openP l) 1) (takeN ((openP l).drop 1) 1) 0 letter0 ((bundleR (nextP (((openP l).drop 1).drop 1))).getD bundle0) object0)) none 0 none 0)) 2 rfl rfl rfl (by rw [cat_size (itemV_len (⟨takeN_lt _ 1, (takeN_lt _ 1), (show (0 : Nat) < 256 by decide), letter0_ok, (bundleR_ok _), object0_ok⟩ : Itm.ok _))]; exact kd87) (fun _ h => h) rfl rfl (fun we hw => ?_)
       obtain ⟨hn1, hn2⟩ := item_w3 h3_4 h13_0
       obtain ⟨y, e1, e2⟩ := itemW_some (by omega) (by omega) h20_2 hn1
       have e3 := hn2 y e1
       have e4 := h13_0
       rw [e1, e2, e3]
       exact ⟨_, _, _, _, by rw [e4]; rfl, hw.drop.drop.drop.subA, Arr.none, Arr.none⟩
     ·have h13_0 : takeN (openP l) 1 ≠ 3 := by have h : ¬ ((takeN (openP l) 1 : Nat) : Int) = 3 := h13_0; omega
      refine VL.assign rfl ?_
      refine VL.nn ?_
      refine VC.no rfl ?_
      refine VC.seq ?_
      refine VC.sr ?_
      refine VL.eql rfl rfl ?_
      refine VL.case (fun h16_0 => ?_) (fun h16_0 => ?_)
      ·have h16_0 : takeN (openP l) 1 = 5 := by have h : ((takeN (openP l) 1 : Nat) : Int) = 5 := h16_0; omega
       refine VL.assign rfl ?_
       refine VL.nn ?_
       refine VC.yes rfl ?_
       refine VC.skip ?_
       refine VX.next ?_
       refine VC.yes rfl ?_
       refine VC.region ?_
       refine VL.move rfl ?_
       refine VL.call Try.func124 rfl (by decide) rfl (fun w' hw => piece_R (i := 1) rfl hw) (fun v => ?_)
       refine VL.at (fun w35 h1w => ?_)
       obtain ⟨p36, c37, rfl, hO39, hA38⟩ := h1w
       replace hO39 := ownSet1 hO39
       replace hA38 := arrSet1 hA38
       refine VL.toOwn hO39 ?_
       refine VL.call Try.func71 rfl (by decide) rfl (fun w' hw => getObject_w hw (hA38.nowA (s := ⟨w35, _⟩) Mono.byte hw)) (fun v => ?_)
       refine VL.at (fun w40 h1w => ?_)
       obtain ⟨p42, c43, rfl, hO41, hA44⟩ := h1w
       refine VL.toOwn hO41 ?_
       refine VL.move rfl ?_
       refine VL.extract rfl rfl ?_
       refine VL.extract rfl rfl ?_
       refine VL.fieldAddr rfl fo87_5 rfl ?_
       refine VL.store (L := itemL) (qs := (objectV (((objectR (nextP ((openP (l)).drop 1))).getD object0)) p42 c43)) 0 21 7 rfl rfl rfl (.inl kd85) rfl rfl (objectV_len (objectR_ok (nextP ((openP (l)).drop 1)))) (objectV_ok1 (((objectR (nextP ((openP (l)).drop 1))).getD object0)) p42 c43) rfl rfl ?_
       refine VL.set0 ?_
       refine VL.assign rfl ?_
       refine VL.nil ?_
       refine VX.block_normal ?_
       refine VX.next ?_
       refine VC.sr ?_
       refine VL.move rfl ?_
       refine VL.move rfl ?_
       refine VL.call Try.func125 rfl (by decide) rfl (fun w' hw => fail_R (i := 1) rfl hw (if (objectR (nextP ((openP (l)).drop 1))).isSome then 0 else 141)) (fun v => ?_)
       refine VL.fact fun e45 => ?_
       subst e45
       refine VL.set1 ?_
       refine VL.nn ?_
       refine VC.seq ?_
       refine VC.sr ?_
       refine VL.move rfl ?_
       refine VL.call Try.func126 rfl (by decide) rfl (fun w' hw => end_R (i := 1) rfl hw) (fun v => ?_)
       refine VL.fact fun e46 => ?_
       subst e46
       refine VL.set1 ?_
       refine VL.neq rfl rfl ?_
       refine VL.case (fun h20_2 => ?_) (fun h20_2 => ?_)
       ·refine VL.nn ?_
        refine VC.yes rfl ?_
        refine VC.sr ?_
        refine VL.build0 (cs := cat (itemV (item0) none 0 none 0)) built87 ?_
        refine VL.store (L := itemL) (qs := (itemV (item0) none 0 none 0)) (ps' := (itemV (item0) none 0 none 0)) 2 0 28 rfl rfl rfl (.inl kd87) rfl rfl (itemV_len item0_ok) (itemV_ok1 item0 none 0 none 0) rfl rfl ?_
        refine VL.set2 ?_
        refine VL.assign rfl ?_
        refine VL.nn ?_
        refine VC.ret ?_
        refine VX.then_ret ?_
        refine VX.ret_cell (cs := cat (itemV (item0) none 0 none 0)) 2 rfl rfl rfl (by rw [cat_size (itemV_len item0_ok)]; exact kd87) (fun _ h => h) rfl rfl (fun we hw => ?_)
        obtain ⟨hn1, _⟩ := item_w5 h3_4 (.inl h16_0)
        obtain ⟨e1, e2⟩ := itemW_none (by omega) (by omega) h20_2 hn1
        exact ⟨none, 0, none, 0, by rw [e1]; exact congrArg (fun n : Nat => Value.tuple #[_, .int .i64 (n : Int)]) (e2).symm, hw.drop.drop.drop.subA, by rw [e1]; exact Arr.none, by rw [e1]; exact Arr.none⟩
       ·refine VL.nn ?_
        refine VC.no rfl ?_
        refine VC.skip ?_
        refine VX.next ?_
        refine VC.sr ?_
        refine VL.loads (cs := cat (itemV ((Itm.mk (takeN (openP l) 1) 0 0 letter0 bundle0 ((objectR (nextP ((openP l).drop 1))).getD object0))) none 0 p42 c43)) 0 0 28 rfl kd87 (fun _ h => h) rfl rfl rfl rfl ?_
        refine VL.store (L := itemL) (qs := (itemV ((Itm.mk (takeN (openP l) 1) 0 0 letter0 bundle0 ((objectR (nextP ((openP l).drop 1))).getD object0))) none 0 p42 c43)) (ps' := (itemV ((Itm.mk (takeN (openP l) 1) 0 0 letter0 bundle0 ((objectR (nextP ((openP l).drop 1))).getD object0))) none 0 p42 c43)) 2 0 28 rfl rfl rfl (.inl kd87) rfl rfl (itemV_len (⟨takeN_lt _ 1, (show (0 : Nat) < 256 by decide), (show (0 : Nat) < 256 by decide), letter0_ok, bundle0_ok, (objectR_ok _)⟩ : Itm.ok _)) (itemV_ok1 ((Itm.mk (takeN (openP l) 1) 0 0 letter0 bundle0 ((objectR (nextP ((openP l).drop 1))).getD object0))) none 0 p42 c43) rfl rfl ?_
        refine VL.set2 ?_
        refine VL.assign rfl ?_
        refine VL.nn ?_
        refine VC.ret ?_
        refine VX.ret_cell (cs := cat (itemV ((Itm.mk (takeN (openP l) 1) 0 0 letter0 bundle0 ((objectR (nextP ((openP l).drop 1))).getD object0))) none 0 p42 c43)) 2 rfl rfl rfl (by rw [cat_size (itemV_len (⟨takeN_lt _ 1, (show (0 : Nat) < 256 by decide), (show (0 : Nat) < 256 by decide), letter0_ok, bundle0_ok, (objectR_ok _)⟩ : Itm.ok _))]; exact kd87) (fun _ h => h) rfl rfl (fun we hw => ?_)
        obtain ⟨hn1, hn2⟩ := item_w5 h3_4 (.inl h16_0)
        obtain ⟨y, e1, e2⟩ := itemW_some (by omega) (by omega) h20_2 hn1
        have e3 := hn2 y e1
        rw [e1, e2, e3]
        exact ⟨_, _, _, _, rfl, hw.drop.drop.drop.subA, Arr.none, (hA44.nowA (s := ⟨w40, _⟩) Mono_vouch hw.drop.drop.drop)⟩
      ·have h16_0 : takeN (openP l) 1 ≠ 5 := by have h : ¬ ((takeN (openP l) 1 : Nat) : Int) = 5 := h16_0; omega
       refine VL.assign rfl ?_
       refine VL.nn ?_
       refine VC.no rfl ?_
       refine VC.region ?_
       refine VL.eql rfl rfl ?_
       refine VL.case (fun h17_0 => ?_) (fun h17_0 => ?_)
       ·have h17_0 : takeN (openP l) 1 = 6 := by have h : ((takeN (openP l) 1 : Nat) : Int) = 6 := h17_0; omega
        refine VL.assign rfl ?_
        refine VL.nn ?_
        refine VC.yes rfl ?_
        refine VC.region ?_
        refine VL.move rfl ?_
        refine VL.call Try.func124 rfl (by decide) rfl (fun w' hw => piece_R (i := 1) rfl hw) (fun v => ?_)
        refine VL.at (fun w47 h1w => ?_)
        obtain ⟨p48, c49, rfl, hO51, hA50⟩ := h1w
        replace hO51 := ownSet1 hO51
        replace hA50 := arrSet1 hA50
        refine VL.toOwn hO51 ?_
        refine VL.call Try.func71 rfl (by decide) rfl (fun w' hw => getObject_w hw (hA50.nowA (s := ⟨w47, _⟩) Mono.byte hw)) (fun v => ?_)
        refine VL.at (fun w52 h1w => ?_)
        obtain ⟨p54, c55, rfl, hO53, hA56⟩ := h1w
        refine VL.toOwn hO53 ?_
        refine VL.move rfl ?_
        refine VL.extract rfl rfl ?_
        refine VL.extract rfl rfl ?_
        refine VL.fieldAddr rfl fo87_5 rfl ?_
        refine VL.store (L := itemL) (qs := (objectV (((objectR (nextP ((openP (l)).drop 1))).getD object0)) p54 c55)) 0 21 7 rfl rfl rfl (.inl kd85) rfl rfl (objectV_len (objectR_ok (nextP ((openP (l)).drop 1)))) (objectV_ok1 (((objectR (nextP ((openP (l)).drop 1))).getD object0)) p54 c55) rfl rfl ?_
        refine VL.set0 ?_
        refine VL.assign rfl ?_
        refine VL.nil ?_
        refine VX.block_normal ?_
        refine VX.next ?_
        refine VC.sr ?_
        refine VL.move rfl ?_
        refine VL.move rfl ?_
        refine VL.call Try.func125 rfl (by decide) rfl (fun w' hw => fail_R (i := 1) rfl hw (if (objectR (nextP ((openP (l)).drop 1))).isSome then 0 else 141)) (fun v => ?_)
        refine VL.fact fun e57 => ?_
        subst e57
        refine VL.set1 ?_
        refine VL.nn ?_
        refine VC.seq ?_
        refine VC.sr ?_
        refine VL.move rfl ?_
        refine VL.call Try.func126 rfl (by decide) rfl (fun w' hw => end_R (i := 1) rfl hw) (fun v => ?_)
        refine VL.fact fun e58 => ?_
        subst e58
        refine VL.set1 ?_
        refine VL.neq rfl rfl ?_
        refine VL.case (fun h20_2 => ?_) (fun h20_2 => ?_)
        ·refine VL.nn ?_
         refine VC.yes rfl ?_
         refine VC.sr ?_
         refine VL.build0 (cs := cat (itemV (item0) none 0 none 0)) built87 ?_
         refine VL.store (L := itemL) (qs := (itemV (item0) none 0 none 0)) (ps' := (itemV (item0) none 0 none 0)) 2 0 28 rfl rfl rfl (.inl kd87) rfl rfl (itemV_len item0_ok) (itemV_ok1 item0 none 0 none 0) rfl rfl ?_
         refine VL.set2 ?_
         refine VL.assign rfl ?_
         refine VL.nn ?_
         refine VC.ret ?_
         refine VX.then_ret ?_
         refine VX.ret_cell (cs := cat (itemV (item0) none 0 none 0)) 2 rfl rfl rfl (by rw [cat_size (itemV_len item0_ok)]; exact kd87) (fun _ h => h) rfl rfl (fun we hw => ?_)
         obtain ⟨hn1, _⟩ := item_w5 h3_4 (.inr h17_0)
         obtain ⟨e1, e2⟩ := itemW_none (by omega) (by omega) h20_2 hn1
         exact ⟨none, 0, none, 0, by rw [e1]; exact congrArg (fun n : Nat => Value.tuple #[_, .int .i64 (n : Int)]) (e2).symm, hw.drop.drop.drop.subA, by rw [e1]; exact Arr.none, by rw [e1]; exact Arr.none⟩
        ·refine VL.nn ?_
         refine VC.no rfl ?_
         refine VC.skip ?_
         refine VX.next ?_
         refine VC.sr ?_
         refine VL.loads (cs := cat (itemV ((Itm.mk (takeN (openP l) 1) 0 0 letter0 bundle0 ((objectR (nextP ((openP l).drop 1))).getD object0))) none 0 p54 c55)) 0 0 28 rfl kd87 (fun _ h => h) rfl rfl rfl rfl ?_
         refine VL.store (L := itemL) (qs := (itemV ((Itm.mk (takeN (openP l) 1) 0 0 letter0 bundle0 ((objectR (nextP ((openP l).drop 1))).getD object0))) none 0 p54 c55)) (ps' := (itemV ((Itm.mk (takeN (openP l) 1) 0 0 letter0 bundle0 ((objectR (nextP ((openP l).drop 1))).getD object0))) none 0 p54 c55)) 2 0 28 rfl rfl rfl (.inl kd87) rfl rfl (itemV_len (⟨takeN_lt _ 1, (show (0 : Nat) < 256 by decide), (show (0 : Nat) < 256 by decide), letter0_ok, bundle0_ok, (objectR_ok _)⟩ : Itm.ok _)) (itemV_ok1 ((Itm.mk (takeN (openP l) 1) 0 0 letter0 bundle0 ((objectR (nextP ((openP l).drop 1))).getD object0))) none 0 p54 c55) rfl rfl ?_
         refine VL.set2 ?_
         refine VL.assign rfl ?_
         refine VL.nn ?_
         refine VC.ret ?_
         refine VX.ret_cell (cs := cat (itemV ((Itm.mk (takeN (openP l) 1) 0 0 letter0 bundle0 ((objectR (nextP ((openP l).drop 1))).getD object0))) none 0 p54 c55)) 2 rfl rfl rfl (by rw [cat_size (itemV_len (⟨takeN_lt _ 1, (show (0 : Nat) < 256 by decide), (show (0 : Nat) < 256 by decide), letter0_ok, bundle0_ok, (objectR_ok _)⟩ : Itm.ok _))]; exact kd87) (fun _ h => h) rfl rfl (fun we hw => ?_)
         obtain ⟨hn1, hn2⟩ := item_w5 h3_4 (.inr h17_0)
         obtain ⟨y, e1, e2⟩ := itemW_some (by omega) (by omega) h20_2 hn1
         have e3 := hn2 y e1
         rw [e1, e2, e3]
         exact ⟨_, _, _, _, rfl, hw.drop.drop.drop.subA, Arr.none, (hA56.nowA (s := ⟨w52, _⟩) Mono_vouch hw.drop.drop.drop)⟩
       ·have h17_0 : takeN (openP l) 1 ≠ 6 := by have h : ¬ ((takeN (openP l) 1 : Nat) : Int) = 6 := h17_0; omega
        refine VL.assign rfl ?_
        refine VL.nn ?_
        refine VC.no rfl ?_
        refine VC.sr ?_
        refine VL.build0 (cs := cat (itemV (item0) none 0 none 0)) built87 ?_
        refine VL.store (L := itemL) (qs := (itemV (item0) none 0 none 0)) (ps' := (itemV (item0) none 0 none 0)) 2 0 28 rfl rfl rfl (.inl kd87) rfl rfl (itemV_len item0_ok) (itemV_ok1 item0 none 0 none 0) rfl rfl ?_
        refine VL.set2 ?_
        refine VL.assign rfl ?_
        refine VL.nn ?_
        refine VC.ret ?_
        refine VX.block_ret ?_
        refine VX.then_ret ?_
        refine VX.ret_cell (cs := cat (itemV (item0) none 0 none 0)) 2 rfl rfl rfl (by rw [cat_size (itemV_len item0_ok)]; exact kd87) (fun _ h => h) rfl rfl (fun we hw => ?_)
        obtain ⟨e1, e2⟩ := item_none h3_4 h8_0 h10_0 h13_0 h11_0 h16_0 h17_0
        exact ⟨none, 0, none, 0, by rw [e1]; exact congrArg (fun n : Nat => Value.tuple #[_, .int .i64 (n : Int)]) (e2).symm, hw.drop.drop.drop.subA, by rw [e1]; exact Arr.none, by rw [e1]; exact Arr.none⟩

end Go.Proofs.Ytcfecmoagfgnaaa

/- Calls as cells. -/
namespace Go.Proofs.Ytcfecmoagfgnaaa
open Go.Vc Go.Pl

structure Cal where
  kind : Nat
  seq : Nat
  peer : Nat
  mark : Nat
  bundles : List Bundle
  letter : Letter
structure Cal.ok (x : Cal) : Prop where
  kind : x.kind < 256
  seq : x.seq < 65536
  peer : x.peer < 256
  mark : x.mark < 65536
  bundles : ∀ b ∈ x.bundles, b.ok
  letter : x.letter.ok
end Go.Proofs.Ytcfecmoagfgnaaa

