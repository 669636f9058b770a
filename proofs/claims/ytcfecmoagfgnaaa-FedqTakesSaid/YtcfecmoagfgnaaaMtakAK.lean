/- The statement Takes is proved, for every input: part 11 of 14 of the texts that it needs. -/
import Derived.Test.YtcfecmoagfgnaaaMtakAJ
/- Items: the error's number, kind for kind. -/
namespace Go.Vc
section
variable {P : Program} {n : Nat} {Q : Exit → Act → World → Prop} {ops : Array Oper}
/-- It kept what is owned, and tells nothing. -/
theorem VL.finO0 {S : List Snap} {H : List Chunk} {f : Fact} {w0 : World} {σ : Sl} {G : World → Prop} (hG : ∀ w, G w → Own (⟨w0, keys H⟩ :: S) H w) (h : ∀ w, G w → f undef w) :
  VL P n ops (Post n Q (Still S H) (Turn (keys H)) f none false false w0) [] σ G :=
 VL.fin0 fun w hw => ⟨h w hw, ((hG w hw).after (List.mem_cons_self ..)).1, (hG w hw).lose⟩
end
end Go.Vc
namespace Go.Proofs.Ytcfecmoagfgnaaa
open Go.Vc Go.Pl

/-- The first byte's reading. -/
abbrev W1 (l : List UInt8) : Nat := lenW (openP l) (openW l) 1
theorem W1_cases (l : List UInt8) : (∃ a r, openP l = a :: r ∧ a.length = 1 ∧ W1 l = 0) ∨ (¬ fitsP [some 1] (openP l) ∧ W1 l = 141) := by
 obtain ⟨h1, h2⟩ := takesW_open (ks := [some 1]) (by simp) l
 by_cases hf : fitsP [some 1] (openP l)
 ·refine .inl ?_
  have e : W1 l = 0 := h1 hf
  cases hp : openP l with
  | nil => rw [hp] at hf; exact hf.elim
  | cons a r => rw [hp] at hf; exact ⟨a, r, rfl, hf.1 1 rfl, e⟩
 ·exact .inr ⟨hf, h2 hf⟩
theorem item_w0 {l : List UInt8} (h : ((W1 l : Nat) : Int) ≠ 0) : itemR l = none ∧ itemW l = W1 l := by
 rcases W1_cases l with ⟨_, _, _, _, e⟩ | ⟨hf, e⟩
 ·rw [e] at h; exact absurd rfl h
 ·have h1 : itemR l = none := by unfold itemR; exact if_pos hf
  refine ⟨h1, ?_⟩
  unfold itemW
  rw [h1, if_neg (by simp), if_neg (fun h => hf h.1), e]
theorem item_head {l : List UInt8} (h : ¬ ((W1 l : Nat) : Int) ≠ 0) : ∃ a r, openP l = a :: r ∧ a.length = 1 ∧ W1 l = 0 := by
 rcases W1_cases l with h1 | ⟨_, e⟩
 ·exact h1
 ·exact absurd (by rw [e]; decide) h
theorem firstFits {a : List UInt8} {r : List (List UInt8)} (h : a.length = 1) : fitsP [some 1] (a :: r) := ⟨fun n e => by cases e; exact h, trivial⟩
theorem item_none {l : List UInt8} (h : ¬ ((W1 l : Nat) : Int) ≠ 0) (h1 : takeN (openP l) 1 ≠ 1) (h2 : takeN (openP l) 1 ≠ 2) (h3 : takeN (openP l) 1 ≠ 3) (h4 : takeN (openP l) 1 ≠ 4) (h5 : takeN (openP l) 1 ≠ 5) (h6 : takeN (openP l) 1 ≠ 6) : itemR l = none ∧ itemW l = 140 := by
 obtain ⟨a, r, e, ha, hw⟩ := item_head h
 have hf : fitsP [some 1] (openP l) := by rw [e]; exact firstFits ha
 have h0 : itemR l = none := by
  unfold itemR
  simp only
  rw [if_neg (not_not_intro hf), if_neg h1, if_neg (by rintro (x | x) <;> contradiction), if_neg h3, if_neg (by rintro (x | x) <;> contradiction)]
 refine ⟨h0, ?_⟩
 unfold itemW
 rw [h0, if_neg (by simp), if_pos ⟨hf, by show takeN (openP l) 1 = 0 ∨ 6 < takeN (openP l) 1; omega⟩]
/-- With a kind that is known: the error is 141. -/
theorem itemW_of {l : List UInt8} (h1 : 1 ≤ takeN (openP l) 1) (h2 : takeN (openP l) 1 ≤ 6) : itemW l = if (itemR l).isSome then 0 else 141 := by
 unfold itemW
 split
 ·rfl
 ·exact if_neg (by rintro ⟨_, h⟩; have h : takeN (openP l) 1 = 0 ∨ 6 < takeN (openP l) 1 := h; omega)
theorem end2 {α : Type} (f : List UInt8 → Option α) (r : List (List UInt8)) : endW (r.drop 1) (failW (nextW r 0) (if (f (nextP r)).isSome then 0 else 141)) = if (if r.length = 1 then f (nextP r) else none).isSome then 0 else 141 := by
 match r with
 | [] => exact rfl
 | [b] => rw [if_pos (show [b].length = 1 from rfl)]; rfl
 | b :: c :: s =>
  rw [if_neg (show ¬ (b :: c :: s).length = 1 by simp)]
  show (if (c :: s) = [] then _ else failW (failW (nextW (b :: c :: s) 0) (if (f b).isSome then 0 else 141)) 141) = 141
  rw [if_neg (by simp), nextW_cons, failW_0]
  split <;> rfl
theorem item_w1 {l : List UInt8} (h : ¬ ((W1 l : Nat) : Int) ≠ 0) (hk : takeN (openP l) 1 = 1) : endW (((openP l).drop 1).drop 1) (failW (nextW ((openP l).drop 1) (W1 l)) (if (letterR (nextP ((openP l).drop 1))).isSome then 0 else 141)) = itemW l ∧ ∀ y, itemR l = some y → y = ⟨1, 0, 0, (letterR (nextP ((openP l).drop 1))).getD letter0, bundle0, object0⟩ := by
 obtain ⟨a, r, e, ha, hw⟩ := item_head h
 have hf : fitsP [some 1] (openP l) := by rw [e]; exact firstFits ha
 have h0 : itemR l = (if r.length = 1 then letterR (nextP r) else none).map fun y => ⟨1, 0, 0, y, bundle0, object0⟩ := by
  unfold itemR
  simp only
  rw [if_neg (not_not_intro hf), if_pos hk, e]
  show (if r.length + 1 = 2 then _ else _) = _
  by_cases hl : r.length = 1
  ·rw [if_pos (by omega), if_pos hl]; rfl
  ·rw [if_neg (by omega), if_neg hl]; rfl
 rw [itemW_of (by omega) (by omega), h0, hw, e]
 refine ⟨(end2 letterR r).trans (by cases (if r.length = 1 then letterR (nextP r) else none) <;> rfl), fun y hy => ?_⟩
 obtain ⟨z, hz, rfl⟩ := Option.map_eq_some_iff.1 hy
 split at hz
 ·show _ = Itm.mk 1 0 0 ((letterR (nextP r)).getD letter0) bundle0 object0
  rw [hz]; rfl
 ·cases hz
theorem item_w5 {l : List UInt8} (h : ¬ ((W1 l : Nat) : Int) ≠ 0) (hk : takeN (openP l) 1 = 5 ∨ takeN (openP l) 1 = 6) : endW (((openP l).drop 1).drop 1) (failW (nextW ((openP l).drop 1) (W1 l)) (if (objectR (nextP ((openP l).drop 1))).isSome then 0 else 141)) = itemW l ∧ ∀ y, itemR l = some y → y = ⟨takeN (openP l) 1, 0, 0, letter0, bundle0, (objectR (nextP ((openP l).drop 1))).getD object0⟩ := by
 obtain ⟨a, r, e, ha, hw⟩ := item_head h
 have hf : fitsP [some 1] (openP l) := by rw [e]; exact firstFits ha
 have h0 : itemR l = (if r.length = 1 then objectR (nextP r) else none).map fun y => ⟨takeN (openP l) 1, 0, 0, letter0, bundle0, y⟩ := by
  unfold itemR
  simp only
  rw [if_neg (not_not_intro hf), if_neg (show ¬ itemK (openP l) = 1 by show ¬ takeN (openP l) 1 = 1; omega), if_neg (show ¬ (itemK (openP l) = 2 ∨ itemK (openP l) = 4) by show ¬ (takeN (openP l) 1 = 2 ∨ takeN (openP l) 1 = 4); omega), if_neg (show ¬ itemK (openP l) = 3 by show ¬ takeN (openP l) 1 = 3; omega), if_pos hk, e]
  show (if r.length + 1 = 2 then _ else _) = _
  by_cases hl : r.length = 1
  ·rw [if_pos (by omega), if_pos hl]; rfl
  ·rw [if_neg (by omega), if_neg hl]; rfl
 rw [itemW_of (by omega) (by omega), h0, hw]
 rw [e]
 refine ⟨(end2 objectR r).trans (by cases (if r.length = 1 then objectR (nextP r) else none) <;> rfl), fun y hy => ?_⟩
 obtain ⟨z, hz, rfl⟩ := Option.map_eq_some_iff.1 hy
 split at hz
 ·show _ = Itm.mk (takeN (a :: r) 1) 0 0 letter0 bundle0 ((objectR (nextP r)).getD object0)
  rw [hz]; rfl
 ·cases hz
theorem item_w2 {l : List UInt8} (h : ¬ ((W1 l : Nat) : Int) ≠ 0) (hk : takeN (openP l) 1 = 2 ∨ takeN (openP l) 1 = 4) : endW ((((openP l).drop 1).drop 1).drop 1) (failW (lenW (((openP l).drop 1).drop 1) (lenW ((openP l).drop 1) (W1 l) 1) 1) 0) = itemW l ∧ ∀ y, itemR l = some y → y = ⟨takeN (openP l) 1, takeN ((openP l).drop 1) 1, takeN (((openP l).drop 1).drop 1) 1, letter0, bundle0, object0⟩ := by
 obtain ⟨a, r, e, ha, hw⟩ := item_head h
 have hf : fitsP [some 1] (openP l) := by rw [e]; exact firstFits ha
 have h0 : itemR l = if fitsP [some 1, some 1, some 1] (openP l) ∧ (openP l).length = 3 then some ⟨takeN (openP l) 1, takeN ((openP l).drop 1) 1, takeN (((openP l).drop 1).drop 1) 1, letter0, bundle0, object0⟩ else none := by
  unfold itemR
  simp only
  rw [if_neg (not_not_intro hf), if_neg (show ¬ itemK (openP l) = 1 by show ¬ takeN (openP l) 1 = 1; omega), if_pos hk]
 refine ⟨?_, fun y hy => ?_⟩
 ·rw [itemW_of (by omega) (by omega), h0, hw]
  rw [e]
  have h2 : fitsP [some 1, some 1, some 1] (a :: r) ↔ fitsP [some 1, some 1] r := ⟨fun x => x.2, fun x => ⟨fun n e => by cases e; exact ha, x⟩⟩
  obtain ⟨h3, h4⟩ := takesW_0 [some 1, some 1] r
  have e3 : lenW (r.drop 1) (lenW r 0 1) 1 = takesW [some 1, some 1] r 0 := rfl
  show endW ((r.drop 1).drop 1) (failW (lenW (r.drop 1) (lenW r 0 1) 1) 0) = _
  rw [e3]
  by_cases hg : fitsP [some 1, some 1] r
  ·rw [h3 hg]
   match r, hg with
   | [b, c], hg => rw [if_pos (show fitsP [some 1, some 1, some 1] [a, b, c] ∧ [a, b, c].length = 3 from ⟨⟨fun n e => by cases e; exact ha, hg⟩, rfl⟩)]; rfl
   | b :: c :: d :: s, _ => rw [if_neg (show ¬ (fitsP [some 1, some 1, some 1] (a :: b :: c :: d :: s) ∧ (a :: b :: c :: d :: s).length = 3) from fun x => absurd x.2 (by simp))]; rfl
   | [_], hg => exact hg.2.elim
   | [], hg => exact hg.elim
  ·rw [h4 hg, if_neg (show ¬ (fitsP [some 1, some 1, some 1] (a :: r) ∧ (a :: r).length = 3) from fun x => hg (h2.1 x.1))]
   exact endW_141 _
 ·rw [h0] at hy
  split at hy
  ·exact (Option.some.inj hy).symm
  ·cases hy
theorem item_w3 {l : List UInt8} (h : ¬ ((W1 l : Nat) : Int) ≠ 0) (hk : takeN (openP l) 1 = 3) : endW ((((openP l).drop 1).drop 1).drop 1) (failW (nextW (((openP l).drop 1).drop 1) (lenW ((openP l).drop 1) (W1 l) 1)) (if (bundleR (nextP (((openP l).drop 1).drop 1))).isSome then 0 else 141)) = itemW l ∧ ∀ y, itemR l = some y → y = ⟨3, takeN ((openP l).drop 1) 1, 0, letter0, (bundleR (nextP (((openP l).drop 1).drop 1))).getD bundle0, object0⟩ := by
 obtain ⟨a, r, e, ha, hw⟩ := item_head h
 have hf : fitsP [some 1] (openP l) := by rw [e]; exact firstFits ha
 have h0 : itemR l = if fitsP [some 1, some 1, none] (openP l) ∧ (openP l).length = 3 then (bundleR (nextP (((openP l).drop 1).drop 1))).map (fun y => ⟨3, takeN ((openP l).drop 1) 1, 0, letter0, y, object0⟩) else none := by
  unfold itemR
  simp only
  rw [if_neg (not_not_intro hf), if_neg (show ¬ itemK (openP l) = 1 by show ¬ takeN (openP l) 1 = 1; omega), if_neg (show ¬ (itemK (openP l) = 2 ∨ itemK (openP l) = 4) by show ¬ (takeN (openP l) 1 = 2 ∨ takeN (openP l) 1 = 4); omega), if_pos (show itemK (openP l) = 3 from hk)]
 refine ⟨?_, fun y hy => ?_⟩
 ·rw [itemW_of (by omega) (by omega), h0, hw]
  rw [e]
  show endW ((r.drop 1).drop 1) (failW (nextW (r.drop 1) (lenW r 0 1)) (if (bundleR (nextP (r.drop 1))).isSome then 0 else 141)) = _
  match r with
  | [] =>
   rw [if_neg (show ¬ (fitsP [some 1, some 1, none] [a] ∧ [a].length = 3) from fun x => absurd x.2 (by simp))]; rfl
  | b :: s =>
   rw [lenW_cons]
   show endW (s.drop 1) (failW (nextW s (if b.length = 1 then 0 else 141)) (if (bundleR (nextP s)).isSome then 0 else 141)) = if (if fitsP [some 1, some 1, none] (a :: b :: s) ∧ (a :: b :: s).length = 3 then (bundleR (nextP s)).map (fun y => (⟨3, takeN (b :: s) 1, 0, letter0, y, object0⟩ : Itm)) else none).isSome then 0 else 141
   by_cases hb : b.length = 1
   ·rw [if_pos hb, end2 bundleR s]
    by_cases hl : s.length = 1
    ·rw [if_pos hl]
     have hfit : fitsP [some 1, some 1, none] (a :: b :: s) := by
      match s, hl with
      | [c], _ => exact ⟨fun n e => by cases e; exact ha, fun n e => by cases e; exact hb, fun n e => (by cases e), trivial⟩
     rw [if_pos (show fitsP [some 1, some 1, none] (a :: b :: s) ∧ (a :: b :: s).length = 3 from ⟨hfit, by simp [hl]⟩)]
     cases bundleR (nextP s) <;> rfl
    ·rw [if_neg hl, if_neg (show ¬ (fitsP [some 1, some 1, none] (a :: b :: s) ∧ (a :: b :: s).length = 3) from fun x => hl (by have h := x.2; simp only [List.length_cons] at h; omega))]; rfl
   ·rw [if_neg hb, nextW_141, failW_pos (by decide), endW_141, if_neg (show ¬ (fitsP [some 1, some 1, none] (a :: b :: s) ∧ (a :: b :: s).length = 3) from fun x => hb (x.1.2.1 1 rfl))]; rfl
 ·rw [h0] at hy
  split at hy
  ·obtain ⟨z, hz, rfl⟩ := Option.map_eq_some_iff.1 hy
   rw [hz]; rfl
  ·cases hy
/-- The end: what the number says. -/
theorem itemW_none {l : List UInt8} (h1 : 1 ≤ takeN (openP l) 1) (h2 : takeN (openP l) 1 ≤ 6) {n : Nat} (hn : ((n : Nat) : Int) ≠ 0) (h : n = itemW l) : itemR l = none ∧ itemW l = 141 := by
 rw [itemW_of h1 h2] at h
 obtain ⟨e1, e2⟩ := why_none hn h
 exact ⟨e1, by rw [itemW_of h1 h2, e1]; rfl⟩
theorem itemW_some {l : List UInt8} (h1 : 1 ≤ takeN (openP l) 1) (h2 : takeN (openP l) 1 ≤ 6) {n : Nat} (hn : ¬ ((n : Nat) : Int) ≠ 0) (h : n = itemW l) : ∃ x, itemR l = some x ∧ itemW l = 0 := by
 rw [itemW_of h1 h2] at h
 obtain ⟨x, e1⟩ := why_some hn h
 exact ⟨x, e1, by rw [itemW_of h1 h2, e1]; rfl⟩

end Go.Proofs.Ytcfecmoagfgnaaa

/- wire: what bytes are read as: items. -/
namespace Go.Proofs.Ytcfecmoagfgnaaa
open Go.Vc Go.Pl

theorem getItem_w {S : List Snap} {H : List Chunk} {w : World} (ho : Own S H w) {p : Option Addr} {l : List UInt8} {c : Nat} (hA : Bytes (keys H) w p l c) : Calls Try.prog 58 #[.slice p l.length c] w (Ret fun v w' => ∃ p c q d, v = .tuple #[.agg (cat (itemV ((itemR l).getD item0) p c q d)).toArray, .int .i64 ((itemW l : Nat) : Int)] ∧ Own S H w' ∧ Bytes (keys H) w' p ((itemR l).getD item0).letter.body c ∧ Arr 65 vouchR (keys H) w' q ((itemR l).getD item0).object.vouches d) := by
 refine enter (G := Own (⟨w, keys H⟩ :: S) H) ho.keep Try.func58 rfl Try.ntmps58 rfl ?_
 refine VC.sr ?_
 refine VL.alloc (L := itemL) (ps := (itemV (item0) none 0 none 0)) zero87 rfl rfl (fun g1 => ?_)
 refine VL.assign rfl ?_
 refine VL.nn ?_
 refine VC.sr ?_
 refine VL.move rfl ?_
 refine VL.call Try.func121 rfl (by decide) rfl (fun w' hw => open_R hw (hA.nowA (s := ⟨w, _⟩) Mono.byte hw)) (fun v => ?_)
 refine VL.ex fun g2 => VL.fact fun e3 => ?_
 subst e3
 refine VL.assign rfl ?_
 refine VL.nn ?_
 refine VC.sr ?_
 refine VL.move rfl ?_
 refine VL.call Try.func122 rfl (by decide) rfl (fun w' hw => byte_R (i := 0) rfl hw) (fun v => ?_)
 refine VL.fact fun e4 => ?_
 subst e4
 refine VL.set0 ?_
 refine VL.build (zs := itemZ) (L := itemFL) [(0, [.int .u8 (takeN (openP (l)) 1)])] plan87 rfl ⟨⟨rfl, ⟨_, rfl, rfl⟩, rfl⟩, trivial⟩ rfl ?_
 refine VL.newv (v' := .agg (cat (itemV ((Itm.mk (takeN (openP l) 1) 0 0 letter0 bundle0 object0)) none 0 none 0)).toArray) (by kernel_rfl) ?_
 refine VL.alloc (L := itemL) (ps := (itemV (item0) none 0 none 0)) zero87 rfl rfl (fun g5 => ?_)
 refine VL.store (L := itemL) (qs := (itemV ((Itm.mk (takeN (openP l) 1) 0 0 letter0 bundle0 object0)) none 0 none 0)) (ps' := (itemV ((Itm.mk (takeN (openP l) 1) 0 0 letter0 bundle0 object0)) none 0 none 0)) 0 0 28 rfl rfl rfl (.inl kd87) rfl rfl (itemV_len (⟨takeN_lt _ 1, show (0 : Nat) < 256 by decide, show (0 : Nat) < 256 by decide, letter0_ok, bundle0_ok, object0_ok⟩ : Itm.ok _)) (itemV_ok1 ((Itm.mk (takeN (openP l) 1) 0 0 letter0 bundle0 object0)) none 0 none 0) rfl rfl ?_
 refine VL.set0 ?_
 refine VL.nn ?_
 refine VC.seq ?_
 refine VC.sr ?_
 refine VL.move rfl ?_
 refine VL.nilCheck rfl ?_
 refine VL.fieldAddr rfl fo196_1 rfl ?_
 refine loadWhy 1 rfl (fun _ h => h) rfl ?_
 refine VL.neq rfl rfl ?_
 refine VL.case (fun h3_4 => ?_) (fun h3_4 => ?_)
 ·refine VL.nn ?_
  refine VC.yes rfl ?_
  refine VC.seq ?_
  apply VC.anyTA 6 1007 (F := [eqF _, eqF _, eqF _, eqF _, eqF _, eqF _]) [⟨[], []⟩, ⟨[], [4]⟩, ⟨[(18, 1)], []⟩, ⟨[(19, 2)], []⟩, ⟨[(20, 3)], []⟩, ⟨[(17, 0)], [2]⟩] [(21, 4)] [0, 2, 3, 4, 5, 6, 7, 8, 9, 10, 11, 12, 13, 14, 15, 16, 22, 23, 24, 25, 26, 27, 28, 29, 30, 31, 32, 33, 34, 35, 36, 37, 38, 39, 40, 41, 42, 43, 44, 45, 46, 47, 48, 49, 50, 51, 52, 53, 54, 55, 56, 57, 58, 59, 60, 61, 62, 63, 64, 65, 66, 68, 69, 70, 71, 72] rfl (by kernel_rfl) (by kernel_rfl) rfl rfl (by kernel_rfl) (by kernel_rfl) (by kernel_rfl) rfl ?obs4 ?end4
  case obs4 =>
   refine Obs.cons ?_ ?_
   ·refine obS (by kernel_rfl) rfl rfl (fun ph4 w4 hO4 => ?_)
    refine VL.build0 (cs := cat (itemV (item0) none 0 none 0)) built87 ?_
    exact VL.finS hO4 rfl rfl
   refine Obs.cons ?_ ?_
   ·refine obS (by kernel_rfl) rfl rfl (fun ph4 w4 hO4 => ?_)
    refine VL.move rfl ?_
    exact VL.finS hO4 rfl rfl
   refine Obs.cons ?_ ?_
   ·refine obS (by kernel_rfl) rfl rfl (fun ph4 w4 hO4 => ?_)
    rintro _ rfl
    refine VL.nilCheck rfl ?_
    exact VL.finS hO4 rfl rfl
   refine Obs.cons ?_ ?_
   ·refine obS (by kernel_rfl) rfl rfl (fun ph4 w4 hO4 => ?_)
    rintro _ rfl
    refine VL.fieldAddr rfl fo196_1 rfl ?_
    exact VL.finS hO4 rfl rfl
   refine Obs.cons ?_ ?_
   ·refine ob (by kernel_rfl) rfl (by kernel_rfl) rfl (fun w4 hO4 => ?_)
    rintro _ rfl
    refine loadWhy 1 rfl (fun _ e => e ▸ hO4) rfl ?_
    exact VL.finS hO4 rfl rfl
   refine Obs.cons ?_ ?_
   ·refine ob (by kernel_rfl) rfl (by kernel_rfl) rfl (fun w4 hO4 => ?_)
    rintro _ rfl
    refine VL.toOwn hO4 ?_
    refine VL.store (L := itemL) (qs := (itemV (item0) none 0 none 0)) (ps' := (itemV (item0) none 0 none 0)) 2 0 28 rfl rfl rfl (.inl kd87) rfl rfl (itemV_len item0_ok) (itemV_ok1 item0 none 0 none 0) rfl rfl ?_
    refine VL.set2 ?_
    exact VL.finO0 (fun _ h => h) (fun _ h => rfl)
   exact Obs.nil
  case end4 =>
   intro w4 hO4
   rintro _ rfl
   refine VL.toOwn hO4 ?_
   refine VL.assign rfl ?_
   refine VL.nn ?_
   refine VC.ret ?_
   refine VX.then_ret ?_
   refine VX.ret_cell (cs := cat (itemV (item0) none 0 none 0)) 2 rfl rfl rfl (by rw [cat_size (itemV_len item0_ok)]; exact kd87) (fun _ h => h) rfl rfl (fun we hw => ?_)
   obtain ⟨e1, e2⟩ := item_w0 h3_4
   exact ⟨none, 0, none, 0, by rw [e1]; exact congrArg (fun n : Nat => Value.tuple #[_, .int .i64 (n : Int)]) (e2).symm, hw.drop.drop.drop.subA, by rw [e1]; exact Arr.none, by rw [e1]; exact Arr.none⟩
 ·refine VL.nn ?_
  refine VC.no rfl ?_
  refine VC.skip ?_
  refine VX.next ?_
  refine VC.sr ?_
  refine VL.assign rfl ?_
  refine VL.nn ?_
  refine VC.seq ?_
  refine VC.sr ?_
  refine VL.fieldAddr rfl fo87_0 rfl ?_
  refine VL.load (v := .int .u8 ((Itm.mk (takeN (openP l) 1) 0 0 letter0 bundle0 object0).kind)) 0 0 rfl kd5 (fun _ h => h) rfl rfl rfl ?_
  refine VL.nn ?_
  refine VC.block ?_
  refine VC.sr ?_
  refine VL.eql rfl rfl ?_
  refine VL.case (fun h8_0 => ?_) (fun h8_0 => ?_)
  ·have h8_0 : takeN (openP l) 1 = 1 := by have h : ((takeN (openP l) 1 : Nat) : Int) = 1 := h8_0; omega
   refine VL.assign rfl ?_
   refine VL.nn ?_
   refine VC.yes rfl ?_
   refine VC.region ?_
   refine VL.move rfl ?_
   refine VL.call Try.func124 rfl (by decide) rfl (fun w' hw => piece_R (i := 1) rfl hw) (fun v => ?_)
   refine VL.at (fun w6 h1w => ?_)
   obtain ⟨p7, c8, rfl, hO10, hA9⟩ := h1w
   replace hO10 := ownSet1 hO10
   replace hA9 := arrSet1 hA9
   refine VL.toOwn hO10 ?_
   refine VL.call Try.func54 rfl (by decide) rfl (fun w' hw => getLetter_w hw (hA9.nowA (s := ⟨w6, _⟩) Mono.byte hw)) (fun v => ?_)
   refine VL.at (fun w11 h1w => ?_)
   obtain ⟨p13, c14, rfl, hO12, hA15⟩ := h1w
   refine VL.toOwn hO12 ?_
   refine VL.move rfl ?_
   refine VL.extract rfl rfl ?_
   refine VL.extract rfl rfl ?_
   refine VL.fieldAddr rfl fo87_3 rfl ?_
   refine VL.store (L := itemL) (qs := (letterV (((letterR (nextP ((openP (l)).drop 1))).getD letter0)) p13 c14)) 0 3 12 rfl rfl rfl (.inl kd72) rfl rfl (letterV_len (letterR_ok (nextP ((openP (l)).drop 1)))) (letterV_ok1 (((letterR (nextP ((openP (l)).drop 1))).getD letter0)) p13 c14) rfl rfl ?_
   refine VL.set0 ?_
   refine VL.assign rfl ?_
   refine VL.nil ?_
   refine VX.block_normal ?_
   refine VX.next ?_
   refine VC.sr ?_
   refine VL.move rfl ?_
   refine VL.move rfl ?_
   refine VL.call Try.func125 rfl (by decide) rfl (fun w' hw => fail_R (i := 1) rfl hw (if (letterR (nextP ((openP (l)).drop 1))).isSome then 0 else 141)) (fun v => ?_)
   refine VL.fact fun e16 => ?_
   subst e16
   refine VL.set1 ?_
   refine VL.nn ?_
   refine VC.seq ?_
   refine VC.sr ?_
   refine VL.move rfl ?_
   refine VL.call Try.func126 rfl (by decide) rfl (fun w' hw => end_R (i := 1) rfl hw) (fun v => ?_)
   refine VL.fact fun e17 => ?_
   subst e17
   refine VL.set1 ?_
   refine VL.neq rfl rfl ?_
   refine VL.case (fun h20_2 => ?_) (fun h20_2 => ?_)
   ·refine VL.nn ?_
    refine VC.yes rfl ?_
    refine VC.sr ?_
    refine VL.build0 (cs := cat (itemV (item0) none 0 none 0)) built87 ?_
    refine VL.store (L := itemL) (qs := (itemV (item0) none 0 none 0)) (ps' := (itemV (item0) none 0 none 0)) 2 0 28 rfl rfl rfl (.inl kd87) rfl rfl (itemV_len item0_ok) (itemV_ok1 item0 none 0 none 0) rfl rfl ?_
    refine VL.set2 ?_
    refine VL.assign rfl ?_
    refine VL.nn ?_
    refine VC.ret ?_
    refine VX.then_ret ?_
    refine VX.ret_cell (cs := cat (itemV (item0) none 0 none 0)) 2 rfl rfl rfl (by rw [cat_size (itemV_len item0_ok)]; exact kd87) (fun _ h => h) rfl rfl (fun we hw => ?_)
    obtain ⟨hn1, _⟩ := item_w1 h3_4 h8_0
    obtain ⟨e1, e2⟩ := itemW_none (by omega) (by omega) h20_2 hn1
    exact ⟨none, 0, none, 0, by rw [e1]; exact congrArg (fun n : Nat => Value.tuple #[_, .int .i64 (n : Int)]) (e2).symm, hw.drop.drop.drop.subA, by rw [e1]; exact Arr.none, by rw [e1]; exact Arr.none⟩
   ·refine VL.nn ?_
    refine VC.no rfl ?_
    refine VC.skip ?_
    refine VX.next ?_
    refine VC.sr ?_
    refine VL.loads (cs := cat (itemV ((Itm.mk (takeN (openP l) 1) 0 0 ((letterR (nextP ((openP l).drop 1))).getD letter0) bundle0 object0)) p13 c14 none 0)) 0 0 28 rfl kd87 (fun _ h => h) rfl rfl rfl rfl ?_
    refine VL.store (L := itemL) (qs := (itemV ((Itm.mk (takeN (openP l) 1) 0 0 ((letterR (nextP ((openP l).drop 1))).getD letter0) bundle0 object0)) p13 c14 none 0)) (ps' := (itemV ((Itm.mk (takeN (openP l) 1) 0 0 ((letterR (nextP ((openP l).drop 1))).getD letter0) bundle0 object0)) p13 c14 none 0)) 2 0 28 rfl rfl rfl (.inl kd87) rfl rfl (itemV_len (⟨takeN_lt _ 1, (show (0 : Nat) < 256 by decide), (show (0 : Nat) < 256 by decide), (letterR_ok _), bundle0_ok, object0_ok⟩ : Itm.ok _)) (itemV_ok1 ((Itm.mk (takeN (openP l) 1) 0 0 ((letterR (nextP ((openP l).drop 1))).getD letter0) bundle0 object0)) p13 c14 none 0) rfl rfl ?_
    refine VL.set2 ?_
    refine VL.assign rfl ?_
    refine VL.nn ?_
    refine VC.ret ?_
    refine VX.ret_cell (cs := cat (itemV ((Itm.mk (takeN (openP l) 1) 0 0 ((letterR (nextP ((openP l).drop 1))).getD letter0) bundle0 object0)) p13 c14 none 0)) 2 rfl rfl rfl (by rw [cat_size (itemV_len (⟨takeN_lt _ 1, (show (0 : Nat) < 256 by decide), (show (0 : Nat) < 256 by decide), (letterR_ok _), bundle0_ok, object0_ok⟩ : Itm.ok _))]; exact kd87) (fun _ h => h) rfl rfl (fun we hw => ?_)
    obtain ⟨hn1, hn2⟩ := item_w1 h3_4 h8_0
    obtain ⟨y, e1, e2⟩ := itemW_some (by omega) (by omega) h20_2 hn1
    have e3 := hn2 y e1
    have e4 := h8_0
    rw [e1, e2, e3]
    exact ⟨_, _, _, _, by rw [e4]; rfl, hw.drop.drop.drop.subA, (hA15.nowA (s := ⟨w11, _⟩) Mono.byte hw.drop.drop.drop), Arr.none⟩
  ·have h8_0 : takeN (openP l) 1 ≠ 1 := by have h : ¬ ((takeN (openP l) 1 : Nat) : Int) = 1 := h8_0; omega
   refine VL.assign rfl ?_
   refine VL.nn ?_
   refine VC.no rfl ?_
   refine VC.seq ?_
   refine VC.sr ?_
   refine VL.eql rfl rfl ?_
   refine VL.case (fun h10_0 => ?_) (fun h10_0 => ?_)
   ·have h10_0 : takeN (openP l) 1 = 2 := by have h : ((takeN (openP l) 1 : Nat) : Int) = 2 := h10_0; omega
    refine VL.assign rfl ?_
    refine VL.nn ?_
    refine VC.yes rfl ?_
    refine VC.skip ?_
    refine VX.next ?_
    refine VC.yes rfl ?_
    refine VC.region ?_
    refine VL.move rfl ?_
    refine VL.call Try.func122 rfl (by decide) rfl (fun w' hw => byte_R (i := 1) rfl hw) (fun v => ?_)
    refine VL.fact fun e18 => ?_
    subst e18
    refine VL.set1 ?_
    refine VL.move rfl ?_
    refine VL.call Try.func122 rfl (by decide) rfl (fun w' hw => byte_R (i := 1) rfl hw) (fun v => ?_)
    refine VL.fact fun e19 => ?_
    subst e19
    refine VL.set1 ?_
    refine VL.fieldAddr rfl fo87_1 rfl ?_
    refine VL.store (L := itemL) (qs := [[.int .u8 (takeN ((openP (l)).drop 1) 1)]]) 0 1 1 rfl rfl rfl (.inr ⟨kd5, rfl⟩) rfl rfl rfl (by intro u hu; simp [cat] at hu; subst hu; rfl) rfl rfl ?_
    refine VL.set0 ?_
    refine VL.fieldAddr rfl fo87_2 rfl ?_
    refine VL.store (L := itemL) (qs := [[.int .u8 (takeN (((openP (l)).drop 1).drop 1) 1)]]) 0 2 1 rfl rfl rfl (.inr ⟨kd5, rfl⟩) rfl rfl rfl (by intro u hu; simp [cat] at hu; subst hu; rfl) rfl rfl ?_
    refine VL.set0 ?_
    refine VL.nil ?_
    refine VX.block_normal ?_
    refine VX.next ?_
    refine VC.sr ?_
    refine VL.move rfl ?_
    refine VL.move rfl ?_
    refine VL.call Try.func125 rfl (by decide) rfl (fun w' hw => fail_R (i := 1) rfl hw (0)) (fun v => ?_)
    refine VL.fact fun e20 => ?_
    subst e20
    refine VL.set1 ?_
    refine VL.nn ?_
    refine VC.seq ?_
    refine VC.sr ?_
    refine VL.move rfl ?_
    refine VL.call Try.func126 rfl (by decide) rfl (fun w' hw => end_R (i := 1) rfl hw) (fun v => ?_)
    refine VL.fact fun e21 => ?_
    subst e21
    refine VL.set1 ?_
    refine VL.neq rfl rfl ?_
    refine VL.case (fun h20_2 => ?_) (fun h20_2 => ?_)
    ·refine VL.nn ?_
     refine VC.yes rfl ?_
     refine VC.sr ?_
     refine VL.build0 (cs := cat (itemV (item0) none 0 none 0)) built87 ?_
     refine VL.store (L := itemL) (qs := (itemV (item0) none 0 none 0)) (ps' := (itemV (item0) none 0 none 0)) 2 0 28 rfl rfl rfl (.inl kd87) rfl rfl (itemV_len item0_ok) (itemV_ok1 item0 none 0 none 0) rfl rfl ?_
     refine VL.set2 ?_
     refine VL.assign rfl ?_
     refine VL.nn ?_
     refine VC.ret ?_
     refine VX.then_ret ?_
     refine VX.ret_cell (cs := cat (itemV (item0) none 0 none 0)) 2 rfl rfl rfl (by rw [cat_size (itemV_len item0_ok)]; exact kd87) (fun _ h => h) rfl rfl (fun we hw => ?_)
     obtain ⟨hn1, _⟩ := item_w2 h3_4 (.inl h10_0)
     obtain ⟨e1, e2⟩ := itemW_none (by omega) (by omega) h20_2 hn1
     exact ⟨none, 0, none, 0, by rw [e1]; exact congrArg (fun n : Nat => Value.tuple #[_, .int .i64 (n : Int)]) (e2).symm, hw.drop.drop.drop.subA, by rw [e1]; exact Arr.none, by rw [e1]; exact Arr.none⟩
    ·refine VL.nn ?_
     refine VC.no rfl ?_
     refine VC.skip ?_
     refine VX.next ?_
     refine VC.sr ?_
     refine VL.loads (cs := cat (itemV ((Itm.mk (takeN (openP l) 1) (takeN ((openP l).drop 1) 1) (takeN (((openP l).drop 1).drop 1) 1) letter0 bundle0 object0)) none 0 none 0)) 0 0 28 rfl kd87 (fun _ h => h) rfl rfl rfl rfl ?_
     refine VL.store (L := itemL) (qs := (itemV ((Itm.mk (takeN (openP l) 1) (takeN ((openP l).drop 1) 1) (takeN (((openP l).drop 1).drop 1) 1) letter0 bundle0 object0)) none 0 none 0)) (ps' := (itemV ((Itm.mk (takeN (openP l) 1) (takeN ((openP l).drop 1) 1) (takeN (((openP l).drop 1).drop 1) 1) letter0 bundle0 object0)) none 0 none 0)) 2 0 28 rfl rfl rfl (.inl kd87) rfl rfl (itemV_len (⟨takeN_lt _ 1, (takeN_lt _ 1), (takeN_lt _ 1), letter0_ok, bundle0_ok, object0_ok⟩ : Itm.ok _)) (itemV_ok1 ((Itm.mk (takeN (openP l) 1) (takeN ((openP l).drop 1) 1) (takeN (((openP l).drop 1).drop 1) 1) letter0 bundle0 object0)) none 0 none 0) rfl rfl ?_
     refine VL.set2 ?_
     refine VL.assign rfl ?_
     refine VL.nn ?_
     refine VC.ret ?_
     refine VX.ret_cell (cs := cat (itemV ((Itm.mk (takeN (openP l) 1) (takeN ((openP l).drop 1) 1) (takeN (((openP l).drop 1).drop 1) 1) letter0 bundle0 object0)) none 0 none 0)) 2 rfl rfl rfl (by rw [cat_size (itemV_len (⟨takeN_lt _ 1, (takeN_lt _ 1), (takeN_lt _ 1), letter0_ok, bundle0_ok, object0_ok⟩ : Itm.ok _))]; exact kd87) (fun _ h => h) rfl rfl (fun we hw => ?_)
     obtain ⟨hn1, hn2⟩ := item_w2 h3_4 (.inl h10_0)
     obtain ⟨y, e1, e2⟩ := itemW_some (by omega) (by omega) h20_2 hn1
     have e3 := hn2 y e1
     rw [e1, e2, e3]
     exact ⟨_, _, _, _, rfl, hw.drop.drop.drop.subA, Arr.none, Arr.none⟩
   ·have h10_0 : takeN (openP l) 1 ≠ 2 := by have h : ¬ ((takeN (openP l) 1 : Nat) : Int) = 2 := h10_0; omega
    refine VL.assign rfl ?_
    refine VL.nn ?_
    refine VC.no rfl ?_
    refine VC.region ?_
    refine VL.eql rfl rfl ?_
    refine VL.case (fun h11_0 => ?_) (fun h11_0 => ?_)
    ·have h11_0 : takeN (openP l) 1 = 4 := by have h : ((takeN (openP l) 1 : Nat) : Int) = 4 := h11_0; omega
     refine VL.assign rfl ?_
     refine VL.nn ?_
     refine VC.yes rfl ?_
     refine VC.region ?_
     refine VL.move rfl ?_
     refine VL.call Try.func122 rfl (by decide) rfl (fun w' hw => byte_R (i := 1) rfl hw) (fun v => ?_)
     refine VL.fact fun e22 => ?_
     subst e22
     refine VL.set1 ?_
     refine VL.move rfl ?_
     refine VL.call Try.func122 rfl (by decide) rfl (fun w' hw => byte_R (i := 1) rfl hw) (fun v => ?_)
     refine VL.fact fun e23 => ?_
     subst e23
     refine VL.set1 ?_
     refine VL.fieldAddr rfl fo87_1 rfl ?_
     refine VL.store (L := itemL) (qs := [[.int .u8 (takeN ((openP (l)).drop 1) 1)]]) 0 1 1 rfl rfl rfl (.inr ⟨kd5, rfl⟩) rfl rfl rfl (by intro u hu; simp [cat] at hu; subst hu; rfl) rfl rfl ?_
     refine VL.set0 ?_
     refine VL.fieldAddr rfl fo87_2 rfl ?_
     refine VL.store (L := itemL) (qs := [[.int .u8 (takeN (((openP (l)).drop 1).drop 1) 1)]]) 0 2 1 rfl rfl rfl (.inr ⟨kd5, rfl⟩) rfl rfl rfl (by intro u hu; simp [cat] at hu; subst hu; rfl) rfl rfl ?_
     refine VL.set0 ?_
     refine VL.nil ?_
     refine VX.block_normal ?_
     refine VX.next ?_
     refine VC.sr ?_
     refine VL.move rfl ?_
     refine VL.move rfl ?_
     refine VL.call Try.func125 rfl (by decide) rfl (fun w' hw => fail_R (i := 1) rfl hw (0)) (fun v => ?_)
     refine VL.fact fun e24 => ?_
     subst e24
     refine VL.set1 ?_
     refine VL.nn ?_
     refine VC.seq ?_
     refine VC.sr ?_
     refine VL.move rfl ?_
     refine VL.call Try.func126 rfl (by decide) rfl (fun w' hw => end_R (i := 1) rfl hw) (fun v => ?_)
     refine VL.fact fun e25 => ?_
     subst e25
     refine VL.set1 ?_
     refine VL.neq rfl rfl ?_
     refine VL.case (fun h20_2 => ?_) (fun h20_2 => ?_)
     ·refine VL.nn ?_
      refine VC.yes rfl ?_
      refine VC.sr ?_
      refine VL.build0 (cs := cat (itemV (item0) none 0 none 0)) built87 ?_
      refine VL.store (L := itemL) (qs := (itemV (item0) none 0 none 0)) (ps' := (itemV (item0) none 0 none 0)) 2 0 28 rfl rfl rfl (.inl kd87) rfl rfl (itemV_len item0_ok) (itemV_ok1 item0 none 0 none 0) rfl rfl ?_
      refine VL.set2 ?_
      refine VL.assign rfl ?_
      refine VL.nn ?_
      refine VC.ret ?_
      refine VX.then_ret ?_
      refine VX.ret_cell (cs := cat (itemV (item0) none 0 none 0)) 2 rfl rfl rfl (by rw [cat_size (itemV_len item0_ok)]; exact kd87) (fun _ h => h) rfl rfl (fun we hw => ?_)
      obtain ⟨hn1, _⟩ := item_w2 h3_4 (.inr h11_0)
      obtain ⟨e1, e2⟩ := itemW_none (by omega) (by omega) h20_2 hn1
      exact ⟨none, 0, none, 0, by rw [e1]; exact congrArg (fun n : Nat => Value.tuple #[_, .int .i64 (n : Int)]) (e2).symm, hw.drop.drop.drop.subA, by rw [e1]; exact Arr.none, by rw [e1]; exact Arr.none⟩
     ·refine VL.nn ?_
      refine VC.no rfl ?_
      refine VC.skip ?_
      refine VX.next ?_
      refine VC.sr ?_
      refine VL.loads (cs := cat (itemV ((Itm.mk (takeN (openP l) 1) (takeN ((openP l).drop 1) 1) (takeN (((openP l).drop 1).drop 1) 1) letter0 bundle0 object0)) none 0 none 0)) 0 0 28 rfl kd87 (fun _ h => h) rfl rfl rfl rfl ?_
      refine VL.store (L := itemL) (qs := (itemV ((Itm.mk (takeN (openP l) 1) (takeN ((openP l).drop 1) 1) (takeN (((openP l).drop 1).drop 1) 1) letter0 bundle0 object0)) none 0 none 0)) (ps' := (itemV ((Itm.mk (takeN (openP l) 1) (takeN ((openP l).drop 1) 1) (takeN (((openP l).drop 1).drop 1) 1) letter0 bundle0 object0)) none 0 none 0)) 2 0 28 rfl rfl rfl (.inl kd87) rfl rfl (itemV_len (⟨takeN_lt _ 1, (takeN_lt _ 1), (takeN_lt _ 1), letter0_ok, bundle0_ok, object0_ok⟩ : Itm.ok _)) (itemV_ok1 ((Itm.mk (takeN (openP l) 1) (takeN ((openP l).drop 1) 1) (takeN (((openP l).drop 1).drop 1) 1) letter0 bundle0 object0)) none 0 none 0) rfl rfl ?_
      refine VL.set2 ?_
      refine VL.assign rfl ?_
      refine VL.nn ?_
      refine VC.ret ?_
      refine VX.ret_cell (cs := cat (itemV ((Itm.mk (takeN (openP l) 1) (takeN ((openP l).drop 1) 1) (takeN (((openP l).drop 1).drop 1) 1) letter0 bundle0 object0)) none 0 none 0)) 2 rfl rfl rfl (by rw [cat_size (itemV_len (⟨takeN_lt _ 1, (takeN_lt _ 1), (takeN_lt _ 1), letter0_ok, bundle0_ok, object0_ok⟩ : Itm.ok _))]; exact kd87) (fun _ h => h) rfl rfl (fun we hw => ?_)
      obtain ⟨hn1, hn2⟩ := item_w2 h3_4 (.inr h11_0)
      obtain ⟨y, e1, e2⟩ := itemW_some (by omega) (by omega) h20_2 hn1
      have e3 := hn2 y e1
      rw [e1, e2, e3]
      exact ⟨_, _, _, _, rfl, hw.drop.drop.drop.subA, Arr.none, Arr.none⟩
    ·have h11_0 : takeN (openP l) 1 ≠ 4 := by have h : ¬ ((takeN (openP l) 1 : Nat) : Int) = 4 := h11_0; omega
     refine VL.assign rfl ?_
     refine VL.nn ?_
     refine VC.no rfl ?_
     refine VC.sr ?_
     refine VL.eql rfl rfl ?_
     refine VL.case (fun h13_0 => ?_) (fun h13_0 => ?_)
     ·have h13_0 : takeN (openP l) 1 = 3 := by have h : ((takeN (openP l) 1 : Nat) : Int) = 3 := h13_0; omega
      refine VL.assign rfl ?_
      refine VL.nn ?_
      refine VC.yes rfl ?_
      refine VC.sr ?_
      refine VL.move rfl ?_
      refine VL.call Try.func122 rfl (by decide) rfl (fun w' hw => byte_R (i := 1) rfl hw) (fun v => ?_)
      refine VL.fact fun e26 => ?_
      subst e26
      refine VL.set1 ?_
      refine VL.fieldAddr rfl fo87_1 rfl ?_
      refine VL.store (L := itemL) (qs := [[.int .u8 (takeN ((openP (l)).drop 1) 1)]]) 0 1 1 rfl rfl rfl (.inr ⟨kd5, rfl⟩) rfl rfl rfl (by intro u hu; simp [cat] at hu; subst hu; rfl) rfl rfl ?_
      refine VL.set0 ?_
      refine VL.nn ?_
      refine VC.region ?_
      refine VL.move rfl ?_
      refine VL.call Try.func124 rfl (by decide) rfl (fun w' hw => piece_R (i := 1) rfl hw) (fun v => ?_)
      refine VL.at (fun w27 h1w => ?_)
      obtain ⟨p28, c29, rfl, hO31, hA30⟩ := h1w
      replace hO31 := ownSet1 hO31
      replace hA30 := arrSet1 hA30
      refine VL.toOwn hO31 ?_
      refine VL.call Try.func61 rfl (by decide) rfl (fun w' hw => getBundle_w hw (hA30.nowA (s := ⟨w27, _⟩) Mono.byte hw)) (fun v => ?_)
      refine VL.fact fun e32 => ?_
      subst e32
      refine VL.move rfl ?_
      refine VL.extract rfl rfl ?_
      refine VL.extract rfl rfl ?_
      refine VL.fieldAddr rfl fo87_4 rfl ?_
      refine VL.store (L := itemL) (qs := (bundleV (((bundleR (nextP (((openP (l)).drop 1).drop 1))).getD bundle0)))) 0 15 6 rfl rfl rfl (.inl kd82) rfl rfl (bundleV_len (bundleR_ok (nextP (((openP (l)).drop 1).drop 1)))) (bundleV_ok1 (((bundleR (nextP (((openP (l)).drop 1).drop 1))).getD bundle0))) rfl rfl ?_
      refine VL.set0 ?_
      refine VL.assign rfl ?_
      refine VL.nil ?_
      refine VX.block_normal ?_
      refine VX.next ?_
      refine VC.sr ?_
      refine VL.move rfl ?_
      refine VL.move rfl ?_
      refine VL.call Try.func125 rfl (by decide) rfl (fun w' hw => fail_R (i := 1) rfl hw (if (bundleR (nextP (((openP (l)).drop 1).drop 1))).isSome then 0 else 141)) (fun v => ?_)
      refine VL.fact fun e33 => ?_
      subst e33
      refine VL.set1 ?_
      refine VL.nn ?_
      refine VC.seq ?_
      refine VC.sr ?_
      refine VL.move rfl ?_
      refine VL.call Try.func126 rfl (by decide) rfl (fun w' hw => end_R (i := 1) rfl hw) (fun v => ?_)
      refine VL.fact fun e34 => ?_
      subst e34
      refine VL.set1 ?_
      refine VL.neq rfl rfl ?_
      refine VL.case (fun h20_2 => ?_) (fun h20_2 => ?_)
      ·refine VL.nn ?_
       refine VC.yes rfl ?_
       refine VC.sr ?_
       refine VL.build0 (cs := cat (itemV (item0) none 0 none 0)) built87 ?_
       refine VL.store (L := itemL) (qs := (itemV (item0) none 0 none 0)) (ps' := (itemV (item0) none 0 none 0)) 2 0 28 rfl rfl rfl (.inl kd87) rfl rfl (itemV_len item0_ok) (itemV_ok1 item0 none 0 none 0) rfl rfl ?_
       refine VL.set2 ?_
       refine VL.assign rfl ?_
       refine VL.nn ?_
       refine VC.ret ?_
       refine VX.then_ret ?_
       refine VX.ret_cell (cs := cat (itemV (item0) none 0 none 0)) 2 rfl rfl rfl (by rw [cat_size (itemV_len item0_ok)]; exact kd87) (fun _ h => h) rfl rfl (fun we hw => ?_)
       obtain ⟨hn1, _⟩ := item_w3 h3_4 h13_0
       obtain ⟨e1, e2⟩ := itemW_none (by omega) (by omega) h20_2 hn1
       exact ⟨none, 0, none, 0, by rw [e1]; exact congrArg (fun n : Nat => Value.tuple #[_, .int .i64 (n : Int)]) (e2).symm, hw.drop.drop.drop.subA, by rw [e1]; exact Arr.none, by rw [e1]; exact Arr.none⟩
      ·refine VL.nn ?_
       refine VC.no rfl ?_
       refine VC.skip ?_
       refine VX.next ?_
       refine VC.sr ?_
       refine VL.loads (cs := cat (itemV ((Itm.mk (takeN (openP l) 1) (takeN ((openP l).drop 1) 1) 0 letter0 ((bundleR (nextP (((openP l).drop 1).drop 1))).getD bundle0) object0)) none 0 none 0)) 0 0 28 rfl kd87 (fun _ h => h) rfl rfl rfl rfl ?_
       refine VL.store (L := itemL) (qs := (itemV ((Itm.mk (takeN (openP l) 1) (takeN ((openP l).drop 1) 1) 0 letter0 ((bundleR (nextP (((openP l).drop 1).drop 1))).getD bundle0) object0)) none 0 none 0)) (ps' := (itemV ((Itm.mk (takeN (openP l) 1) (takeN ((openP l).drop 1) 1) 0 letter0 ((bundleR (nextP (((openP l).drop 1).drop 1))).getD bundle0) object0)) none 0 none 0)) 2 0 28 rfl rfl rfl (.inl kd87) rfl rfl (itemV_len (⟨takeN_lt _ 1, (takeN_lt _ 1), (show (0 : Nat) < 256 by decide), letter0_ok, (bundleR_ok _), object0_ok⟩ : Itm.ok _)) (itemV_ok1 ((Itm.mk (takeN (openP l) 1) (takeN ((openP l).drop 1) 1) 0 letter0 ((bundleR (nextP (((openP l).drop 1).drop 1))).getD bundle0) object0)) none 0 none 0) rfl rfl ?_
       refine VL.set2 ?_
       refine VL.assign rfl ?_
       refine VL.nn ?_
       refine VC.ret ?_
       refine VX.ret_cell (cs := cat (itemV ((Itm.mk (takeN (openP l) 1) (takeN ((openP l).drop 1) 1) 0 letter0 ((bundleR (nextP (((openP l).drop 1).drop 1))).getD bundle0) object0)) none 0 none 0)) 2 rfl rfl rfl (by rw [cat_size (itemV_len (⟨takeN_lt _ 1, (takeN_lt _ 1), (show (0 : Nat) < 256 by decide), letter0_ok, (bundleR_ok _), object0_ok⟩ : Itm.ok _))]; exact kd87) (fun _ h => h) rfl rfl (fun we hw => ?_)
       obtain ⟨hn1, hn2⟩ := item_w3 h3_4 h13_0
       obtain ⟨y, e1, e2⟩ := itemW_some (by omega) (by omega) h20_2 hn1
       have e3 := hn2 y e1
       have e4 := h13_0
       rw [e1, e2, e3]
       exact ⟨_, _, _, _, by rw [e4]; rfl, hw.drop.drop.drop.subA, Arr.none, Arr.none⟩
     ·have h13_0 : takeN (openP l) 1 ≠ 3 := by have h : ¬ ((takeN (openP l) 1 : Nat) : Int) = 3 := h13_0; omega
      refine VL.assign rfl ?_
      refine VL.nn ?_
      refine VC.no rfl ?_
      refine VC.seq ?_
      refine VC.sr ?_
      refine VL.eql rfl rfl ?_
      refine VL.case (fun h16_0 => ?_) (fun h16_0 => ?_)
      ·have h16_0 : takeN (openP l) 1 = 5 := by have h : ((takeN (openP l) 1 : Nat) : Int) = 5 := h16_0; omega
       refine VL.assign rfl ?_
       refine VL.nn ?_
       refine VC.yes rfl ?_
       refine VC.skip ?_
       refine VX.next ?_
       refine VC.yes rfl ?_
       refine VC.region ?_
       refine VL.move rfl ?_
       refine VL.call Try.func124 rfl (by decide) rfl (fun w' hw => piece_R (i := 1) rfl hw) (fun v => ?_)
       refine VL.at (fun w35 h1w => ?_)
       obtain ⟨p36, c37, rfl, hO39, hA38⟩ := h1w
       replace hO39 := ownSet1 hO39
       replace hA38 := arrSet1 hA38
       refine VL.toOwn hO39 ?_
       refine VL.call Try.func71 rfl (by decide) rfl (fun w' hw => getObject_w hw (hA38.nowA (s := ⟨w35, _⟩) Mono.byte hw)) (fun v => ?_)
       refine VL.at (fun w40 h1w => ?_)
       obtain ⟨p42, c43, rfl, hO41, hA44⟩ := h1w
       refine VL.toOwn hO41 ?_
       refine VL.move rfl ?_
       refine VL.extract rfl rfl ?_
       refine VL.extract rfl rfl ?_
       refine VL.fieldAddr rfl fo87_5 rfl ?_
       refine VL.store (L := itemL) (qs := (objectV (((objectR (nextP ((openP (l)).drop 1))).getD object0)) p42 c43)) 0 21 7 rfl rfl rfl (.inl kd85) rfl rfl (objectV_len (objectR_ok (nextP ((openP (l)).drop 1)))) (objectV_ok1 (((objectR (nextP ((openP (l)).drop 1))).getD object0)) p42 c43) rfl rfl ?_
       refine VL.set0 ?_
       refine VL.assign rfl ?_
       refine VL.nil ?_
       refine VX.block_normal ?_
       refine VX.next ?_
       refine VC.sr ?_
       refine VL.move rfl ?_
       refine VL.move rfl ?_
       refine VL.call Try.func125 rfl (by decide) rfl (fun w' hw => fail_R (i := 1) rfl hw (if (objectR (nextP ((openP (l)).drop 1))).isSome then 0 else 141)) (fun v => ?_)
       refine VL.fact fun e45 => ?_
       subst e45
       refine VL.set1 ?_
       refine VL.nn ?_
       refine VC.seq ?_
       refine VC.sr ?_
       refine VL.move rfl ?_
       refine VL.call Try.func126 rfl (by decide) rfl (fun w' hw => end_R (i := 1) rfl hw) (fun v => ?_)
       refine VL.fact fun e46 => ?_
       subst e46
       refine VL.set1 ?_
       refine VL.neq rfl rfl ?_
       refine VL.case (fun h20_2 => ?_) (fun h20_2 => ?_)
       ·refine VL.nn ?_
        refine VC.yes rfl ?_
        refine VC.sr ?_
        refine VL.build0 (cs := cat (itemV (item0) none 0 none 0)) built87 ?_
        refine VL.store (L := itemL) (qs := (itemV (item0) none 0 none 0)) (ps' := (itemV (item0) none 0 none 0)) 2 0 28 rfl rfl rfl (.inl kd87) rfl rfl (itemV_len item0_ok) (itemV_ok1 item0 none 0 none 0) rfl rfl ?_
        refine VL.set2 ?_
        refine VL.assign rfl ?_
        refine VL.nn ?_
        refine VC.ret ?_
        refine VX.then_ret ?_
        refine VX.ret_cell (cs := cat (itemV (item0) none 0 none 0)) 2 rfl rfl rfl (by rw [cat_size (itemV_len item0_ok)]; exact kd87) (fun _ h => h) rfl rfl (fun we hw => ?_)
        obtain ⟨hn1, _⟩ := item_w5 h3_4 (.inl h16_0)
        obtain ⟨e1, e2⟩ := itemW_none (by omega) (by omega) h20_2 hn1
        exact ⟨none, 0, none, 0, by rw [e1]; exact congrArg (fun n : Nat => Value.tuple #[_, .int .i64 (n : Int)]) (e2).symm, hw.drop.drop.drop.subA, by rw [e1]; exact Arr.none, by rw [e1]; exact Arr.none⟩
       ·refine VL.nn ?_
        refine VC.no rfl ?_
        refine VC.skip ?_
        refine VX.next ?_
        refine VC.sr ?_
        refine VL.loads (cs := cat (itemV ((Itm.mk (takeN (openP l) 1) 0 0 letter0 bundle0 ((objectR (nextP ((openP l).drop 1))).getD object0))) none 0 p42 c43)) 0 0 28 rfl kd87 (fun _ h => h) rfl rfl rfl rfl ?_
        refine VL.store (L := itemL) (qs := (itemV ((Itm.mk (takeN (openP l) 1) 0 0 letter0 bundle0 ((objectR (nextP ((openP l).drop 1))).getD object0))) none 0 p42 c43)) (ps' := (itemV ((Itm.mk (takeN (openP l) 1) 0 0 letter0 bundle0 ((objectR (nextP ((openP l).drop 1))).getD object0))) none 0 p42 c43)) 2 0 28 rfl rfl rfl (.inl kd87) rfl rfl (itemV_len (⟨takeN_lt _ 1, (show (0 : Nat) < 256 by decide), (show (0 : Nat) < 256 by decide), letter0_ok, bundle0_ok, (objectR_ok _)⟩ : Itm.ok _)) (itemV_ok1 ((Itm.mk (takeN (openP l) 1) 0 0 letter0 bundle0 ((objectR (nextP ((openP l).drop 1))).getD object0))) none 0 p42 c43) rfl rfl ?_
        refine VL.set2 ?_
        refine VL.assign rfl ?_
        refine VL.nn ?_
        refine VC.ret ?_
        refine VX.ret_cell (cs := cat (itemV ((Itm.mk (takeN (openP l) 1) 0 0 letter0 bundle0 ((objectR (nextP ((openP l).drop 1))).getD object0))) none 0 p42 c43)) 2 rfl rfl rfl (by rw [cat_size (itemV_len (⟨takeN_lt _ 1, (show (0 : Nat) < 256 by decide), (show (0 : Nat) < 256 by decide), letter0_ok, bundle0_ok, (objectR_ok _)⟩ : Itm.ok _))]; exact kd87) (fun _ h => h) rfl rfl (fun we hw => ?_)
        obtain ⟨hn1, hn2⟩ := item_w5 h3_4 (.inl h16_0)
        obtain ⟨y, e1, e2⟩ := itemW_some (by omega) (by omega) h20_2 hn1
        have e3 := hn2 y e1
        rw [e1, e2, e3]
        exact ⟨_, _, _, _, rfl, hw.drop.drop.drop.subA, Arr.none, (hA44.nowA (s := ⟨w40, _⟩) Mono_vouch hw.drop.drop.drop)⟩
      ·have h16_0 : takeN (openP l) 1 ≠ 5 := by have h : ¬ ((takeN (openP l) 1 : Nat) : Int) = 5 := h16_0; omega
       refine VL.assign rfl ?_
       refine VL.nn ?_
       refine VC.no rfl ?_
       refine VC.region ?_
       refine VL.eql rfl rfl ?_
       refine VL.case (fun h17_0 => ?_) (fun h17_0 => ?_)
       ·have h17_0 : takeN (openP l) 1 = 6 := by have h : ((takeN (openP l) 1 : Nat) : Int) = 6 := h17_0; omega
        refine VL.assign rfl ?_
        refine VL.nn ?_
        refine VC.yes rfl ?_
        refine VC.region ?_
        refine VL.move rfl ?_
        refine VL.call Try.func124 rfl (by decide) rfl (fun w' hw => piece_R (i := 1) rfl hw) (fun v => ?_)
        refine VL.at (fun w47 h1w => ?_)
        obtain ⟨p48, c49, rfl, hO51, hA50⟩ := h1w
        replace hO51 := ownSet1 hO51
        replace hA50 := arrSet1 hA50
        refine VL.toOwn hO51 ?_
        refine VL.call Try.func71 rfl (by decide) rfl (fun w' hw => getObject_w hw (hA50.nowA (s := ⟨w47, _⟩) Mono.byte hw)) (fun v => ?_)
        refine VL.at (fun w52 h1w => ?_)
        obtain ⟨p54, c55, rfl, hO53, hA56⟩ := h1w
        refine VL.toOwn hO53 ?_
        refine VL.move rfl ?_
        refine VL.extract rfl rfl ?_
        refine VL.extract rfl rfl ?_
        refine VL.fieldAddr rfl fo87_5 rfl ?_
        refine VL.store (L := itemL) (qs := (objectV (((objectR (nextP ((openP (l)).drop 1))).getD object0)) p54 c55)) 0 21 7 rfl rfl rfl (.inl kd85) rfl rfl (objectV_len (objectR_ok (nextP ((openP (l)).drop 1)))) (objectV_ok1 (((objectR (nextP ((openP (l)).drop 1))).getD object0)) p54 c55) rfl rfl ?_
        refine VL.set0 ?_
        refine VL.assign rfl ?_
        refine VL.nil ?_
        refine VX.block_normal ?_
        refine VX.next ?_
        refine VC.sr ?_
        refine VL.move rfl ?_
        refine VL.move rfl ?_
        refine VL.call Try.func125 rfl (by decide) rfl (fun w' hw => fail_R (i := 1) rfl hw (if (objectR (nextP ((openP (l)).drop 1))).isSome then 0 else 141)) (fun v => ?_)
        refine VL.fact fun e57 => ?_
        subst e57
        refine VL.set1 ?_
        refine VL.nn ?_
        refine VC.seq ?_
        refine VC.sr ?_
        refine VL.move rfl ?_
        refine VL.call Try.func126 rfl (by decide) rfl (fun w' hw => end_R (i := 1) rfl hw) (fun v => ?_)
        refine VL.fact fun e58 => ?_
        subst e58
        refine VL.set1 ?_
        refine VL.neq rfl rfl ?_
        refine VL.case (fun h20_2 => ?_) (fun h20_2 => ?_)
        ·refine VL.nn ?_
         refine VC.yes rfl ?_
         refine VC.sr ?_
         refine VL.build0 (cs := cat (itemV (item0) none 0 none 0)) built87 ?_
         refine VL.store (L := itemL) (qs := (itemV (item0) none 0 none 0)) (ps' := (itemV (item0) none 0 none 0)) 2 0 28 rfl rfl rfl (.inl kd87) rfl rfl (itemV_len item0_ok) (itemV_ok1 item0 none 0 none 0) rfl rfl ?_
         refine VL.set2 ?_
         refine VL.assign rfl ?_
         refine VL.nn ?_
         refine VC.ret ?_
         refine VX.then_ret ?_
         refine VX.ret_cell (cs := cat (itemV (item0) none 0 none 0)) 2 rfl rfl rfl (by rw [cat_size (itemV_len item0_ok)]; exact kd87) (fun _ h => h) rfl rfl (fun we hw => ?_)
         obtain ⟨hn1, _⟩ := item_w5 h3_4 (.inr h17_0)
         obtain ⟨e1, e2⟩ := itemW_none (by omega) (by omega) h20_2 hn1
         exact ⟨none, 0, none, 0, by rw [e1]; exact congrArg (fun n : Nat => Value.tuple #[_, .int .i64 (n : Int)]) (e2).symm, hw.drop.drop.drop.subA, by rw [e1]; exact Arr.none, by rw [e1]; exact Arr.none⟩
        ·refine VL.nn ?_
         refine VC.no rfl ?_
         refine VC.skip ?_
         refine VX.next ?_
         refine VC.sr ?_
         refine VL.loads (cs := cat (itemV ((Itm.mk (takeN (openP l) 1) 0 0 letter0 bundle0 ((objectR (nextP ((openP l).drop 1))).getD object0))) none 0 p54 c55)) 0 0 28 rfl kd87 (fun _ h => h) rfl rfl rfl rfl ?_
         refine VL.store (L := itemL) (qs := (itemV ((Itm.mk (takeN (openP l) 1) 0 0 letter0 bundle0 ((objectR (nextP ((openP l).drop 1))).getD object0))) none 0 p54 c55)) (ps' := (itemV ((Itm.mk (takeN (openP l) 1) 0 0 letter0 bundle0 ((objectR (nextP ((openP l).drop 1))).getD object0))) none 0 p54 c55)) 2 0 28 rfl rfl rfl (.inl kd87) rfl rfl (itemV_len (⟨takeN_lt _ 1, (show (0 : Nat) < 256 by decide), (show (0 : Nat) < 256 by decide), letter0_ok, bundle0_ok, (objectR_ok _)⟩ : Itm.ok _)) (itemV_ok1 ((Itm.mk (takeN (openP l) 1) 0 0 letter0 bundle0 ((objectR (nextP ((openP l).drop 1))).getD object0))) none 0 p54 c55) rfl rfl ?_
         refine VL.set2 ?_
         refine VL.assign rfl ?_
         refine VL.nn ?_
         refine VC.ret ?_
         refine VX.ret_cell (cs := cat (itemV ((Itm.mk (takeN (openP l) 1) 0 0 letter0 bundle0 ((objectR (nextP ((openP l).drop 1))).getD object0))) none 0 p54 c55)) 2 rfl rfl rfl (by rw [cat_size (itemV_len (⟨takeN_lt _ 1, (show (0 : Nat) < 256 by decide), (show (0 : Nat) < 256 by decide), letter0_ok, bundle0_ok, (objectR_ok _)⟩ : Itm.ok _))]; exact kd87) (fun _ h => h) rfl rfl (fun we hw => ?_)
         obtain ⟨hn1, hn2⟩ := item_w5 h3_4 (.inr h17_0)
         obtain ⟨y, e1, e2⟩ := itemW_some (by omega) (by omega) h20_2 hn1
         have e3 := hn2 y e1
         rw [e1, e2, e3]
         exact ⟨_, _, _, _, rfl, hw.drop.drop.drop.subA, Arr.none, (hA56.nowA (s := ⟨w52, _⟩) Mono_vouch hw.drop.drop.drop)⟩
       ·have h17_0 : takeN (openP l) 1 ≠ 6 := by have h : ¬ ((takeN (openP l) 1 : Nat) : Int) = 6 := h17_0; omega
        refine VL.assign rfl ?_
        refine VL.nn ?_
        refine VC.no rfl ?_
        refine VC.sr ?_
        refine VL.build0 (cs := cat (itemV (item0) none 0 none 0)) built87 ?_
        refine VL.store (L := itemL) (qs := (itemV (item0) none 0 none 0)) (ps' := (itemV (item0) none 0 none 0)) 2 0 28 rfl rfl rfl (.inl kd87) rfl rfl (itemV_len item0_ok) (itemV_ok1 item0 none 0 none 0) rfl rfl ?_
        refine VL.set2 ?_
        refine VL.assign rfl ?_
        refine VL.nn ?_
        refine VC.ret ?_
        refine VX.block_ret ?_
        refine VX.then_ret ?_
        refine VX.ret_cell (cs := cat (itemV (item0) none 0 none 0)) 2 rfl rfl rfl (by rw [cat_size (itemV_len item0_ok)]; exact kd87) (fun _ h => h) rfl rfl (fun we hw => ?_)
        obtain ⟨e1, e2⟩ := item_none h3_4 h8_0 h10_0 h13_0 h11_0 h16_0 h17_0
        exact ⟨none, 0, none, 0, by rw [e1]; exact congrArg (fun n : Nat => Value.tuple #[_, .int .i64 (n : Int)]) (e2).symm, hw.drop.drop.drop.subA, by rw [e1]; exact Arr.none, by rw [e1]; exact Arr.none⟩

end Go.Proofs.Ytcfecmoagfgnaaa

/- Calls as cells. -/
namespace Go.Proofs.Ytcfecmoagfgnaaa
open Go.Vc Go.Pl

structure Cal where
  kind : Nat
  seq : Nat
  peer : Nat
  mark : Nat
  bundles : List Bundle
  letter : Letter
structure Cal.ok (x : Cal) : Prop where
  kind : x.kind < 256
  seq : x.seq < 65536
  peer : x.peer < 256
  mark : x.mark < 65536
  bundles : ∀ b ∈ x.bundles, b.ok
  letter : x.letter.ok
end Go.Proofs.Ytcfecmoagfgnaaa

/- Struct arguments, opened. -/
namespace Go.Proofs.Ytcfecmoagfgnaaa
open Go.Vc Go.Pl

open Go.ChangeShapes Go.WideShapes Go.ChangeAt Go.RowKit
section
variable {Hh : Type} {enc : TypeId × Value → Hh} {P : Program} {W : World} {t : TypeId}
theorem Opens.struct {fs : Array Field} {X : Type} {R : Rel X} {r : Reach} {base : Nat} {v : Value} {d : DataW Hh} {ps : List MemPlace} (ht : P.underlying t = some (.struct fs)) (h : Opens enc P W t R) (hval : Value.okWide P W r base t v) (hd : DataW.Trod enc P W 0 (fun _ => true) true t v d ps) :
  ∃ cs y, v = .agg cs.toArray ∧ R [] W cs y := by
 obtain ⟨fuel, hf⟩ := hd
 obtain ⟨y, hy⟩ := h _ _ _ hf
 unfold Value.okWide at hval
 rw [ht] at hval
 obtain ⟨cs, rfl, _⟩ := hval
 exact ⟨cs.toList, y, by simp, by simpa [Value.cells] using hy⟩
end
section
variable {Hh : Type} {enc : TypeId × Value → Hh} {W : World}

def itemR' : Rel Itm := fun K w vs x => ∃ p c q d, x.ok ∧ vs = cat (itemV x p c q d) ∧ Bytes K w p x.letter.body c ∧ Arr 65 vouchR K w q x.object.vouches d
end
end Go.Proofs.Ytcfecmoagfgnaaa

/- Lists of items; replies: their bytes; what bytes are read as. -/
namespace Go.Proofs.Ytcfecmoagfgnaaa
open Go.Vc Go.Pl

structure Rep where
  seq : Nat
  tag : Nat
  mark : Nat
  items : List Itm
structure Rep.ok (x : Rep) : Prop where
  seq : x.seq < 65536
  tag : x.tag < 256
  mark : x.mark < 65536
  items : ∀ i ∈ x.items, i.ok
structure Trn where
  seq : Nat
  items : List Itm
structure Trn.ok (x : Trn) : Prop where
  seq : x.seq < 65536
  items : ∀ i ∈ x.items, i.ok
def trn0 : Trn := ⟨0, []⟩
def restItems (c : List (List UInt8)) : Option (List Itm) :=
  if c.length ≤ 4 ∧ ∀ p ∈ c, (itemR p).isSome = true then some (c.map fun p => (itemR p).getD item0) else none
/-! The loop that reads items. -/
def IInv (c : List (List UInt8)) (why0 : Nat) (xs : List Itm) (ps : List (List UInt8)) (why : Nat) : Prop :=
  (∀ x ∈ xs, x.ok) ∧ xs.length ≤ 4 ∧ ((why = why0 ∧ ∃ d, c = d ++ ps ∧ d.map itemR = xs.map some) ∨ (why = 141 ∧ ∃ p ∈ c, itemR p = none))
theorem IInv.start (c : List (List UInt8)) (why0 : Nat) : IInv c why0 [] c why0 := ⟨by simp, by simp, .inl ⟨rfl, [], rfl, rfl⟩⟩
theorem IInv.step {c : List (List UInt8)} {xs : List Itm} {p : List UInt8} {r : List (List UInt8)} (h : IInv c 0 xs (p :: r) 0) (h4 : xs.length < 4) : IInv c 0 (xs ++ [(itemR p).getD item0]) r (if (itemR p).isSome then 0 else 141) := by
 obtain ⟨h1, h2, h3⟩ := h
 refine ⟨fun b hb => ?_, by simp; omega, ?_⟩
 ·rcases List.mem_append.1 hb with hb | hb
  ·exact h1 b hb
  ·rw [List.mem_singleton] at hb; subst hb; exact itemR_ok p
 ·rcases h3 with ⟨_, d, hd, hm⟩ | ⟨h, _⟩
  ·cases hp : itemR p with
   | none => exact .inr ⟨rfl, p, by rw [hd]; simp, hp⟩
   | some b => exact .inl ⟨rfl, d ++ [p], by rw [hd]; simp, by simp [hm, hp]⟩
  ·cases h
theorem IInv.done {c : List (List UInt8)} {why0 : Nat} (h0 : why0 = 0 ∨ why0 = 141) {xs : List Itm} {ps : List (List UInt8)} {why : Nat} (h : IInv c why0 xs ps why) (hx : ps = [] ∨ 4 ≤ xs.length ∨ why ≠ 0) : endW ps why = (if why0 = 0 ∧ (restItems c).isSome = true then 0 else 141) ∧ (why0 = 0 → ∀ ys, restItems c = some ys → ys = xs) := by
 obtain ⟨h1, h2, h3⟩ := h
 rcases h3 with ⟨rfl, d, hd, hm⟩ | ⟨rfl, p, hp, hpn⟩
 ·rcases h0 with rfl | rfl
  ·have hlen : d.length = xs.length := by have := congrArg List.length hm; simpa using this
   by_cases hps : ps = []
   ·subst hps
    rw [List.append_nil] at hd
    have hall : ∀ p ∈ d, (itemR p).isSome = true := fun p hp => by
     have : itemR p ∈ xs.map some := by rw [← hm]; exact List.mem_map.2 ⟨p, hp, rfl⟩
     obtain ⟨b, _, e⟩ := List.mem_map.1 this
     rw [← e]; rfl
    have e2 : d.map (fun p => (itemR p).getD item0) = xs := by
     have := congrArg (List.map fun o : Option Itm => o.getD item0) hm
     rw [List.map_map, List.map_map] at this
     refine this.trans ?_
     conv => rhs; rw [← List.map_id xs]
     exact List.map_congr_left fun _ _ => rfl
    have hr : restItems c = some xs := by
     unfold restItems
     rw [hd, if_pos ⟨by omega, hall⟩, e2]
    rw [hr]
    exact ⟨rfl, fun _ ys hy => (Option.some.inj hy).symm⟩
   ·have h9 : 4 ≤ xs.length := by
     rcases hx with hx | hx | hx
     ·exact absurd hx hps
     ·exact hx
     ·exact absurd rfl hx
    have hpl : 0 < ps.length := List.length_pos_iff.2 hps
    have hr : restItems c = none := by
     unfold restItems
     exact if_neg (fun h => by have h1 := h.1; rw [hd, List.length_append] at h1; omega)
    rw [hr]
    refine ⟨?_, fun _ ys hy => by cases hy⟩
    unfold endW
    rw [if_neg hps]; rfl
  ·exact ⟨(endW_141 _).trans (if_neg (fun h => by cases h.1)).symm, fun h => by cases h⟩
 ·have hr : restItems c = none := by
   unfold restItems
   exact if_neg (fun h => by have := h.2 p hp; rw [hpn] at this; cases this)
  rw [hr]
  exact ⟨(endW_141 _).trans (if_neg (fun h => by cases h.2)).symm, fun _ ys hy => by cases hy⟩
theorem Mono_item : Mono itemR' := fun _ _ _ _ _ ha ⟨p, c, q, d, h1, h2, h3, h4⟩ => ⟨p, c, q, d, h1, h2, h3.after Mono.byte ha, h4.after Mono_vouch ha⟩
end Go.Proofs.Ytcfecmoagfgnaaa

/- wire: lists of items, read. -/
namespace Go.Proofs.Ytcfecmoagfgnaaa
open Go.Vc Go.Pl

theorem el126 : Elem Try.prog 126 87 433 512 (.agg (cat (itemV item0 none 0 none 0)).toArray) := ⟨Try.underlying126, by kernel_rfl, by kernel_rfl, by kernel_rfl, by decide⟩
theorem one_item {K : List Nat} {w : World} {v : Itm} (hv : v.ok) {p : Option Addr} {c : Nat} {q : Option Addr} {d : Nat} (hA : Bytes K w p v.letter.body c) (hV : Arr 65 vouchR K w q v.object.vouches d) (j : Nat) (y : Itm) (hj : [v][j]? = some y) : itemR' K w ((([Value.agg (cat (itemV v p c q d)).toArray].flatMap (·.cells.toList)).drop (j * 433)).take 433) y := by
 have hj0 : j = 0 := by have := (List.getElem?_eq_some_iff.1 hj).1; simp at this; exact this
 subst hj0
 simp at hj; subst hj
 refine ⟨p, c, q, d, hv, ?_, hA, hV⟩
 have e : [Value.agg (cat (itemV v p c q d)).toArray].flatMap (·.cells.toList) = cat (itemV v p c q d) := by simp [Value.cells]
 rw [e, Nat.zero_mul, List.drop_zero, List.take_of_length_le (by rw [cat_size (itemV_len hv)]; decide)]
theorem newRowI {S : List Snap} {H : List Chunk} {w : World} (h : Own S H w) : Own S (arow 87 433 itemR' Mono_item none 0 ([] : List Itm) :: H) w := Own.arow_nil Mono_item 87 433 h
theorem itemR'_ok1 : ∀ (K : List Nat) (w : World) (vs : List Value) (y : Itm), itemR' K w vs y → ok1 vs := by
 rintro K w vs y ⟨p, c, q, d, _, rfl, _, _⟩
 exact itemV_ok1 _ _ _ _ _
end Go.Proofs.Ytcfecmoagfgnaaa

/- A region whose order is open, in which a text's bytes are marked. -/
namespace Go.Vc
open Go.Proofs.Ytcfecmoagfgnaaa
section
variable {P : Program} {n : Nat} {Q : Exit → Act → World → Prop} {ops : Array Oper} {S : List Snap} {H : List Chunk}

/-- Memory that nobody owns stays, but for what is marked behind a row. -/
def Marked (K : List Nat) (w w' : World) : Prop :=
  w'.os = w.os ∧ w'.tape = w.tape ∧ w'.output = w.output ∧ w.heap.size ≤ w'.heap.size ∧ ∀ k, k < w.heap.size → k ∉ K → w'.heap[k]? = w.heap[k]? ∨ ∃ cs e fr fr', w.heap[k]? = some (.cells cs e fr) ∧ w'.heap[k]? = some (.cells cs e fr')
theorem Marked.of {K : List Nat} {w w' : World} (h : Snap.ok ⟨w, K⟩ w') : Marked K w w' := ⟨h.os, h.tape, h.output, h.size, fun k a b => .inl (h.block k a b)⟩
theorem Arr.marked {X : Type} {R : Rel X} {sz : Nat} {K : List Nat} {w w' : World} {p : Option Addr} {xs : List X} {c : Nat} (h : Arr sz R K w p xs c) (hm : Marked K w w') (hR : ∀ vs x, R K w vs x → R K w' vs x) : Arr sz R K w' p xs c :=
 ⟨h.le, h.cap, h.nil, fun a ea hc => by
  obtain ⟨h1, h2, h3, cs, el, fr, hg, hx⟩ := h.at_ a ea hc
  obtain ⟨_, _, _, hsz, hb⟩ := hm
  rcases hb a.block h3 h2 with e | ⟨cs', e', fr', fr'', e1, e2⟩
  ·exact ⟨h1, h2, by omega, cs, el, fr, by rw [e]; exact hg, fun j x hj => (hx j x hj).elim fun vs ⟨a1, a2, a3⟩ => ⟨vs, a1, hR vs x a2, a3⟩⟩
  ·rw [hg] at e1
   cases e1
   exact ⟨h1, h2, by omega, cs, el, fr'', e2, fun j x hj => (hx j x hj).elim fun vs ⟨a1, a2, a3⟩ => ⟨vs, a1, hR vs x a2, a3⟩⟩⟩
def Lasts {K : List Nat} (f : SFact K) : Prop := ∀ v w w', Marked K w w' → f.f v w → f.f v w'
def AllLast {K : List Nat} : List (SFact K) → Prop
  | [] => True
  | f :: r => Lasts f ∧ AllLast r
theorem AllLast.get {K : List Nat} : ∀ {F : List (SFact K)}, AllLast F → ∀ (i : Nat) (f : SFact K), F[i]? = some f → Lasts f
 | [], _, i, f, h => by simp at h
 | g :: r, ⟨h1, h2⟩, i, f, h => by
  cases i with
  | zero => simp at h; subst h; exact h1
  | succ i => exact AllLast.get h2 i f (by simpa using h)

/-- A chunk that says nothing of other memory. -/
def Solid (c : Chunk) : Prop := ∀ K w w', (∀ k ∈ c.ks, w'.heap[k]? = w.heap[k]?) → c.φ K w → c.φ K w'
theorem Own.mark {w w' : World} {g : Nat} (h : Own S H w) (hs : ∀ c ∈ H, Solid c) (hgk : g ∉ keys H) (hn : ∀ s ∈ S, g ∈ s.K ∨ s.w.heap.size ≤ g) (h1 : w'.os = w.os) (h2 : w'.tape = w.tape) (h3 : w'.output = w.output) (h4 : w'.heap.size = w.heap.size) (h5 : ∀ k, k ≠ g → w'.heap[k]? = w.heap[k]?) : Own S H w' := by
 refine ⟨h.nodup, fun k hk => by rw [h4]; exact h.lt k hk, fun c hc => hs c hc _ w w' (fun k hk => h5 k fun e => hgk (by subst e; exact List.mem_flatMap.2 ⟨c, hc, hk⟩)) (h.holds c hc), fun s hsm => ?_⟩
 obtain ⟨a, b⟩ := h.snap s hsm
 refine ⟨⟨h1.trans a.os, h2.trans a.tape, h3.trans a.output, by rw [h4]; exact a.size, fun k hk hk2 => ?_⟩, b⟩
 rw [h5 k ?_]
 ·exact a.block k hk hk2
 ·rintro rfl
  rcases hn s hsm with e | e
  ·exact hk2 e
  ·omega
end
end Go.Vc

/- The rules of the walks, continued: in a region whose order is open, an operation without a result turns what is owned. -/
namespace Go.Vc
open Go.Proofs.Ytcfecmoagfgnaaa
section
variable {P : Program} {n : Nat} {Q : Exit → Act → World → Prop} {ops : Array Oper} {S : List Snap} {H H' : List Chunk}
/-- What is owned, ahead of that operation and behind it. -/
def JL (S : List Snap) (H H' : List Chunk) : Bool → World → Prop
  | false, w => Own S H w
  | true, w => Own S H' w
theorem JL.ok {ph : Bool} {w : World} (h : JL S H H' ph w) {s : Snap} (hs : s ∈ S) : s.ok w := by
 cases ph with
 | false => exact (Own.snap h s hs).1
 | true => exact (Own.snap h s hs).1
theorem obSL {kk : Nat} {F : List (SFact (keys H))} {σ : Sl} {i : Nat} {I : Ins} {o : Oper} (hok : insOk ops i I = true) (hn : decide ((I.pre.map (·.1)).Nodup) = true) (hk : Nat.beq i kk = false)
  (h : ∀ ph w0, JL S H H' ph w0 → EachV F w0 I.pre [] (fun τ => VL P n ops (Post n Q (JL S H H') (Turn (keys H)) (factOf (F.map (·.f)) i) o.dst ph ph w0) [o] (τ ++ only σ I.bas) (fun w => w = w0))) :
  Ob P n ops Q (JL S H H') (Turn (keys H)) kk (F.map (·.f)) σ i I o :=
 ⟨hok, fun ph w0 vals hJ _ _ _ _ hF => by
  have h1 := EachV.spec I.pre [] _ (h ph w0 hJ) hF
  intro a w ha hw
  have h2 := h1 a w (ha.back (of_decide_eq_true hn)) hw
  have e : (ph || Nat.beq i kk) = ph := by rw [hk, Bool.or_false]
  rw [e]
  exact h2⟩
theorem obL {kk : Nat} {F : List (SFact (keys H))} {σ : Sl} {i : Nat} {I : Ins} {o : Oper} (hok : insOk ops i I = true) (hn : decide ((I.pre.map (·.1)).Nodup) = true)
  (hk : (match ops[kk]? with | none => false | some p => !waits p i) = false) (hki : Nat.beq i kk = false)
  (h : ∀ w0, Own S H w0 → EachV F w0 I.pre [] (fun τ => VL P n ops (Post n Q (JL S H H') (Turn (keys H)) (factOf (F.map (·.f)) i) o.dst false false w0) [o] (τ ++ only σ I.bas) (fun w => w = w0))) :
  Ob P n ops Q (JL S H H') (Turn (keys H)) kk (F.map (·.f)) σ i I o :=
 ⟨hok, fun ph w0 vals hJ _ h2 h3 _ hF => by
  have hp : ph = false := by
   cases hkk : ops[kk]? with
   | none => exact h3 hkk
   | some p => rw [hkk] at hk; exact h2 p hkk (by simpa using hk)
  subst hp
  have h1 := EachV.spec I.pre [] _ (h w0 hJ) hF
  intro a w ha hw
  have h2 := h1 a w (ha.back (of_decide_eq_true hn)) hw
  rw [hki]
  exact h2⟩
theorem obKL {kk : Nat} {F : List (SFact (keys H))} {σ : Sl} {I : Ins} {o : Oper} (hok : insOk ops kk I = true) (hn : decide ((I.pre.map (·.1)).Nodup) = true)
  (h : ∀ w0, Own S H w0 → EachV F w0 I.pre [] (fun τ => VL P n ops (Post n Q (JL S H H') (Turn (keys H)) (factOf (F.map (·.f)) kk) o.dst false true w0) [o] (τ ++ only σ I.bas) (fun w => w = w0))) :
  Ob P n ops Q (JL S H H') (Turn (keys H)) kk (F.map (·.f)) σ kk I o :=
 ⟨hok, fun ph w0 vals hJ h1 _ _ _ hF => by
  have hp : ph = false := h1 rfl
  subst hp
  have h1 := EachV.spec I.pre [] _ (h w0 hJ) hF
  intro a w ha hw
  have h2 := h1 a w (ha.back (of_decide_eq_true hn)) hw
  rw [Nat.beq_refl]
  exact h2⟩
theorem VL.finSL {f : Fact} {d : Nat} {ph : Bool} {w0 : World} {σ : Sl} {v : Value} (hO : JL S H H' ph w0) (hv : look σ d = some v) (h : f v w0) :
  VL P n ops (Post n Q (JL S H H') (Turn (keys H)) f (some d) ph ph w0) [] σ (fun w => w = w0) :=
 VL.fin hv fun w e => by subst e; exact ⟨h, Turn.rfl_, hO⟩
theorem VL.finOL {f : Fact} {d : Nat} {w0 : World} {σ : Sl} {v : Value} (hv : look σ d = some v) {G : World → Prop} (hG : ∀ w, G w → Own (⟨w0, keys H⟩ :: S) H w) (h : ∀ w, G w → f v w) :
  VL P n ops (Post n Q (JL S H H') (Turn (keys H)) f (some d) false false w0) [] σ G :=
 VL.fin hv fun w hw => ⟨h w hw, ((hG w hw).after (List.mem_cons_self ..)).1, (hG w hw).lose⟩
theorem VL.finKL0 {f : Fact} {w0 : World} {σ : Sl} {G : World → Prop} (hG : ∀ w, G w → Own (⟨w0, keys H⟩ :: S) H' w) (h : ∀ w, G w → f undef w) :
  VL P n ops (Post n Q (JL S H H') (Turn (keys H)) f none false true w0) [] σ G :=
 VL.fin0 fun w hw => ⟨h w hw, ((hG w hw).after (List.mem_cons_self ..)).1, (hG w hw).lose⟩
theorem VC.anyTL {id : Nat} {l : List Oper} {σ : Sl} (H' : List Chunk) (m kk : Nat) (F : List (SFact (keys H))) (Is : List Ins) (outs : List (Nat × Nat)) (bas : List Nat)
  (hmix : P.follows .mixedOrders = true) (hp : plainRegion l.toArray = true) (htl : tailed l.toArray m = true) (hkm : Nat.blt kk m = true) (hml : Nat.ble m l.length = true)
  (hlate : (F.zipIdx.all fun (f, i) => !f.late || Nat.beq i kk || match l[i]? with | some o => waits o kk | none => true) = true)
  (houts : outs.all (fun (d, j) => Nat.blt j m && match l[j]? with | some p => (match p.dst with | some d' => Nat.beq d d' | none => false) | none => false) = true)
  (hbas : bas.all (fun t => (l.take m).all fun p => match p.dst with | some d => !Nat.beq d t | none => true) = true) (hn : decide ((outs.map (·.1)).Nodup) = true)
  (hobs : Obs P n l.toArray Q (JL S H H') (Turn (keys H)) kk (F.map (·.f)) σ 0 Is (l.take m))
  (hend : ∀ w0, Own S H' w0 → EachV F w0 outs [] (fun τ => VL P n l.toArray Q (l.drop m) (τ ++ only σ bas) (fun w => w = w0))) :
  VC P n Q (.region id l.toArray true) σ (Own S H) :=
 VC.anyT (JL S H H') (Turn (keys H)) m kk (F.map (·.f)) Is outs bas hmix hp htl (by left; simp [Nat.blt, Nat.ble_eq] at hkm; omega) (by simpa [Nat.ble_eq] using hml) (fun _ h => h.drew) (lateOf F) (fun i o hi hl => by
  unfold lateOf at hl
  cases hf : F[i]? with
  | none => simp [hf] at hl
  | some f =>
   simp only [hf] at hl
   have h1 := List.all_eq_true.1 hlate (f, i) (by rw [List.mem_zipIdx_iff_getElem?]; simpa using hf)
   simp only [hl, hi, Bool.not_true, Bool.false_or, Bool.or_eq_true] at h1
   rcases h1 with h1 | h1
   ·exact .inl (Nat.eq_of_beq_eq_true h1)
   ·exact .inr h1) (fact_stays F) houts hbas hobs (fun vals a w ha ⟨h1, h2⟩ => (hend w (by rw [hkm] at h2; exact h2)).spec outs [] _ h1 a w (ha.back (of_decide_eq_true hn)) rfl)
/-- Two results that stand in variables, and a third in a slot. -/
theorem VX.ret_cells2 {σ : Sl} {G : World → Prop} {fn : Func} {S' : Value → World → Prop} {t1 t2 u g1 g2 : Nat} {ty1 ty2 T1 T2 : TypeId} {L1 L2 : List Nat} {ps1 ps2 : List (List Value)} {x : Value} (i1 i2 : Nat) {cs1 cs2 : List Value} (hr : fn.results = #[.cell t1 ty1, .cell t2 ty2, .tmp u])
  (ht1 : look σ t1 = some (.pointer (some ⟨g1, 0, none⟩))) (ht2 : look σ t2 = some (.pointer (some ⟨g2, 0, none⟩))) (hu : look σ u = some x)
  (hk1 : kindOf P ty1 = some (some cs1.length)) (hk2 : kindOf P ty2 = some (some cs2.length)) (hG : ∀ w, G w → Own S H w) (hi1 : H[i1]? = some (blk g1 T1 L1 ps1)) (hi2 : H[i2]? = some (blk g2 T2 L2 ps2)) (hc1 : cat ps1 = cs1) (hc2 : cat ps2 = cs2)
  (h : ∀ w, G w → S' (.tuple #[.agg cs1.toArray, .agg cs2.toArray, x]) w) : VX n (bodyPost P fn (Ret S')) .ret σ G :=
 fun a w ha hw => ⟨ha.dfr, .tuple #[.agg cs1.toArray, .agg cs2.toArray, x], by
  obtain ⟨hg1, _⟩ := (hG w hw).holds _ (List.mem_of_getElem? hi1)
  obtain ⟨hg2, _⟩ := (hG w hw).holds _ (List.mem_of_getElem? hi2)
  have h1 := ha.at_ t1 _ ht1
  have h2 := ha.at_ t2 _ ht2
  have h3 := ha.at_ u _ hu
  simp only [Array.getD_eq_getD_getElem?] at h1 h2 h3
  have hcell1 : ∀ j v, cs1[j]? = some v → w.cell? ((⟨g1, 0, none⟩ : Addr).add j) = some v := by
   intro j v hj
   rw [add_lit, cell_of_row w g1 _ _ T1 (0, 0) hg1, hc1, Nat.zero_add]
   simpa using hj
  have hcell2 : ∀ j v, cs2[j]? = some v → w.cell? ((⟨g2, 0, none⟩ : Addr).add j) = some v := by
   intro j v hj
   rw [add_lit, cell_of_row w g2 _ _ T2 (0, 0) hg2, hc2, Nat.zero_add]
   simpa using hj
  have hld1 : (loadVar ty1 ⟨g1, 0, none⟩).run P w = .ok (.agg cs1.toArray) w := by
   simp [loadVar, (kindOf_agg hk1 w).1, (kindOf_agg hk1 w).2, run_loadCells_list (P := P) w ⟨g1, 0, none⟩ cs1 hcell1]
  have hld2 : (loadVar ty2 ⟨g2, 0, none⟩).run P w = .ok (.agg cs2.toArray) w := by
   simp [loadVar, (kindOf_agg hk2 w).1, (kindOf_agg hk2 w).2, run_loadCells_list (P := P) w ⟨g2, 0, none⟩ cs2 hcell2]
  simp [results, hr, h1, h2, h3, asAddr, hld1, hld2], h w hw⟩
end
end Go.Vc

/- Calls: their bytes; what bytes are read as. -/
namespace Go.Proofs.Ytcfecmoagfgnaaa
open Go.Vc Go.Pl

/-! The error's number. -/
/-- Where the loop over bundles stands. -/
def CInv (c : List (List UInt8)) (bs : List Bundle) (ps : List (List UInt8)) (e : Nat) : Prop :=
  (∀ b ∈ bs, b.ok) ∧ bs.length ≤ 9 ∧ ((e = 0 ∧ ∃ d, c = d ++ ps ∧ d.map bundleR = bs.map some) ∨ (e = 141 ∧ ∃ p ∈ c, bundleR p = none))
theorem CInv.start (c : List (List UInt8)) : CInv c [] c 0 := ⟨by simp, by simp, .inl ⟨rfl, [], rfl, rfl⟩⟩
theorem CInv.step {c : List (List UInt8)} {bs : List Bundle} {p : List UInt8} {r : List (List UInt8)} (h : CInv c bs (p :: r) 0) (h8 : bs.length ≤ 8) : CInv c (bs ++ [(bundleR p).getD bundle0]) r (if (bundleR p).isSome then 0 else 141) := by
 obtain ⟨h1, h2, h3⟩ := h
 refine ⟨fun b hb => ?_, by simp; omega, ?_⟩
 ·rcases List.mem_append.1 hb with hb | hb
  ·exact h1 b hb
  ·rw [List.mem_singleton] at hb; subst hb; exact bundleR_ok p
 ·rcases h3 with ⟨_, d, hd, hm⟩ | ⟨h, _⟩
  ·cases hp : bundleR p with
   | none => exact .inr ⟨rfl, p, by rw [hd]; simp, hp⟩
   | some b => exact .inl ⟨rfl, d ++ [p], by rw [hd]; simp, by simp [hm, hp]⟩
  ·cases h
end Go.Proofs.Ytcfecmoagfgnaaa

