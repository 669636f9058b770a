/- The statement BagPlays is proved, for every input: part 16 of 19 of the texts that it needs. -/
import Derived.Test.YtcfecmoagfgnaaaMbplAO
/- bag: the reference takes. -/
namespace Go.Proofs.Ytcfecmoagfgnaaa
open Go.Vc Go.Pl

/-- A variable that holds such a parcel. -/
def parRel (x : Par) : Rel (List (List Value)) := fun K w _ ps => ∃ q d, ps = parV x q d ∧ x.ok ∧ Bytes K w q x.bytes d
theorem Mono_parRel (x : Par) : Mono (parRel x) := fun _ _ _ _ _ ha ⟨q, d, e, h0, h⟩ => ⟨q, d, e, h0, h.after Mono.byte ha⟩
def pch (g : Nat) (x : Par) : Chunk := xblk g 50 parL (parRel x) (Mono_parRel x)
theorem shutP {S : List Snap} {H : List Chunk} {w : World} {g : Nat} (x : Par) {q : Option Addr} {d : Nat} (h : Own S (blk g 50 parL (parV x q d) :: H) w) (hx : x.ok) (hA : Bytes (keys (blk g 50 parL (parV x q d) :: H)) w q x.bytes d) : Own S (pch g x :: H) w :=
 h.shutX (Mono_parRel x) ⟨q, d, rfl, hx, hA⟩
theorem VC.letP {P : Program} {n : Nat} {Q : Exit → Act → World → Prop} {S : List Snap} {H : List Chunk} {σ : Sl} {g : Nat} {x : Par} {code : Code} (h : ∀ w1 q d, Own S (blk g 50 parL (parV x q d) :: H) w1 → x.ok → Bytes (keys (blk g 50 parL (parV x q d) :: H)) w1 q x.bytes d → VC P n Q code σ (Own (⟨w1, keys (blk g 50 parL (parV x q d) :: H)⟩ :: S) (blk g 50 parL (parV x q d) :: H))) : VC P n Q code σ (Own S (pch g x :: H)) := fun a w ha hw => by
 obtain ⟨ps, h1, q, d, rfl, h0, h2⟩ := Own.openX hw
 exact h w q d h1 h0 h2 a w ha h1.keep
theorem startT {S : List Snap} {H : List Chunk} {w : World} {g : Nat} (h : Own S (blk g 50 parL (parV par0 none 0) :: H) w) : Own S (pch g par0 :: arow 50 4 parR Mono_par none 0 ([] : List Par) :: H) w :=
 shutP par0 ((newRowP h).perm (List.Perm.swap _ _ _)) par0_ok Arr.none
/-- What is kept of the first k, and what is found among them. -/
def outL (xs : List Par) (n k : Nat) : List Par := (xs.take k).eraseIdx n
def pickP (xs : List Par) (n k : Nat) : Par := if n < k then xs[n]?.getD par0 else par0
theorem out_eq {xs : List Par} {n : Nat} (h : n < xs.length) : outL xs n (n + 1) = outL xs n n := by
 unfold outL
 rw [List.eraseIdx_eq_take_drop_succ, List.take_take, Nat.min_eq_left (by omega), List.drop_of_length_le (by rw [List.length_take]; omega), List.append_nil, List.eraseIdx_of_length_le (by rw [List.length_take]; omega)]
theorem out_ne {xs : List Par} {n k : Nat} (h : k < xs.length) (e : n ≠ k) : outL xs n (k + 1) = outL xs n k ++ [xs[k]'h] := by
 unfold outL
 rw [List.take_succ_eq_append_getElem h]
 rcases Nat.lt_or_gt_of_ne e with h1 | h1
 ·rw [List.eraseIdx_append_of_lt_length (by rw [List.length_take]; omega)]
 ·rw [List.eraseIdx_of_length_le (by simp; omega), List.eraseIdx_of_length_le (by rw [List.length_take]; omega)]
theorem pick_eq {xs : List Par} {n : Nat} (h : n < xs.length) : pickP xs n (n + 1) = xs[n]'h := by
 unfold pickP
 rw [if_pos (by omega), List.getElem?_eq_getElem h]; rfl
theorem pick_ne {xs : List Par} {n k : Nat} (e : n ≠ k) : pickP xs n (k + 1) = pickP xs n k := by
 unfold pickP
 by_cases h : n < k
 ·rw [if_pos h, if_pos (by omega)]
 ·rw [if_neg h, if_neg (by omega)]
theorem out_all {xs : List Par} {n : Nat} : outL xs n xs.length = xs.eraseIdx n := by unfold outL; rw [List.take_length]
theorem out_len_yes {xs : List Par} {n : Nat} (h : n < xs.length) : (outL xs n xs.length).length = xs.length - 1 := by rw [out_all, List.length_eraseIdx, if_pos h]
theorem out_no {xs : List Par} : outL xs xs.length xs.length = xs := by rw [out_all, List.eraseIdx_of_length_le (Nat.le_refl _)]
theorem out_yes {xs : List Par} {n : Nat} : outL xs n xs.length = xs.take n ++ xs.drop (n + 1) := by rw [out_all, List.eraseIdx_eq_take_drop_succ]
theorem out_le (xs : List Par) (n k : Nat) : (outL xs n k).length ≤ xs.length := by
 unfold outL
 exact Nat.le_trans (List.length_eraseIdx_le _ _) (by rw [List.length_take]; omega)

theorem refTake_yes {S : List Snap} {H : List Chunk} {w : World} (ho : Own S H w) {xs : List Par} {p : Option Addr} {c : Nat} (hX : Arr 4 parR (keys H) w p xs c) (hl : xs.length ≤ 1000) {i : Int} {n : Nat} (hin : n < xs.length) (hii : i = (n : Int)) : Calls Try.prog 44 #[.slice p xs.length c, .int .i64 i] w (Ret fun v w' => ∃ q d p c, v = .tuple #[.slice q (outL xs n xs.length).length d, .agg (cat (parV (pickP xs n xs.length) p c)).toArray, .bool true] ∧ Own S H w' ∧ Arr 4 parR (keys H) w' q (outL xs n xs.length) d ∧ (pickP xs n xs.length).ok ∧ Bytes (keys H) w' p (pickP xs n xs.length).bytes c) := by
 refine enter (G := Own (⟨w, keys H⟩ :: S) H) ho.keep Try.func44 rfl Try.ntmps44 rfl ?_
 refine VC.sr ?_
 refine VL.assign rfl ?_
 refine VL.alloc (L := parL) (ps := (parV (par0) none 0)) zero50 rfl rfl (fun g1 => ?_)
 refine VL.assign rfl ?_
 refine VL.nn ?_
 refine VC.sr ?_
 refine VL.assign rfl ?_
 refine VL.nn ?_
 refine VC.sr ?_
 refine VL.alloc (L := parL) (ps := (parV (par0) none 0)) zero50 rfl rfl (fun g2 => ?_)
 refine VL.nn ?_
 refine VC.seq ?_
 refine VC.sr ?_
 refine VL.assign rfl ?_
 refine VL.nn ?_
 refine VC.block ?_
 refine VC.turn (G' := Own _ (pch g2 par0 :: arow 50 4 parR Mono_par none 0 ([] : List Par) :: blk g1 50 parL (parV (par0) none 0) :: H)) (fun w' h => startT h) ?_
 refine VC.loop (X := Nat × Option Nat × Nat) (fun (k, gv, cv) => [(0, .slice p xs.length c), (1, .int .i64 i), (5, .pointer (some ⟨g1, 0, none⟩)), (7, rowV gv (outL xs n k).length cv), (8, .pointer (some ⟨g2, 0, none⟩)), (9, .int .i64 (k : Int))]) (fun (k, gv, cv) w' => k ≤ xs.length ∧ Own (⟨w, keys H⟩ :: S) (pch g2 (pickP xs n k) :: arow 50 4 parR Mono_par gv cv (outL xs n k) :: blk g1 50 parL (parV (par0) none 0) :: H) w') (fun (k, _) => xs.length - k) (0, none, 0) ⟨rfl, rfl, rfl, (by show some (Value.slice none 0 0) = some (rowV none (outL xs n 0).length 0); unfold outL; simp [rowV]), rfl, rfl, trivial⟩ (fun w' h => ⟨Nat.zero_le _, by
  have e1 : outL xs n 0 = [] := by unfold outL; simp
  have e2 : pickP xs n 0 = par0 := if_neg (Nat.not_lt_zero _)
  rw [e1, e2]
  exact h.subA⟩) (fun (k, gv, cv) => VC.fact fun hk => VC.letP (fun wa q1 d1 hOa hok1 hA1 => ?_))
 ·skip
  refine VC.seq ?_
  refine VC.sr ?_
  refine VL.move rfl ?_
  refine VL.move rfl ?_
  refine VL.len Try.underlying47 rfl rfl ?_
  refine VL.lss rfl rfl ?_
  refine VL.case (fun h4 => ?_) (fun h4 => ?_)
  ·have hlt : k < xs.length := by omega
   refine VL.nn ?_
   refine VC.yes rfl ?_
   refine VC.skip ?_
   refine VX.next ?_
   refine VC.seq ?_
   refine VC.block ?_
   refine VC.sr ?_
   refine VL.move rfl ?_
   refine VL.move rfl ?_
   refine VL.eql rfl rfl ?_
   refine VL.case (fun h6 => ?_) (fun h6 => ?_)
   ·have hnk : n = k := by omega
    have hnl : n < xs.length := by omega
    refine VL.nn ?_
    refine VC.yes rfl ?_
    refine VC.region ?_
    refine VL.move rfl ?_
    refine VL.move rfl ?_
    refine VL.index (xs := xs) rfl rfl Try.underlying47 sz47 hX (by omega) (by have hi := hlt; omega) ?_
    refine VL.elems (s := ⟨w, _⟩) (m := 4) (k) 0 rfl kd50 (fun _ h => h) (by repeat (first | exact List.mem_cons_self .. | apply List.mem_cons_of_mem)) hX (List.getElem?_eq_getElem hlt) (by simp) (by decide) (fun vs hl hr => ?_)
    obtain ⟨p5, c6, hy4, rfl, hA7⟩ := hr
    refine VL.newv (v' := .agg (cat (parV (xs[k]'hlt) p5 c6)).toArray) (by rw [List.drop_zero, List.take_of_length_le (by rw [hl]; decide)]) ?_
    refine VL.store (L := parL) (qs := (parV ((xs[k]'hlt)) p5 c6)) (ps' := (parV ((xs[k]'hlt)) p5 c6)) 0 0 4 rfl rfl rfl (.inl kd50) rfl rfl (parV_len hy4) (parV_ok1 ((xs[k]'hlt)) p5 c6) rfl rfl ?_
    refine VL.set0 ?_
    refine VL.nil ?_
    refine VX.block_normal ?_
    refine VX.next ?_
    refine VC.region ?_
    refine VL.move rfl ?_
    refine VL.add rfl rfl (by simp only [InR]; omega) ?_
    refine VL.assign rfl ?_
    refine VL.nil ?_
    refine VX.round (k + 1, gv, cv) ⟨rfl, rfl, rfl, (by subst hnk; show some (rowV gv (outL xs n n).length cv) = some (rowV gv (outL xs n (n + 1)).length cv); rw [out_eq hnl]), rfl, rfl, trivial⟩ (fun w' h => ⟨by omega, by
     have h2 := shutP _ h hy4 (hA7.nowA (s := ⟨w, _⟩) Mono.byte h)
     subst hnk
     rw [pick_eq hnl, out_eq hnl]
     exact h2.subA⟩) (by show xs.length - (k + 1) < xs.length - k; omega)
   ·have hnk : n ≠ k := by omega
    refine VL.nn ?_
    refine VC.no rfl ?_
    refine VC.region ?_
    refine VL.move rfl ?_
    refine VL.move rfl ?_
    refine VL.move rfl ?_
    refine VL.index (xs := xs) rfl rfl Try.underlying47 sz47 hX (by omega) (by have hi := hlt; omega) ?_
    refine VL.elems (s := ⟨w, _⟩) (m := 4) (k) 0 rfl kd50 (fun _ h => h) (by repeat (first | exact List.mem_cons_self .. | apply List.mem_cons_of_mem)) hX (List.getElem?_eq_getElem hlt) (by simp) (by decide) (fun vs hl hr => ?_)
    obtain ⟨p10, c11, hy9, rfl, hA12⟩ := hr
    refine VL.newv (v' := .agg (cat (parV (xs[k]'hlt) p10 c11)).toArray) (by rw [List.drop_zero, List.take_of_length_le (by rw [hl]; decide)]) ?_
    refine VL.lit el47 rfl rfl rfl (by intro v hv; simp only [List.mem_singleton] at hv; subst hv; rfl) (by rw [show [Value.agg (cat (parV (xs[k]'hlt) p10 c11)).toArray].flatMap (·.cells.toList) = (cat (parV (xs[k]'hlt) p10 c11)) by simp [Value.cells]]; exact parV_ok1 _ _ _) (fun gl => ?_)
    refine VL.letRow parR [(xs[k]'hlt)] rfl (fun w' hw => one_par hy9 (hA12.nowA (s := ⟨w, _⟩) Mono.byte hw)) (fun wl hOl hAl => ?_)
    have hol := out_le xs n k
    refine VL.appends (R := parR) (hR := Mono_par) (ys := outL xs n k) (zs := [xs[k]'hlt]) 1 el47 rfl rfl rfl (fun _ h => h) rfl (fun _ hw => hAl.nowA (s := ⟨wl, _⟩) Mono_par hw) parR_ok1 (by simp only [List.length_cons, List.length_nil]; omega) (fun gv2 cv2 => ?_) (by simp only [List.length_cons, List.length_nil]; omega)
    refine VL.set1 ?_
    refine VL.assign rfl ?_
    refine VL.nil ?_
    refine VX.block_normal ?_
    refine VX.next ?_
    refine VC.region ?_
    refine VL.move rfl ?_
    refine VL.add rfl rfl (by simp only [InR]; omega) ?_
    refine VL.assign rfl ?_
    refine VL.nil ?_
    refine VX.round (k + 1, gv2, cv2) ⟨rfl, rfl, rfl, (by show some (rowV gv2 (outL xs n k ++ [xs[k]'hlt]).length cv2) = some (rowV gv2 (outL xs n (k + 1)).length cv2); rw [out_ne hlt hnk]), rfl, rfl, trivial⟩ (fun w' h => ⟨by omega, by
     rw [out_ne hlt hnk, pick_ne hnk]
     exact (shutP _ h hok1 (hA1.nowA (s := ⟨wa, _⟩) Mono.byte h)).subA⟩) (by show xs.length - (k + 1) < xs.length - k; omega)
  ·have hke : k = xs.length := by omega
   refine VL.nn ?_
   refine VC.no rfl ?_
   refine VC.exit ?_
   refine VX.then_exit ?_
   refine VX.then_exit ?_
   refine VX.block_here ?_
   refine VX.next ?_
   refine VC.seq ?_
   have hol : (outL xs n k).length = xs.length - 1 := by rw [hke]; exact out_len_yes hin
   apply VC.anyTL (blk g2 50 parL (parV ((pickP xs n k)) q1 d1) :: arow 50 4 parR Mono_par gv cv (outL xs n k) :: blk g1 50 parL (parV ((pickP xs n k)) q1 d1) :: H) 9 8 (F := [eqF _, eqF _, eqF _, eqF _, eqF _, eqF _, eqF _, eqF _, eqF undef]) [⟨[], [7]⟩, ⟨[], [8]⟩, ⟨[], [7]⟩, ⟨[(32, 2)], []⟩, ⟨[], [0]⟩, ⟨[(34, 4)], []⟩, ⟨[(33, 3), (35, 5)], []⟩, ⟨[(30, 0)], []⟩, ⟨[(31, 1)], [5]⟩] [(36, 6), (4, 7)] [0, 1, 5, 6, 7, 8, 9, 10, 11, 12, 13, 14, 15, 16, 17, 18, 19, 20, 21, 22, 23, 24, 25, 26, 27, 28, 29] rfl (by kernel_rfl) (by kernel_rfl) rfl rfl (by kernel_rfl) (by kernel_rfl) (by kernel_rfl) rfl ?obs9 ?end9
   case obs9 =>
    refine Obs.cons ?_ ?_
    ·refine obSL (by kernel_rfl) rfl rfl (fun ph9 w9 hO9 => ?_)
     refine VL.move rfl ?_
     exact VL.finSL hO9 rfl rfl
    refine Obs.cons ?_ ?_
    ·refine obL (by kernel_rfl) rfl (by kernel_rfl) rfl (fun w9 hO9 => ?_)
     refine VL.loads (cs := cat (parV ((pickP xs n k)) q1 d1)) 0 0 4 rfl kd50 (fun _ e => e ▸ hO9) rfl rfl rfl rfl ?_
     exact VL.finSL hO9 rfl rfl
    refine Obs.cons ?_ ?_
    ·refine obSL (by kernel_rfl) rfl rfl (fun ph9 w9 hO9 => ?_)
     refine VL.move rfl ?_
     exact VL.finSL hO9 rfl rfl
    refine Obs.cons ?_ ?_
    ·refine obSL (by kernel_rfl) rfl rfl (fun ph9 w9 hO9 => ?_)
     rintro _ rfl
     refine VL.len Try.underlying47 rfl rfl ?_
     exact VL.finSL hO9 rfl rfl
    refine Obs.cons ?_ ?_
    ·refine obSL (by kernel_rfl) rfl rfl (fun ph9 w9 hO9 => ?_)
     refine VL.move rfl ?_
     exact VL.finSL hO9 rfl rfl
    refine Obs.cons ?_ ?_
    ·refine obSL (by kernel_rfl) rfl rfl (fun ph9 w9 hO9 => ?_)
     rintro _ rfl
     refine VL.len Try.underlying47 rfl rfl ?_
     exact VL.finSL hO9 rfl rfl
    refine Obs.cons ?_ ?_
    ·refine obSL (by kernel_rfl) rfl rfl (fun ph9 w9 hO9 => ?_)
     rintro _ rfl _ rfl
     refine VL.lss rfl rfl ?_
     refine VL.yes (by omega) ?_
     exact VL.finSL hO9 rfl rfl
    refine Obs.cons ?_ ?_
    ·refine obSL (by kernel_rfl) rfl rfl (fun ph9 w9 hO9 => ?_)
     rintro _ rfl
     refine VL.assign rfl ?_
     exact VL.finSL hO9 rfl rfl
    refine Obs.cons ?_ ?_
    ·refine obKL (by kernel_rfl) rfl (fun w9 hO9 => ?_)
     rintro _ rfl
     refine VL.toOwn hO9 ?_
     refine VL.store (L := parL) (qs := (parV ((pickP xs n k)) q1 d1)) (ps' := (parV ((pickP xs n k)) q1 d1)) 2 0 4 rfl rfl rfl (.inl kd50) rfl rfl (parV_len hok1) (parV_ok1 ((pickP xs n k)) q1 d1) rfl rfl ?_
     refine VL.set2 ?_
     exact VL.finKL0 (fun _ h => h) (fun _ h => rfl)
    exact Obs.nil
   case end9 =>
    intro w9 hO9
    rintro _ rfl _ rfl
    refine VL.toOwn hO9 ?_
    refine VL.assign rfl ?_
    refine VL.nn ?_
    refine VC.ret ?_
    refine VX.ret_mid (cs := cat (parV ((pickP xs n k)) q1 d1)) 2 rfl rfl rfl rfl (by rw [cat_size (parV_len hok1)]; exact kd50) (fun _ h => h) rfl rfl (fun we hw => ?_)
    have h7 := (ownDropK 0 (ownDropK 2 hw))
    have h8 := h7.letArr
    have h9 := h7.drop
    have h6 := (hA1.nowA (s := ⟨wa, _⟩) Mono.byte h9)
    subst hke
    exact ⟨_, _, _, _, rfl, h9.subA, h8, hok1, h6⟩

theorem refTake_no {S : List Snap} {H : List Chunk} {w : World} (ho : Own S H w) {xs : List Par} {p : Option Addr} {c : Nat} (hX : Arr 4 parR (keys H) w p xs c) (hl : xs.length ≤ 1000) {i : Int} {n : Nat} (hin : n = xs.length) (hno : ∀ k : Nat, k < xs.length → ¬ ((k : Int) = i)) : Calls Try.prog 44 #[.slice p xs.length c, .int .i64 i] w (Ret fun v w' => ∃ q d p c, v = .tuple #[.slice q (outL xs n xs.length).length d, .agg (cat (parV (pickP xs n xs.length) p c)).toArray, .bool false] ∧ Own S H w' ∧ Arr 4 parR (keys H) w' q (outL xs n xs.length) d ∧ (pickP xs n xs.length).ok ∧ Bytes (keys H) w' p (pickP xs n xs.length).bytes c) := by
 refine enter (G := Own (⟨w, keys H⟩ :: S) H) ho.keep Try.func44 rfl Try.ntmps44 rfl ?_
 refine VC.sr ?_
 refine VL.assign rfl ?_
 refine VL.alloc (L := parL) (ps := (parV (par0) none 0)) zero50 rfl rfl (fun g1 => ?_)
 refine VL.assign rfl ?_
 refine VL.nn ?_
 refine VC.sr ?_
 refine VL.assign rfl ?_
 refine VL.nn ?_
 refine VC.sr ?_
 refine VL.alloc (L := parL) (ps := (parV (par0) none 0)) zero50 rfl rfl (fun g2 => ?_)
 refine VL.nn ?_
 refine VC.seq ?_
 refine VC.sr ?_
 refine VL.assign rfl ?_
 refine VL.nn ?_
 refine VC.block ?_
 refine VC.turn (G' := Own _ (pch g2 par0 :: arow 50 4 parR Mono_par none 0 ([] : List Par) :: blk g1 50 parL (parV (par0) none 0) :: H)) (fun w' h => startT h) ?_
 refine VC.loop (X := Nat × Option Nat × Nat) (fun (k, gv, cv) => [(0, .slice p xs.length c), (1, .int .i64 i), (5, .pointer (some ⟨g1, 0, none⟩)), (7, rowV gv (outL xs n k).length cv), (8, .pointer (some ⟨g2, 0, none⟩)), (9, .int .i64 (k : Int))]) (fun (k, gv, cv) w' => k ≤ xs.length ∧ Own (⟨w, keys H⟩ :: S) (pch g2 (pickP xs n k) :: arow 50 4 parR Mono_par gv cv (outL xs n k) :: blk g1 50 parL (parV (par0) none 0) :: H) w') (fun (k, _) => xs.length - k) (0, none, 0) ⟨rfl, rfl, rfl, (by show some (Value.slice none 0 0) = some (rowV none (outL xs n 0).length 0); unfold outL; simp [rowV]), rfl, rfl, trivial⟩ (fun w' h => ⟨Nat.zero_le _, by
  have e1 : outL xs n 0 = [] := by unfold outL; simp
  have e2 : pickP xs n 0 = par0 := if_neg (Nat.not_lt_zero _)
  rw [e1, e2]
  exact h.subA⟩) (fun (k, gv, cv) => VC.fact fun hk => VC.letP (fun wa q1 d1 hOa hok1 hA1 => ?_))
 ·skip
  refine VC.seq ?_
  refine VC.sr ?_
  refine VL.move rfl ?_
  refine VL.move rfl ?_
  refine VL.len Try.underlying47 rfl rfl ?_
  refine VL.lss rfl rfl ?_
  refine VL.case (fun h4 => ?_) (fun h4 => ?_)
  ·have hlt : k < xs.length := by omega
   refine VL.nn ?_
   refine VC.yes rfl ?_
   refine VC.skip ?_
   refine VX.next ?_
   refine VC.seq ?_
   refine VC.block ?_
   refine VC.sr ?_
   refine VL.move rfl ?_
   refine VL.move rfl ?_
   refine VL.eql rfl rfl ?_
   refine VL.no (hno k hlt) ?_
   have hnk : n ≠ k := by omega
   refine VL.nn ?_
   refine VC.no rfl ?_
   refine VC.region ?_
   refine VL.move rfl ?_
   refine VL.move rfl ?_
   refine VL.move rfl ?_
   refine VL.index (xs := xs) rfl rfl Try.underlying47 sz47 hX (by omega) (by have hi := hlt; omega) ?_
   refine VL.elems (s := ⟨w, _⟩) (m := 4) (k) 0 rfl kd50 (fun _ h => h) (by repeat (first | exact List.mem_cons_self .. | apply List.mem_cons_of_mem)) hX (List.getElem?_eq_getElem hlt) (by simp) (by decide) (fun vs hl hr => ?_)
   obtain ⟨p5, c6, hy4, rfl, hA7⟩ := hr
   refine VL.newv (v' := .agg (cat (parV (xs[k]'hlt) p5 c6)).toArray) (by rw [List.drop_zero, List.take_of_length_le (by rw [hl]; decide)]) ?_
   refine VL.lit el47 rfl rfl rfl (by intro v hv; simp only [List.mem_singleton] at hv; subst hv; rfl) (by rw [show [Value.agg (cat (parV (xs[k]'hlt) p5 c6)).toArray].flatMap (·.cells.toList) = (cat (parV (xs[k]'hlt) p5 c6)) by simp [Value.cells]]; exact parV_ok1 _ _ _) (fun gl => ?_)
   refine VL.letRow parR [(xs[k]'hlt)] rfl (fun w' hw => one_par hy4 (hA7.nowA (s := ⟨w, _⟩) Mono.byte hw)) (fun wl hOl hAl => ?_)
   have hol := out_le xs n k
   refine VL.appends (R := parR) (hR := Mono_par) (ys := outL xs n k) (zs := [xs[k]'hlt]) 1 el47 rfl rfl rfl (fun _ h => h) rfl (fun _ hw => hAl.nowA (s := ⟨wl, _⟩) Mono_par hw) parR_ok1 (by simp only [List.length_cons, List.length_nil]; omega) (fun gv2 cv2 => ?_) (by simp only [List.length_cons, List.length_nil]; omega)
   refine VL.set1 ?_
   refine VL.assign rfl ?_
   refine VL.nil ?_
   refine VX.block_normal ?_
   refine VX.next ?_
   refine VC.region ?_
   refine VL.move rfl ?_
   refine VL.add rfl rfl (by simp only [InR]; omega) ?_
   refine VL.assign rfl ?_
   refine VL.nil ?_
   refine VX.round (k + 1, gv2, cv2) ⟨rfl, rfl, rfl, (by show some (rowV gv2 (outL xs n k ++ [xs[k]'hlt]).length cv2) = some (rowV gv2 (outL xs n (k + 1)).length cv2); rw [out_ne hlt hnk]), rfl, rfl, trivial⟩ (fun w' h => ⟨by omega, by
    rw [out_ne hlt hnk, pick_ne hnk]
    exact (shutP _ h hok1 (hA1.nowA (s := ⟨wa, _⟩) Mono.byte h)).subA⟩) (by show xs.length - (k + 1) < xs.length - k; omega)
  ·have hke : k = xs.length := by omega
   refine VL.nn ?_
   refine VC.no rfl ?_
   refine VC.exit ?_
   refine VX.then_exit ?_
   refine VX.then_exit ?_
   refine VX.block_here ?_
   refine VX.next ?_
   refine VC.seq ?_
   have hol : (outL xs n k).length = xs.length := by rw [hke, hin, out_no]
   apply VC.anyTL (blk g2 50 parL (parV ((pickP xs n k)) q1 d1) :: arow 50 4 parR Mono_par gv cv (outL xs n k) :: blk g1 50 parL (parV ((pickP xs n k)) q1 d1) :: H) 9 8 (F := [eqF _, eqF _, eqF _, eqF _, eqF _, eqF _, eqF _, eqF _, eqF undef]) [⟨[], [7]⟩, ⟨[], [8]⟩, ⟨[], [7]⟩, ⟨[(32, 2)], []⟩, ⟨[], [0]⟩, ⟨[(34, 4)], []⟩, ⟨[(33, 3), (35, 5)], []⟩, ⟨[(30, 0)], []⟩, ⟨[(31, 1)], [5]⟩] [(36, 6), (4, 7)] [0, 1, 5, 6, 7, 8, 9, 10, 11, 12, 13, 14, 15, 16, 17, 18, 19, 20, 21, 22, 23, 24, 25, 26, 27, 28, 29] rfl (by kernel_rfl) (by kernel_rfl) rfl rfl (by kernel_rfl) (by kernel_rfl) (by kernel_rfl) rfl ?obs9 ?end9
   case obs9 =>
    refine Obs.cons ?_ ?_
    ·refine obSL (by kernel_rfl) rfl rfl (fun ph9 w9 hO9 => ?_)
     refine VL.move rfl ?_
     exact VL.finSL hO9 rfl rfl
    refine Obs.cons ?_ ?_
    ·refine obL (by kernel_rfl) rfl (by kernel_rfl) rfl (fun w9 hO9 => ?_)
     refine VL.loads (cs := cat (parV ((pickP xs n k)) q1 d1)) 0 0 4 rfl kd50 (fun _ e => e ▸ hO9) rfl rfl rfl rfl ?_
     exact VL.finSL hO9 rfl rfl
    refine Obs.cons ?_ ?_
    ·refine obSL (by kernel_rfl) rfl rfl (fun ph9 w9 hO9 => ?_)
     refine VL.move rfl ?_
     exact VL.finSL hO9 rfl rfl
    refine Obs.cons ?_ ?_
    ·refine obSL (by kernel_rfl) rfl rfl (fun ph9 w9 hO9 => ?_)
     rintro _ rfl
     refine VL.len Try.underlying47 rfl rfl ?_
     exact VL.finSL hO9 rfl rfl
    refine Obs.cons ?_ ?_
    ·refine obSL (by kernel_rfl) rfl rfl (fun ph9 w9 hO9 => ?_)
     refine VL.move rfl ?_
     exact VL.finSL hO9 rfl rfl
    refine Obs.cons ?_ ?_
    ·refine obSL (by kernel_rfl) rfl rfl (fun ph9 w9 hO9 => ?_)
     rintro _ rfl
     refine VL.len Try.underlying47 rfl rfl ?_
     exact VL.finSL hO9 rfl rfl
    refine Obs.cons ?_ ?_
    ·refine obSL (by kernel_rfl) rfl rfl (fun ph9 w9 hO9 => ?_)
     rintro _ rfl _ rfl
     refine VL.lss rfl rfl ?_
     refine VL.no (by omega) ?_
     exact VL.finSL hO9 rfl rfl
    refine Obs.cons ?_ ?_
    ·refine obSL (by kernel_rfl) rfl rfl (fun ph9 w9 hO9 => ?_)
     rintro _ rfl
     refine VL.assign rfl ?_
     exact VL.finSL hO9 rfl rfl
    refine Obs.cons ?_ ?_
    ·refine obKL (by kernel_rfl) rfl (fun w9 hO9 => ?_)
     rintro _ rfl
     refine VL.toOwn hO9 ?_
     refine VL.store (L := parL) (qs := (parV ((pickP xs n k)) q1 d1)) (ps' := (parV ((pickP xs n k)) q1 d1)) 2 0 4 rfl rfl rfl (.inl kd50) rfl rfl (parV_len hok1) (parV_ok1 ((pickP xs n k)) q1 d1) rfl rfl ?_
     refine VL.set2 ?_
     exact VL.finKL0 (fun _ h => h) (fun _ h => rfl)
    exact Obs.nil
   case end9 =>
    intro w9 hO9
    rintro _ rfl _ rfl
    refine VL.toOwn hO9 ?_
    refine VL.assign rfl ?_
    refine VL.nn ?_
    refine VC.ret ?_
    refine VX.ret_mid (cs := cat (parV ((pickP xs n k)) q1 d1)) 2 rfl rfl rfl rfl (by rw [cat_size (parV_len hok1)]; exact kd50) (fun _ h => h) rfl rfl (fun we hw => ?_)
    have h7 := (ownDropK 0 (ownDropK 2 hw))
    have h8 := h7.letArr
    have h9 := h7.drop
    have h6 := (hA1.nowA (s := ⟨wa, _⟩) Mono.byte h9)
    subst hke
    exact ⟨_, _, _, _, rfl, h9.subA, h8, hok1, h6⟩

end Go.Proofs.Ytcfecmoagfgnaaa

