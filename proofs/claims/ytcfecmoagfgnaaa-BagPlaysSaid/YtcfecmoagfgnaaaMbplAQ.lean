/- The statement BagPlays is proved, for every input: part 17 of 19 of the texts that it needs. -/
import Derived.Test.YtcfecmoagfgnaaaMbplAP
/- bag: what is ripe. -/
namespace Go.Proofs.Ytcfecmoagfgnaaa
open Go.Vc Go.Pl

def dueAt (xs : List Par) (j : Nat) : Nat := match xs[j]? with
  | some y => y.due
  | none => 0
theorem dueAt_eq {xs : List Par} {j : Nat} (h : j < xs.length) : dueAt xs j = (xs[j]'h).due := by
 unfold dueAt
 rw [List.getElem?_eq_getElem h]
/-- The first of the earliest, among the first i, that are due. -/
def bestI (xs : List Par) (now : Nat) : Nat → Option Nat
  | 0 => none
  | i + 1 => if dueAt xs i ≤ now then (match bestI xs now i with
    | none => some i
    | some b => if dueAt xs i < dueAt xs b then some i else some b) else bestI xs now i
def bestZ (xs : List Par) (now i : Nat) : Int := match bestI xs now i with
  | none => -1
  | some b => b
def minZ (xs : List Par) (now i : Nat) : Int := match bestI xs now i with
  | none => -1
  | some b => dueAt xs b
theorem best_no {xs : List Par} {now i : Nat} (h : ¬ dueAt xs i ≤ now) : bestI xs now (i + 1) = bestI xs now i := if_neg h
theorem best_first {xs : List Par} {now i : Nat} (h : dueAt xs i ≤ now) (hb : bestI xs now i = none) : bestI xs now (i + 1) = some i := by
 show (if dueAt xs i ≤ now then _ else _) = _
 rw [if_pos h, hb]
theorem best_less {xs : List Par} {now i b : Nat} (h : dueAt xs i ≤ now) (hb : bestI xs now i = some b) (hl : dueAt xs i < dueAt xs b) : bestI xs now (i + 1) = some i := by
 show (if dueAt xs i ≤ now then _ else _) = _
 rw [if_pos h, hb]
 exact if_pos hl
theorem best_more {xs : List Par} {now i b : Nat} (h : dueAt xs i ≤ now) (hb : bestI xs now i = some b) (hl : ¬ dueAt xs i < dueAt xs b) : bestI xs now (i + 1) = some b := by
 show (if dueAt xs i ≤ now then _ else _) = _
 rw [if_pos h, hb]
 exact if_neg hl
theorem best_none {xs : List Par} {now : Nat} : ∀ {i : Nat}, bestI xs now i = none → ∀ j, j < i → ¬ dueAt xs j ≤ now
 | 0, _, j, hj => by omega
 | i + 1, h, j, hj => by
  by_cases hd : dueAt xs i ≤ now
  ·cases hb : bestI xs now i with
   | none => rw [best_first hd hb] at h; cases h
   | some b =>
    by_cases hl : dueAt xs i < dueAt xs b
    ·rw [best_less hd hb hl] at h; cases h
    ·rw [best_more hd hb hl] at h; cases h
  ·rw [best_no hd] at h
   by_cases e : j = i
   ·subst e; exact hd
   ·exact best_none h j (by omega)
theorem best_some {xs : List Par} {now : Nat} : ∀ {i b : Nat}, bestI xs now i = some b → b < i ∧ dueAt xs b ≤ now ∧ (∀ j, j < i → dueAt xs j ≤ now → dueAt xs b ≤ dueAt xs j) ∧ ∀ j, j < b → dueAt xs j ≤ now → dueAt xs b < dueAt xs j
 | 0, _, h => by cases h
 | i + 1, b, h => by
  by_cases hd : dueAt xs i ≤ now
  ·cases hb : bestI xs now i with
   | none =>
    rw [best_first hd hb] at h
    cases h
    exact ⟨by omega, hd, fun j hj h2 => by
     by_cases e : j = i
     ·subst e; omega
     ·exact absurd h2 (best_none hb j (by omega)), fun j hj h2 => absurd h2 (best_none hb j hj)⟩
   | some b0 =>
    obtain ⟨h1, h2, h3, h4⟩ := best_some hb
    by_cases hl : dueAt xs i < dueAt xs b0
    ·rw [best_less hd hb hl] at h
     cases h
     exact ⟨by omega, hd, fun j hj h5 => by
      by_cases e : j = i
      ·subst e; omega
      ·have := h3 j (by omega) h5; omega, fun j hj h5 => by have := h3 j hj h5; omega⟩
    ·rw [best_more hd hb hl] at h
     cases h
     exact ⟨by omega, h2, fun j hj h5 => by
      by_cases e : j = i
      ·subst e; omega
      ·exact h3 j (by omega) h5, h4⟩
  ·rw [best_no hd] at h
   obtain ⟨h1, h2, h3, h4⟩ := best_some h
   exact ⟨by omega, h2, fun j hj h5 => by
    by_cases e : j = i
    ·subst e; exact absurd h5 hd
    ·exact h3 j (by omega) h5, h4⟩
theorem bestZ_some {xs : List Par} {now i b : Nat} (h : bestI xs now i = some b) : bestZ xs now i = b := by unfold bestZ; rw [h]
theorem bestZ_none {xs : List Par} {now i : Nat} (h : bestI xs now i = none) : bestZ xs now i = -1 := by unfold bestZ; rw [h]
theorem minZ_some {xs : List Par} {now i b : Nat} (h : bestI xs now i = some b) : minZ xs now i = dueAt xs b := by unfold minZ; rw [h]
theorem minZ_none {xs : List Par} {now i : Nat} (h : bestI xs now i = none) : minZ xs now i = -1 := by unfold minZ; rw [h]
inductive RpJ where
  | go (i : Nat) (z : Int)
def RpJ.lab : RpJ → Nat := fun _ => 0
def RpJ.st (p : Option Addr) (n c : Nat) (now : Nat) : RpJ → Sl
  | .go i z => [(0, .slice p n c), (1, .int .u32 (now : Int)), (5, .int .i64 z), (6, .int .i64 (i : Int))]
def RpJ.inv (xs : List Par) (now : Nat) (S : List Snap) (H : List Chunk) : RpJ → World → Prop
  | .go i z, w' => (i ≤ xs.length ∧ z = bestZ xs now i) ∧ Own S H w'
def RpJ.μ (n : Nat) : RpJ → Nat
  | .go i _ => n - i

theorem best_cases (xs : List Par) (now i : Nat) : (bestI xs now i = none ∧ dueAt xs i ≤ now) ∨ (bestI xs now i = none ∧ ¬ dueAt xs i ≤ now) ∨ (∃ b, bestI xs now i = some b ∧ dueAt xs i ≤ now ∧ dueAt xs i < dueAt xs b) ∨ (∃ b, bestI xs now i = some b ∧ ¬ dueAt xs i ≤ now) ∨ ∃ b, bestI xs now i = some b ∧ dueAt xs i ≤ now ∧ ¬ dueAt xs i < dueAt xs b := by
 by_cases h1 : dueAt xs i ≤ now
 ·cases hb : bestI xs now i with
  | none => exact .inl ⟨rfl, h1⟩
  | some b =>
   by_cases h2 : dueAt xs i < dueAt xs b
   ·exact .inr (.inr (.inl ⟨b, rfl, h1, h2⟩))
   ·exact .inr (.inr (.inr (.inr ⟨b, rfl, h1, h2⟩)))
 ·cases hb : bestI xs now i with
  | none => exact .inr (.inl ⟨rfl, h1⟩)
  | some b => exact .inr (.inr (.inr (.inl ⟨b, rfl, h1⟩)))

theorem ripe_w {S : List Snap} {H : List Chunk} {w : World} (ho : Own S H w) {xs : List Par} {p : Option Addr} {c : Nat} (hX : Arr 4 parR (keys H) w p xs c) (hl : xs.length ≤ 1000) {now : Nat} (hnow : now < 4294967296) : Calls Try.prog 38 #[.slice p xs.length c, .int .u32 (now : Int)] w (Ret fun v w' => v = .int .i64 (bestZ xs now xs.length) ∧ Own S H w') := by
 refine enter (G := Own (⟨w, keys H⟩ :: S) H) ho.keep Try.func38 rfl Try.ntmps38 rfl ?_
 refine VC.sr ?_
 refine VL.assign rfl ?_
 refine VL.nn ?_
 refine VC.labels RpJ.lab (RpJ.st p xs.length c now) (RpJ.inv xs now (⟨w, keys H⟩ :: S) H) (RpJ.μ xs.length) ?_ ?_
 ·show VC _ _ _ _ _ _
  refine VC.sr ?_
  refine VL.assign rfl ?_
  refine VL.assign rfl ?_
  refine VL.nn ?_
  refine VC.seq ?_
  suffices hx : ∀ (i : Nat) (z : Int), VC _ _ _ _ (RpJ.st p xs.length c now (.go i z)) (RpJ.inv xs now (⟨w, keys H⟩ :: S) H (.go i z)) from VC.turn (fun w' h => show RpJ.inv xs now (⟨w, keys H⟩ :: S) H (.go 0 (-1)) w' from ⟨⟨Nat.zero_le _, rfl⟩, h.subA⟩) (VC.weaken (RpJ.st p xs.length c now (.go 0 (-1))) ⟨rfl, rfl, rfl, rfl, trivial⟩ (hx 0 (-1)))
  intro i z
  refine VC.fact fun ⟨hi, hzz⟩ => ?_
  refine VC.label ?_
  refine VX.next ?_
  refine VC.seq ?_
  refine VC.sr ?_
  refine VL.move rfl ?_
  refine VL.move rfl ?_
  refine VL.len Try.underlying47 rfl rfl ?_
  refine VL.eql rfl rfl ?_
  refine VL.case (fun h2_3 => ?_) (fun h2_3 => ?_)
  ·have hil : i = xs.length := by omega
   subst hil
   refine VL.nn ?_
   refine VC.yes rfl ?_
   refine VC.sr ?_
   refine VL.move rfl ?_
   refine VL.assign rfl ?_
   refine VL.nn ?_
   refine VC.ret ?_
   refine VX.then_ret ?_
   refine VX.jumps_ret ?_
   refine VX.ret1 rfl rfl (fun we hw => ?_)
   exact ⟨by rw [← hzz], hw.subA⟩
  ·refine VL.nn ?_
   refine VC.no rfl ?_
   refine VC.skip ?_
   refine VX.next ?_
   refine VC.seq ?_
   refine VC.seq ?_
   have hlt : i < xs.length := by omega
   have hd := dueAt_eq hlt
   rcases best_cases xs now i with ⟨hbi, h1⟩ | ⟨hbi, h1⟩ | ⟨b, hbi, h1, h2⟩ | ⟨b, hbi, h1⟩ | ⟨b, hbi, h1, h2⟩
   ·have hz := bestZ_none hbi
    have hz2 : z = -1 := by omega
    subst hz2
    apply VC.anyTA 21 1024 (F := [eqF _, eqF _, eqF _, eqF _, eqF _, eqF _, eqF _, eqF _, eqF _, eqF _, eqF _, eqF _, eqF _, eqF _, eqF _, eqF _, eqF _, eqF _, eqF _, eqF _, eqF _]) [⟨[], [0]⟩, ⟨[], [6]⟩, ⟨[(12, 0), (13, 1)], []⟩, ⟨[(14, 2)], []⟩, ⟨[(15, 3)], []⟩, ⟨[], [1]⟩, ⟨[(16, 4), (17, 5)], []⟩, ⟨[(18, 6)], []⟩, ⟨[(19, 7)], [5]⟩, ⟨[(20, 8), (19, 7)], []⟩, ⟨[(21, 9), (19, 7)], []⟩, ⟨[(22, 10)], [0]⟩, ⟨[(22, 10)], [6]⟩, ⟨[(23, 11), (24, 12), (22, 10)], []⟩, ⟨[(25, 13), (22, 10)], []⟩, ⟨[(26, 14), (22, 10)], []⟩, ⟨[(22, 10)], [0]⟩, ⟨[(22, 10)], [5]⟩, ⟨[(28, 16), (29, 17), (22, 10)], []⟩, ⟨[(30, 18), (22, 10)], []⟩, ⟨[(31, 19), (22, 10)], []⟩] [(19, 7), (22, 10), (27, 15), (32, 20)] [0, 1, 4, 5, 6, 7, 8, 9, 10, 11, 33, 34, 35, 36, 37, 38] rfl (by kernel_rfl) (by kernel_rfl) rfl rfl (by kernel_rfl) (by kernel_rfl) (by kernel_rfl) rfl ?obs4 ?end4
    case obs4 =>
     refine Obs.cons ?_ ?_
     ·refine obS (by kernel_rfl) rfl rfl (fun ph4 w4 hO4 => ?_)
      refine VL.move rfl ?_
      exact VL.finS hO4 rfl rfl
     refine Obs.cons ?_ ?_
     ·refine obS (by kernel_rfl) rfl rfl (fun ph4 w4 hO4 => ?_)
      refine VL.move rfl ?_
      exact VL.finS hO4 rfl rfl
     refine Obs.cons ?_ ?_
     ·refine obS (by kernel_rfl) rfl rfl (fun ph4 w4 hO4 => ?_)
      rintro _ rfl _ rfl
      refine VL.index (xs := xs) rfl rfl Try.underlying47 sz47 hX (by omega) (by have hi := hlt; omega) ?_
      exact VL.finS hO4 rfl rfl
     refine Obs.cons ?_ ?_
     ·refine obS (by kernel_rfl) rfl rfl (fun ph4 w4 hO4 => ?_)
      rintro _ rfl
      refine VL.fieldAt rfl (by obtain ⟨a, ha⟩ := hX.isAt (by have hi := hlt; omega); rw [ha]; rfl) fo50_2 ?_
      exact VL.finS hO4 rfl rfl
     refine Obs.cons ?_ ?_
     ·refine ob (by kernel_rfl) rfl (by kernel_rfl) rfl (fun w4 hO4 => ?_)
      rintro _ rfl
      refine VL.elem (s := ⟨w, _⟩) (i) 2 rfl kd48 (fun _ e => e ▸ hO4) (by repeat (first | exact List.mem_cons_self .. | apply List.mem_cons_of_mem)) Mono_par hX (List.getElem?_eq_getElem hlt) (by simp) (by decide) (fun vs v hl hr hv => ?_)
      obtain ⟨p2, c3, hy1, rfl, hA4⟩ := hr
      have ehy1 : v = .int .u32 ((xs[i]'hlt).due : Nat) := (Option.some.inj (hv.symm.trans rfl))
      subst ehy1
      exact VL.finS hO4 rfl rfl
     refine Obs.cons ?_ ?_
     ·refine obS (by kernel_rfl) rfl rfl (fun ph4 w4 hO4 => ?_)
      refine VL.move rfl ?_
      exact VL.finS hO4 rfl rfl
     refine Obs.cons ?_ ?_
     ·refine obS (by kernel_rfl) rfl rfl (fun ph4 w4 hO4 => ?_)
      rintro _ rfl _ rfl
      refine VL.leq rfl rfl ?_
      refine VL.yes (by omega) ?_
      exact VL.finS hO4 rfl rfl
     refine Obs.cons ?_ ?_
     ·refine obS (by kernel_rfl) rfl rfl (fun ph4 w4 hO4 => ?_)
      rintro _ rfl
      refine VL.move rfl ?_
      exact VL.finS hO4 rfl rfl
     refine Obs.cons ?_ ?_
     ·refine obS (by kernel_rfl) rfl rfl (fun ph4 w4 hO4 => ?_)
      rintro _ rfl
      refine VL.go rfl rfl rfl ?_
      refine VL.move rfl ?_
      exact VL.finS hO4 rfl rfl
     refine Obs.cons ?_ ?_
     ·refine obS (by kernel_rfl) rfl rfl (fun ph4 w4 hO4 => ?_)
      rintro _ rfl _ rfl
      refine VL.go rfl rfl rfl ?_
      refine VL.lss rfl rfl ?_
      refine VL.yes (by omega) ?_
      exact VL.finS hO4 rfl rfl
     refine Obs.cons ?_ ?_
     ·refine obS (by kernel_rfl) rfl rfl (fun ph4 w4 hO4 => ?_)
      rintro _ rfl _ rfl
      refine VL.go rfl rfl rfl ?_
      refine VL.move rfl ?_
      exact VL.finS hO4 rfl rfl
     refine Obs.cons ?_ ?_
     ·refine obS (by kernel_rfl) rfl rfl (fun ph4 w4 hO4 => ?_)
      rintro _ rfl
      refine VL.pass rfl rfl rfl rfl rfl ?_
      exact VL.finS hO4 rfl rfl
     refine Obs.cons ?_ ?_
     ·refine obS (by kernel_rfl) rfl rfl (fun ph4 w4 hO4 => ?_)
      rintro _ rfl
      refine VL.pass rfl rfl rfl rfl rfl ?_
      exact VL.finS hO4 rfl rfl
     refine Obs.cons ?_ ?_
     ·refine obS (by kernel_rfl) rfl rfl (fun ph4 w4 hO4 => ?_)
      rintro _ rfl _ rfl _ rfl
      refine VL.pass rfl rfl rfl rfl rfl ?_
      exact VL.finS hO4 rfl rfl
     refine Obs.cons ?_ ?_
     ·refine obS (by kernel_rfl) rfl rfl (fun ph4 w4 hO4 => ?_)
      rintro _ rfl _ rfl
      refine VL.pass rfl rfl rfl rfl rfl ?_
      exact VL.finS hO4 rfl rfl
     refine Obs.cons ?_ ?_
     ·refine obS (by kernel_rfl) rfl rfl (fun ph4 w4 hO4 => ?_)
      rintro _ rfl _ rfl
      refine VL.pass rfl rfl rfl rfl rfl ?_
      exact VL.finS hO4 rfl rfl
     refine Obs.cons ?_ ?_
     ·refine obS (by kernel_rfl) rfl rfl (fun ph4 w4 hO4 => ?_)
      rintro _ rfl
      refine VL.pass rfl rfl rfl rfl rfl ?_
      exact VL.finS hO4 rfl rfl
     refine Obs.cons ?_ ?_
     ·refine obS (by kernel_rfl) rfl rfl (fun ph4 w4 hO4 => ?_)
      rintro _ rfl
      refine VL.pass rfl rfl rfl rfl rfl ?_
      exact VL.finS hO4 rfl rfl
     refine Obs.cons ?_ ?_
     ·refine obS (by kernel_rfl) rfl rfl (fun ph4 w4 hO4 => ?_)
      rintro _ rfl _ rfl _ rfl
      refine VL.pass rfl rfl rfl rfl rfl ?_
      exact VL.finS hO4 rfl rfl
     refine Obs.cons ?_ ?_
     ·refine obS (by kernel_rfl) rfl rfl (fun ph4 w4 hO4 => ?_)
      rintro _ rfl _ rfl
      refine VL.pass rfl rfl rfl rfl rfl ?_
      exact VL.finS hO4 rfl rfl
     refine Obs.cons ?_ ?_
     ·refine obS (by kernel_rfl) rfl rfl (fun ph4 w4 hO4 => ?_)
      rintro _ rfl _ rfl
      refine VL.pass rfl rfl rfl rfl rfl ?_
      exact VL.finS hO4 rfl rfl
     exact Obs.nil
    case end4 =>
     intro w4 hO4
     rintro _ rfl _ rfl _ rfl _ rfl
     refine VL.toOwn hO4 ?_
     refine VL.pass rfl rfl rfl rfl rfl ?_
     refine VL.go rfl rfl rfl ?_
     refine VL.pick_t rfl rfl ?_
     refine VL.pick_t rfl rfl ?_
     refine VL.nn ?_
     refine VC.yes rfl ?_
     refine VC.region ?_
     refine VL.move rfl ?_
     refine VL.assign rfl ?_
     refine VL.nn ?_
     refine VC.sr ?_
     refine VL.move rfl ?_
     refine VL.add rfl rfl (by simp only [InR]; omega) ?_
     refine VL.assign rfl ?_
     refine VL.nn ?_
     refine VC.goto ?_
     refine VX.jump (RpJ.go (i + 1) (i : Int)) rfl ⟨rfl, rfl, rfl, rfl, trivial⟩ (fun w' h => ⟨⟨by omega, (bestZ_some (best_first h1 hbi)).symm⟩, h.subA⟩) (by first | trivial | (show xs.length - (i + 1) < xs.length - i; omega))
   ·have hz := bestZ_none hbi
    have hz2 : z = -1 := by omega
    subst hz2
    apply VC.anyTA 21 1024 (F := [eqF _, eqF _, eqF _, eqF _, eqF _, eqF _, eqF _, eqF _, eqF _, eqF _, eqF _, eqF _, eqF _, eqF _, eqF _, eqF _, eqF _, eqF _, eqF _, eqF _, eqF _]) [⟨[], [0]⟩, ⟨[], [6]⟩, ⟨[(12, 0), (13, 1)], []⟩, ⟨[(14, 2)], []⟩, ⟨[(15, 3)], []⟩, ⟨[], [1]⟩, ⟨[(16, 4), (17, 5)], []⟩, ⟨[(18, 6)], []⟩, ⟨[(19, 7)], [5]⟩, ⟨[(20, 8), (19, 7)], []⟩, ⟨[(21, 9), (19, 7)], []⟩, ⟨[(22, 10)], [0]⟩, ⟨[(22, 10)], [6]⟩, ⟨[(23, 11), (24, 12), (22, 10)], []⟩, ⟨[(25, 13), (22, 10)], []⟩, ⟨[(26, 14), (22, 10)], []⟩, ⟨[(22, 10)], [0]⟩, ⟨[(22, 10)], [5]⟩, ⟨[(28, 16), (29, 17), (22, 10)], []⟩, ⟨[(30, 18), (22, 10)], []⟩, ⟨[(31, 19), (22, 10)], []⟩] [(19, 7), (22, 10), (27, 15), (32, 20)] [0, 1, 4, 5, 6, 7, 8, 9, 10, 11, 33, 34, 35, 36, 37, 38] rfl (by kernel_rfl) (by kernel_rfl) rfl rfl (by kernel_rfl) (by kernel_rfl) (by kernel_rfl) rfl ?obs4 ?end4
    case obs4 =>
     refine Obs.cons ?_ ?_
     ·refine obS (by kernel_rfl) rfl rfl (fun ph4 w4 hO4 => ?_)
      refine VL.move rfl ?_
      exact VL.finS hO4 rfl rfl
     refine Obs.cons ?_ ?_
     ·refine obS (by kernel_rfl) rfl rfl (fun ph4 w4 hO4 => ?_)
      refine VL.move rfl ?_
      exact VL.finS hO4 rfl rfl
     refine Obs.cons ?_ ?_
     ·refine obS (by kernel_rfl) rfl rfl (fun ph4 w4 hO4 => ?_)
      rintro _ rfl _ rfl
      refine VL.index (xs := xs) rfl rfl Try.underlying47 sz47 hX (by omega) (by have hi := hlt; omega) ?_
      exact VL.finS hO4 rfl rfl
     refine Obs.cons ?_ ?_
     ·refine obS (by kernel_rfl) rfl rfl (fun ph4 w4 hO4 => ?_)
      rintro _ rfl
      refine VL.fieldAt rfl (by obtain ⟨a, ha⟩ := hX.isAt (by have hi := hlt; omega); rw [ha]; rfl) fo50_2 ?_
      exact VL.finS hO4 rfl rfl
     refine Obs.cons ?_ ?_
     ·refine ob (by kernel_rfl) rfl (by kernel_rfl) rfl (fun w4 hO4 => ?_)
      rintro _ rfl
      refine VL.elem (s := ⟨w, _⟩) (i) 2 rfl kd48 (fun _ e => e ▸ hO4) (by repeat (first | exact List.mem_cons_self .. | apply List.mem_cons_of_mem)) Mono_par hX (List.getElem?_eq_getElem hlt) (by simp) (by decide) (fun vs v hl hr hv => ?_)
      obtain ⟨p6, c7, hy5, rfl, hA8⟩ := hr
      have ehy5 : v = .int .u32 ((xs[i]'hlt).due : Nat) := (Option.some.inj (hv.symm.trans rfl))
      subst ehy5
      exact VL.finS hO4 rfl rfl
     refine Obs.cons ?_ ?_
     ·refine obS (by kernel_rfl) rfl rfl (fun ph4 w4 hO4 => ?_)
      refine VL.move rfl ?_
      exact VL.finS hO4 rfl rfl
     refine Obs.cons ?_ ?_
     ·refine obS (by kernel_rfl) rfl rfl (fun ph4 w4 hO4 => ?_)
      rintro _ rfl _ rfl
      refine VL.leq rfl rfl ?_
      refine VL.no (by omega) ?_
      exact VL.finS hO4 rfl rfl
     refine Obs.cons ?_ ?_
     ·refine obS (by kernel_rfl) rfl rfl (fun ph4 w4 hO4 => ?_)
      rintro _ rfl
      refine VL.move rfl ?_
      exact VL.finS hO4 rfl rfl
     refine Obs.cons ?_ ?_
     ·refine obS (by kernel_rfl) rfl rfl (fun ph4 w4 hO4 => ?_)
      rintro _ rfl
      refine VL.pass rfl rfl rfl rfl rfl ?_
      exact VL.finS hO4 rfl rfl
     refine Obs.cons ?_ ?_
     ·refine obS (by kernel_rfl) rfl rfl (fun ph4 w4 hO4 => ?_)
      rintro _ rfl _ rfl
      refine VL.pass rfl rfl rfl rfl rfl ?_
      exact VL.finS hO4 rfl rfl
     refine Obs.cons ?_ ?_
     ·refine obS (by kernel_rfl) rfl rfl (fun ph4 w4 hO4 => ?_)
      rintro _ rfl _ rfl
      refine VL.pass rfl rfl rfl rfl rfl ?_
      exact VL.finS hO4 rfl rfl
     refine Obs.cons ?_ ?_
     ·refine obS (by kernel_rfl) rfl rfl (fun ph4 w4 hO4 => ?_)
      rintro _ rfl
      refine VL.passu rfl rfl rfl rfl ?_
      exact VL.finS hO4 rfl rfl
     refine Obs.cons ?_ ?_
     ·refine obS (by kernel_rfl) rfl rfl (fun ph4 w4 hO4 => ?_)
      rintro _ rfl
      refine VL.passu rfl rfl rfl rfl ?_
      exact VL.finS hO4 rfl rfl
     refine Obs.cons ?_ ?_
     ·refine obS (by kernel_rfl) rfl rfl (fun ph4 w4 hO4 => ?_)
      rintro _ rfl _ rfl _ rfl
      refine VL.passu rfl rfl rfl rfl ?_
      exact VL.finS hO4 rfl rfl
     refine Obs.cons ?_ ?_
     ·refine obS (by kernel_rfl) rfl rfl (fun ph4 w4 hO4 => ?_)
      rintro _ rfl _ rfl
      refine VL.passu rfl rfl rfl rfl ?_
      exact VL.finS hO4 rfl rfl
     refine Obs.cons ?_ ?_
     ·refine obS (by kernel_rfl) rfl rfl (fun ph4 w4 hO4 => ?_)
      rintro _ rfl _ rfl
      refine VL.passu rfl rfl rfl rfl ?_
      exact VL.finS hO4 rfl rfl
     refine Obs.cons ?_ ?_
     ·refine obS (by kernel_rfl) rfl rfl (fun ph4 w4 hO4 => ?_)
      rintro _ rfl
      refine VL.passu rfl rfl rfl rfl ?_
      exact VL.finS hO4 rfl rfl
     refine Obs.cons ?_ ?_
     ·refine obS (by kernel_rfl) rfl rfl (fun ph4 w4 hO4 => ?_)
      rintro _ rfl
      refine VL.passu rfl rfl rfl rfl ?_
      exact VL.finS hO4 rfl rfl
     refine Obs.cons ?_ ?_
     ·refine obS (by kernel_rfl) rfl rfl (fun ph4 w4 hO4 => ?_)
      rintro _ rfl _ rfl _ rfl
      refine VL.passu rfl rfl rfl rfl ?_
      exact VL.finS hO4 rfl rfl
     refine Obs.cons ?_ ?_
     ·refine obS (by kernel_rfl) rfl rfl (fun ph4 w4 hO4 => ?_)
      rintro _ rfl _ rfl
      refine VL.passu rfl rfl rfl rfl ?_
      exact VL.finS hO4 rfl rfl
     refine Obs.cons ?_ ?_
     ·refine obS (by kernel_rfl) rfl rfl (fun ph4 w4 hO4 => ?_)
      rintro _ rfl _ rfl
      refine VL.passu rfl rfl rfl rfl ?_
      exact VL.finS hO4 rfl rfl
     exact Obs.nil
    case end4 =>
     intro w4 hO4
     rintro _ rfl _ rfl _ rfl _ rfl
     refine VL.toOwn hO4 ?_
     refine VL.passu rfl rfl rfl rfl ?_
     refine VL.pass rfl rfl rfl rfl rfl ?_
     refine VL.pick_f rfl rfl ?_
     refine VL.nn ?_
     refine VC.no rfl ?_
     refine VC.skip ?_
     refine VX.next ?_
     refine VC.sr ?_
     refine VL.move rfl ?_
     refine VL.add rfl rfl (by simp only [InR]; omega) ?_
     refine VL.assign rfl ?_
     refine VL.nn ?_
     refine VC.goto ?_
     refine VX.jump (RpJ.go (i + 1) (-1)) rfl ⟨rfl, rfl, rfl, rfl, trivial⟩ (fun w' h => ⟨⟨by omega, (bestZ_none ((best_no h1).trans hbi)).symm⟩, h.subA⟩) (by first | trivial | (show xs.length - (i + 1) < xs.length - i; omega))
   ·have hz := bestZ_some hbi
    have hz2 : z = (b : Int) := by omega
    subst hz2
    obtain ⟨hbl, _⟩ := best_some hbi
    have hbl2 : b < xs.length := by omega
    have hdb := dueAt_eq hbl2
    apply VC.anyTA 21 1024 (F := [eqF _, eqF _, eqF _, eqF _, eqF _, eqF _, eqF _, eqF _, eqF _, eqF _, eqF _, eqF _, eqF _, eqF _, eqF _, eqF _, eqF _, eqF _, eqF _, eqF _, eqF _]) [⟨[], [0]⟩, ⟨[], [6]⟩, ⟨[(12, 0), (13, 1)], []⟩, ⟨[(14, 2)], []⟩, ⟨[(15, 3)], []⟩, ⟨[], [1]⟩, ⟨[(16, 4), (17, 5)], []⟩, ⟨[(18, 6)], []⟩, ⟨[(19, 7)], [5]⟩, ⟨[(20, 8), (19, 7)], []⟩, ⟨[(21, 9), (19, 7)], []⟩, ⟨[(22, 10)], [0]⟩, ⟨[(22, 10)], [6]⟩, ⟨[(23, 11), (24, 12), (22, 10)], []⟩, ⟨[(25, 13), (22, 10)], []⟩, ⟨[(26, 14), (22, 10)], []⟩, ⟨[(22, 10)], [0]⟩, ⟨[(22, 10)], [5]⟩, ⟨[(28, 16), (29, 17), (22, 10)], []⟩, ⟨[(30, 18), (22, 10)], []⟩, ⟨[(31, 19), (22, 10)], []⟩] [(19, 7), (22, 10), (27, 15), (32, 20)] [0, 1, 4, 5, 6, 7, 8, 9, 10, 11, 33, 34, 35, 36, 37, 38] rfl (by kernel_rfl) (by kernel_rfl) rfl rfl (by kernel_rfl) (by kernel_rfl) (by kernel_rfl) rfl ?obs4 ?end4
    case obs4 =>
     refine Obs.cons ?_ ?_
     ·refine obS (by kernel_rfl) rfl rfl (fun ph4 w4 hO4 => ?_)
      refine VL.move rfl ?_
      exact VL.finS hO4 rfl rfl
     refine Obs.cons ?_ ?_
     ·refine obS (by kernel_rfl) rfl rfl (fun ph4 w4 hO4 => ?_)
      refine VL.move rfl ?_
      exact VL.finS hO4 rfl rfl
     refine Obs.cons ?_ ?_
     ·refine obS (by kernel_rfl) rfl rfl (fun ph4 w4 hO4 => ?_)
      rintro _ rfl _ rfl
      refine VL.index (xs := xs) rfl rfl Try.underlying47 sz47 hX (by omega) (by have hi := hlt; omega) ?_
      exact VL.finS hO4 rfl rfl
     refine Obs.cons ?_ ?_
     ·refine obS (by kernel_rfl) rfl rfl (fun ph4 w4 hO4 => ?_)
      rintro _ rfl
      refine VL.fieldAt rfl (by obtain ⟨a, ha⟩ := hX.isAt (by have hi := hlt; omega); rw [ha]; rfl) fo50_2 ?_
      exact VL.finS hO4 rfl rfl
     refine Obs.cons ?_ ?_
     ·refine ob (by kernel_rfl) rfl (by kernel_rfl) rfl (fun w4 hO4 => ?_)
      rintro _ rfl
      refine VL.elem (s := ⟨w, _⟩) (i) 2 rfl kd48 (fun _ e => e ▸ hO4) (by repeat (first | exact List.mem_cons_self .. | apply List.mem_cons_of_mem)) Mono_par hX (List.getElem?_eq_getElem hlt) (by simp) (by decide) (fun vs v hl hr hv => ?_)
      obtain ⟨p10, c11, hy9, rfl, hA12⟩ := hr
      have ehy9 : v = .int .u32 ((xs[i]'hlt).due : Nat) := (Option.some.inj (hv.symm.trans rfl))
      subst ehy9
      exact VL.finS hO4 rfl rfl
     refine Obs.cons ?_ ?_
     ·refine obS (by kernel_rfl) rfl rfl (fun ph4 w4 hO4 => ?_)
      refine VL.move rfl ?_
      exact VL.finS hO4 rfl rfl
     refine Obs.cons ?_ ?_
     ·refine obS (by kernel_rfl) rfl rfl (fun ph4 w4 hO4 => ?_)
      rintro _ rfl _ rfl
      refine VL.leq rfl rfl ?_
      refine VL.yes (by omega) ?_
      exact VL.finS hO4 rfl rfl
     refine Obs.cons ?_ ?_
     ·refine obS (by kernel_rfl) rfl rfl (fun ph4 w4 hO4 => ?_)
      rintro _ rfl
      refine VL.move rfl ?_
      exact VL.finS hO4 rfl rfl
     refine Obs.cons ?_ ?_
     ·refine obS (by kernel_rfl) rfl rfl (fun ph4 w4 hO4 => ?_)
      rintro _ rfl
      refine VL.go rfl rfl rfl ?_
      refine VL.move rfl ?_
      exact VL.finS hO4 rfl rfl
     refine Obs.cons ?_ ?_
     ·refine obS (by kernel_rfl) rfl rfl (fun ph4 w4 hO4 => ?_)
      rintro _ rfl _ rfl
      refine VL.go rfl rfl rfl ?_
      refine VL.lss rfl rfl ?_
      refine VL.no (by omega) ?_
      exact VL.finS hO4 rfl rfl
     refine Obs.cons ?_ ?_
     ·refine obS (by kernel_rfl) rfl rfl (fun ph4 w4 hO4 => ?_)
      rintro _ rfl _ rfl
      refine VL.go rfl rfl rfl ?_
      refine VL.move rfl ?_
      exact VL.finS hO4 rfl rfl
     refine Obs.cons ?_ ?_
     ·refine obS (by kernel_rfl) rfl rfl (fun ph4 w4 hO4 => ?_)
      rintro _ rfl
      refine VL.go rfl rfl rfl ?_
      refine VL.move rfl ?_
      exact VL.finS hO4 rfl rfl
     refine Obs.cons ?_ ?_
     ·refine obS (by kernel_rfl) rfl rfl (fun ph4 w4 hO4 => ?_)
      rintro _ rfl
      refine VL.go rfl rfl rfl ?_
      refine VL.move rfl ?_
      exact VL.finS hO4 rfl rfl
     refine Obs.cons ?_ ?_
     ·refine obS (by kernel_rfl) rfl rfl (fun ph4 w4 hO4 => ?_)
      rintro _ rfl _ rfl _ rfl
      refine VL.go rfl rfl rfl ?_
      refine VL.index (xs := xs) rfl rfl Try.underlying47 sz47 hX (by omega) (by have hi := hlt; omega) ?_
      exact VL.finS hO4 rfl rfl
     refine Obs.cons ?_ ?_
     ·refine obS (by kernel_rfl) rfl rfl (fun ph4 w4 hO4 => ?_)
      rintro _ rfl _ rfl
      refine VL.go rfl rfl rfl ?_
      refine VL.fieldAt rfl (by obtain ⟨a, ha⟩ := hX.isAt (by have hi := hlt; omega); rw [ha]; rfl) fo50_2 ?_
      exact VL.finS hO4 rfl rfl
     refine Obs.cons ?_ ?_
     ·refine ob (by kernel_rfl) rfl (by kernel_rfl) rfl (fun w4 hO4 => ?_)
      rintro _ rfl _ rfl
      refine VL.go rfl rfl rfl ?_
      refine VL.elem (s := ⟨w, _⟩) (i) 2 rfl kd48 (fun _ e => e ▸ hO4) (by repeat (first | exact List.mem_cons_self .. | apply List.mem_cons_of_mem)) Mono_par hX (List.getElem?_eq_getElem hlt) (by simp) (by decide) (fun vs v hl hr hv => ?_)
      obtain ⟨p14, c15, hy13, rfl, hA16⟩ := hr
      have ehy13 : v = .int .u32 ((xs[i]'hlt).due : Nat) := (Option.some.inj (hv.symm.trans rfl))
      subst ehy13
      exact VL.finS hO4 rfl rfl
     refine Obs.cons ?_ ?_
     ·refine obS (by kernel_rfl) rfl rfl (fun ph4 w4 hO4 => ?_)
      rintro _ rfl
      refine VL.go rfl rfl rfl ?_
      refine VL.move rfl ?_
      exact VL.finS hO4 rfl rfl
     refine Obs.cons ?_ ?_
     ·refine obS (by kernel_rfl) rfl rfl (fun ph4 w4 hO4 => ?_)
      rintro _ rfl
      refine VL.go rfl rfl rfl ?_
      refine VL.move rfl ?_
      exact VL.finS hO4 rfl rfl
     refine Obs.cons ?_ ?_
     ·refine obS (by kernel_rfl) rfl rfl (fun ph4 w4 hO4 => ?_)
      rintro _ rfl _ rfl _ rfl
      refine VL.go rfl rfl rfl ?_
      refine VL.index (xs := xs) rfl rfl Try.underlying47 sz47 hX (by omega) (by have hi := hbl2; omega) ?_
      exact VL.finS hO4 rfl rfl
     refine Obs.cons ?_ ?_
     ·refine obS (by kernel_rfl) rfl rfl (fun ph4 w4 hO4 => ?_)
      rintro _ rfl _ rfl
      refine VL.go rfl rfl rfl ?_
      refine VL.fieldAt rfl (by obtain ⟨a, ha⟩ := hX.isAt (by have hi := hbl2; omega); rw [ha]; rfl) fo50_2 ?_
      exact VL.finS hO4 rfl rfl
     refine Obs.cons ?_ ?_
     ·refine ob (by kernel_rfl) rfl (by kernel_rfl) rfl (fun w4 hO4 => ?_)
      rintro _ rfl _ rfl
      refine VL.go rfl rfl rfl ?_
      refine VL.elem (s := ⟨w, _⟩) (b) 2 rfl kd48 (fun _ e => e ▸ hO4) (by repeat (first | exact List.mem_cons_self .. | apply List.mem_cons_of_mem)) Mono_par hX (List.getElem?_eq_getElem hbl2) (by simp) (by decide) (fun vs v hl hr hv => ?_)
      obtain ⟨p18, c19, hy17, rfl, hA20⟩ := hr
      have ehy17 : v = .int .u32 ((xs[b]'hbl2).due : Nat) := (Option.some.inj (hv.symm.trans rfl))
      subst ehy17
      exact VL.finS hO4 rfl rfl
     exact Obs.nil
    case end4 =>
     intro w4 hO4
     rintro _ rfl _ rfl _ rfl _ rfl
     refine VL.toOwn hO4 ?_
     refine VL.go rfl rfl rfl ?_
     refine VL.lss rfl rfl ?_
     refine VL.yes (by omega) ?_
     refine VL.go rfl rfl rfl ?_
     refine VL.pick_f rfl rfl ?_
     refine VL.pick_t rfl rfl ?_
     refine VL.nn ?_
     refine VC.yes rfl ?_
     refine VC.region ?_
     refine VL.move rfl ?_
     refine VL.assign rfl ?_
     refine VL.nn ?_
     refine VC.sr ?_
     refine VL.move rfl ?_
     refine VL.add rfl rfl (by simp only [InR]; omega) ?_
     refine VL.assign rfl ?_
     refine VL.nn ?_
     refine VC.goto ?_
     refine VX.jump (RpJ.go (i + 1) (i : Int)) rfl ⟨rfl, rfl, rfl, rfl, trivial⟩ (fun w' h => ⟨⟨by omega, (bestZ_some (best_less h1 hbi h2)).symm⟩, h.subA⟩) (by first | trivial | (show xs.length - (i + 1) < xs.length - i; omega))
   ·have hz := bestZ_some hbi
    have hz2 : z = (b : Int) := by omega
    subst hz2
    obtain ⟨hbl, _⟩ := best_some hbi
    have hbl2 : b < xs.length := by omega
    have hdb := dueAt_eq hbl2
    apply VC.anyTA 21 1024 (F := [eqF _, eqF _, eqF _, eqF _, eqF _, eqF _, eqF _, eqF _, eqF _, eqF _, eqF _, eqF _, eqF _, eqF _, eqF _, eqF _, eqF _, eqF _, eqF _, eqF _, eqF _]) [⟨[], [0]⟩, ⟨[], [6]⟩, ⟨[(12, 0), (13, 1)], []⟩, ⟨[(14, 2)], []⟩, ⟨[(15, 3)], []⟩, ⟨[], [1]⟩, ⟨[(16, 4), (17, 5)], []⟩, ⟨[(18, 6)], []⟩, ⟨[(19, 7)], [5]⟩, ⟨[(20, 8), (19, 7)], []⟩, ⟨[(21, 9), (19, 7)], []⟩, ⟨[(22, 10)], [0]⟩, ⟨[(22, 10)], [6]⟩, ⟨[(23, 11), (24, 12), (22, 10)], []⟩, ⟨[(25, 13), (22, 10)], []⟩, ⟨[(26, 14), (22, 10)], []⟩, ⟨[(22, 10)], [0]⟩, ⟨[(22, 10)], [5]⟩, ⟨[(28, 16), (29, 17), (22, 10)], []⟩, ⟨[(30, 18), (22, 10)], []⟩, ⟨[(31, 19), (22, 10)], []⟩] [(19, 7), (22, 10), (27, 15), (32, 20)] [0, 1, 4, 5, 6, 7, 8, 9, 10, 11, 33, 34, 35, 36, 37, 38] rfl (by kernel_rfl) (by kernel_rfl) rfl rfl (by kernel_rfl) (by kernel_rfl) (by kernel_rfl) rfl ?obs4 ?end4
    case obs4 =>
     refine Obs.cons ?_ ?_
     ·refine obS (by kernel_rfl) rfl rfl (fun ph4 w4 hO4 => ?_)
      refine VL.move rfl ?_
      exact VL.finS hO4 rfl rfl
     refine Obs.cons ?_ ?_
     ·refine obS (by kernel_rfl) rfl rfl (fun ph4 w4 hO4 => ?_)
      refine VL.move rfl ?_
      exact VL.finS hO4 rfl rfl
     refine Obs.cons ?_ ?_
     ·refine obS (by kernel_rfl) rfl rfl (fun ph4 w4 hO4 => ?_)
      rintro _ rfl _ rfl
      refine VL.index (xs := xs) rfl rfl Try.underlying47 sz47 hX (by omega) (by have hi := hlt; omega) ?_
      exact VL.finS hO4 rfl rfl
     refine Obs.cons ?_ ?_
     ·refine obS (by kernel_rfl) rfl rfl (fun ph4 w4 hO4 => ?_)
      rintro _ rfl
      refine VL.fieldAt rfl (by obtain ⟨a, ha⟩ := hX.isAt (by have hi := hlt; omega); rw [ha]; rfl) fo50_2 ?_
      exact VL.finS hO4 rfl rfl
     refine Obs.cons ?_ ?_
     ·refine ob (by kernel_rfl) rfl (by kernel_rfl) rfl (fun w4 hO4 => ?_)
      rintro _ rfl
      refine VL.elem (s := ⟨w, _⟩) (i) 2 rfl kd48 (fun _ e => e ▸ hO4) (by repeat (first | exact List.mem_cons_self .. | apply List.mem_cons_of_mem)) Mono_par hX (List.getElem?_eq_getElem hlt) (by simp) (by decide) (fun vs v hl hr hv => ?_)
      obtain ⟨p22, c23, hy21, rfl, hA24⟩ := hr
      have ehy21 : v = .int .u32 ((xs[i]'hlt).due : Nat) := (Option.some.inj (hv.symm.trans rfl))
      subst ehy21
      exact VL.finS hO4 rfl rfl
     refine Obs.cons ?_ ?_
     ·refine obS (by kernel_rfl) rfl rfl (fun ph4 w4 hO4 => ?_)
      refine VL.move rfl ?_
      exact VL.finS hO4 rfl rfl
     refine Obs.cons ?_ ?_
     ·refine obS (by kernel_rfl) rfl rfl (fun ph4 w4 hO4 => ?_)
      rintro _ rfl _ rfl
      refine VL.leq rfl rfl ?_
      refine VL.no (by omega) ?_
      exact VL.finS hO4 rfl rfl
     refine Obs.cons ?_ ?_
     ·refine obS (by kernel_rfl) rfl rfl (fun ph4 w4 hO4 => ?_)
      rintro _ rfl
      refine VL.move rfl ?_
      exact VL.finS hO4 rfl rfl
     refine Obs.cons ?_ ?_
     ·refine obS (by kernel_rfl) rfl rfl (fun ph4 w4 hO4 => ?_)
      rintro _ rfl
      refine VL.pass rfl rfl rfl rfl rfl ?_
      exact VL.finS hO4 rfl rfl
     refine Obs.cons ?_ ?_
     ·refine obS (by kernel_rfl) rfl rfl (fun ph4 w4 hO4 => ?_)
      rintro _ rfl _ rfl
      refine VL.pass rfl rfl rfl rfl rfl ?_
      exact VL.finS hO4 rfl rfl
     refine Obs.cons ?_ ?_
     ·refine obS (by kernel_rfl) rfl rfl (fun ph4 w4 hO4 => ?_)
      rintro _ rfl _ rfl
      refine VL.pass rfl rfl rfl rfl rfl ?_
      exact VL.finS hO4 rfl rfl
     refine Obs.cons ?_ ?_
     ·refine obS (by kernel_rfl) rfl rfl (fun ph4 w4 hO4 => ?_)
      rintro _ rfl
      refine VL.passu rfl rfl rfl rfl ?_
      exact VL.finS hO4 rfl rfl
     refine Obs.cons ?_ ?_
     ·refine obS (by kernel_rfl) rfl rfl (fun ph4 w4 hO4 => ?_)
      rintro _ rfl
      refine VL.passu rfl rfl rfl rfl ?_
      exact VL.finS hO4 rfl rfl
     refine Obs.cons ?_ ?_
     ·refine obS (by kernel_rfl) rfl rfl (fun ph4 w4 hO4 => ?_)
      rintro _ rfl _ rfl _ rfl
      refine VL.passu rfl rfl rfl rfl ?_
      exact VL.finS hO4 rfl rfl
     refine Obs.cons ?_ ?_
     ·refine obS (by kernel_rfl) rfl rfl (fun ph4 w4 hO4 => ?_)
      rintro _ rfl _ rfl
      refine VL.passu rfl rfl rfl rfl ?_
      exact VL.finS hO4 rfl rfl
     refine Obs.cons ?_ ?_
     ·refine obS (by kernel_rfl) rfl rfl (fun ph4 w4 hO4 => ?_)
      rintro _ rfl _ rfl
      refine VL.passu rfl rfl rfl rfl ?_
      exact VL.finS hO4 rfl rfl
     refine Obs.cons ?_ ?_
     ·refine obS (by kernel_rfl) rfl rfl (fun ph4 w4 hO4 => ?_)
      rintro _ rfl
      refine VL.passu rfl rfl rfl rfl ?_
      exact VL.finS hO4 rfl rfl
     refine Obs.cons ?_ ?_
     ·refine obS (by kernel_rfl) rfl rfl (fun ph4 w4 hO4 => ?_)
      rintro _ rfl
      refine VL.passu rfl rfl rfl rfl ?_
      exact VL.finS hO4 rfl rfl
     refine Obs.cons ?_ ?_
     ·refine obS (by kernel_rfl) rfl rfl (fun ph4 w4 hO4 => ?_)
      rintro _ rfl _ rfl _ rfl
      refine VL.passu rfl rfl rfl rfl ?_
      exact VL.finS hO4 rfl rfl
     refine Obs.cons ?_ ?_
     ·refine obS (by kernel_rfl) rfl rfl (fun ph4 w4 hO4 => ?_)
      rintro _ rfl _ rfl
      refine VL.passu rfl rfl rfl rfl ?_
      exact VL.finS hO4 rfl rfl
     refine Obs.cons ?_ ?_
     ·refine obS (by kernel_rfl) rfl rfl (fun ph4 w4 hO4 => ?_)
      rintro _ rfl _ rfl
      refine VL.passu rfl rfl rfl rfl ?_
      exact VL.finS hO4 rfl rfl
     exact Obs.nil
    case end4 =>
     intro w4 hO4
     rintro _ rfl _ rfl _ rfl _ rfl
     refine VL.toOwn hO4 ?_
     refine VL.passu rfl rfl rfl rfl ?_
     refine VL.pass rfl rfl rfl rfl rfl ?_
     refine VL.pick_f rfl rfl ?_
     refine VL.nn ?_
     refine VC.no rfl ?_
     refine VC.skip ?_
     refine VX.next ?_
     refine VC.sr ?_
     refine VL.move rfl ?_
     refine VL.add rfl rfl (by simp only [InR]; omega) ?_
     refine VL.assign rfl ?_
     refine VL.nn ?_
     refine VC.goto ?_
     refine VX.jump (RpJ.go (i + 1) (b : Int)) rfl ⟨rfl, rfl, rfl, rfl, trivial⟩ (fun w' h => ⟨⟨by omega, (bestZ_some ((best_no h1).trans hbi)).symm⟩, h.subA⟩) (by first | trivial | (show xs.length - (i + 1) < xs.length - i; omega))
   ·have hz := bestZ_some hbi
    have hz2 : z = (b : Int) := by omega
    subst hz2
    obtain ⟨hbl, _⟩ := best_some hbi
    have hbl2 : b < xs.length := by omega
    have hdb := dueAt_eq hbl2
    apply VC.anyTA 21 1024 (F := [eqF _, eqF _, eqF _, eqF _, eqF _, eqF _, eqF _, eqF _, eqF _, eqF _, eqF _, eqF _, eqF _, eqF _, eqF _, eqF _, eqF _, eqF _, eqF _, eqF _, eqF _]) [⟨[], [0]⟩, ⟨[], [6]⟩, ⟨[(12, 0), (13, 1)], []⟩, ⟨[(14, 2)], []⟩, ⟨[(15, 3)], []⟩, ⟨[], [1]⟩, ⟨[(16, 4), (17, 5)], []⟩, ⟨[(18, 6)], []⟩, ⟨[(19, 7)], [5]⟩, ⟨[(20, 8), (19, 7)], []⟩, ⟨[(21, 9), (19, 7)], []⟩, ⟨[(22, 10)], [0]⟩, ⟨[(22, 10)], [6]⟩, ⟨[(23, 11), (24, 12), (22, 10)], []⟩, ⟨[(25, 13), (22, 10)], []⟩, ⟨[(26, 14), (22, 10)], []⟩, ⟨[(22, 10)], [0]⟩, ⟨[(22, 10)], [5]⟩, ⟨[(28, 16), (29, 17), (22, 10)], []⟩, ⟨[(30, 18), (22, 10)], []⟩, ⟨[(31, 19), (22, 10)], []⟩] [(19, 7), (22, 10), (27, 15), (32, 20)] [0, 1, 4, 5, 6, 7, 8, 9, 10, 11, 33, 34, 35, 36, 37, 38] rfl (by kernel_rfl) (by kernel_rfl) rfl rfl (by kernel_rfl) (by kernel_rfl) (by kernel_rfl) rfl ?obs4 ?end4
    case obs4 =>
     refine Obs.cons ?_ ?_
     ·refine obS (by kernel_rfl) rfl rfl (fun ph4 w4 hO4 => ?_)
      refine VL.move rfl ?_
      exact VL.finS hO4 rfl rfl
     refine Obs.cons ?_ ?_
     ·refine obS (by kernel_rfl) rfl rfl (fun ph4 w4 hO4 => ?_)
      refine VL.move rfl ?_
      exact VL.finS hO4 rfl rfl
     refine Obs.cons ?_ ?_
     ·refine obS (by kernel_rfl) rfl rfl (fun ph4 w4 hO4 => ?_)
      rintro _ rfl _ rfl
      refine VL.index (xs := xs) rfl rfl Try.underlying47 sz47 hX (by omega) (by have hi := hlt; omega) ?_
      exact VL.finS hO4 rfl rfl
     refine Obs.cons ?_ ?_
     ·refine obS (by kernel_rfl) rfl rfl (fun ph4 w4 hO4 => ?_)
      rintro _ rfl
      refine VL.fieldAt rfl (by obtain ⟨a, ha⟩ := hX.isAt (by have hi := hlt; omega); rw [ha]; rfl) fo50_2 ?_
      exact VL.finS hO4 rfl rfl
     refine Obs.cons ?_ ?_
     ·refine ob (by kernel_rfl) rfl (by kernel_rfl) rfl (fun w4 hO4 => ?_)
      rintro _ rfl
      refine VL.elem (s := ⟨w, _⟩) (i) 2 rfl kd48 (fun _ e => e ▸ hO4) (by repeat (first | exact List.mem_cons_self .. | apply List.mem_cons_of_mem)) Mono_par hX (List.getElem?_eq_getElem hlt) (by simp) (by decide) (fun vs v hl hr hv => ?_)
      obtain ⟨p26, c27, hy25, rfl, hA28⟩ := hr
      have ehy25 : v = .int .u32 ((xs[i]'hlt).due : Nat) := (Option.some.inj (hv.symm.trans rfl))
      subst ehy25
      exact VL.finS hO4 rfl rfl
     refine Obs.cons ?_ ?_
     ·refine obS (by kernel_rfl) rfl rfl (fun ph4 w4 hO4 => ?_)
      refine VL.move rfl ?_
      exact VL.finS hO4 rfl rfl
     refine Obs.cons ?_ ?_
     ·refine obS (by kernel_rfl) rfl rfl (fun ph4 w4 hO4 => ?_)
      rintro _ rfl _ rfl
      refine VL.leq rfl rfl ?_
      refine VL.yes (by omega) ?_
      exact VL.finS hO4 rfl rfl
     refine Obs.cons ?_ ?_
     ·refine obS (by kernel_rfl) rfl rfl (fun ph4 w4 hO4 => ?_)
      rintro _ rfl
      refine VL.move rfl ?_
      exact VL.finS hO4 rfl rfl
     refine Obs.cons ?_ ?_
     ·refine obS (by kernel_rfl) rfl rfl (fun ph4 w4 hO4 => ?_)
      rintro _ rfl
      refine VL.go rfl rfl rfl ?_
      refine VL.move rfl ?_
      exact VL.finS hO4 rfl rfl
     refine Obs.cons ?_ ?_
     ·refine obS (by kernel_rfl) rfl rfl (fun ph4 w4 hO4 => ?_)
      rintro _ rfl _ rfl
      refine VL.go rfl rfl rfl ?_
      refine VL.lss rfl rfl ?_
      refine VL.no (by omega) ?_
      exact VL.finS hO4 rfl rfl
     refine Obs.cons ?_ ?_
     ·refine obS (by kernel_rfl) rfl rfl (fun ph4 w4 hO4 => ?_)
      rintro _ rfl _ rfl
      refine VL.go rfl rfl rfl ?_
      refine VL.move rfl ?_
      exact VL.finS hO4 rfl rfl
     refine Obs.cons ?_ ?_
     ·refine obS (by kernel_rfl) rfl rfl (fun ph4 w4 hO4 => ?_)
      rintro _ rfl
      refine VL.go rfl rfl rfl ?_
      refine VL.move rfl ?_
      exact VL.finS hO4 rfl rfl
     refine Obs.cons ?_ ?_
     ·refine obS (by kernel_rfl) rfl rfl (fun ph4 w4 hO4 => ?_)
      rintro _ rfl
      refine VL.go rfl rfl rfl ?_
      refine VL.move rfl ?_
      exact VL.finS hO4 rfl rfl
     refine Obs.cons ?_ ?_
     ·refine obS (by kernel_rfl) rfl rfl (fun ph4 w4 hO4 => ?_)
      rintro _ rfl _ rfl _ rfl
      refine VL.go rfl rfl rfl ?_
      refine VL.index (xs := xs) rfl rfl Try.underlying47 sz47 hX (by omega) (by have hi := hlt; omega) ?_
      exact VL.finS hO4 rfl rfl
     refine Obs.cons ?_ ?_
     ·refine obS (by kernel_rfl) rfl rfl (fun ph4 w4 hO4 => ?_)
      rintro _ rfl _ rfl
      refine VL.go rfl rfl rfl ?_
      refine VL.fieldAt rfl (by obtain ⟨a, ha⟩ := hX.isAt (by have hi := hlt; omega); rw [ha]; rfl) fo50_2 ?_
      exact VL.finS hO4 rfl rfl
     refine Obs.cons ?_ ?_
     ·refine ob (by kernel_rfl) rfl (by kernel_rfl) rfl (fun w4 hO4 => ?_)
      rintro _ rfl _ rfl
      refine VL.go rfl rfl rfl ?_
      refine VL.elem (s := ⟨w, _⟩) (i) 2 rfl kd48 (fun _ e => e ▸ hO4) (by repeat (first | exact List.mem_cons_self .. | apply List.mem_cons_of_mem)) Mono_par hX (List.getElem?_eq_getElem hlt) (by simp) (by decide) (fun vs v hl hr hv => ?_)
      obtain ⟨p30, c31, hy29, rfl, hA32⟩ := hr
      have ehy29 : v = .int .u32 ((xs[i]'hlt).due : Nat) := (Option.some.inj (hv.symm.trans rfl))
      subst ehy29
      exact VL.finS hO4 rfl rfl
     refine Obs.cons ?_ ?_
     ·refine obS (by kernel_rfl) rfl rfl (fun ph4 w4 hO4 => ?_)
      rintro _ rfl
      refine VL.go rfl rfl rfl ?_
      refine VL.move rfl ?_
      exact VL.finS hO4 rfl rfl
     refine Obs.cons ?_ ?_
     ·refine obS (by kernel_rfl) rfl rfl (fun ph4 w4 hO4 => ?_)
      rintro _ rfl
      refine VL.go rfl rfl rfl ?_
      refine VL.move rfl ?_
      exact VL.finS hO4 rfl rfl
     refine Obs.cons ?_ ?_
     ·refine obS (by kernel_rfl) rfl rfl (fun ph4 w4 hO4 => ?_)
      rintro _ rfl _ rfl _ rfl
      refine VL.go rfl rfl rfl ?_
      refine VL.index (xs := xs) rfl rfl Try.underlying47 sz47 hX (by omega) (by have hi := hbl2; omega) ?_
      exact VL.finS hO4 rfl rfl
     refine Obs.cons ?_ ?_
     ·refine obS (by kernel_rfl) rfl rfl (fun ph4 w4 hO4 => ?_)
      rintro _ rfl _ rfl
      refine VL.go rfl rfl rfl ?_
      refine VL.fieldAt rfl (by obtain ⟨a, ha⟩ := hX.isAt (by have hi := hbl2; omega); rw [ha]; rfl) fo50_2 ?_
      exact VL.finS hO4 rfl rfl
     refine Obs.cons ?_ ?_
     ·refine ob (by kernel_rfl) rfl (by kernel_rfl) rfl (fun w4 hO4 => ?_)
      rintro _ rfl _ rfl
      refine VL.go rfl rfl rfl ?_
      refine VL.elem (s := ⟨w, _⟩) (b) 2 rfl kd48 (fun _ e => e ▸ hO4) (by repeat (first | exact List.mem_cons_self .. | apply List.mem_cons_of_mem)) Mono_par hX (List.getElem?_eq_getElem hbl2) (by simp) (by decide) (fun vs v hl hr hv => ?_)
      obtain ⟨p34, c35, hy33, rfl, hA36⟩ := hr
      have ehy33 : v = .int .u32 ((xs[b]'hbl2).due : Nat) := (Option.some.inj (hv.symm.trans rfl))
      subst ehy33
      exact VL.finS hO4 rfl rfl
     exact Obs.nil
    case end4 =>
     intro w4 hO4
     rintro _ rfl _ rfl _ rfl _ rfl
     refine VL.toOwn hO4 ?_
     refine VL.go rfl rfl rfl ?_
     refine VL.lss rfl rfl ?_
     refine VL.no (by omega) ?_
     refine VL.go rfl rfl rfl ?_
     refine VL.pick_f rfl rfl ?_
     refine VL.pick_t rfl rfl ?_
     refine VL.nn ?_
     refine VC.no rfl ?_
     refine VC.skip ?_
     refine VX.next ?_
     refine VC.sr ?_
     refine VL.move rfl ?_
     refine VL.add rfl rfl (by simp only [InR]; omega) ?_
     refine VL.assign rfl ?_
     refine VL.nn ?_
     refine VC.goto ?_
     refine VX.jump (RpJ.go (i + 1) (b : Int)) rfl ⟨rfl, rfl, rfl, rfl, trivial⟩ (fun w' h => ⟨⟨by omega, (bestZ_some (best_more h1 hbi h2)).symm⟩, h.subA⟩) (by first | trivial | (show xs.length - (i + 1) < xs.length - i; omega))
 ·intro x
  cases x with
  | go i z =>
   refine ⟨_, rfl, ?_⟩
   refine VC.fact fun ⟨hi, hzz⟩ => ?_
   refine VC.seq ?_
   refine VC.skip ?_
   refine VX.next ?_
   refine VC.seq ?_
   refine VC.sr ?_
   refine VL.move rfl ?_
   refine VL.move rfl ?_
   refine VL.len Try.underlying47 rfl rfl ?_
   refine VL.eql rfl rfl ?_
   refine VL.case (fun h2_3 => ?_) (fun h2_3 => ?_)
   ·have hil : i = xs.length := by omega
    subst hil
    refine VL.nn ?_
    refine VC.yes rfl ?_
    refine VC.sr ?_
    refine VL.move rfl ?_
    refine VL.assign rfl ?_
    refine VL.nn ?_
    refine VC.ret ?_
    refine VX.then_ret ?_
    refine VX.jumps_ret ?_
    refine VX.ret1 rfl rfl (fun we hw => ?_)
    exact ⟨by rw [← hzz], hw.subA⟩
   ·refine VL.nn ?_
    refine VC.no rfl ?_
    refine VC.skip ?_
    refine VX.next ?_
    refine VC.seq ?_
    refine VC.seq ?_
    have hlt : i < xs.length := by omega
    have hd := dueAt_eq hlt
    rcases best_cases xs now i with ⟨hbi, h1⟩ | ⟨hbi, h1⟩ | ⟨b, hbi, h1, h2⟩ | ⟨b, hbi, h1⟩ | ⟨b, hbi, h1, h2⟩
    ·have hz := bestZ_none hbi
     have hz2 : z = -1 := by omega
     subst hz2
     apply VC.anyTA 21 1024 (F := [eqF _, eqF _, eqF _, eqF _, eqF _, eqF _, eqF _, eqF _, eqF _, eqF _, eqF _, eqF _, eqF _, eqF _, eqF _, eqF _, eqF _, eqF _, eqF _, eqF _, eqF _]) [⟨[], [0]⟩, ⟨[], [6]⟩, ⟨[(12, 0), (13, 1)], []⟩, ⟨[(14, 2)], []⟩, ⟨[(15, 3)], []⟩, ⟨[], [1]⟩, ⟨[(16, 4), (17, 5)], []⟩, ⟨[(18, 6)], []⟩, ⟨[(19, 7)], [5]⟩, ⟨[(20, 8), (19, 7)], []⟩, ⟨[(21, 9), (19, 7)], []⟩, ⟨[(22, 10)], [0]⟩, ⟨[(22, 10)], [6]⟩, ⟨[(23, 11), (24, 12), (22, 10)], []⟩, ⟨[(25, 13), (22, 10)], []⟩, ⟨[(26, 14), (22, 10)], []⟩, ⟨[(22, 10)], [0]⟩, ⟨[(22, 10)], [5]⟩, ⟨[(28, 16), (29, 17), (22, 10)], []⟩, ⟨[(30, 18), (22, 10)], []⟩, ⟨[(31, 19), (22, 10)], []⟩] [(19, 7), (22, 10), (27, 15), (32, 20)] [0, 1, 4, 5, 6, 7, 8, 9, 10, 11, 33, 34, 35, 36, 37, 38] rfl (by kernel_rfl) (by kernel_rfl) rfl rfl (by kernel_rfl) (by kernel_rfl) (by kernel_rfl) rfl ?obs4 ?end4
     case obs4 =>
      refine Obs.cons ?_ ?_
      ·refine obS (by kernel_rfl) rfl rfl (fun ph4 w4 hO4 => ?_)
       refine VL.move rfl ?_
       exact VL.finS hO4 rfl rfl
      refine Obs.cons ?_ ?_
      ·refine obS (by kernel_rfl) rfl rfl (fun ph4 w4 hO4 => ?_)
       refine VL.move rfl ?_
       exact VL.finS hO4 rfl rfl
      refine Obs.cons ?_ ?_
      ·refine obS (by kernel_rfl) rfl rfl (fun ph4 w4 hO4 => ?_)
       rintro _ rfl _ rfl
       refine VL.index (xs := xs) rfl rfl Try.underlying47 sz47 hX (by omega) (by have hi := hlt; omega) ?_
       exact VL.finS hO4 rfl rfl
      refine Obs.cons ?_ ?_
      ·refine obS (by kernel_rfl) rfl rfl (fun ph4 w4 hO4 => ?_)
       rintro _ rfl
       refine VL.fieldAt rfl (by obtain ⟨a, ha⟩ := hX.isAt (by have hi := hlt; omega); rw [ha]; rfl) fo50_2 ?_
       exact VL.finS hO4 rfl rfl
      refine Obs.cons ?_ ?_
      ·refine ob (by kernel_rfl) rfl (by kernel_rfl) rfl (fun w4 hO4 => ?_)
       rintro _ rfl
       refine VL.elem (s := ⟨w, _⟩) (i) 2 rfl kd48 (fun _ e => e ▸ hO4) (by repeat (first | exact List.mem_cons_self .. | apply List.mem_cons_of_mem)) Mono_par hX (List.getElem?_eq_getElem hlt) (by simp) (by decide) (fun vs v hl hr hv => ?_)
       obtain ⟨p38, c39, hy37, rfl, hA40⟩ := hr
       have ehy37 : v = .int .u32 ((xs[i]'hlt).due : Nat) := (Option.some.inj (hv.symm.trans rfl))
       subst ehy37
       exact VL.finS hO4 rfl rfl
      refine Obs.cons ?_ ?_
      ·refine obS (by kernel_rfl) rfl rfl (fun ph4 w4 hO4 => ?_)
       refine VL.move rfl ?_
       exact VL.finS hO4 rfl rfl
      refine Obs.cons ?_ ?_
      ·refine obS (by kernel_rfl) rfl rfl (fun ph4 w4 hO4 => ?_)
       rintro _ rfl _ rfl
       refine VL.leq rfl rfl ?_
       refine VL.yes (by omega) ?_
       exact VL.finS hO4 rfl rfl
      refine Obs.cons ?_ ?_
      ·refine obS (by kernel_rfl) rfl rfl (fun ph4 w4 hO4 => ?_)
       rintro _ rfl
       refine VL.move rfl ?_
       exact VL.finS hO4 rfl rfl
      refine Obs.cons ?_ ?_
      ·refine obS (by kernel_rfl) rfl rfl (fun ph4 w4 hO4 => ?_)
       rintro _ rfl
       refine VL.go rfl rfl rfl ?_
       refine VL.move rfl ?_
       exact VL.finS hO4 rfl rfl
      refine Obs.cons ?_ ?_
      ·refine obS (by kernel_rfl) rfl rfl (fun ph4 w4 hO4 => ?_)
       rintro _ rfl _ rfl
       refine VL.go rfl rfl rfl ?_
       refine VL.lss rfl rfl ?_
       refine VL.yes (by omega) ?_
       exact VL.finS hO4 rfl rfl
      refine Obs.cons ?_ ?_
      ·refine obS (by kernel_rfl) rfl rfl (fun ph4 w4 hO4 => ?_)
       rintro _ rfl _ rfl
       refine VL.go rfl rfl rfl ?_
       refine VL.move rfl ?_
       exact VL.finS hO4 rfl rfl
      refine Obs.cons ?_ ?_
      ·refine obS (by kernel_rfl) rfl rfl (fun ph4 w4 hO4 => ?_)
       rintro _ rfl
       refine VL.pass rfl rfl rfl rfl rfl ?_
       exact VL.finS hO4 rfl rfl
      refine Obs.cons ?_ ?_
      ·refine obS (by kernel_rfl) rfl rfl (fun ph4 w4 hO4 => ?_)
       rintro _ rfl
       refine VL.pass rfl rfl rfl rfl rfl ?_
       exact VL.finS hO4 rfl rfl
      refine Obs.cons ?_ ?_
      ·refine obS (by kernel_rfl) rfl rfl (fun ph4 w4 hO4 => ?_)
       rintro _ rfl _ rfl _ rfl
       refine VL.pass rfl rfl rfl rfl rfl ?_
       exact VL.finS hO4 rfl rfl
      refine Obs.cons ?_ ?_
      ·refine obS (by kernel_rfl) rfl rfl (fun ph4 w4 hO4 => ?_)
       rintro _ rfl _ rfl
       refine VL.pass rfl rfl rfl rfl rfl ?_
       exact VL.finS hO4 rfl rfl
      refine Obs.cons ?_ ?_
      ·refine obS (by kernel_rfl) rfl rfl (fun ph4 w4 hO4 => ?_)
       rintro _ rfl _ rfl
       refine VL.pass rfl rfl rfl rfl rfl ?_
       exact VL.finS hO4 rfl rfl
      refine Obs.cons ?_ ?_
      ·refine obS (by kernel_rfl) rfl rfl (fun ph4 w4 hO4 => ?_)
       rintro _ rfl
       refine VL.pass rfl rfl rfl rfl rfl ?_
       exact VL.finS hO4 rfl rfl
      refine Obs.cons ?_ ?_
      ·refine obS (by kernel_rfl) rfl rfl (fun ph4 w4 hO4 => ?_)
       rintro _ rfl
       refine VL.pass rfl rfl rfl rfl rfl ?_
       exact VL.finS hO4 rfl rfl
      refine Obs.cons ?_ ?_
      ·refine obS (by kernel_rfl) rfl rfl (fun ph4 w4 hO4 => ?_)
       rintro _ rfl _ rfl _ rfl
       refine VL.pass rfl rfl rfl rfl rfl ?_
       exact VL.finS hO4 rfl rfl
      refine Obs.cons ?_ ?_
      ·refine obS (by kernel_rfl) rfl rfl (fun ph4 w4 hO4 => ?_)
       rintro _ rfl _ rfl
       refine VL.pass rfl rfl rfl rfl rfl ?_
       exact VL.finS hO4 rfl rfl
      refine Obs.cons ?_ ?_
      ·refine obS (by kernel_rfl) rfl rfl (fun ph4 w4 hO4 => ?_)
       rintro _ rfl _ rfl
       refine VL.pass rfl rfl rfl rfl rfl ?_
       exact VL.finS hO4 rfl rfl
      exact Obs.nil
     case end4 =>
      intro w4 hO4
      rintro _ rfl _ rfl _ rfl _ rfl
      refine VL.toOwn hO4 ?_
      refine VL.pass rfl rfl rfl rfl rfl ?_
      refine VL.go rfl rfl rfl ?_
      refine VL.pick_t rfl rfl ?_
      refine VL.pick_t rfl rfl ?_
      refine VL.nn ?_
      refine VC.yes rfl ?_
      refine VC.region ?_
      refine VL.move rfl ?_
      refine VL.assign rfl ?_
      refine VL.nn ?_
      refine VC.sr ?_
      refine VL.move rfl ?_
      refine VL.add rfl rfl (by simp only [InR]; omega) ?_
      refine VL.assign rfl ?_
      refine VL.nn ?_
      refine VC.goto ?_
      refine VX.jump (RpJ.go (i + 1) (i : Int)) rfl ⟨rfl, rfl, rfl, rfl, trivial⟩ (fun w' h => ⟨⟨by omega, (bestZ_some (best_first h1 hbi)).symm⟩, h.subA⟩) (by first | trivial | (show xs.length - (i + 1) < xs.length - i; omega))
    ·have hz := bestZ_none hbi
     have hz2 : z = -1 := by omega
     subst hz2
     apply VC.anyTA 21 1024 (F := [eqF _, eqF _, eqF _, eqF _, eqF _, eqF _, eqF _, eqF _, eqF _, eqF _, eqF _, eqF _, eqF _, eqF _, eqF _, eqF _, eqF _, eqF _, eqF _, eqF _, eqF _]) [⟨[], [0]⟩, ⟨[], [6]⟩, ⟨[(12, 0), (13, 1)], []⟩, ⟨[(14, 2)], []⟩, ⟨[(15, 3)], []⟩, ⟨[], [1]⟩, ⟨[(16, 4), (17, 5)], []⟩, ⟨[(18, 6)], []⟩, ⟨[(19, 7)], [5]⟩, ⟨[(20, 8), (19, 7)], []⟩, ⟨[(21, 9), (19, 7)], []⟩, ⟨[(22, 10)], [0]⟩, ⟨[(22, 10)], [6]⟩, ⟨[(23, 11), (24, 12), (22, 10)], []⟩, ⟨[(25, 13), (22, 10)], []⟩, ⟨[(26, 14), (22, 10)], []⟩, ⟨[(22, 10)], [0]⟩, ⟨[(22, 10)], [5]⟩, ⟨[(28, 16), (29, 17), (22, 10)], []⟩, ⟨[(30, 18), (22, 10)], []⟩, ⟨[(31, 19), (22, 10)], []⟩] [(19, 7), (22, 10), (27, 15), (32, 20)] [0, 1, 4, 5, 6, 7, 8, 9, 10, 11, 33, 34, 35, 36, 37, 38] rfl (by kernel_rfl) (by kernel_rfl) rfl rfl (by kernel_rfl) (by kernel_rfl) (by kernel_rfl) rfl ?obs4 ?end4
     case obs4 =>
      refine Obs.cons ?_ ?_
      ·refine obS (by kernel_rfl) rfl rfl (fun ph4 w4 hO4 => ?_)
       refine VL.move rfl ?_
       exact VL.finS hO4 rfl rfl
      refine Obs.cons ?_ ?_
      ·refine obS (by kernel_rfl) rfl rfl (fun ph4 w4 hO4 => ?_)
       refine VL.move rfl ?_
       exact VL.finS hO4 rfl rfl
      refine Obs.cons ?_ ?_
      ·refine obS (by kernel_rfl) rfl rfl (fun ph4 w4 hO4 => ?_)
       rintro _ rfl _ rfl
       refine VL.index (xs := xs) rfl rfl Try.underlying47 sz47 hX (by omega) (by have hi := hlt; omega) ?_
       exact VL.finS hO4 rfl rfl
      refine Obs.cons ?_ ?_
      ·refine obS (by kernel_rfl) rfl rfl (fun ph4 w4 hO4 => ?_)
       rintro _ rfl
       refine VL.fieldAt rfl (by obtain ⟨a, ha⟩ := hX.isAt (by have hi := hlt; omega); rw [ha]; rfl) fo50_2 ?_
       exact VL.finS hO4 rfl rfl
      refine Obs.cons ?_ ?_
      ·refine ob (by kernel_rfl) rfl (by kernel_rfl) rfl (fun w4 hO4 => ?_)
       rintro _ rfl
       refine VL.elem (s := ⟨w, _⟩) (i) 2 rfl kd48 (fun _ e => e ▸ hO4) (by repeat (first | exact List.mem_cons_self .. | apply List.mem_cons_of_mem)) Mono_par hX (List.getElem?_eq_getElem hlt) (by simp) (by decide) (fun vs v hl hr hv => ?_)
       obtain ⟨p42, c43, hy41, rfl, hA44⟩ := hr
       have ehy41 : v = .int .u32 ((xs[i]'hlt).due : Nat) := (Option.some.inj (hv.symm.trans rfl))
       subst ehy41
       exact VL.finS hO4 rfl rfl
      refine Obs.cons ?_ ?_
      ·refine obS (by kernel_rfl) rfl rfl (fun ph4 w4 hO4 => ?_)
       refine VL.move rfl ?_
       exact VL.finS hO4 rfl rfl
      refine Obs.cons ?_ ?_
      ·refine obS (by kernel_rfl) rfl rfl (fun ph4 w4 hO4 => ?_)
       rintro _ rfl _ rfl
       refine VL.leq rfl rfl ?_
       refine VL.no (by omega) ?_
       exact VL.finS hO4 rfl rfl
      refine Obs.cons ?_ ?_
      ·refine obS (by kernel_rfl) rfl rfl (fun ph4 w4 hO4 => ?_)
       rintro _ rfl
       refine VL.move rfl ?_
       exact VL.finS hO4 rfl rfl
      refine Obs.cons ?_ ?_
      ·refine obS (by kernel_rfl) rfl rfl (fun ph4 w4 hO4 => ?_)
       rintro _ rfl
       refine VL.pass rfl rfl rfl rfl rfl ?_
       exact VL.finS hO4 rfl rfl
      refine Obs.cons ?_ ?_
      ·refine obS (by kernel_rfl) rfl rfl (fun ph4 w4 hO4 => ?_)
       rintro _ rfl _ rfl
       refine VL.pass rfl rfl rfl rfl rfl ?_
       exact VL.finS hO4 rfl rfl
      refine Obs.cons ?_ ?_
      ·refine obS (by kernel_rfl) rfl rfl (fun ph4 w4 hO4 => ?_)
       rintro _ rfl _ rfl
       refine VL.pass rfl rfl rfl rfl rfl ?_
       exact VL.finS hO4 rfl rfl
      refine Obs.cons ?_ ?_
      ·refine obS (by kernel_rfl) rfl rfl (fun ph4 w4 hO4 => ?_)
       rintro _ rfl
       refine VL.passu rfl rfl rfl rfl ?_
       exact VL.finS hO4 rfl rfl
      refine Obs.cons ?_ ?_
      ·refine obS (by kernel_rfl) rfl rfl (fun ph4 w4 hO4 => ?_)
       rintro _ rfl
       refine VL.passu rfl rfl rfl rfl ?_
       exact VL.finS hO4 rfl rfl
      refine Obs.cons ?_ ?_
      ·refine obS (by kernel_rfl) rfl rfl (fun ph4 w4 hO4 => ?_)
       rintro _ rfl _ rfl _ rfl
       refine VL.passu rfl rfl rfl rfl ?_
       exact VL.finS hO4 rfl rfl
      refine Obs.cons ?_ ?_
      ·refine obS (by kernel_rfl) rfl rfl (fun ph4 w4 hO4 => ?_)
       rintro _ rfl _ rfl
       refine VL.passu rfl rfl rfl rfl ?_
       exact VL.finS hO4 rfl rfl
      refine Obs.cons ?_ ?_
      ·refine obS (by kernel_rfl) rfl rfl (fun ph4 w4 hO4 => ?_)
       rintro _ rfl _ rfl
       refine VL.passu rfl rfl rfl rfl ?_
       exact VL.finS hO4 rfl rfl
      refine Obs.cons ?_ ?_
      ·refine obS (by kernel_rfl) rfl rfl (fun ph4 w4 hO4 => ?_)
       rintro _ rfl
       refine VL.passu rfl rfl rfl rfl ?_
       exact VL.finS hO4 rfl rfl
      refine Obs.cons ?_ ?_
      ·refine obS (by kernel_rfl) rfl rfl (fun ph4 w4 hO4 => ?_)
       rintro _ rfl
       refine VL.passu rfl rfl rfl rfl ?_
       exact VL.finS hO4 rfl rfl
      refine Obs.cons ?_ ?_
      ·refine obS (by kernel_rfl) rfl rfl (fun ph4 w4 hO4 => ?_)
       rintro _ rfl _ rfl _ rfl
       refine VL.passu rfl rfl rfl rfl ?_
       exact VL.finS hO4 rfl rfl
      refine Obs.cons ?_ ?_
      ·refine obS (by kernel_rfl) rfl rfl (fun ph4 w4 hO4 => ?_)
       rintro _ rfl _ rfl
       refine VL.passu rfl rfl rfl rfl ?_
       exact VL.finS hO4 rfl rfl
      refine Obs.cons ?_ ?_
      ·refine obS (by kernel_rfl) rfl rfl (fun ph4 w4 hO4 => ?_)
       rintro _ rfl _ rfl
       refine VL.passu rfl rfl rfl rfl ?_
       exact VL.finS hO4 rfl rfl
      exact Obs.nil
     case end4 =>
      intro w4 hO4
      rintro _ rfl _ rfl _ rfl _ rfl
      refine VL.toOwn hO4 ?_
      refine VL.passu rfl rfl rfl rfl ?_
      refine VL.pass rfl rfl rfl rfl rfl ?_
      refine VL.pick_f rfl rfl ?_
      refine VL.nn ?_
      refine VC.no rfl ?_
      refine VC.skip ?_
      refine VX.next ?_
      refine VC.sr ?_
      refine VL.move rfl ?_
      refine VL.add rfl rfl (by simp only [InR]; omega) ?_
      refine VL.assign rfl ?_
      refine VL.nn ?_
      refine VC.goto ?_
      refine VX.jump (RpJ.go (i + 1) (-1)) rfl ⟨rfl, rfl, rfl, rfl, trivial⟩ (fun w' h => ⟨⟨by omega, (bestZ_none ((best_no h1).trans hbi)).symm⟩, h.subA⟩) (by first | trivial | (show xs.length - (i + 1) < xs.length - i; omega))
    ·have hz := bestZ_some hbi
     have hz2 : z = (b : Int) := by omega
     subst hz2
     obtain ⟨hbl, _⟩ := best_some hbi
     have hbl2 : b < xs.length := by omega
     have hdb := dueAt_eq hbl2
     apply VC.anyTA 21 1024 (F := [eqF _, eqF _, eqF _, eqF _, eqF _, eqF _, eqF _, eqF _, eqF _, eqF _, eqF _, eqF _, eqF _, eqF _, eqF _, eqF _, eqF _, eqF _, eqF _, eqF _, eqF _]) [⟨[], [0]⟩, ⟨[], [6]⟩, ⟨[(12, 0), (13, 1)], []⟩, ⟨[(14, 2)], []⟩, ⟨[(15, 3)], []⟩, ⟨[], [1]⟩, ⟨[(16, 4), (17, 5)], []⟩, ⟨[(18, 6)], []⟩, ⟨[(19, 7)], [5]⟩, ⟨[(20, 8), (19, 7)], []⟩, ⟨[(21, 9), (19, 7)], []⟩, ⟨[(22, 10)], [0]⟩, ⟨[(22, 10)], [6]⟩, ⟨[(23, 11), (24, 12), (22, 10)], []⟩, ⟨[(25, 13), (22, 10)], []⟩, ⟨[(26, 14), (22, 10)], []⟩, ⟨[(22, 10)], [0]⟩, ⟨[(22, 10)], [5]⟩, ⟨[(28, 16), (29, 17), (22, 10)], []⟩, ⟨[(30, 18), (22, 10)], []⟩, ⟨[(31, 19), (22, 10)], []⟩] [(19, 7), (22, 10), (27, 15), (32, 20)] [0, 1, 4, 5, 6, 7, 8, 9, 10, 11, 33, 34, 35, 36, 37, 38] rfl (by kernel_rfl) (by kernel_rfl) rfl rfl (by kernel_rfl) (by kernel_rfl) (by kernel_rfl) rfl ?obs4 ?end4
     case obs4 =>
      refine Obs.cons ?_ ?_
      ·refine obS (by kernel_rfl) rfl rfl (fun ph4 w4 hO4 => ?_)
       refine VL.move rfl ?_
       exact VL.finS hO4 rfl rfl
      refine Obs.cons ?_ ?_
      ·refine obS (by kernel_rfl) rfl rfl (fun ph4 w4 hO4 => ?_)
       refine VL.move rfl ?_
       exact VL.finS hO4 rfl rfl
      refine Obs.cons ?_ ?_
      ·refine obS (by kernel_rfl) rfl rfl (fun ph4 w4 hO4 => ?_)
       rintro _ rfl _ rfl
       refine VL.index (xs := xs) rfl rfl Try.underlying47 sz47 hX (by omega) (by have hi := hlt; omega) ?_
       exact VL.finS hO4 rfl rfl
      refine Obs.cons ?_ ?_
      ·refine obS (by kernel_rfl) rfl rfl (fun ph4 w4 hO4 => ?_)
       rintro _ rfl
       refine VL.fieldAt rfl (by obtain ⟨a, ha⟩ := hX.isAt (by have hi := hlt; omega); rw [ha]; rfl) fo50_2 ?_
       exact VL.finS hO4 rfl rfl
      refine Obs.cons ?_ ?_
      ·refine ob (by kernel_rfl) rfl (by kernel_rfl) rfl (fun w4 hO4 => ?_)
       rintro _ rfl
       refine VL.elem (s := ⟨w, _⟩) (i) 2 rfl kd48 (fun _ e => e ▸ hO4) (by repeat (first | exact List.mem_cons_self .. | apply List.mem_cons_of_mem)) Mono_par hX (List.getElem?_eq_getElem hlt) (by simp) (by decide) (fun vs v hl hr hv => ?_)
       obtain ⟨p46, c47, hy45, rfl, hA48⟩ := hr
       have ehy45 : v = .int .u32 ((xs[i]'hlt).due : Nat) := (Option.some.inj (hv.symm.trans rfl))
       subst ehy45
       exact VL.finS hO4 rfl rfl
      refine Obs.cons ?_ ?_
      ·refine obS (by kernel_rfl) rfl rfl (fun ph4 w4 hO4 => ?_)
       refine VL.move rfl ?_
       exact VL.finS hO4 rfl rfl
      refine Obs.cons ?_ ?_
      ·refine obS (by kernel_rfl) rfl rfl (fun ph4 w4 hO4 => ?_)
       rintro _ rfl _ rfl
       refine VL.leq rfl rfl ?_
       refine VL.yes (by omega) ?_
       exact VL.finS hO4 rfl rfl
      refine Obs.cons ?_ ?_
      ·refine obS (by kernel_rfl) rfl rfl (fun ph4 w4 hO4 => ?_)
       rintro _ rfl
       refine VL.move rfl ?_
       exact VL.finS hO4 rfl rfl
      refine Obs.cons ?_ ?_
      ·refine obS (by kernel_rfl) rfl rfl (fun ph4 w4 hO4 => ?_)
       rintro _ rfl
       refine VL.go rfl rfl rfl ?_
       refine VL.move rfl ?_
       exact VL.finS hO4 rfl rfl
      refine Obs.cons ?_ ?_
      ·refine obS (by kernel_rfl) rfl rfl (fun ph4 w4 hO4 => ?_)
       rintro _ rfl _ rfl
       refine VL.go rfl rfl rfl ?_
       refine VL.lss rfl rfl ?_
       refine VL.no (by omega) ?_
       exact VL.finS hO4 rfl rfl
      refine Obs.cons ?_ ?_
      ·refine obS (by kernel_rfl) rfl rfl (fun ph4 w4 hO4 => ?_)
       rintro _ rfl _ rfl
       refine VL.go rfl rfl rfl ?_
       refine VL.move rfl ?_
       exact VL.finS hO4 rfl rfl
      refine Obs.cons ?_ ?_
      ·refine obS (by kernel_rfl) rfl rfl (fun ph4 w4 hO4 => ?_)
       rintro _ rfl
       refine VL.go rfl rfl rfl ?_
       refine VL.move rfl ?_
       exact VL.finS hO4 rfl rfl
      refine Obs.cons ?_ ?_
      ·refine obS (by kernel_rfl) rfl rfl (fun ph4 w4 hO4 => ?_)
       rintro _ rfl
       refine VL.go rfl rfl rfl ?_
       refine VL.move rfl ?_
       exact VL.finS hO4 rfl rfl
      refine Obs.cons ?_ ?_
      ·refine obS (by kernel_rfl) rfl rfl (fun ph4 w4 hO4 => ?_)
       rintro _ rfl _ rfl _ rfl
       refine VL.go rfl rfl rfl ?_
       refine VL.index (xs := xs) rfl rfl Try.underlying47 sz47 hX (by omega) (by have hi := hlt; omega) ?_
       exact VL.finS hO4 rfl rfl
      refine Obs.cons ?_ ?_
      ·refine obS (by kernel_rfl) rfl rfl (fun ph4 w4 hO4 => ?_)
       rintro _ rfl _ rfl
       refine VL.go rfl rfl rfl ?_
       refine VL.fieldAt rfl (by obtain ⟨a, ha⟩ := hX.isAt (by have hi := hlt; omega); rw [ha]; rfl) fo50_2 ?_
       exact VL.finS hO4 rfl rfl
      refine Obs.cons ?_ ?_
      ·refine ob (by kernel_rfl) rfl (by kernel_rfl) rfl (fun w4 hO4 => ?_)
       rintro _ rfl _ rfl
       refine VL.go rfl rfl rfl ?_
       refine VL.elem (s := ⟨w, _⟩) (i) 2 rfl kd48 (fun _ e => e ▸ hO4) (by repeat (first | exact List.mem_cons_self .. | apply List.mem_cons_of_mem)) Mono_par hX (List.getElem?_eq_getElem hlt) (by simp) (by decide) (fun vs v hl hr hv => ?_)
       obtain ⟨p50, c51, hy49, rfl, hA52⟩ := hr
       have ehy49 : v = .int .u32 ((xs[i]'hlt).due : Nat) := (Option.some.inj (hv.symm.trans rfl))
       subst ehy49
       exact VL.finS hO4 rfl rfl
      refine Obs.cons ?_ ?_
      ·refine obS (by kernel_rfl) rfl rfl (fun ph4 w4 hO4 => ?_)
       rintro _ rfl
       refine VL.go rfl rfl rfl ?_
       refine VL.move rfl ?_
       exact VL.finS hO4 rfl rfl
      refine Obs.cons ?_ ?_
      ·refine obS (by kernel_rfl) rfl rfl (fun ph4 w4 hO4 => ?_)
       rintro _ rfl
       refine VL.go rfl rfl rfl ?_
       refine VL.move rfl ?_
       exact VL.finS hO4 rfl rfl
      refine Obs.cons ?_ ?_
      ·refine obS (by kernel_rfl) rfl rfl (fun ph4 w4 hO4 => ?_)
       rintro _ rfl _ rfl _ rfl
       refine VL.go rfl rfl rfl ?_
       refine VL.index (xs := xs) rfl rfl Try.underlying47 sz47 hX (by omega) (by have hi := hbl2; omega) ?_
       exact VL.finS hO4 rfl rfl
      refine Obs.cons ?_ ?_
      ·refine obS (by kernel_rfl) rfl rfl (fun ph4 w4 hO4 => ?_)
       rintro _ rfl _ rfl
       refine VL.go rfl rfl rfl ?_
       refine VL.fieldAt rfl (by obtain ⟨a, ha⟩ := hX.isAt (by have hi := hbl2; omega); rw [ha]; rfl) fo50_2 ?_
       exact VL.finS hO4 rfl rfl
      refine Obs.cons ?_ ?_
      ·refine ob (by kernel_rfl) rfl (by kernel_rfl) rfl (fun w4 hO4 => ?_)
       rintro _ rfl _ rfl
       refine VL.go rfl rfl rfl ?_
       refine VL.elem (s := ⟨w, _⟩) (b) 2 rfl kd48 (fun _ e => e ▸ hO4) (by repeat (first | exact List.mem_cons_self .. | apply List.mem_cons_of_mem)) Mono_par hX (List.getElem?_eq_getElem hbl2) (by simp) (by decide) (fun vs v hl hr hv => ?_)
       obtain ⟨p54, c55, hy53, rfl, hA56⟩ := hr
       have ehy53 : v = .int .u32 ((xs[b]'hbl2).due : Nat) := (Option.some.inj (hv.symm.trans rfl))
       subst ehy53
       exact VL.finS hO4 rfl rfl
      exact Obs.nil
     case end4 =>
      intro w4 hO4
      rintro _ rfl _ rfl _ rfl _ rfl
      refine VL.toOwn hO4 ?_
      refine VL.go rfl rfl rfl ?_
      refine VL.lss rfl rfl ?_
      refine VL.yes (by omega) ?_
      refine VL.go rfl rfl rfl ?_
      refine VL.pick_f rfl rfl ?_
      refine VL.pick_t rfl rfl ?_
      refine VL.nn ?_
      refine VC.yes rfl ?_
      refine VC.region ?_
      refine VL.move rfl ?_
      refine VL.assign rfl ?_
      refine VL.nn ?_
      refine VC.sr ?_
      refine VL.move rfl ?_
      refine VL.add rfl rfl (by simp only [InR]; omega) ?_
      refine VL.assign rfl ?_
      refine VL.nn ?_
      refine VC.goto ?_
      refine VX.jump (RpJ.go (i + 1) (i : Int)) rfl ⟨rfl, rfl, rfl, rfl, trivial⟩ (fun w' h => ⟨⟨by omega, (bestZ_some (best_less h1 hbi h2)).symm⟩, h.subA⟩) (by first | trivial | (show xs.length - (i + 1) < xs.length - i; omega))
    ·have hz := bestZ_some hbi
     have hz2 : z = (b : Int) := by omega
     subst hz2
     obtain ⟨hbl, _⟩ := best_some hbi
     have hbl2 : b < xs.length := by omega
     have hdb := dueAt_eq hbl2
     apply VC.anyTA 21 1024 (F := [eqF _, eqF _, eqF _, eqF _, eqF _, eqF _, eqF _, eqF _, eqF _, eqF _, eqF _, eqF _, eqF _, eqF _, eqF _, eqF _, eqF _, eqF _, eqF _, eqF _, eqF _]) [⟨[], [0]⟩, ⟨[], [6]⟩, ⟨[(12, 0), (13, 1)], []⟩, ⟨[(14, 2)], []⟩, ⟨[(15, 3)], []⟩, ⟨[], [1]⟩, ⟨[(16, 4), (17, 5)], []⟩, ⟨[(18, 6)], []⟩, ⟨[(19, 7)], [5]⟩, ⟨[(20, 8), (19, 7)], []⟩, ⟨[(21, 9), (19, 7)], []⟩, ⟨[(22, 10)], [0]⟩, ⟨[(22, 10)], [6]⟩, ⟨[(23, 11), (24, 12), (22, 10)], []⟩, ⟨[(25, 13), (22, 10)], []⟩, ⟨[(26, 14), (22, 10)], []⟩, ⟨[(22, 10)], [0]⟩, ⟨[(22, 10)], [5]⟩, ⟨[(28, 16), (29, 17), (22, 10)], []⟩, ⟨[(30, 18), (22, 10)], []⟩, ⟨[(31, 19), (22, 10)], []⟩] [(19, 7), (22, 10), (27, 15), (32, 20)] [0, 1, 4, 5, 6, 7, 8, 9, 10, 11, 33, 34, 35, 36, 37, 38] rfl (by kernel_rfl) (by kernel_rfl) rfl rfl (by kernel_rfl) (by kernel_rfl) (by kernel_rfl) rfl ?obs4 ?end4
     case obs4 =>
      refine Obs.cons ?_ ?_
      ·refine obS (by kernel_rfl) rfl rfl (fun ph4 w4 hO4 => ?_)
       refine VL.move rfl ?_
       exact VL.finS hO4 rfl rfl
      refine Obs.cons ?_ ?_
      ·refine obS (by kernel_rfl) rfl rfl (fun ph4 w4 hO4 => ?_)
       refine VL.move rfl ?_
       exact VL.finS hO4 rfl rfl
      refine Obs.cons ?_ ?_
      ·refine obS (by kernel_rfl) rfl rfl (fun ph4 w4 hO4 => ?_)
       rintro _ rfl _ rfl
       refine VL.index (xs := xs) rfl rfl Try.underlying47 sz47 hX (by omega) (by have hi := hlt; omega) ?_
       exact VL.finS hO4 rfl rfl
      refine Obs.cons ?_ ?_
      ·refine obS (by kernel_rfl) rfl rfl (fun ph4 w4 hO4 => ?_)
       rintro _ rfl
       refine VL.fieldAt rfl (by obtain ⟨a, ha⟩ := hX.isAt (by have hi := hlt; omega); rw [ha]; rfl) fo50_2 ?_
       exact VL.finS hO4 rfl rfl
      refine Obs.cons ?_ ?_
      ·refine ob (by kernel_rfl) rfl (by kernel_rfl) rfl (fun w4 hO4 => ?_)
       rintro _ rfl
       refine VL.elem (s := ⟨w, _⟩) (i) 2 rfl kd48 (fun _ e => e ▸ hO4) (by repeat (first | exact List.mem_cons_self .. | apply List.mem_cons_of_mem)) Mono_par hX (List.getElem?_eq_getElem hlt) (by simp) (by decide) (fun vs v hl hr hv => ?_)
       obtain ⟨p58, c59, hy57, rfl, hA60⟩ := hr
       have ehy57 : v = .int .u32 ((xs[i]'hlt).due : Nat) := (Option.some.inj (hv.symm.trans rfl))
       subst ehy57
       exact VL.finS hO4 rfl rfl
      refine Obs.cons ?_ ?_
      ·refine obS (by kernel_rfl) rfl rfl (fun ph4 w4 hO4 => ?_)
       refine VL.move rfl ?_
       exact VL.finS hO4 rfl rfl
      refine Obs.cons ?_ ?_
      ·refine obS (by kernel_rfl) rfl rfl (fun ph4 w4 hO4 => ?_)
       rintro _ rfl _ rfl
       refine VL.leq rfl rfl ?_
       refine VL.no (by omega) ?_
       exact VL.finS hO4 rfl rfl
      refine Obs.cons ?_ ?_
      ·refine obS (by kernel_rfl) rfl rfl (fun ph4 w4 hO4 => ?_)
       rintro _ rfl
       refine VL.move rfl ?_
       exact VL.finS hO4 rfl rfl
      refine Obs.cons ?_ ?_
      ·refine obS (by kernel_rfl) rfl rfl (fun ph4 w4 hO4 => ?_)
       rintro _ rfl
       refine VL.pass rfl rfl rfl rfl rfl ?_
       exact VL.finS hO4 rfl rfl
      refine Obs.cons ?_ ?_
      ·refine obS (by kernel_rfl) rfl rfl (fun ph4 w4 hO4 => ?_)
       rintro _ rfl _ rfl
       refine VL.pass rfl rfl rfl rfl rfl ?_
       exact VL.finS hO4 rfl rfl
      refine Obs.cons ?_ ?_
      ·refine obS (by kernel_rfl) rfl rfl (fun ph4 w4 hO4 => ?_)
       rintro _ rfl _ rfl
       refine VL.pass rfl rfl rfl rfl rfl ?_
       exact VL.finS hO4 rfl rfl
      refine Obs.cons ?_ ?_
      ·refine obS (by kernel_rfl) rfl rfl (fun ph4 w4 hO4 => ?_)
       rintro _ rfl
       refine VL.passu rfl rfl rfl rfl ?_
       exact VL.finS hO4 rfl rfl
      refine Obs.cons ?_ ?_
      ·refine obS (by kernel_rfl) rfl rfl (fun ph4 w4 hO4 => ?_)
       rintro _ rfl
       refine VL.passu rfl rfl rfl rfl ?_
       exact VL.finS hO4 rfl rfl
      refine Obs.cons ?_ ?_
      ·refine obS (by kernel_rfl) rfl rfl (fun ph4 w4 hO4 => ?_)
       rintro _ rfl _ rfl _ rfl
       refine VL.passu rfl rfl rfl rfl ?_
       exact VL.finS hO4 rfl rfl
      refine Obs.cons ?_ ?_
      ·refine obS (by kernel_rfl) rfl rfl (fun ph4 w4 hO4 => ?_)
       rintro _ rfl _ rfl
       refine VL.passu rfl rfl rfl rfl ?_
       exact VL.finS hO4 rfl rfl
      refine Obs.cons ?_ ?_
      ·refine obS (by kernel_rfl) rfl rfl (fun ph4 w4 hO4 => ?_)
       rintro _ rfl _ rfl
       refine VL.passu rfl rfl rfl rfl ?_
       exact VL.finS hO4 rfl rfl
      refine Obs.cons ?_ ?_
      ·refine obS (by kernel_rfl) rfl rfl (fun ph4 w4 hO4 => ?_)
       rintro _ rfl
       refine VL.passu rfl rfl rfl rfl ?_
       exact VL.finS hO4 rfl rfl
      refine Obs.cons ?_ ?_
      ·refine obS (by kernel_rfl) rfl rfl (fun ph4 w4 hO4 => ?_)
       rintro _ rfl
       refine VL.passu rfl rfl rfl rfl ?_
       exact VL.finS hO4 rfl rfl
      refine Obs.cons ?_ ?_
      ·refine obS (by kernel_rfl) rfl rfl (fun ph4 w4 hO4 => ?_)
       rintro _ rfl _ rfl _ rfl
       refine VL.passu rfl rfl rfl rfl ?_
       exact VL.finS hO4 rfl rfl
      refine Obs.cons ?_ ?_
      ·refine obS (by kernel_rfl) rfl rfl (fun ph4 w4 hO4 => ?_)
       rintro _ rfl _ rfl
       refine VL.passu rfl rfl rfl rfl ?_
       exact VL.finS hO4 rfl rfl
      refine Obs.cons ?_ ?_
      ·refine obS (by kernel_rfl) rfl rfl (fun ph4 w4 hO4 => ?_)
       rintro _ rfl _ rfl
       refine VL.passu rfl rfl rfl rfl ?_
       exact VL.finS hO4 rfl rfl
      exact Obs.nil
     case end4 =>
      intro w4 hO4
      rintro _ rfl _ rfl _ rfl _ rfl
      refine VL.toOwn hO4 ?_
      refine VL.passu rfl rfl rfl rfl ?_
      refine VL.pass rfl rfl rfl rfl rfl ?_
      refine VL.pick_f rfl rfl ?_
      refine VL.nn ?_
      refine VC.no rfl ?_
      refine VC.skip ?_
      refine VX.next ?_
      refine VC.sr ?_
      refine VL.move rfl ?_
      refine VL.add rfl rfl (by simp only [InR]; omega) ?_
      refine VL.assign rfl ?_
      refine VL.nn ?_
      refine VC.goto ?_
      refine VX.jump (RpJ.go (i + 1) (b : Int)) rfl ⟨rfl, rfl, rfl, rfl, trivial⟩ (fun w' h => ⟨⟨by omega, (bestZ_some ((best_no h1).trans hbi)).symm⟩, h.subA⟩) (by first | trivial | (show xs.length - (i + 1) < xs.length - i; omega))
    ·have hz := bestZ_some hbi
     have hz2 : z = (b : Int) := by omega
     subst hz2
     obtain ⟨hbl, _⟩ := best_some hbi
     have hbl2 : b < xs.length := by omega
     have hdb := dueAt_eq hbl2
     apply VC.anyTA 21 1024 (F := [eqF _, eqF _, eqF _, eqF _, eqF _, eqF _, eqF _, eqF _, eqF _, eqF _, eqF _, eqF _, eqF _, eqF _, eqF _, eqF _, eqF _, eqF _, eqF _, eqF _, eqF _]) [⟨[], [0]⟩, ⟨[], [6]⟩, ⟨[(12, 0), (13, 1)], []⟩, ⟨[(14, 2)], []⟩, ⟨[(15, 3)], []⟩, ⟨[], [1]⟩, ⟨[(16, 4), (17, 5)], []⟩, ⟨[(18, 6)], []⟩, ⟨[(19, 7)], [5]⟩, ⟨[(20, 8), (19, 7)], []⟩, ⟨[(21, 9), (19, 7)], []⟩, ⟨[(22, 10)], [0]⟩, ⟨[(22, 10)], [6]⟩, ⟨[(23, 11), (24, 12), (22, 10)], []⟩, ⟨[(25, 13), (22, 10)], []⟩, ⟨[(26, 14), (22, 10)], []⟩, ⟨[(22, 10)], [0]⟩, ⟨[(22, 10)], [5]⟩, ⟨[(28, 16), (29, 17), (22, 10)], []⟩, ⟨[(30, 18), (22, 10)], []⟩, ⟨[(31, 19), (22, 10)], []⟩] [(19, 7), (22, 10), (27, 15), (32, 20)] [0, 1, 4, 5, 6, 7, 8, 9, 10, 11, 33, 34, 35, 36, 37, 38] rfl (by kernel_rfl) (by kernel_rfl) rfl rfl (by kernel_rfl) (by kernel_rfl) (by kernel_rfl) rfl ?obs4 ?end4
     case obs4 =>
      refine Obs.cons ?_ ?_
      ·refine obS (by kernel_rfl) rfl rfl (fun ph4 w4 hO4 => ?_)
       refine VL.move rfl ?_
       exact VL.finS hO4 rfl rfl
      refine Obs.cons ?_ ?_
      ·refine obS (by kernel_rfl) rfl rfl (fun ph4 w4 hO4 => ?_)
       refine VL.move rfl ?_
       exact VL.finS hO4 rfl rfl
      refine Obs.cons ?_ ?_
      ·refine obS (by kernel_rfl) rfl rfl (fun ph4 w4 hO4 => ?_)
       rintro _ rfl _ rfl
       refine VL.index (xs := xs) rfl rfl Try.underlying47 sz47 hX (by omega) (by have hi := hlt; omega) ?_
       exact VL.finS hO4 rfl rfl
      refine Obs.cons ?_ ?_
      ·refine obS (by kernel_rfl) rfl rfl (fun ph4 w4 hO4 => ?_)
       rintro _ rfl
       refine VL.fieldAt rfl (by obtain ⟨a, ha⟩ := hX.isAt (by have hi := hlt; omega); rw [ha]; rfl) fo50_2 ?_
       exact VL.finS hO4 rfl rfl
      refine Obs.cons ?_ ?_
      ·refine ob (by kernel_rfl) rfl (by kernel_rfl) rfl (fun w4 hO4 => ?_)
       rintro _ rfl
       refine VL.elem (s := ⟨w, _⟩) (i) 2 rfl kd48 (fun _ e => e ▸ hO4) (by repeat (first | exact List.mem_cons_self .. | apply List.mem_cons_of_mem)) Mono_par hX (List.getElem?_eq_getElem hlt) (by simp) (by decide) (fun vs v hl hr hv => ?_)
       obtain ⟨p62, c63, hy61, rfl, hA64⟩ := hr
       have ehy61 : v = .int .u32 ((xs[i]'hlt).due : Nat) := (Option.some.inj (hv.symm.trans rfl))
       subst ehy61
       exact VL.finS hO4 rfl rfl
      refine Obs.cons ?_ ?_
      ·refine obS (by kernel_rfl) rfl rfl (fun ph4 w4 hO4 => ?_)
       refine VL.move rfl ?_
       exact VL.finS hO4 rfl rfl
      refine Obs.cons ?_ ?_
      ·refine obS (by kernel_rfl) rfl rfl (fun ph4 w4 hO4 => ?_)
       rintro _ rfl _ rfl
       refine VL.leq rfl rfl ?_
       refine VL.yes (by omega) ?_
       exact VL.finS hO4 rfl rfl
      refine Obs.cons ?_ ?_
      ·refine obS (by kernel_rfl) rfl rfl (fun ph4 w4 hO4 => ?_)
       rintro _ rfl
       refine VL.move rfl ?_
       exact VL.finS hO4 rfl rfl
      refine Obs.cons ?_ ?_
      ·refine obS (by kernel_rfl) rfl rfl (fun ph4 w4 hO4 => ?_)
       rintro _ rfl
       refine VL.go rfl rfl rfl ?_
       refine VL.move rfl ?_
       exact VL.finS hO4 rfl rfl
      refine Obs.cons ?_ ?_
      ·refine obS (by kernel_rfl) rfl rfl (fun ph4 w4 hO4 => ?_)
       rintro _ rfl _ rfl
       refine VL.go rfl rfl rfl ?_
       refine VL.lss rfl rfl ?_
       refine VL.no (by omega) ?_
       exact VL.finS hO4 rfl rfl
      refine Obs.cons ?_ ?_
      ·refine obS (by kernel_rfl) rfl rfl (fun ph4 w4 hO4 => ?_)
       rintro _ rfl _ rfl
       refine VL.go rfl rfl rfl ?_
       refine VL.move rfl ?_
       exact VL.finS hO4 rfl rfl
      refine Obs.cons ?_ ?_
      ·refine obS (by kernel_rfl) rfl rfl (fun ph4 w4 hO4 => ?_)
       rintro _ rfl
       refine VL.go rfl rfl rfl ?_
       refine VL.move rfl ?_
       exact VL.finS hO4 rfl rfl
      refine Obs.cons ?_ ?_
      ·refine obS (by kernel_rfl) rfl rfl (fun ph4 w4 hO4 => ?_)
       rintro _ rfl
       refine VL.go rfl rfl rfl ?_
       refine VL.move rfl ?_
       exact VL.finS hO4 rfl rfl
      refine Obs.cons ?_ ?_
      ·refine obS (by kernel_rfl) rfl rfl (fun ph4 w4 hO4 => ?_)
       rintro _ rfl _ rfl _ rfl
       refine VL.go rfl rfl rfl ?_
       refine VL.index (xs := xs) rfl rfl Try.underlying47 sz47 hX (by omega) (by have hi := hlt; omega) ?_
       exact VL.finS hO4 rfl rfl
      refine Obs.cons ?_ ?_
      ·refine obS (by kernel_rfl) rfl rfl (fun ph4 w4 hO4 => ?_)
       rintro _ rfl _ rfl
       refine VL.go rfl rfl rfl ?_
       refine VL.fieldAt rfl (by obtain ⟨a, ha⟩ := hX.isAt (by have hi := hlt; omega); rw [ha]; rfl) fo50_2 ?_
       exact VL.finS hO4 rfl rfl
      refine Obs.cons ?_ ?_
      ·refine ob (by kernel_rfl) rfl (by kernel_rfl) rfl (fun w4 hO4 => ?_)
       rintro _ rfl _ rfl
       refine VL.go rfl rfl rfl ?_
       refine VL.elem (s := ⟨w, _⟩) (i) 2 rfl kd48 (fun _ e => e ▸ hO4) (by repeat (first | exact List.mem_cons_self .. | apply List.mem_cons_of_mem)) Mono_par hX (List.getElem?_eq_getElem hlt) (by simp) (by decide) (fun vs v hl hr hv => ?_)
       obtain ⟨p66, c67, hy65, rfl, hA68⟩ := hr
       have ehy65 : v = .int .u32 ((xs[i]'hlt).due : Nat) := (Option.some.inj (hv.symm.trans rfl))
       subst ehy65
       exact VL.finS hO4 rfl rfl
      refine Obs.cons ?_ ?_
      ·refine obS (by kernel_rfl) rfl rfl (fun ph4 w4 hO4 => ?_)
       rintro _ rfl
       refine VL.go rfl rfl rfl ?_
       refine VL.move rfl ?_
       exact VL.finS hO4 rfl rfl
      refine Obs.cons ?_ ?_
      ·refine obS (by kernel_rfl) rfl rfl (fun ph4 w4 hO4 => ?_)
       rintro _ rfl
       refine VL.go rfl rfl rfl ?_
       refine VL.move rfl ?_
       exact VL.finS hO4 rfl rfl
      refine Obs.cons ?_ ?_
      ·refine obS (by kernel_rfl) rfl rfl (fun ph4 w4 hO4 => ?_)
       rintro _ rfl _ rfl _ rfl
       refine VL.go rfl rfl rfl ?_
       refine VL.index (xs := xs) rfl rfl Try.underlying47 sz47 hX (by omega) (by have hi := hbl2; omega) ?_
       exact VL.finS hO4 rfl rfl
      refine Obs.cons ?_ ?_
      ·refine obS (by kernel_rfl) rfl rfl (fun ph4 w4 hO4 => ?_)
       rintro _ rfl _ rfl
       refine VL.go rfl rfl rfl ?_
       refine VL.fieldAt rfl (by obtain ⟨a, ha⟩ := hX.isAt (by have hi := hbl2; omega); rw [ha]; rfl) fo50_2 ?_
       exact VL.finS hO4 rfl rfl
      refine Obs.cons ?_ ?_
      ·refine ob (by kernel_rfl) rfl (by kernel_rfl) rfl (fun w4 hO4 => ?_)
       rintro _ rfl _ rfl
       refine VL.go rfl rfl rfl ?_
       refine VL.elem (s := ⟨w, _⟩) (b) 2 rfl kd48 (fun _ e => e ▸ hO4) (by repeat (first | exact List.mem_cons_self .. | apply List.mem_cons_of_mem)) Mono_par hX (List.getElem?_eq_getElem hbl2) (by simp) (by decide) (fun vs v hl hr hv => ?_)
       obtain ⟨p70, c71, hy69, rfl, hA72⟩ := hr
       have ehy69 : v = .int .u32 ((xs[b]'hbl2).due : Nat) := (Option.some.inj (hv.symm.trans rfl))
       subst ehy69
       exact VL.finS hO4 rfl rfl
      exact Obs.nil
     case end4 =>
      intro w4 hO4
      rintro _ rfl _ rfl _ rfl _ rfl
      refine VL.toOwn hO4 ?_
      refine VL.go rfl rfl rfl ?_
      refine VL.lss rfl rfl ?_
      refine VL.no (by omega) ?_
      refine VL.go rfl rfl rfl ?_
      refine VL.pick_f rfl rfl ?_
      refine VL.pick_t rfl rfl ?_
      refine VL.nn ?_
      refine VC.no rfl ?_
      refine VC.skip ?_
      refine VX.next ?_
      refine VC.sr ?_
      refine VL.move rfl ?_
      refine VL.add rfl rfl (by simp only [InR]; omega) ?_
      refine VL.assign rfl ?_
      refine VL.nn ?_
      refine VC.goto ?_
      refine VX.jump (RpJ.go (i + 1) (b : Int)) rfl ⟨rfl, rfl, rfl, rfl, trivial⟩ (fun w' h => ⟨⟨by omega, (bestZ_some (best_more h1 hbi h2)).symm⟩, h.subA⟩) (by first | trivial | (show xs.length - (i + 1) < xs.length - i; omega))

theorem find_min {xs : List Par} {now k : Nat} (hk : k < xs.length) (he : (dueAt xs k : Int) = minZ xs now xs.length) (hno : ∀ m, m < k → ¬ ((dueAt xs m : Int) = minZ xs now xs.length)) : (k : Int) = bestZ xs now xs.length := by
 cases hb : bestI xs now xs.length with
 | none => rw [minZ_none hb] at he; omega
 | some b =>
  rw [minZ_some hb] at he hno
  rw [bestZ_some hb]
  obtain ⟨h1, h2, _, h4⟩ := best_some hb
  have h5 : ¬ b < k := fun h => hno b h rfl
  have h6 : ¬ k < b := fun h => by have := h4 k h (by omega); omega
  omega
theorem find_none {xs : List Par} {now : Nat} (hno : ∀ m, m < xs.length → ¬ ((dueAt xs m : Int) = minZ xs now xs.length)) : (-1 : Int) = bestZ xs now xs.length := by
 cases hb : bestI xs now xs.length with
 | none => rw [bestZ_none hb]
 | some b =>
  obtain ⟨h1, _⟩ := best_some hb
  exact absurd (by rw [minZ_some hb]) (hno b h1)

theorem refRipe_w {S : List Snap} {H : List Chunk} {w : World} (ho : Own S H w) {xs : List Par} {p : Option Addr} {c : Nat} (hX : Arr 4 parR (keys H) w p xs c) (hl : xs.length ≤ 1000) {now : Nat} (hnow : now < 4294967296) : Calls Try.prog 39 #[.slice p xs.length c, .int .u32 (now : Int)] w (Ret fun v w' => v = .int .i64 (bestZ xs now xs.length) ∧ Own S H w') := by
 refine enter (G := Own (⟨w, keys H⟩ :: S) H) ho.keep Try.func39 rfl Try.ntmps39 rfl ?_
 refine VC.sr ?_
 refine VL.assign rfl ?_
 refine VL.nn ?_
 refine VC.sr ?_
 refine VL.assign rfl ?_
 refine VL.nn ?_
 refine VC.seq ?_
 refine VC.sr ?_
 refine VL.assign rfl ?_
 refine VL.nn ?_
 refine VC.block ?_
 refine VC.loop (X := Nat × Int) (fun (i, z) => [(0, .slice p xs.length c), (1, .int .u32 (now : Int)), (5, .int .i64 z), (6, .int .i64 (i : Int))]) (fun (i, z) w' => (i ≤ xs.length ∧ z = minZ xs now i) ∧ Own (⟨w, keys H⟩ :: S) H w') (fun (i, _) => xs.length - i) (0, -1) ⟨rfl, rfl, rfl, rfl, trivial⟩ (fun w' h => ⟨⟨Nat.zero_le _, rfl⟩, h.subA⟩) (fun (i, z) => VC.fact fun ⟨hi, hzz⟩ => ?_)
 ·skip
  refine VC.seq ?_
  refine VC.sr ?_
  refine VL.move rfl ?_
  refine VL.move rfl ?_
  refine VL.len Try.underlying47 rfl rfl ?_
  refine VL.lss rfl rfl ?_
  refine VL.case (fun h3 => ?_) (fun h3 => ?_)
  ·refine VL.nn ?_
   refine VC.yes rfl ?_
   refine VC.skip ?_
   refine VX.next ?_
   refine VC.seq ?_
   refine VC.block ?_
   refine VC.seq ?_
   have hlt : i < xs.length := by omega
   have hd := dueAt_eq hlt
   rcases best_cases xs now i with ⟨hbi, h1⟩ | ⟨hbi, h1⟩ | ⟨b, hbi, h1, h2⟩ | ⟨b, hbi, h1⟩ | ⟨b, hbi, h1, h2⟩
   ·have hz := minZ_none hbi
    have hz2 : z = -1 := by omega
    subst hz2
    refine VC.region ?_
    refine VL.move rfl ?_
    refine VL.move rfl ?_
    refine VL.index (xs := xs) rfl rfl Try.underlying47 sz47 hX (by omega) (by have hi := hlt; omega) ?_
    refine VL.fieldAt rfl (by obtain ⟨a, ha⟩ := hX.isAt (by have hi := hlt; omega); rw [ha]; rfl) fo50_2 ?_
    refine VL.elem (s := ⟨w, _⟩) (i) 2 rfl kd48 (fun _ h => h) (by repeat (first | exact List.mem_cons_self .. | apply List.mem_cons_of_mem)) Mono_par hX (List.getElem?_eq_getElem hlt) (by simp) (by decide) (fun vs v hl hr hv => ?_)
    obtain ⟨p2, c3, hy1, rfl, hA4⟩ := hr
    have ehy1 : v = .int .u32 ((xs[i]'hlt).due : Nat) := (Option.some.inj (hv.symm.trans rfl))
    subst ehy1
    refine VL.move rfl ?_
    refine VL.leq rfl rfl ?_
    refine VL.yes (by omega) ?_
    refine VL.move rfl ?_
    refine VL.go rfl rfl rfl ?_
    refine VL.move rfl ?_
    refine VL.go rfl rfl rfl ?_
    refine VL.lss rfl rfl ?_
    refine VL.yes (by omega) ?_
    refine VL.go rfl rfl rfl ?_
    refine VL.move rfl ?_
    refine VL.pass rfl rfl rfl rfl rfl ?_
    refine VL.pass rfl rfl rfl rfl rfl ?_
    refine VL.pass rfl rfl rfl rfl rfl ?_
    refine VL.pass rfl rfl rfl rfl rfl ?_
    refine VL.pass rfl rfl rfl rfl rfl ?_
    refine VL.pass rfl rfl rfl rfl rfl ?_
    refine VL.pass rfl rfl rfl rfl rfl ?_
    refine VL.pass rfl rfl rfl rfl rfl ?_
    refine VL.go rfl rfl rfl ?_
    refine VL.pick_t rfl rfl ?_
    refine VL.pick_t rfl rfl ?_
    refine VL.nn ?_
    refine VC.yes rfl ?_
    refine VC.region ?_
    refine VL.move rfl ?_
    refine VL.move rfl ?_
    refine VL.index (xs := xs) rfl rfl Try.underlying47 sz47 hX (by omega) (by have hi := hlt; omega) ?_
    refine VL.fieldAt rfl (by obtain ⟨a, ha⟩ := hX.isAt (by have hi := hlt; omega); rw [ha]; rfl) fo50_2 ?_
    refine VL.elem (s := ⟨w, _⟩) (i) 2 rfl kd48 (fun _ h => h) (by repeat (first | exact List.mem_cons_self .. | apply List.mem_cons_of_mem)) Mono_par hX (List.getElem?_eq_getElem hlt) (by simp) (by decide) (fun vs v hl hr hv => ?_)
    obtain ⟨p6, c7, hy5, rfl, hA8⟩ := hr
    have ehy5 : v = .int .u32 ((xs[i]'hlt).due : Nat) := (Option.some.inj (hv.symm.trans rfl))
    subst ehy5
    refine VL.conv (by rw [Try.underlying48]; rfl) Try.underlying3 rfl (by simp only [InR]; omega) ?_
    refine VL.assign rfl ?_
    refine VL.nil ?_
    refine VX.block_normal ?_
    refine VX.next ?_
    refine VC.region ?_
    refine VL.move rfl ?_
    refine VL.add rfl rfl (by simp only [InR]; omega) ?_
    refine VL.assign rfl ?_
    refine VL.nil ?_
    refine VX.round (i + 1, (((xs[i]'hlt).due : Nat) : Int)) ⟨rfl, rfl, rfl, rfl, trivial⟩ (fun w' h => ⟨⟨by omega, by rw [minZ_some (best_first h1 hbi), hd]⟩, h.subA⟩) (by show xs.length - (i + 1) < xs.length - i; omega)
   ·have hz := minZ_none hbi
    have hz2 : z = -1 := by omega
    subst hz2
    refine VC.region ?_
    refine VL.move rfl ?_
    refine VL.move rfl ?_
    refine VL.index (xs := xs) rfl rfl Try.underlying47 sz47 hX (by omega) (by have hi := hlt; omega) ?_
    refine VL.fieldAt rfl (by obtain ⟨a, ha⟩ := hX.isAt (by have hi := hlt; omega); rw [ha]; rfl) fo50_2 ?_
    refine VL.elem (s := ⟨w, _⟩) (i) 2 rfl kd48 (fun _ h => h) (by repeat (first | exact List.mem_cons_self .. | apply List.mem_cons_of_mem)) Mono_par hX (List.getElem?_eq_getElem hlt) (by simp) (by decide) (fun vs v hl hr hv => ?_)
    obtain ⟨p10, c11, hy9, rfl, hA12⟩ := hr
    have ehy9 : v = .int .u32 ((xs[i]'hlt).due : Nat) := (Option.some.inj (hv.symm.trans rfl))
    subst ehy9
    refine VL.move rfl ?_
    refine VL.leq rfl rfl ?_
    refine VL.no (by omega) ?_
    refine VL.move rfl ?_
    refine VL.pass rfl rfl rfl rfl rfl ?_
    refine VL.pass rfl rfl rfl rfl rfl ?_
    refine VL.pass rfl rfl rfl rfl rfl ?_
    refine VL.passu rfl rfl rfl rfl ?_
    refine VL.passu rfl rfl rfl rfl ?_
    refine VL.passu rfl rfl rfl rfl ?_
    refine VL.passu rfl rfl rfl rfl ?_
    refine VL.passu rfl rfl rfl rfl ?_
    refine VL.passu rfl rfl rfl rfl ?_
    refine VL.passu rfl rfl rfl rfl ?_
    refine VL.passu rfl rfl rfl rfl ?_
    refine VL.pass rfl rfl rfl rfl rfl ?_
    refine VL.pick_f rfl rfl ?_
    refine VL.nn ?_
    refine VC.no rfl ?_
    refine VC.skip ?_
    refine VX.block_normal ?_
    refine VX.next ?_
    refine VC.region ?_
    refine VL.move rfl ?_
    refine VL.add rfl rfl (by simp only [InR]; omega) ?_
    refine VL.assign rfl ?_
    refine VL.nil ?_
    refine VX.round (i + 1, (-1)) ⟨rfl, rfl, rfl, rfl, trivial⟩ (fun w' h => ⟨⟨by omega, (minZ_none ((best_no h1).trans hbi)).symm⟩, h.subA⟩) (by show xs.length - (i + 1) < xs.length - i; omega)
   ·have hz := minZ_some hbi
    have hz2 : z = (dueAt xs b : Int) := by omega
    subst hz2
    obtain ⟨hbl, _⟩ := best_some hbi
    have hbl2 : b < xs.length := by omega
    refine VC.region ?_
    refine VL.move rfl ?_
    refine VL.move rfl ?_
    refine VL.index (xs := xs) rfl rfl Try.underlying47 sz47 hX (by omega) (by have hi := hlt; omega) ?_
    refine VL.fieldAt rfl (by obtain ⟨a, ha⟩ := hX.isAt (by have hi := hlt; omega); rw [ha]; rfl) fo50_2 ?_
    refine VL.elem (s := ⟨w, _⟩) (i) 2 rfl kd48 (fun _ h => h) (by repeat (first | exact List.mem_cons_self .. | apply List.mem_cons_of_mem)) Mono_par hX (List.getElem?_eq_getElem hlt) (by simp) (by decide) (fun vs v hl hr hv => ?_)
    obtain ⟨p14, c15, hy13, rfl, hA16⟩ := hr
    have ehy13 : v = .int .u32 ((xs[i]'hlt).due : Nat) := (Option.some.inj (hv.symm.trans rfl))
    subst ehy13
    refine VL.move rfl ?_
    refine VL.leq rfl rfl ?_
    refine VL.yes (by omega) ?_
    refine VL.move rfl ?_
    refine VL.go rfl rfl rfl ?_
    refine VL.move rfl ?_
    refine VL.go rfl rfl rfl ?_
    refine VL.lss rfl rfl ?_
    refine VL.no (by omega) ?_
    refine VL.go rfl rfl rfl ?_
    refine VL.move rfl ?_
    refine VL.go rfl rfl rfl ?_
    refine VL.move rfl ?_
    refine VL.go rfl rfl rfl ?_
    refine VL.move rfl ?_
    refine VL.go rfl rfl rfl ?_
    refine VL.index (xs := xs) rfl rfl Try.underlying47 sz47 hX (by omega) (by have hi := hlt; omega) ?_
    refine VL.go rfl rfl rfl ?_
    refine VL.fieldAt rfl (by obtain ⟨a, ha⟩ := hX.isAt (by have hi := hlt; omega); rw [ha]; rfl) fo50_2 ?_
    refine VL.go rfl rfl rfl ?_
    refine VL.elem (s := ⟨w, _⟩) (i) 2 rfl kd48 (fun _ h => h) (by repeat (first | exact List.mem_cons_self .. | apply List.mem_cons_of_mem)) Mono_par hX (List.getElem?_eq_getElem hlt) (by simp) (by decide) (fun vs v hl hr hv => ?_)
    obtain ⟨p18, c19, hy17, rfl, hA20⟩ := hr
    have ehy17 : v = .int .u32 ((xs[i]'hlt).due : Nat) := (Option.some.inj (hv.symm.trans rfl))
    subst ehy17
    refine VL.go rfl rfl rfl ?_
    refine VL.conv (by rw [Try.underlying48]; rfl) Try.underlying3 rfl (by simp only [InR]; omega) ?_
    refine VL.go rfl rfl rfl ?_
    refine VL.move rfl ?_
    refine VL.go rfl rfl rfl ?_
    refine VL.lss rfl rfl ?_
    refine VL.yes (by omega) ?_
    refine VL.go rfl rfl rfl ?_
    refine VL.pick_f rfl rfl ?_
    refine VL.pick_t rfl rfl ?_
    refine VL.nn ?_
    refine VC.yes rfl ?_
    refine VC.region ?_
    refine VL.move rfl ?_
    refine VL.move rfl ?_
    refine VL.index (xs := xs) rfl rfl Try.underlying47 sz47 hX (by omega) (by have hi := hlt; omega) ?_
    refine VL.fieldAt rfl (by obtain ⟨a, ha⟩ := hX.isAt (by have hi := hlt; omega); rw [ha]; rfl) fo50_2 ?_
    refine VL.elem (s := ⟨w, _⟩) (i) 2 rfl kd48 (fun _ h => h) (by repeat (first | exact List.mem_cons_self .. | apply List.mem_cons_of_mem)) Mono_par hX (List.getElem?_eq_getElem hlt) (by simp) (by decide) (fun vs v hl hr hv => ?_)
    obtain ⟨p22, c23, hy21, rfl, hA24⟩ := hr
    have ehy21 : v = .int .u32 ((xs[i]'hlt).due : Nat) := (Option.some.inj (hv.symm.trans rfl))
    subst ehy21
    refine VL.conv (by rw [Try.underlying48]; rfl) Try.underlying3 rfl (by simp only [InR]; omega) ?_
    refine VL.assign rfl ?_
    refine VL.nil ?_
    refine VX.block_normal ?_
    refine VX.next ?_
    refine VC.region ?_
    refine VL.move rfl ?_
    refine VL.add rfl rfl (by simp only [InR]; omega) ?_
    refine VL.assign rfl ?_
    refine VL.nil ?_
    refine VX.round (i + 1, (((xs[i]'hlt).due : Nat) : Int)) ⟨rfl, rfl, rfl, rfl, trivial⟩ (fun w' h => ⟨⟨by omega, by rw [minZ_some (best_less h1 hbi h2), hd]⟩, h.subA⟩) (by show xs.length - (i + 1) < xs.length - i; omega)
   ·have hz := minZ_some hbi
    have hz2 : z = (dueAt xs b : Int) := by omega
    subst hz2
    obtain ⟨hbl, _⟩ := best_some hbi
    have hbl2 : b < xs.length := by omega
    refine VC.region ?_
    refine VL.move rfl ?_
    refine VL.move rfl ?_
    refine VL.index (xs := xs) rfl rfl Try.underlying47 sz47 hX (by omega) (by have hi := hlt; omega) ?_
    refine VL.fieldAt rfl (by obtain ⟨a, ha⟩ := hX.isAt (by have hi := hlt; omega); rw [ha]; rfl) fo50_2 ?_
    refine VL.elem (s := ⟨w, _⟩) (i) 2 rfl kd48 (fun _ h => h) (by repeat (first | exact List.mem_cons_self .. | apply List.mem_cons_of_mem)) Mono_par hX (List.getElem?_eq_getElem hlt) (by simp) (by decide) (fun vs v hl hr hv => ?_)
    obtain ⟨p26, c27, hy25, rfl, hA28⟩ := hr
    have ehy25 : v = .int .u32 ((xs[i]'hlt).due : Nat) := (Option.some.inj (hv.symm.trans rfl))
    subst ehy25
    refine VL.move rfl ?_
    refine VL.leq rfl rfl ?_
    refine VL.no (by omega) ?_
    refine VL.move rfl ?_
    refine VL.pass rfl rfl rfl rfl rfl ?_
    refine VL.pass rfl rfl rfl rfl rfl ?_
    refine VL.pass rfl rfl rfl rfl rfl ?_
    refine VL.passu rfl rfl rfl rfl ?_
    refine VL.passu rfl rfl rfl rfl ?_
    refine VL.passu rfl rfl rfl rfl ?_
    refine VL.passu rfl rfl rfl rfl ?_
    refine VL.passu rfl rfl rfl rfl ?_
    refine VL.passu rfl rfl rfl rfl ?_
    refine VL.passu rfl rfl rfl rfl ?_
    refine VL.passu rfl rfl rfl rfl ?_
    refine VL.pass rfl rfl rfl rfl rfl ?_
    refine VL.pick_f rfl rfl ?_
    refine VL.nn ?_
    refine VC.no rfl ?_
    refine VC.skip ?_
    refine VX.block_normal ?_
    refine VX.next ?_
    refine VC.region ?_
    refine VL.move rfl ?_
    refine VL.add rfl rfl (by simp only [InR]; omega) ?_
    refine VL.assign rfl ?_
    refine VL.nil ?_
    refine VX.round (i + 1, (dueAt xs b : Int)) ⟨rfl, rfl, rfl, rfl, trivial⟩ (fun w' h => ⟨⟨by omega, (minZ_some ((best_no h1).trans hbi)).symm⟩, h.subA⟩) (by show xs.length - (i + 1) < xs.length - i; omega)
   ·have hz := minZ_some hbi
    have hz2 : z = (dueAt xs b : Int) := by omega
    subst hz2
    obtain ⟨hbl, _⟩ := best_some hbi
    have hbl2 : b < xs.length := by omega
    refine VC.region ?_
    refine VL.move rfl ?_
    refine VL.move rfl ?_
    refine VL.index (xs := xs) rfl rfl Try.underlying47 sz47 hX (by omega) (by have hi := hlt; omega) ?_
    refine VL.fieldAt rfl (by obtain ⟨a, ha⟩ := hX.isAt (by have hi := hlt; omega); rw [ha]; rfl) fo50_2 ?_
    refine VL.elem (s := ⟨w, _⟩) (i) 2 rfl kd48 (fun _ h => h) (by repeat (first | exact List.mem_cons_self .. | apply List.mem_cons_of_mem)) Mono_par hX (List.getElem?_eq_getElem hlt) (by simp) (by decide) (fun vs v hl hr hv => ?_)
    obtain ⟨p30, c31, hy29, rfl, hA32⟩ := hr
    have ehy29 : v = .int .u32 ((xs[i]'hlt).due : Nat) := (Option.some.inj (hv.symm.trans rfl))
    subst ehy29
    refine VL.move rfl ?_
    refine VL.leq rfl rfl ?_
    refine VL.yes (by omega) ?_
    refine VL.move rfl ?_
    refine VL.go rfl rfl rfl ?_
    refine VL.move rfl ?_
    refine VL.go rfl rfl rfl ?_
    refine VL.lss rfl rfl ?_
    refine VL.no (by omega) ?_
    refine VL.go rfl rfl rfl ?_
    refine VL.move rfl ?_
    refine VL.go rfl rfl rfl ?_
    refine VL.move rfl ?_
    refine VL.go rfl rfl rfl ?_
    refine VL.move rfl ?_
    refine VL.go rfl rfl rfl ?_
    refine VL.index (xs := xs) rfl rfl Try.underlying47 sz47 hX (by omega) (by have hi := hlt; omega) ?_
    refine VL.go rfl rfl rfl ?_
    refine VL.fieldAt rfl (by obtain ⟨a, ha⟩ := hX.isAt (by have hi := hlt; omega); rw [ha]; rfl) fo50_2 ?_
    refine VL.go rfl rfl rfl ?_
    refine VL.elem (s := ⟨w, _⟩) (i) 2 rfl kd48 (fun _ h => h) (by repeat (first | exact List.mem_cons_self .. | apply List.mem_cons_of_mem)) Mono_par hX (List.getElem?_eq_getElem hlt) (by simp) (by decide) (fun vs v hl hr hv => ?_)
    obtain ⟨p34, c35, hy33, rfl, hA36⟩ := hr
    have ehy33 : v = .int .u32 ((xs[i]'hlt).due : Nat) := (Option.some.inj (hv.symm.trans rfl))
    subst ehy33
    refine VL.go rfl rfl rfl ?_
    refine VL.conv (by rw [Try.underlying48]; rfl) Try.underlying3 rfl (by simp only [InR]; omega) ?_
    refine VL.go rfl rfl rfl ?_
    refine VL.move rfl ?_
    refine VL.go rfl rfl rfl ?_
    refine VL.lss rfl rfl ?_
    refine VL.no (by omega) ?_
    refine VL.go rfl rfl rfl ?_
    refine VL.pick_f rfl rfl ?_
    refine VL.pick_t rfl rfl ?_
    refine VL.nn ?_
    refine VC.no rfl ?_
    refine VC.skip ?_
    refine VX.block_normal ?_
    refine VX.next ?_
    refine VC.region ?_
    refine VL.move rfl ?_
    refine VL.add rfl rfl (by simp only [InR]; omega) ?_
    refine VL.assign rfl ?_
    refine VL.nil ?_
    refine VX.round (i + 1, (dueAt xs b : Int)) ⟨rfl, rfl, rfl, rfl, trivial⟩ (fun w' h => ⟨⟨by omega, (minZ_some (best_more h1 hbi h2)).symm⟩, h.subA⟩) (by show xs.length - (i + 1) < xs.length - i; omega)
  ·refine VL.nn ?_
   refine VC.no rfl ?_
   refine VC.exit ?_
   refine VX.then_exit ?_
   refine VX.then_exit ?_
   refine VX.block_here ?_
   refine VX.next ?_
   refine VC.seq ?_
   refine VC.sr ?_
   refine VL.assign rfl ?_
   refine VL.nn ?_
   refine VC.block ?_
   obtain rfl : i = xs.length := by omega
   refine VC.loop (X := Nat) (fun k => [(0, .slice p xs.length c), (5, .int .i64 z), (7, .int .i64 (k : Int))]) (fun k w' => (k ≤ xs.length ∧ ∀ m, m < k → ¬ ((dueAt xs m : Int) = z)) ∧ Own (⟨w, keys H⟩ :: S) H w') (fun k => xs.length - k) 0 ⟨rfl, rfl, rfl, trivial⟩ (fun w' h => ⟨⟨Nat.zero_le _, fun m hm => by omega⟩, h.subA⟩) (fun k => VC.fact fun ⟨hk, hno⟩ => ?_)
   ·skip
    refine VC.seq ?_
    refine VC.sr ?_
    refine VL.move rfl ?_
    refine VL.move rfl ?_
    refine VL.len Try.underlying47 rfl rfl ?_
    refine VL.lss rfl rfl ?_
    refine VL.case (fun h8 => ?_) (fun h8 => ?_)
    ·have hkl : k < xs.length := by omega
     have hd := dueAt_eq hkl
     refine VL.nn ?_
     refine VC.yes rfl ?_
     refine VC.skip ?_
     refine VX.next ?_
     refine VC.seq ?_
     refine VC.block ?_
     refine VC.sr ?_
     refine VL.move rfl ?_
     refine VL.move rfl ?_
     refine VL.index (xs := xs) rfl rfl Try.underlying47 sz47 hX (by omega) (by have hi := hkl; omega) ?_
     refine VL.fieldAt rfl (by obtain ⟨a, ha⟩ := hX.isAt (by have hi := hkl; omega); rw [ha]; rfl) fo50_2 ?_
     refine VL.elem (s := ⟨w, _⟩) (k) 2 rfl kd48 (fun _ h => h) (by repeat (first | exact List.mem_cons_self .. | apply List.mem_cons_of_mem)) Mono_par hX (List.getElem?_eq_getElem hkl) (by simp) (by decide) (fun vs v hl hr hv => ?_)
     obtain ⟨p38, c39, hy37, rfl, hA40⟩ := hr
     have ehy37 : v = .int .u32 ((xs[k]'hkl).due : Nat) := (Option.some.inj (hv.symm.trans rfl))
     subst ehy37
     refine VL.conv (by rw [Try.underlying48]; rfl) Try.underlying3 rfl (by have hlt := hy37.due; simp only [InR]; omega) ?_
     refine VL.move rfl ?_
     refine VL.eql rfl rfl ?_
     refine VL.case (fun h10 => ?_) (fun h10 => ?_)
     ·refine VL.nn ?_
      refine VC.yes rfl ?_
      refine VC.sr ?_
      refine VL.move rfl ?_
      refine VL.assign rfl ?_
      refine VL.nn ?_
      refine VC.ret ?_
      refine VX.block_ret ?_
      refine VX.then_ret ?_
      refine VX.then_ret ?_
      refine VX.block_ret ?_
      refine VX.then_ret ?_
      refine VX.ret1 rfl rfl (fun we hw => ?_)
      subst hzz
      exact ⟨congrArg (Value.int .i64) (find_min hkl (by rw [hd]; exact h10) hno), hw.subA⟩
     ·refine VL.nn ?_
      refine VC.no rfl ?_
      refine VC.skip ?_
      refine VX.block_normal ?_
      refine VX.next ?_
      refine VC.region ?_
      refine VL.move rfl ?_
      refine VL.add rfl rfl (by simp only [InR]; omega) ?_
      refine VL.assign rfl ?_
      refine VL.nil ?_
      refine VX.round (k + 1) ⟨rfl, rfl, rfl, trivial⟩ (fun w' h => ⟨⟨by omega, fun m hm => by
       by_cases e : m = k
       ·subst e; omega
       ·exact hno m (by omega)⟩, h.subA⟩) (by omega)
    ·have hkl : k = xs.length := by omega
     refine VL.nn ?_
     refine VC.no rfl ?_
     refine VC.exit ?_
     refine VX.then_exit ?_
     refine VX.then_exit ?_
     refine VX.block_here ?_
     refine VX.next ?_
     refine VC.sr ?_
     refine VL.assign rfl ?_
     refine VL.nn ?_
     refine VC.ret ?_
     refine VX.ret1 rfl rfl (fun we hw => ?_)
     subst hzz hkl
     exact ⟨congrArg (Value.int .i64) (find_none hno), hw.subA⟩

end Go.Proofs.Ytcfecmoagfgnaaa

