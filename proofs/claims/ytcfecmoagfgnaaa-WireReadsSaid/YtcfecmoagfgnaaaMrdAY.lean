/- The statement WireReads is proved, for every input: part 25 of 27 of the texts that it needs. -/
import Derived.Test.YtcfecmoagfgnaaaMrdAX
/- The law on calls. -/
namespace Go.Proofs.Ytcfecmoagfgnaaa
open Go.Vc Go.Pl

theorem cal_iff {x y : Cal} : y = x ↔ x.kind = y.kind ∧ x.seq = y.seq ∧ x.peer = y.peer ∧ x.mark = y.mark ∧ x.bundles = y.bundles ∧ y.letter = x.letter := by
 constructor
 ·rintro rfl; exact ⟨rfl, rfl, rfl, rfl, rfl, rfl⟩
 ·rintro ⟨h1, h2, h3, h4, h5, h6⟩
  cases x; cases y
  simp only at h1 h2 h3 h4 h5 h6
  subst h1 h2 h3 h4 h5 h6; rfl
theorem good_1 {x : Cal} (hk : x.kind = 1) : callGood x = true ↔ x.bundles.length ≤ 9 ∧ Cal.mk x.kind x.seq 0 0 x.bundles letter0 = x := by
 unfold callGood
 rw [if_pos hk, decide_eq_true_iff, cal_iff]
 exact ⟨fun ⟨h1, h2, h3, h4⟩ => ⟨h1, rfl, rfl, h2, h3, rfl, h4.symm⟩, fun ⟨h1, _, _, h2, h3, _, h4⟩ => ⟨h1, h2, h3, h4.symm⟩⟩
theorem good_2 {x : Cal} (hk : x.kind = 2) : callGood x = true ↔ Cal.mk x.kind x.seq x.peer 0 [] letter0 = x := by
 unfold callGood
 rw [if_neg (by omega), if_pos hk, decide_eq_true_iff, cal_iff]
 exact ⟨fun ⟨h1, h2, h3⟩ => ⟨rfl, rfl, rfl, h1, h2, h3.symm⟩, fun ⟨_, _, _, h1, h2, h3⟩ => ⟨h1, h2, h3.symm⟩⟩
theorem good_3 {x : Cal} (hk : x.kind = 3) (hs : (letterO x.letter).isSome = true) : callGood x = true ↔ Cal.mk x.kind x.seq 0 0 [] x.letter = x := by
 unfold callGood
 rw [if_neg (by omega), if_neg (by omega), if_pos hk, hs, Bool.true_and, decide_eq_true_iff, cal_iff]
 exact ⟨fun ⟨h1, h2, h3⟩ => ⟨rfl, rfl, h1, h2, h3, rfl⟩, fun ⟨_, _, h1, h2, h3, _⟩ => ⟨h1, h2, h3⟩⟩
theorem good_4 {x : Cal} (hk : x.kind = 4) : callGood x = true ↔ Cal.mk x.kind x.seq 0 x.mark [] letter0 = x := by
 unfold callGood
 rw [if_neg (by omega), if_neg (by omega), if_neg (by omega), if_pos hk, decide_eq_true_iff, cal_iff]
 exact ⟨fun ⟨h1, h2, h3⟩ => ⟨rfl, rfl, h1, rfl, h2, h3.symm⟩, fun ⟨_, _, h1, _, h2, h3⟩ => ⟨h1, h2, h3.symm⟩⟩
theorem not_good {x : Cal} (h : ¬ callGood x = true) : none = callO x := callO_none (by cases e : callGood x; rfl; exact absurd e h)
theorem sameCalls_g {S : List Snap} {H : List Chunk} {w : World} (ho : Own S H w) {x : Cal} (hx : x.ok) {q : Option Addr} {d : Nat} (hV : Arr 162 bundleR' (keys H) w q x.bundles d) {p : Option Addr} {c : Nat} (hA : Bytes (keys H) w p x.letter.body c) {y : Cal} (hy : y.ok) {q2 : Option Addr} {d2 : Nat} (hU : Arr 162 bundleR' (keys H) w q2 y.bundles d2) {p2 : Option Addr} {c2 : Nat} (hB : Bytes (keys H) w p2 y.letter.body c2) : Calls Try.prog 79 #[.agg (cat (calV x q d p c)).toArray, .agg (cat (calV y q2 d2 p2 c2)).toArray] w (Ret fun v w' => ∃ b : Bool, v = .bool b ∧ (b = true ↔ y = x) ∧ Own S H w') := by
 refine enter (G := Own (⟨w, keys H⟩ :: S) H) ho.keep Try.func79 rfl Try.ntmps79 rfl ?_
 refine VC.sr ?_
 refine VL.box (L := calL) (ps := (calV (x) q d p c)) rfl rfl (calV_len hx) (fun g1 => ?_)
 refine VL.box (L := calL) (ps := (calV (y) q2 d2 p2 c2)) rfl rfl (calV_len hy) (fun g2 => ?_)
 refine VL.assign rfl ?_
 refine VL.nn ?_
 refine VC.seq ?_
 refine VC.sr ?_
 refine VL.fieldAddr rfl fo110_0 rfl ?_
 refine VL.load (v := .int .u8 (x.kind)) 1 0 rfl kd5 (fun _ h => h) rfl rfl rfl ?_
 refine VL.fieldAddr rfl fo110_0 rfl ?_
 refine VL.load (v := .int .u8 (y.kind)) 0 0 rfl kd5 (fun _ h => h) rfl rfl rfl ?_
 refine VL.neq rfl rfl ?_
 refine VL.case (fun h1_4 => ?_) (fun h1_4 => ?_)
 ·have h1_4 : ¬ x.kind = y.kind := by omega
  refine VL.move rfl ?_
  refine VL.pass rfl rfl rfl rfl rfl ?_
  refine VL.pass rfl rfl rfl rfl rfl ?_
  refine VL.pass rfl rfl rfl rfl rfl ?_
  refine VL.pass rfl rfl rfl rfl rfl ?_
  refine VL.pass rfl rfl rfl rfl rfl ?_
  refine VL.pick_t rfl rfl ?_
  refine VL.move rfl ?_
  refine VL.pass rfl rfl rfl rfl rfl ?_
  refine VL.pass rfl rfl rfl rfl rfl ?_
  refine VL.pass rfl rfl rfl rfl rfl ?_
  refine VL.pass rfl rfl rfl rfl rfl ?_
  refine VL.pass rfl rfl rfl rfl rfl ?_
  refine VL.pick_t rfl rfl ?_
  refine VL.move rfl ?_
  refine VL.pass rfl rfl rfl rfl rfl ?_
  refine VL.pass rfl rfl rfl rfl rfl ?_
  refine VL.pass rfl rfl rfl rfl rfl ?_
  refine VL.pass rfl rfl rfl rfl rfl ?_
  refine VL.pass rfl rfl rfl rfl rfl ?_
  refine VL.pick_t rfl rfl ?_
  refine VL.move rfl ?_
  refine VL.pass rfl rfl rfl rfl rfl ?_
  refine VL.pass rfl rfl rfl rfl rfl ?_
  refine VL.pass rfl rfl rfl rfl rfl ?_
  refine VL.pass rfl rfl rfl rfl rfl ?_
  refine VL.pass rfl rfl rfl rfl rfl ?_
  refine VL.pass rfl rfl rfl rfl rfl ?_
  refine VL.pass rfl rfl rfl rfl rfl ?_
  refine VL.pick_t rfl rfl ?_
  refine VL.move rfl ?_
  refine VL.pass rfl rfl rfl rfl rfl ?_
  refine VL.pass rfl rfl rfl rfl rfl ?_
  refine VL.pass rfl rfl rfl rfl rfl ?_
  refine VL.pass rfl rfl rfl rfl rfl ?_
  refine VL.pass rfl rfl rfl rfl rfl ?_
  refine VL.pass rfl rfl rfl rfl rfl ?_
  refine VL.pick_t rfl rfl ?_
  refine VL.nn ?_
  refine VC.yes rfl ?_
  refine VC.sr ?_
  refine VL.assign rfl ?_
  refine VL.nn ?_
  refine VC.ret ?_
  refine VX.then_ret ?_
  refine VX.ret1 rfl rfl (fun we hw => ?_)
  refine ⟨false, rfl, ?_, hw.drop.drop.subA⟩
  rw [cal_iff]
  simp [h1_4]
 ·have h1_4 : x.kind = y.kind := by omega
  refine VL.move rfl ?_
  refine VL.go rfl rfl rfl ?_
  refine VL.fieldAddr rfl fo110_1 rfl ?_
  refine VL.go rfl rfl rfl ?_
  refine VL.load (v := .int .u16 (x.seq)) 1 1 rfl kd68 (fun _ h => h) rfl rfl rfl ?_
  refine VL.go rfl rfl rfl ?_
  refine VL.fieldAddr rfl fo110_1 rfl ?_
  refine VL.go rfl rfl rfl ?_
  refine VL.load (v := .int .u16 (y.seq)) 0 1 rfl kd68 (fun _ h => h) rfl rfl rfl ?_
  refine VL.go rfl rfl rfl ?_
  refine VL.neq rfl rfl ?_
  refine VL.case (fun h1_10 => ?_) (fun h1_10 => ?_)
  ·have h1_10 : ¬ x.seq = y.seq := by omega
   refine VL.pick_f rfl rfl ?_
   refine VL.move rfl ?_
   refine VL.pass rfl rfl rfl rfl rfl ?_
   refine VL.pass rfl rfl rfl rfl rfl ?_
   refine VL.pass rfl rfl rfl rfl rfl ?_
   refine VL.pass rfl rfl rfl rfl rfl ?_
   refine VL.pass rfl rfl rfl rfl rfl ?_
   refine VL.pick_t rfl rfl ?_
   refine VL.move rfl ?_
   refine VL.pass rfl rfl rfl rfl rfl ?_
   refine VL.pass rfl rfl rfl rfl rfl ?_
   refine VL.pass rfl rfl rfl rfl rfl ?_
   refine VL.pass rfl rfl rfl rfl rfl ?_
   refine VL.pass rfl rfl rfl rfl rfl ?_
   refine VL.pick_t rfl rfl ?_
   refine VL.move rfl ?_
   refine VL.pass rfl rfl rfl rfl rfl ?_
   refine VL.pass rfl rfl rfl rfl rfl ?_
   refine VL.pass rfl rfl rfl rfl rfl ?_
   refine VL.pass rfl rfl rfl rfl rfl ?_
   refine VL.pass rfl rfl rfl rfl rfl ?_
   refine VL.pass rfl rfl rfl rfl rfl ?_
   refine VL.pass rfl rfl rfl rfl rfl ?_
   refine VL.pick_t rfl rfl ?_
   refine VL.move rfl ?_
   refine VL.pass rfl rfl rfl rfl rfl ?_
   refine VL.pass rfl rfl rfl rfl rfl ?_
   refine VL.pass rfl rfl rfl rfl rfl ?_
   refine VL.pass rfl rfl rfl rfl rfl ?_
   refine VL.pass rfl rfl rfl rfl rfl ?_
   refine VL.pass rfl rfl rfl rfl rfl ?_
   refine VL.pick_t rfl rfl ?_
   refine VL.nn ?_
   refine VC.yes rfl ?_
   refine VC.sr ?_
   refine VL.assign rfl ?_
   refine VL.nn ?_
   refine VC.ret ?_
   refine VX.then_ret ?_
   refine VX.ret1 rfl rfl (fun we hw => ?_)
   refine ⟨false, rfl, ?_, hw.drop.drop.subA⟩
   rw [cal_iff]
   simp [h1_4, h1_10]
  ·have h1_10 : x.seq = y.seq := by omega
   refine VL.pick_f rfl rfl ?_
   refine VL.move rfl ?_
   refine VL.go rfl rfl rfl ?_
   refine VL.fieldAddr rfl fo110_2 rfl ?_
   refine VL.go rfl rfl rfl ?_
   refine VL.load (v := .int .u8 (x.peer)) 1 2 rfl kd5 (fun _ h => h) rfl rfl rfl ?_
   refine VL.go rfl rfl rfl ?_
   refine VL.fieldAddr rfl fo110_2 rfl ?_
   refine VL.go rfl rfl rfl ?_
   refine VL.load (v := .int .u8 (y.peer)) 0 2 rfl kd5 (fun _ h => h) rfl rfl rfl ?_
   refine VL.go rfl rfl rfl ?_
   refine VL.neq rfl rfl ?_
   refine VL.case (fun h1_17 => ?_) (fun h1_17 => ?_)
   ·have h1_17 : ¬ x.peer = y.peer := by omega
    refine VL.pick_f rfl rfl ?_
    refine VL.move rfl ?_
    refine VL.pass rfl rfl rfl rfl rfl ?_
    refine VL.pass rfl rfl rfl rfl rfl ?_
    refine VL.pass rfl rfl rfl rfl rfl ?_
    refine VL.pass rfl rfl rfl rfl rfl ?_
    refine VL.pass rfl rfl rfl rfl rfl ?_
    refine VL.pick_t rfl rfl ?_
    refine VL.move rfl ?_
    refine VL.pass rfl rfl rfl rfl rfl ?_
    refine VL.pass rfl rfl rfl rfl rfl ?_
    refine VL.pass rfl rfl rfl rfl rfl ?_
    refine VL.pass rfl rfl rfl rfl rfl ?_
    refine VL.pass rfl rfl rfl rfl rfl ?_
    refine VL.pass rfl rfl rfl rfl rfl ?_
    refine VL.pass rfl rfl rfl rfl rfl ?_
    refine VL.pick_t rfl rfl ?_
    refine VL.move rfl ?_
    refine VL.pass rfl rfl rfl rfl rfl ?_
    refine VL.pass rfl rfl rfl rfl rfl ?_
    refine VL.pass rfl rfl rfl rfl rfl ?_
    refine VL.pass rfl rfl rfl rfl rfl ?_
    refine VL.pass rfl rfl rfl rfl rfl ?_
    refine VL.pass rfl rfl rfl rfl rfl ?_
    refine VL.pick_t rfl rfl ?_
    refine VL.nn ?_
    refine VC.yes rfl ?_
    refine VC.sr ?_
    refine VL.assign rfl ?_
    refine VL.nn ?_
    refine VC.ret ?_
    refine VX.then_ret ?_
    refine VX.ret1 rfl rfl (fun we hw => ?_)
    refine ⟨false, rfl, ?_, hw.drop.drop.subA⟩
    rw [cal_iff]
    simp [h1_4, h1_10, h1_17]
   ·have h1_17 : x.peer = y.peer := by omega
    refine VL.pick_f rfl rfl ?_
    refine VL.move rfl ?_
    refine VL.go rfl rfl rfl ?_
    refine VL.fieldAddr rfl fo110_3 rfl ?_
    refine VL.go rfl rfl rfl ?_
    refine VL.load (v := .int .u16 (x.mark)) 1 3 rfl kd68 (fun _ h => h) rfl rfl rfl ?_
    refine VL.go rfl rfl rfl ?_
    refine VL.fieldAddr rfl fo110_3 rfl ?_
    refine VL.go rfl rfl rfl ?_
    refine VL.load (v := .int .u16 (y.mark)) 0 3 rfl kd68 (fun _ h => h) rfl rfl rfl ?_
    refine VL.go rfl rfl rfl ?_
    refine VL.neq rfl rfl ?_
    refine VL.case (fun h1_24 => ?_) (fun h1_24 => ?_)
    ·have h1_24 : ¬ x.mark = y.mark := by omega
     refine VL.pick_f rfl rfl ?_
     refine VL.move rfl ?_
     refine VL.pass rfl rfl rfl rfl rfl ?_
     refine VL.pass rfl rfl rfl rfl rfl ?_
     refine VL.pass rfl rfl rfl rfl rfl ?_
     refine VL.pass rfl rfl rfl rfl rfl ?_
     refine VL.pass rfl rfl rfl rfl rfl ?_
     refine VL.pass rfl rfl rfl rfl rfl ?_
     refine VL.pass rfl rfl rfl rfl rfl ?_
     refine VL.pick_t rfl rfl ?_
     refine VL.move rfl ?_
     refine VL.pass rfl rfl rfl rfl rfl ?_
     refine VL.pass rfl rfl rfl rfl rfl ?_
     refine VL.pass rfl rfl rfl rfl rfl ?_
     refine VL.pass rfl rfl rfl rfl rfl ?_
     refine VL.pass rfl rfl rfl rfl rfl ?_
     refine VL.pass rfl rfl rfl rfl rfl ?_
     refine VL.pick_t rfl rfl ?_
     refine VL.nn ?_
     refine VC.yes rfl ?_
     refine VC.sr ?_
     refine VL.assign rfl ?_
     refine VL.nn ?_
     refine VC.ret ?_
     refine VX.then_ret ?_
     refine VX.ret1 rfl rfl (fun we hw => ?_)
     refine ⟨false, rfl, ?_, hw.drop.drop.subA⟩
     rw [cal_iff]
     simp [h1_4, h1_10, h1_17, h1_24]
    ·have h1_24 : x.mark = y.mark := by omega
     refine VL.pick_f rfl rfl ?_
     refine VL.move rfl ?_
     refine VL.go rfl rfl rfl ?_
     refine VL.fieldAddr rfl fo110_4 rfl ?_
     refine VL.go rfl rfl rfl ?_
     refine VL.load (v := .slice q (x.bundles).length d) 1 4 rfl kd108 (fun _ h => h) rfl rfl rfl ?_
     refine VL.go rfl rfl rfl ?_
     refine VL.len Try.underlying108 rfl rfl ?_
     refine VL.go rfl rfl rfl ?_
     refine VL.fieldAddr rfl fo110_4 rfl ?_
     refine VL.go rfl rfl rfl ?_
     refine VL.load (v := .slice q2 (y.bundles).length d2) 0 4 rfl kd108 (fun _ h => h) rfl rfl rfl ?_
     refine VL.go rfl rfl rfl ?_
     refine VL.len Try.underlying108 rfl rfl ?_
     refine VL.go rfl rfl rfl ?_
     refine VL.neq rfl rfl ?_
     refine VL.case (fun h1_33 => ?_) (fun h1_33 => ?_)
     ·have h1_33 : ¬ x.bundles.length = y.bundles.length := by omega
      refine VL.pick_f rfl rfl ?_
      refine VL.move rfl ?_
      refine VL.pass rfl rfl rfl rfl rfl ?_
      refine VL.pass rfl rfl rfl rfl rfl ?_
      refine VL.pass rfl rfl rfl rfl rfl ?_
      refine VL.pass rfl rfl rfl rfl rfl ?_
      refine VL.pass rfl rfl rfl rfl rfl ?_
      refine VL.pass rfl rfl rfl rfl rfl ?_
      refine VL.pick_t rfl rfl ?_
      refine VL.nn ?_
      refine VC.yes rfl ?_
      refine VC.sr ?_
      refine VL.assign rfl ?_
      refine VL.nn ?_
      refine VC.ret ?_
      refine VX.then_ret ?_
      refine VX.ret1 rfl rfl (fun we hw => ?_)
      exact ⟨false, rfl, ⟨fun h => absurd h (by decide), fun h => absurd (congrArg List.length (cal_iff.1 h).2.2.2.2.1) h1_33⟩, hw.drop.drop.subA⟩
     ·have h1_33 : x.bundles.length = y.bundles.length := by omega
      refine VL.pick_f rfl rfl ?_
      refine VL.move rfl ?_
      refine VL.go rfl rfl rfl ?_
      refine VL.fieldAddr rfl fo110_5 rfl ?_
      refine VL.go rfl rfl rfl ?_
      refine VL.loads (cs := cat (letterV (x.letter) p c)) 1 5 12 rfl kd72 (fun _ h => h) rfl rfl rfl rfl ?_
      refine VL.go rfl rfl rfl ?_
      refine VL.fieldAddr rfl fo110_5 rfl ?_
      refine VL.go rfl rfl rfl ?_
      refine VL.loads (cs := cat (letterV (y.letter) p2 c2)) 0 5 12 rfl kd72 (fun _ h => h) rfl rfl rfl rfl ?_
      refine VL.go rfl rfl rfl ?_
      refine VL.call Try.func55 rfl (by decide) rfl (fun w' hw => sameLetters_g hw hx.letter (hA.nowA (s := ⟨w, _⟩) Mono.byte hw) hy.letter (hB.nowA (s := ⟨w, _⟩) Mono.byte hw)) (fun v => ?_)
      refine VL.ex fun b => VL.fact fun e => VL.fact fun h1_40 => ?_
      subst e
      cases b
      ·have h1_40 := mt h1_40.2 (by decide)
       refine VL.go rfl rfl rfl ?_
       refine VL.not rfl ?_
       refine VL.pick_f rfl rfl ?_
       refine VL.nn ?_
       refine VC.yes rfl ?_
       refine VC.sr ?_
       refine VL.assign rfl ?_
       refine VL.nn ?_
       refine VC.ret ?_
       refine VX.then_ret ?_
       refine VX.ret1 rfl rfl (fun we hw => ?_)
       exact ⟨false, rfl, ⟨fun h => absurd h (by decide), fun h => absurd (cal_iff.1 h).2.2.2.2.2 h1_40⟩, hw.drop.drop.subA⟩
      ·have h1_40 := h1_40.1 rfl
       refine VL.go rfl rfl rfl ?_
       refine VL.not rfl ?_
       refine VL.pick_f rfl rfl ?_
       refine VL.nn ?_
       refine VC.no rfl ?_
       refine VC.skip ?_
       refine VX.next ?_
       refine VC.seq ?_
       refine VC.sr ?_
       refine VL.assign rfl ?_
       refine VL.nn ?_
       refine VC.block ?_
       refine VC.loop (X := Nat) (fun i => [(2, .pointer (some ⟨g1, 0, none⟩)), (3, .pointer (some ⟨g2, 0, none⟩)), (5, .int .i64 (i : Int))]) (fun i w' => (i ≤ x.bundles.length ∧ ∀ j, j < i → x.bundles[j]? = y.bundles[j]?) ∧ Own (⟨w, keys H⟩ :: S) (blk g2 110 calL (calV (y) q2 d2 p2 c2) :: blk g1 110 calL (calV (x) q d p c) :: H) w') (fun i => x.bundles.length - i) 0 ⟨rfl, rfl, rfl, trivial⟩ (fun w' h => ⟨⟨Nat.zero_le _, fun j hj => absurd hj (Nat.not_lt_zero _)⟩, h.subA⟩) (fun i => VC.fact fun ⟨hi, hall⟩ => ?_)
       ·skip
        refine VC.seq ?_
        refine VC.sr ?_
        refine VL.move rfl ?_
        refine VL.fieldAddr rfl fo110_4 rfl ?_
        refine VL.load (v := .slice q (x.bundles).length d) 1 4 rfl kd108 (fun _ h => h) rfl rfl rfl ?_
        refine VL.len Try.underlying108 rfl rfl ?_
        refine VL.lss rfl rfl ?_
        refine VL.case (fun h4 => ?_) (fun h4 => ?_)
        ·have hlt : i < x.bundles.length := by omega
         have hlt2 : i < y.bundles.length := by omega
         refine VL.nn ?_
         refine VC.yes rfl ?_
         refine VC.skip ?_
         refine VX.next ?_
         refine VC.seq ?_
         refine VC.block ?_
         refine VC.seq ?_
         by_cases hv : x.bundles[i]'hlt = y.bundles[i]'hlt2
         ·apply VC.anyTA 10 1011 (F := [eqF _, eqF _, eqF _, eqF _, eqF _, eqF _, eqF _, eqF _, eqF _, eqF _]) [⟨[], [2]⟩, ⟨[(56, 0)], []⟩, ⟨[], [5]⟩, ⟨[(57, 1), (58, 2)], []⟩, ⟨[(59, 3)], []⟩, ⟨[], [3]⟩, ⟨[(61, 5)], []⟩, ⟨[], [5]⟩, ⟨[(62, 6), (63, 7)], []⟩, ⟨[(64, 8)], []⟩] [(60, 4), (65, 9)] [0, 1, 2, 3, 4, 5, 6, 7, 8, 9, 10, 11, 12, 13, 14, 15, 16, 17, 18, 19, 20, 21, 22, 23, 24, 25, 26, 27, 28, 29, 30, 31, 32, 33, 34, 35, 36, 37, 38, 39, 40, 41, 42, 43, 44, 45, 46, 47, 48, 49, 50, 51, 52, 53, 54, 55, 66] rfl (by kernel_rfl) (by kernel_rfl) rfl rfl (by kernel_rfl) (by kernel_rfl) (by kernel_rfl) rfl ?obs6 ?end6
          case obs6 =>
           refine Obs.cons ?_ ?_
           ·refine obS (by kernel_rfl) rfl rfl (fun ph6 w6 hO6 => ?_)
            refine VL.fieldAddr rfl fo110_4 rfl ?_
            exact VL.finS hO6 rfl rfl
           refine Obs.cons ?_ ?_
           ·refine ob (by kernel_rfl) rfl (by kernel_rfl) rfl (fun w6 hO6 => ?_)
            rintro _ rfl
            refine VL.load (v := .slice q (x.bundles).length d) 1 4 rfl kd108 (fun _ e => e ▸ hO6) rfl rfl rfl ?_
            exact VL.finS hO6 rfl rfl
           refine Obs.cons ?_ ?_
           ·refine obS (by kernel_rfl) rfl rfl (fun ph6 w6 hO6 => ?_)
            refine VL.move rfl ?_
            exact VL.finS hO6 rfl rfl
           refine Obs.cons ?_ ?_
           ·refine obS (by kernel_rfl) rfl rfl (fun ph6 w6 hO6 => ?_)
            rintro _ rfl _ rfl
            refine VL.index (xs := x.bundles) rfl rfl Try.underlying108 sz108 hV (by omega) (by have hi := hlt; omega) ?_
            exact VL.finS hO6 rfl rfl
           refine Obs.cons ?_ ?_
           ·refine ob (by kernel_rfl) rfl (by kernel_rfl) rfl (fun w6 hO6 => ?_)
            rintro _ rfl
            refine VL.elems (s := ⟨w, _⟩) (m := 162) (i) 0 rfl kd82 (fun _ e => e ▸ hO6) (by repeat (first | exact List.mem_cons_self .. | apply List.mem_cons_of_mem)) hV (List.getElem?_eq_getElem hlt) (by simp) (by decide) (fun vs hl hr => ?_)
            obtain ⟨hy4, rfl⟩ := hr
            refine VL.newv (v' := .agg (cat (bundleV (x.bundles[i]'hlt))).toArray) (by rw [List.drop_zero, List.take_of_length_le (by rw [hl]; decide)]) ?_
            exact VL.finS hO6 rfl rfl
           refine Obs.cons ?_ ?_
           ·refine obS (by kernel_rfl) rfl rfl (fun ph6 w6 hO6 => ?_)
            refine VL.fieldAddr rfl fo110_4 rfl ?_
            exact VL.finS hO6 rfl rfl
           refine Obs.cons ?_ ?_
           ·refine ob (by kernel_rfl) rfl (by kernel_rfl) rfl (fun w6 hO6 => ?_)
            rintro _ rfl
            refine VL.load (v := .slice q2 (y.bundles).length d2) 0 4 rfl kd108 (fun _ e => e ▸ hO6) rfl rfl rfl ?_
            exact VL.finS hO6 rfl rfl
           refine Obs.cons ?_ ?_
           ·refine obS (by kernel_rfl) rfl rfl (fun ph6 w6 hO6 => ?_)
            refine VL.move rfl ?_
            exact VL.finS hO6 rfl rfl
           refine Obs.cons ?_ ?_
           ·refine obS (by kernel_rfl) rfl rfl (fun ph6 w6 hO6 => ?_)
            rintro _ rfl _ rfl
            refine VL.index (xs := y.bundles) rfl rfl Try.underlying108 sz108 hU (by omega) (by have hi := hlt2; omega) ?_
            exact VL.finS hO6 rfl rfl
           refine Obs.cons ?_ ?_
           ·refine ob (by kernel_rfl) rfl (by kernel_rfl) rfl (fun w6 hO6 => ?_)
            rintro _ rfl
            refine VL.elems (s := ⟨w, _⟩) (m := 162) (i) 0 rfl kd82 (fun _ e => e ▸ hO6) (by repeat (first | exact List.mem_cons_self .. | apply List.mem_cons_of_mem)) hU (List.getElem?_eq_getElem hlt2) (by simp) (by decide) (fun vs hl hr => ?_)
            obtain ⟨hy6, rfl⟩ := hr
            refine VL.newv (v' := .agg (cat (bundleV (y.bundles[i]'hlt2))).toArray) (by rw [List.drop_zero, List.take_of_length_le (by rw [hl]; decide)]) ?_
            exact VL.finS hO6 rfl rfl
           exact Obs.nil
          case end6 =>
           intro w6 hO6
           rintro _ rfl _ rfl
           refine VL.toOwn hO6 ?_
           refine VL.neT guard82 rfl rfl (eqBundle (hx.bundles _ (List.getElem_mem hlt)) (hy.bundles _ (List.getElem_mem hlt2))) (fun b h => ?_)
           obtain rfl : b = true := h.2 hv
           refine VL.nn ?_
           refine VC.no rfl ?_
           refine VC.skip ?_
           refine VX.block_normal ?_
           refine VX.next ?_
           refine VC.region ?_
           refine VL.move rfl ?_
           refine VL.add rfl rfl (by have hsm := hV.small; simp only [InR]; omega) ?_
           refine VL.assign rfl ?_
           refine VL.nil ?_
           refine VX.round (i + 1) ⟨rfl, rfl, rfl, trivial⟩ (fun w' h => ⟨⟨by omega, fun j hj => ?_⟩, h.subA⟩) (by show x.bundles.length - (i + 1) < x.bundles.length - i; omega)
           by_cases hji : j < i
           ·exact hall j hji
           ·obtain rfl : j = i := by omega
            rw [List.getElem?_eq_getElem hlt, List.getElem?_eq_getElem hlt2, hv]
         ·apply VC.anyTA 10 1011 (F := [eqF _, eqF _, eqF _, eqF _, eqF _, eqF _, eqF _, eqF _, eqF _, eqF _]) [⟨[], [2]⟩, ⟨[(56, 0)], []⟩, ⟨[], [5]⟩, ⟨[(57, 1), (58, 2)], []⟩, ⟨[(59, 3)], []⟩, ⟨[], [3]⟩, ⟨[(61, 5)], []⟩, ⟨[], [5]⟩, ⟨[(62, 6), (63, 7)], []⟩, ⟨[(64, 8)], []⟩] [(60, 4), (65, 9)] [0, 1, 2, 3, 4, 5, 6, 7, 8, 9, 10, 11, 12, 13, 14, 15, 16, 17, 18, 19, 20, 21, 22, 23, 24, 25, 26, 27, 28, 29, 30, 31, 32, 33, 34, 35, 36, 37, 38, 39, 40, 41, 42, 43, 44, 45, 46, 47, 48, 49, 50, 51, 52, 53, 54, 55, 66] rfl (by kernel_rfl) (by kernel_rfl) rfl rfl (by kernel_rfl) (by kernel_rfl) (by kernel_rfl) rfl ?obs6 ?end6
          case obs6 =>
           refine Obs.cons ?_ ?_
           ·refine obS (by kernel_rfl) rfl rfl (fun ph6 w6 hO6 => ?_)
            refine VL.fieldAddr rfl fo110_4 rfl ?_
            exact VL.finS hO6 rfl rfl
           refine Obs.cons ?_ ?_
           ·refine ob (by kernel_rfl) rfl (by kernel_rfl) rfl (fun w6 hO6 => ?_)
            rintro _ rfl
            refine VL.load (v := .slice q (x.bundles).length d) 1 4 rfl kd108 (fun _ e => e ▸ hO6) rfl rfl rfl ?_
            exact VL.finS hO6 rfl rfl
           refine Obs.cons ?_ ?_
           ·refine obS (by kernel_rfl) rfl rfl (fun ph6 w6 hO6 => ?_)
            refine VL.move rfl ?_
            exact VL.finS hO6 rfl rfl
           refine Obs.cons ?_ ?_
           ·refine obS (by kernel_rfl) rfl rfl (fun ph6 w6 hO6 => ?_)
            rintro _ rfl _ rfl
            refine VL.index (xs := x.bundles) rfl rfl Try.underlying108 sz108 hV (by omega) (by have hi := hlt; omega) ?_
            exact VL.finS hO6 rfl rfl
           refine Obs.cons ?_ ?_
           ·refine ob (by kernel_rfl) rfl (by kernel_rfl) rfl (fun w6 hO6 => ?_)
            rintro _ rfl
            refine VL.elems (s := ⟨w, _⟩) (m := 162) (i) 0 rfl kd82 (fun _ e => e ▸ hO6) (by repeat (first | exact List.mem_cons_self .. | apply List.mem_cons_of_mem)) hV (List.getElem?_eq_getElem hlt) (by simp) (by decide) (fun vs hl hr => ?_)
            obtain ⟨hy8, rfl⟩ := hr
            refine VL.newv (v' := .agg (cat (bundleV (x.bundles[i]'hlt))).toArray) (by rw [List.drop_zero, List.take_of_length_le (by rw [hl]; decide)]) ?_
            exact VL.finS hO6 rfl rfl
           refine Obs.cons ?_ ?_
           ·refine obS (by kernel_rfl) rfl rfl (fun ph6 w6 hO6 => ?_)
            refine VL.fieldAddr rfl fo110_4 rfl ?_
            exact VL.finS hO6 rfl rfl
           refine Obs.cons ?_ ?_
           ·refine ob (by kernel_rfl) rfl (by kernel_rfl) rfl (fun w6 hO6 => ?_)
            rintro _ rfl
            refine VL.load (v := .slice q2 (y.bundles).length d2) 0 4 rfl kd108 (fun _ e => e ▸ hO6) rfl rfl rfl ?_
            exact VL.finS hO6 rfl rfl
           refine Obs.cons ?_ ?_
           ·refine obS (by kernel_rfl) rfl rfl (fun ph6 w6 hO6 => ?_)
            refine VL.move rfl ?_
            exact VL.finS hO6 rfl rfl
           refine Obs.cons ?_ ?_
           ·refine obS (by kernel_rfl) rfl rfl (fun ph6 w6 hO6 => ?_)
            rintro _ rfl _ rfl
            refine VL.index (xs := y.bundles) rfl rfl Try.underlying108 sz108 hU (by omega) (by have hi := hlt2; omega) ?_
            exact VL.finS hO6 rfl rfl
           refine Obs.cons ?_ ?_
           ·refine ob (by kernel_rfl) rfl (by kernel_rfl) rfl (fun w6 hO6 => ?_)
            rintro _ rfl
            refine VL.elems (s := ⟨w, _⟩) (m := 162) (i) 0 rfl kd82 (fun _ e => e ▸ hO6) (by repeat (first | exact List.mem_cons_self .. | apply List.mem_cons_of_mem)) hU (List.getElem?_eq_getElem hlt2) (by simp) (by decide) (fun vs hl hr => ?_)
            obtain ⟨hy10, rfl⟩ := hr
            refine VL.newv (v' := .agg (cat (bundleV (y.bundles[i]'hlt2))).toArray) (by rw [List.drop_zero, List.take_of_length_le (by rw [hl]; decide)]) ?_
            exact VL.finS hO6 rfl rfl
           exact Obs.nil
          case end6 =>
           intro w6 hO6
           rintro _ rfl _ rfl
           refine VL.toOwn hO6 ?_
           refine VL.neT guard82 rfl rfl (eqBundle (hx.bundles _ (List.getElem_mem hlt)) (hy.bundles _ (List.getElem_mem hlt2))) (fun b h => ?_)
           obtain rfl : b = false := by cases b with
            | false => rfl
            | true => exact absurd (h.1 rfl) hv
           refine VL.nn ?_
           refine VC.yes rfl ?_
           refine VC.sr ?_
           refine VL.assign rfl ?_
           refine VL.nn ?_
           refine VC.ret ?_
           refine VX.block_ret ?_
           refine VX.then_ret ?_
           refine VX.then_ret ?_
           refine VX.block_ret ?_
           refine VX.then_ret ?_
           refine VX.ret1 rfl rfl (fun we hw => ?_)
           refine ⟨false, rfl, ⟨fun h => absurd h (by decide), fun h => absurd (cal_iff.1 h).2.2.2.2.1 fun e => hv ?_⟩, hw.drop.drop.subA⟩
           have e1 := congrArg (fun l : List Bundle => l[i]?) e
           simp only [List.getElem?_eq_getElem hlt, List.getElem?_eq_getElem hlt2] at e1
           exact Option.some.inj e1
        ·obtain rfl : i = x.bundles.length := by omega
         refine VL.nn ?_
         refine VC.no rfl ?_
         refine VC.exit ?_
         refine VX.then_exit ?_
         refine VX.then_exit ?_
         refine VX.block_here ?_
         refine VX.next ?_
         refine VC.sr ?_
         refine VL.assign rfl ?_
         refine VL.nn ?_
         refine VC.ret ?_
         refine VX.ret1 rfl rfl (fun we hw => ?_)
         refine ⟨true, rfl, ⟨fun _ => cal_iff.2 ⟨h1_4, h1_10, h1_17, h1_24, List.ext_getElem? fun k => ?_, h1_40⟩, fun _ => rfl⟩, hw.drop.drop.subA⟩
         by_cases hk : k < x.bundles.length
         ·exact hall k (by omega)
         ·rw [List.getElem?_eq_none (by omega), List.getElem?_eq_none (by omega)]

theorem refCall_w {S : List Snap} {H : List Chunk} {w : World} (ho : Own S H w) {x : Cal} (hx : x.ok) {q : Option Addr} {d : Nat} (hV : Arr 162 bundleR' (keys H) w q x.bundles d) {p : Option Addr} {c : Nat} (hA : Bytes (keys H) w p x.letter.body c) : Calls Try.prog 77 #[.agg (cat (calV x q d p c)).toArray] w (RetO S H (callO x)) := by
 have hx1 := hx.kind
 have hx2 := hx.seq
 have hx3 := hx.peer
 have hx4 := hx.mark
 have hsm := hV.small
 refine enter (G := Own (⟨w, keys H⟩ :: S) H) ho.keep Try.func77 rfl Try.ntmps77 rfl ?_
 refine VC.sr ?_
 refine VL.box (L := calL) (ps := (calV (x) q d p c)) rfl rfl (calV_len hx) (fun g1 => ?_)
 refine VL.assign rfl ?_
 refine VL.assign rfl ?_
 refine VL.nn ?_
 refine VC.sr ?_
 refine VL.fieldAddr rfl fo110_0 rfl ?_
 refine VL.load (v := .int .u8 (x.kind)) 0 0 rfl kd5 (fun _ h => h) rfl rfl rfl ?_
 refine VL.fieldAddr rfl fo110_1 rfl ?_
 refine VL.load (v := .int .u16 (x.seq)) 0 1 rfl kd68 (fun _ h => h) rfl rfl rfl ?_
 refine VL.build (zs := calZ) (L := calFL) [(0, [.int .u8 (x.kind)]), (1, [.int .u16 (x.seq)])] plan110 rfl ⟨⟨rfl, ⟨_, rfl, rfl⟩, rfl⟩, ⟨⟨rfl, ⟨_, rfl, rfl⟩, rfl⟩, trivial⟩⟩ rfl ?_
 refine VL.newv (v' := .agg (cat (calV ((Cal.mk x.kind x.seq 0 0 [] letter0)) none 0 none 0)).toArray) rfl ?_
 refine VL.alloc (L := calL) (ps := (calV (cal0) none 0 none 0)) zero110 rfl rfl (fun g2 => ?_)
 refine VL.store (L := calL) (qs := (calV ((Cal.mk x.kind x.seq 0 0 [] letter0)) none 0 none 0)) (ps' := (calV ((Cal.mk x.kind x.seq 0 0 [] letter0)) none 0 none 0)) 0 0 17 rfl rfl rfl (.inl kd110) rfl rfl (calV_len (⟨hx.kind, hx.seq, (show (0 : Nat) < 256 by decide), (show (0 : Nat) < 65536 by decide), (by simp), letter0_ok⟩ : Cal.ok (Cal.mk x.kind x.seq 0 0 [] letter0))) (calV_ok1 ((Cal.mk x.kind x.seq 0 0 [] letter0)) none 0 none 0) rfl rfl ?_
 refine VL.set0 ?_
 refine VL.nn ?_
 refine VC.seq ?_
 apply VC.anyTA 7 1009 (F := [eqF _, eqF _, capF (be 1 (x.kind)) 1, eqF _, eqF _, eqF _, bytesF (be 2 (x.seq))]) [⟨[], [1]⟩, ⟨[(14, 0)], []⟩, ⟨[(15, 1)], []⟩, ⟨[], [1]⟩, ⟨[(17, 3)], []⟩, ⟨[(18, 4)], []⟩, ⟨[(19, 5)], []⟩] [(16, 2), (20, 6)] [0, 1, 2, 3, 4, 5, 6, 7, 8, 9, 10, 11, 12, 13, 21, 22, 23, 24, 25, 26, 27, 28, 29, 30, 31, 32, 33, 34, 35, 36, 37, 38, 39, 40, 41, 42, 43, 44, 45, 46, 47, 48, 49, 50, 51, 52, 53, 54, 55, 56, 57, 58, 59, 60, 61, 62, 63, 64, 65, 66, 67, 68, 69, 70, 71, 72, 73, 74, 75, 76, 77, 78, 79, 80, 81, 82, 83, 84, 85, 86, 87, 88, 89, 90, 91, 92, 93, 94, 95, 96, 97, 98] rfl (by kernel_rfl) (by kernel_rfl) rfl rfl (by kernel_rfl) (by kernel_rfl) (by kernel_rfl) rfl ?obs2 ?end2
 case obs2 =>
  refine Obs.cons ?_ ?_
  ·refine obS (by kernel_rfl) rfl rfl (fun ph2 w2 hO2 => ?_)
   refine VL.fieldAddr rfl fo110_0 rfl ?_
   exact VL.finS hO2 rfl rfl
  refine Obs.cons ?_ ?_
  ·refine ob (by kernel_rfl) rfl (by kernel_rfl) rfl (fun w2 hO2 => ?_)
   rintro _ rfl
   refine VL.load (v := .int .u8 (x.kind)) 1 0 rfl kd5 (fun _ e => e ▸ hO2) rfl rfl rfl ?_
   exact VL.finS hO2 rfl rfl
  refine Obs.cons ?_ ?_
  ·refine ob (by kernel_rfl) rfl (by kernel_rfl) rfl (fun w2 hO2 => ?_)
   rintro _ rfl
   refine VL.toOwn hO2 ?_
   refine VL.litByte (m := x.kind) el24 rfl (by have hm := hx.kind; omega) (fun g3 w4 hO5 hA6 => ?_)
   exact VL.finO rfl (fun _ h => h.subA) (fun _ h => ⟨_, rfl, (hA6.nowA (s := ⟨w4, _⟩) Mono.byte h)⟩)
  refine Obs.cons ?_ ?_
  ·refine obS (by kernel_rfl) rfl rfl (fun ph2 w2 hO2 => ?_)
   refine VL.fieldAddr rfl fo110_1 rfl ?_
   exact VL.finS hO2 rfl rfl
  refine Obs.cons ?_ ?_
  ·refine ob (by kernel_rfl) rfl (by kernel_rfl) rfl (fun w2 hO2 => ?_)
   rintro _ rfl
   refine VL.load (v := .int .u16 (x.seq)) 1 1 rfl kd68 (fun _ e => e ▸ hO2) rfl rfl rfl ?_
   exact VL.finS hO2 rfl rfl
  refine Obs.cons ?_ ?_
  ·refine obS (by kernel_rfl) rfl rfl (fun ph2 w2 hO2 => ?_)
   rintro _ rfl
   refine VL.conv (by rw [Try.underlying68]; rfl) Try.underlying3 rfl (by simp only [InR]; omega) ?_
   exact VL.finS hO2 rfl rfl
  refine Obs.cons ?_ ?_
  ·refine ob (by kernel_rfl) rfl (by kernel_rfl) rfl (fun w2 hO2 => ?_)
   rintro _ rfl
   refine VL.toOwn hO2 ?_
   refine VL.call Try.func108 rfl (by decide) rfl (fun w' hw => num_S hw (x.seq) 2 (by omega) (by decide) (by decide) (fits2 (by omega))) (fun v => ?_)
   refine VL.at (fun w7 h1w => ?_)
   obtain ⟨p8, c9, rfl, hO11, hA10⟩ := h1w
   refine VL.toOwn hO11 ?_
   exact VL.finO rfl (fun _ h => h.subA) (fun _ h => ⟨_, _, rfl, (hA10.nowA (s := ⟨w7, _⟩) Mono.byte h)⟩)
  exact Obs.nil
 case end2 =>
  intro w2 hO2
  rintro _ ⟨p2_2, rfl, hA2_2⟩ _ ⟨p2_6, c2_6, rfl, hA2_6⟩
  refine VL.toOwn hO2 ?_
  refine VL.litB [be 1 (x.kind), be 2 (x.seq)] el31 rfl rfl rfl (by simp [Value.cells]) (by intro u hu; simp [Value.cells] at hu; rcases hu with rfl | rfl <;> rfl) rfl (fun _ w' hw => ⟨⟨_, _, rfl, (hA2_2.nowA (s := ⟨w2, _⟩) Mono.byte hw)⟩, ⟨⟨_, _, rfl, (hA2_6.nowA (s := ⟨w2, _⟩) Mono.byte hw)⟩, trivial⟩⟩) (fun v => ?_)
  refine VL.ex fun g12 => VL.fact fun e13 => ?_
  subst e13
  refine VL.assign rfl ?_
  refine VL.nn ?_
  refine VC.sr ?_
  refine VL.assign rfl ?_
  refine VL.nn ?_
  refine VC.sr ?_
  refine VL.assign rfl ?_
  refine VL.nn ?_
  refine VC.seq ?_
  refine VC.sr ?_
  refine VL.fieldAddr rfl fo110_0 rfl ?_
  refine VL.load (v := .int .u8 (x.kind)) 2 0 rfl kd5 (fun _ h => h) rfl rfl rfl ?_
  refine VL.nn ?_
  refine VC.block ?_
  refine VC.sr ?_
  refine VL.eql rfl rfl ?_
  refine VL.case (fun h7_0 => ?_) (fun h7_0 => ?_)
  ·have h7_0 : x.kind = 1 := by have h : ((x.kind : Nat) : Int) = 1 := h7_0; omega
   refine VL.assign rfl ?_
   refine VL.nn ?_
   refine VC.yes rfl ?_
   refine VC.seq ?_
   refine VC.sr ?_
   refine VL.fieldAddr rfl fo110_4 rfl ?_
   refine VL.load (v := .slice q (x.bundles).length d) 2 4 rfl kd108 (fun _ h => h) rfl rfl rfl ?_
   refine VL.len Try.underlying108 rfl rfl ?_
   refine VL.gtr rfl rfl ?_
   refine VL.case (fun h8_3 => ?_) (fun h8_3 => ?_)
   ·have h8_3 : ¬ x.bundles.length ≤ 9 := by omega
    refine VL.nn ?_
    refine VC.yes rfl ?_
    refine VC.sr ?_
    refine VL.assign rfl ?_
    refine VL.assign rfl ?_
    refine VL.nn ?_
    refine VC.ret ?_
    refine VX.then_ret ?_
    refine VX.block_ret ?_
    refine VX.then_ret ?_
    refine VX.ret2 rfl rfl rfl (fun we hw => ?_)
    exact postO ((not_good fun e => h8_3 ((good_1 h7_0).1 e).1)) ⟨none, 0, rfl, hw.drop.drop.drop.subA, Arr.none⟩
   ·have h8_3 : x.bundles.length ≤ 9 := by omega
    refine VL.nn ?_
    refine VC.no rfl ?_
    refine VC.skip ?_
    refine VX.next ?_
    refine VC.sr ?_
    refine VL.fieldAddr rfl fo110_4 rfl ?_
    refine VL.load (v := .slice q (x.bundles).length d) 2 4 rfl kd108 (fun _ h => h) rfl rfl rfl ?_
    refine VL.fieldAddr rfl fo110_4 rfl ?_
    refine VL.store (L := calL) (qs := [[.slice q (x.bundles).length d]]) 1 4 1 rfl rfl rfl (.inr ⟨kd108, rfl⟩) rfl rfl rfl (by intro u hu; simp [cat] at hu; subst hu; rfl) rfl rfl ?_
    refine VL.set1 ?_
    refine VL.nn ?_
    refine VC.sr ?_
    refine VL.assign rfl ?_
    refine VL.nn ?_
    refine VC.block ?_
    refine VC.loop (X := Nat × Option Nat × Nat) (fun (i, gp, c0) => [(1, .pointer (some ⟨g1, 0, none⟩)), (4, .pointer (some ⟨g2, 0, none⟩)), (5, rowV gp ([be 1 x.kind, be 2 x.seq] ++ (x.bundles.take i).map bundleB).length c0), (8, .int .i64 (i : Int)), (6, .bool true)]) (fun (i, gp, c0) w' => i ≤ x.bundles.length ∧ Own (⟨w, keys H⟩ :: S) (brow gp c0 (([be 1 x.kind, be 2 x.seq] ++ (x.bundles.take i).map bundleB)) :: blk g2 110 calL [[.int .u8 ((Cal.mk x.kind x.seq 0 0 [] letter0).kind)], [.int .u16 ((Cal.mk x.kind x.seq 0 0 [] letter0).seq)], [.int .u8 ((Cal.mk x.kind x.seq 0 0 [] letter0).peer)], [.int .u16 ((Cal.mk x.kind x.seq 0 0 [] letter0).mark)], [.slice q (x.bundles).length d], [.int .u8 ((Cal.mk x.kind x.seq 0 0 [] letter0).letter.src)], [.int .u8 ((Cal.mk x.kind x.seq 0 0 [] letter0).letter.dst)], ((Cal.mk x.kind x.seq 0 0 [] letter0).letter.header.session).map bv, [.bool ((Cal.mk x.kind x.seq 0 0 [] letter0).letter.header.first)], ((Cal.mk x.kind x.seq 0 0 [] letter0).letter.header.agree).map bv, ((Cal.mk x.kind x.seq 0 0 [] letter0).letter.header.signer).map bv, ((Cal.mk x.kind x.seq 0 0 [] letter0).letter.header.base).map bv, [.int .u16 ((Cal.mk x.kind x.seq 0 0 [] letter0).letter.header.id)], ((Cal.mk x.kind x.seq 0 0 [] letter0).letter.header.ratchet).map bv, [.int .u16 ((Cal.mk x.kind x.seq 0 0 [] letter0).letter.header.n)], [.int .u16 ((Cal.mk x.kind x.seq 0 0 [] letter0).letter.header.prev)], [.slice none (([] : List Bundle)).length 0]] :: blk g1 110 calL (calV (x) q d p c) :: H) w') (fun (i, _) => x.bundles.length - i) (0, (some g12), 2) ⟨rfl, rfl, rfl, rfl, rfl, trivial⟩ (fun w' h => ⟨Nat.zero_le _, h.subA⟩) (fun (i, gp, c0) => VC.fact fun hi => ?_)
    ·have htk : (List.take i x.bundles).length ≤ i := List.length_take_le _ _
     refine VC.seq ?_
     refine VC.sr ?_
     refine VL.move rfl ?_
     refine VL.fieldAddr rfl fo110_4 rfl ?_
     refine VL.load (v := .slice q (x.bundles).length d) 2 4 rfl kd108 (fun _ h => h) rfl rfl rfl ?_
     refine VL.len Try.underlying108 rfl rfl ?_
     refine VL.lss rfl rfl ?_
     refine VL.case (fun h12 => ?_) (fun h12 => ?_)
     ·have hlt : i < x.bundles.length := by omega
      refine VL.nn ?_
      refine VC.yes rfl ?_
      refine VC.skip ?_
      refine VX.next ?_
      refine VC.seq ?_
      refine VC.block ?_
      refine VC.region ?_
      refine VL.move rfl ?_
      refine VL.fieldAddr rfl fo110_4 rfl ?_
      refine VL.load (v := .slice q (x.bundles).length d) 2 4 rfl kd108 (fun _ h => h) rfl rfl rfl ?_
      refine VL.move rfl ?_
      refine VL.index (xs := x.bundles) rfl rfl Try.underlying108 sz108 hV (by omega) (by have hi := hlt; omega) ?_
      refine VL.elems (s := ⟨w, _⟩) (m := 162) (i) 0 rfl kd82 (fun _ h => h) (by repeat (first | exact List.mem_cons_self .. | apply List.mem_cons_of_mem)) hV (List.getElem?_eq_getElem hlt) (by simp) (by decide) (fun vs hl hr => ?_)
      obtain ⟨hy15, rfl⟩ := hr
      refine VL.newv (v' := .agg (cat (bundleV (x.bundles[i]'hlt))).toArray) (by rw [List.drop_zero, List.take_of_length_le (by rw [hl]; decide)]) ?_
      refine VL.call Try.func62 rfl (by decide) rfl (fun w' hw => refBundle_w hw (x := (x.bundles[i]'hlt)) (hx.bundles _ (List.getElem_mem hlt))) (fun v => ?_)
      refine VL.at (fun w16 h1w => ?_)
      obtain ⟨p17, c18, rfl, hO20, hA19⟩ := h1w
      refine VL.toOwn hO20 ?_
      refine VL.lit el31 rfl rfl rfl (by simp [Value.cells]) (by intro u hu; simp [Value.cells] at hu; rcases hu with rfl <;> rfl) (fun g21 => ?_)
      refine VL.letRowS [bundleB ((x.bundles[i]'hlt))] rfl (fun w' hw => ⟨⟨_, _, rfl, (hA19.nowA (s := ⟨w16, _⟩) Mono.byte hw)⟩, trivial⟩) (fun w22 hO23 hA24 => ?_)
      refine VL.appends (R := bytesR) (hR := Mono.slice Mono.byte) (ys := ([be 1 x.kind, be 2 x.seq] ++ (x.bundles.take i).map bundleB)) (zs := [bundleB ((x.bundles[i]'hlt))]) 0 el31 rfl rfl rfl (fun _ h => h) rfl (fun _ hw => (hA24.nowA (s := ⟨w22, _⟩) (Mono.slice Mono.byte) hw)) bytesR_ok1 (by simp only [List.length_append, List.length_cons, List.length_nil, List.length_map]; omega) (fun g25 c26 => ?_) (by simp only [List.length_append, List.length_cons, List.length_nil, List.length_map]; omega)
      refine VL.set0 ?_
      refine VL.assign rfl ?_
      refine VL.nil ?_
      refine VX.block_normal ?_
      refine VX.next ?_
      refine VC.region ?_
      refine VL.move rfl ?_
      refine VL.add rfl rfl (by simp only [InR]; omega) ?_
      refine VL.assign rfl ?_
      refine VL.nil ?_
      have el : [be 1 x.kind, be 2 x.seq] ++ (x.bundles.take i).map bundleB ++ [bundleB (x.bundles[i]'hlt)] = [be 1 x.kind, be 2 x.seq] ++ (x.bundles.take (i + 1)).map bundleB := by rw [← bundle_next hlt, List.append_assoc]
      refine VX.round (i + 1, g25, c26) ⟨rfl, rfl, congrArg (fun l : List (List UInt8) => some (rowV g25 l.length c26)) el, rfl, rfl, trivial⟩ (fun w' h => ⟨by omega, ?_⟩) (by show x.bundles.length - (i + 1) < x.bundles.length - i; omega)
      rw [← el]
      exact h.subA
     ·have hie : i = x.bundles.length := by omega
      refine VL.nn ?_
      refine VC.no rfl ?_
      refine VC.exit ?_
      refine VX.then_exit ?_
      refine VX.then_exit ?_
      refine VX.block_here ?_
      refine VX.block_normal ?_
      refine VX.next ?_
      refine VC.seq ?_
      refine VC.sr ?_
      refine VL.move rfl ?_
      refine VL.not rfl ?_
      refine VL.move rfl ?_
      refine VL.go rfl rfl rfl ?_
      refine VL.loads (cs := cat (calV (x) q d p c)) 2 0 17 rfl kd110 (fun _ h => h) rfl rfl rfl rfl ?_
      refine VL.go rfl rfl rfl ?_
      refine VL.loads (cs := cat (calV ((Cal.mk x.kind x.seq 0 0 x.bundles letter0)) q d none 0)) 1 0 17 rfl kd110 (fun _ h => h) rfl rfl rfl rfl ?_
      refine VL.go rfl rfl rfl ?_
      refine VL.call Try.func79 rfl (by decide) rfl (fun w' hw => sameCalls_g hw hx (hV.nowA (s := ⟨w, _⟩) Mono_bundle hw) (hA.nowA (s := ⟨w, _⟩) Mono.byte hw) (⟨hx.kind, hx.seq, (show (0 : Nat) < 256 by decide), (show (0 : Nat) < 65536 by decide), hx.bundles, letter0_ok⟩ : Cal.ok (Cal.mk x.kind x.seq 0 0 x.bundles letter0)) (hV.nowA (s := ⟨w, _⟩) Mono_bundle hw) Arr.none) (fun v => ?_)
      refine VL.ex fun b => VL.fact fun e => VL.fact fun h25_5 => ?_
      subst e
      cases b
      ·have h25_5 := mt h25_5.2 (by decide)
       refine VL.go rfl rfl rfl ?_
       refine VL.not rfl ?_
       refine VL.pick_f rfl rfl ?_
       refine VL.nn ?_
       refine VC.yes rfl ?_
       refine VC.sr ?_
       refine VL.assign rfl ?_
       refine VL.assign rfl ?_
       refine VL.nn ?_
       refine VC.ret ?_
       refine VX.then_ret ?_
       refine VX.ret2 rfl rfl rfl (fun we hw => ?_)
       exact postO ((not_good (fun e => h25_5 ((good_1 h7_0).1 e).2))) ⟨none, 0, rfl, hw.drop.drop.drop.subA, Arr.none⟩
      ·have h25_5 := h25_5.1 rfl
       refine VL.go rfl rfl rfl ?_
       refine VL.not rfl ?_
       refine VL.pick_f rfl rfl ?_
       refine VL.nn ?_
       refine VC.no rfl ?_
       refine VC.skip ?_
       refine VX.next ?_
       refine VC.seq ?_
       refine VC.letArr (fun wr hOr hAr => ?_)
       refine VC.region ?_
       refine VL.move rfl ?_
       refine VL.call Try.func31 rfl (by decide) rfl (fun w' hw => join_O (ls := ([be 1 x.kind, be 2 x.seq] ++ (x.bundles.take i).map bundleB)) hw (hAr.nowA (s := ⟨wr, _⟩) (Mono.slice Mono.byte) hw)) (fun v => ?_)
       refine VL.at (fun w27 h1w => ?_)
       obtain ⟨p28, c29, rfl, hO31, hA30⟩ := h1w
       refine VL.toOwn hO31 ?_
       refine VL.extract rfl rfl ?_
       refine VL.extract rfl rfl ?_
       refine VL.assign rfl ?_
       refine VL.assign rfl ?_
       refine VL.nn ?_
       refine VC.ret ?_
       refine VX.ret2 rfl rfl rfl (fun we hw => ?_)
       exact postO ((show joinO ([be 1 x.kind, be 2 x.seq] ++ (x.bundles.take i).map bundleB) true = callO x from by rw [hie, List.take_length]; exact callO_1 h7_0 ((good_1 h7_0).2 ⟨h8_3, h25_5⟩))) ⟨p28, c29, rfl, hw.drop.drop.subA, (hA30.nowA (s := ⟨w27, _⟩) Mono.byte hw.drop.drop)⟩
  ·have h7_0 : x.kind ≠ 1 := by have h : ¬ ((x.kind : Nat) : Int) = 1 := h7_0; omega
   refine VL.assign rfl ?_
   refine VL.nn ?_
   refine VC.no rfl ?_
   refine VC.sr ?_
   refine VL.eql rfl rfl ?_
   refine VL.case (fun h15_0 => ?_) (fun h15_0 => ?_)
   ·have h15_0 : x.kind = 2 := by have h : ((x.kind : Nat) : Int) = 2 := h15_0; omega
    refine VL.assign rfl ?_
    refine VL.nn ?_
    refine VC.yes rfl ?_
    refine VC.sr ?_
    refine VL.fieldAddr rfl fo110_2 rfl ?_
    refine VL.load (v := .int .u8 (x.peer)) 2 2 rfl kd5 (fun _ h => h) rfl rfl rfl ?_
    refine VL.fieldAddr rfl fo110_2 rfl ?_
    refine VL.store (L := calL) (qs := [[.int .u8 (x.peer)]]) 1 2 1 rfl rfl rfl (.inr ⟨kd5, rfl⟩) rfl rfl rfl (by intro u hu; simp [cat] at hu; subst hu; rfl) rfl rfl ?_
    refine VL.set1 ?_
    refine VL.nn ?_
    refine VC.region ?_
    refine VL.move rfl ?_
    refine VL.fieldAddr rfl fo110_2 rfl ?_
    refine VL.load (v := .int .u8 (x.peer)) 2 2 rfl kd5 (fun _ h => h) rfl rfl rfl ?_
    refine VL.litByte (m := x.peer) el24 rfl (by have hm := hx.peer; omega) (fun g32 w33 hO34 hA35 => ?_)
    refine VL.lit el31 rfl rfl rfl (by simp [Value.cells]) (by intro u hu; simp [Value.cells] at hu; rcases hu with rfl <;> rfl) (fun g36 => ?_)
    refine VL.letRowS [be 1 (x.peer)] rfl (fun w' hw => ⟨⟨_, _, rfl, (hA35.nowA (s := ⟨w33, _⟩) Mono.byte hw)⟩, trivial⟩) (fun w37 hO38 hA39 => ?_)
    refine VL.appends (R := bytesR) (hR := Mono.slice Mono.byte) (ys := [be 1 (x.kind), be 2 (x.seq)]) (zs := [be 1 (x.peer)]) 0 el31 rfl rfl rfl (fun _ h => h) rfl (fun _ hw => (hA39.nowA (s := ⟨w37, _⟩) (Mono.slice Mono.byte) hw)) bytesR_ok1 (by simp only [List.length_append, List.length_cons, List.length_nil, List.length_map]; omega) (fun g40 c41 => ?_) (by simp only [List.length_append, List.length_cons, List.length_nil, List.length_map]; omega)
    refine VL.set0 ?_
    refine VL.assign rfl ?_
    refine VL.nil ?_
    refine VX.block_normal ?_
    refine VX.next ?_
    refine VC.seq ?_
    refine VC.sr ?_
    refine VL.move rfl ?_
    refine VL.not rfl ?_
    refine VL.move rfl ?_
    refine VL.go rfl rfl rfl ?_
    refine VL.loads (cs := cat (calV (x) q d p c)) 2 0 17 rfl kd110 (fun _ h => h) rfl rfl rfl rfl ?_
    refine VL.go rfl rfl rfl ?_
    refine VL.loads (cs := cat (calV ((Cal.mk x.kind x.seq x.peer 0 [] letter0)) none 0 none 0)) 1 0 17 rfl kd110 (fun _ h => h) rfl rfl rfl rfl ?_
    refine VL.go rfl rfl rfl ?_
    refine VL.call Try.func79 rfl (by decide) rfl (fun w' hw => sameCalls_g hw hx (hV.nowA (s := ⟨w, _⟩) Mono_bundle hw) (hA.nowA (s := ⟨w, _⟩) Mono.byte hw) (⟨hx.kind, hx.seq, hx.peer, (show (0 : Nat) < 65536 by decide), (by simp), letter0_ok⟩ : Cal.ok (Cal.mk x.kind x.seq x.peer 0 [] letter0)) Arr.none Arr.none) (fun v => ?_)
    refine VL.ex fun b => VL.fact fun e => VL.fact fun h25_5 => ?_
    subst e
    cases b
    ·have h25_5 := mt h25_5.2 (by decide)
     refine VL.go rfl rfl rfl ?_
     refine VL.not rfl ?_
     refine VL.pick_f rfl rfl ?_
     refine VL.nn ?_
     refine VC.yes rfl ?_
     refine VC.sr ?_
     refine VL.assign rfl ?_
     refine VL.assign rfl ?_
     refine VL.nn ?_
     refine VC.ret ?_
     refine VX.then_ret ?_
     refine VX.ret2 rfl rfl rfl (fun we hw => ?_)
     exact postO ((not_good (fun e => h25_5 ((good_2 h15_0).1 e)))) ⟨none, 0, rfl, hw.drop.drop.drop.subA, Arr.none⟩
    ·have h25_5 := h25_5.1 rfl
     refine VL.go rfl rfl rfl ?_
     refine VL.not rfl ?_
     refine VL.pick_f rfl rfl ?_
     refine VL.nn ?_
     refine VC.no rfl ?_
     refine VC.skip ?_
     refine VX.next ?_
     refine VC.seq ?_
     refine VC.letArr (fun wr hOr hAr => ?_)
     refine VC.region ?_
     refine VL.move rfl ?_
     refine VL.call Try.func31 rfl (by decide) rfl (fun w' hw => join_O (ls := ([be 1 (x.kind), be 2 (x.seq)] ++ [be 1 (x.peer)])) hw (hAr.nowA (s := ⟨wr, _⟩) (Mono.slice Mono.byte) hw)) (fun v => ?_)
     refine VL.at (fun w42 h1w => ?_)
     obtain ⟨p43, c44, rfl, hO46, hA45⟩ := h1w
     refine VL.toOwn hO46 ?_
     refine VL.extract rfl rfl ?_
     refine VL.extract rfl rfl ?_
     refine VL.assign rfl ?_
     refine VL.assign rfl ?_
     refine VL.nn ?_
     refine VC.ret ?_
     refine VX.ret2 rfl rfl rfl (fun we hw => ?_)
     exact postO ((show joinO ([be 1 (x.kind), be 2 (x.seq)] ++ [be 1 (x.peer)]) true = callO x from callO_2 h15_0 ((good_2 h15_0).2 h25_5))) ⟨p43, c44, rfl, hw.drop.drop.subA, (hA45.nowA (s := ⟨w42, _⟩) Mono.byte hw.drop.drop)⟩
   ·have h15_0 : x.kind ≠ 2 := by have h : ¬ ((x.kind : Nat) : Int) = 2 := h15_0; omega
    refine VL.assign rfl ?_
    refine VL.nn ?_
    refine VC.no rfl ?_
    refine VC.sr ?_
    refine VL.eql rfl rfl ?_
    refine VL.case (fun h18_0 => ?_) (fun h18_0 => ?_)
    ·have h18_0 : x.kind = 3 := by have h : ((x.kind : Nat) : Int) = 3 := h18_0; omega
     refine VL.assign rfl ?_
     refine VL.nn ?_
     refine VC.yes rfl ?_
     refine VC.sr ?_
     refine VL.fieldAddr rfl fo110_5 rfl ?_
     refine VL.loads (cs := cat (letterV (x.letter) p c)) 2 5 12 rfl kd72 (fun _ h => h) rfl rfl rfl rfl ?_
     refine VL.fieldAddr rfl fo110_5 rfl ?_
     refine VL.store (L := calL) (qs := (letterV (x.letter) p c)) 1 5 12 rfl rfl rfl (.inl kd72) rfl rfl (letterV_len hx.letter) (letterV_ok1 (x.letter) p c) rfl rfl ?_
     refine VL.set1 ?_
     refine VL.nn ?_
     refine VC.sr ?_
     refine VL.fieldAddr rfl fo110_5 rfl ?_
     refine VL.loads (cs := cat (letterV (x.letter) p c)) 2 5 12 rfl kd72 (fun _ h => h) rfl rfl rfl rfl ?_
     refine VL.call Try.func51 rfl (by decide) rfl (fun w' hw => refLetter_w hw (x := x.letter) hx.letter (hA.nowA (s := ⟨w, _⟩) Mono.byte hw)) (fun v => ?_)
     refine VL.at (fun w47 h1w => ?_)
     obtain ⟨p48, c49, rfl, hO51, hA50⟩ := h1w
     refine VL.toOwn hO51 ?_
     refine VL.move rfl ?_
     refine VL.extract rfl rfl ?_
     refine VL.extract rfl rfl ?_
     refine VL.assign rfl ?_
     refine VL.assign rfl ?_
     refine VL.nn ?_
     refine VC.region ?_
     refine VL.move rfl ?_
     refine VL.move rfl ?_
     refine VL.lit el31 rfl rfl rfl (by simp [Value.cells]) (by intro u hu; simp [Value.cells] at hu; rcases hu with rfl <;> rfl) (fun g52 => ?_)
     refine VL.letRowS [((letterO (x.letter)).getD [])] rfl (fun w' hw => ⟨⟨_, _, rfl, (hA50.nowA (s := ⟨w47, _⟩) Mono.byte hw)⟩, trivial⟩) (fun w53 hO54 hA55 => ?_)
     refine VL.appends (R := bytesR) (hR := Mono.slice Mono.byte) (ys := [be 1 (x.kind), be 2 (x.seq)]) (zs := [((letterO (x.letter)).getD [])]) 0 el31 rfl rfl rfl (fun _ h => h) rfl (fun _ hw => (hA55.nowA (s := ⟨w53, _⟩) (Mono.slice Mono.byte) hw)) bytesR_ok1 (by simp only [List.length_append, List.length_cons, List.length_nil, List.length_map]; omega) (fun g56 c57 => ?_) (by simp only [List.length_append, List.length_cons, List.length_nil, List.length_map]; omega)
     refine VL.set0 ?_
     refine VL.assign rfl ?_
     refine VL.nil ?_
     refine VX.block_normal ?_
     refine VX.next ?_
     refine VC.seq ?_
     refine VC.sr ?_
     refine VL.move rfl ?_
     cases hs : (letterO x.letter).isSome
     ·refine VL.not rfl ?_
      refine VL.move rfl ?_
      refine VL.pass rfl rfl rfl rfl rfl ?_
      refine VL.pass rfl rfl rfl rfl rfl ?_
      refine VL.pass rfl rfl rfl rfl rfl ?_
      refine VL.pass rfl rfl rfl rfl rfl ?_
      refine VL.pick_t rfl rfl ?_
      refine VL.nn ?_
      refine VC.yes rfl ?_
      refine VC.sr ?_
      refine VL.assign rfl ?_
      refine VL.assign rfl ?_
      refine VL.nn ?_
      refine VC.ret ?_
      refine VX.then_ret ?_
      refine VX.ret2 rfl rfl rfl (fun we hw => ?_)
      exact postO ((callO_none (by unfold callGood; simp [h18_0, hs]))) ⟨none, 0, rfl, hw.drop.drop.drop.subA, Arr.none⟩
     ·refine VL.not rfl ?_
      refine VL.move rfl ?_
      refine VL.go rfl rfl rfl ?_
      refine VL.loads (cs := cat (calV (x) q d p c)) 2 0 17 rfl kd110 (fun _ h => h) rfl rfl rfl rfl ?_
      refine VL.go rfl rfl rfl ?_
      refine VL.loads (cs := cat (calV ((Cal.mk x.kind x.seq 0 0 [] x.letter)) none 0 p c)) 1 0 17 rfl kd110 (fun _ h => h) rfl rfl rfl rfl ?_
      refine VL.go rfl rfl rfl ?_
      refine VL.call Try.func79 rfl (by decide) rfl (fun w' hw => sameCalls_g hw hx (hV.nowA (s := ⟨w, _⟩) Mono_bundle hw) (hA.nowA (s := ⟨w, _⟩) Mono.byte hw) (⟨hx.kind, hx.seq, (show (0 : Nat) < 256 by decide), (show (0 : Nat) < 65536 by decide), (by simp), hx.letter⟩ : Cal.ok (Cal.mk x.kind x.seq 0 0 [] x.letter)) Arr.none (hA.nowA (s := ⟨w, _⟩) Mono.byte hw)) (fun v => ?_)
      refine VL.ex fun b => VL.fact fun e => VL.fact fun h25_5 => ?_
      subst e
      cases b
      ·have h25_5 := mt h25_5.2 (by decide)
       refine VL.go rfl rfl rfl ?_
       refine VL.not rfl ?_
       refine VL.pick_f rfl rfl ?_
       refine VL.nn ?_
       refine VC.yes rfl ?_
       refine VC.sr ?_
       refine VL.assign rfl ?_
       refine VL.assign rfl ?_
       refine VL.nn ?_
       refine VC.ret ?_
       refine VX.then_ret ?_
       refine VX.ret2 rfl rfl rfl (fun we hw => ?_)
       exact postO ((not_good (fun e => h25_5 ((good_3 h18_0 hs).1 e)))) ⟨none, 0, rfl, hw.drop.drop.drop.subA, Arr.none⟩
      ·have h25_5 := h25_5.1 rfl
       refine VL.go rfl rfl rfl ?_
       refine VL.not rfl ?_
       refine VL.pick_f rfl rfl ?_
       refine VL.nn ?_
       refine VC.no rfl ?_
       refine VC.skip ?_
       refine VX.next ?_
       refine VC.seq ?_
       refine VC.letArr (fun wr hOr hAr => ?_)
       refine VC.region ?_
       refine VL.move rfl ?_
       refine VL.call Try.func31 rfl (by decide) rfl (fun w' hw => join_O (ls := ([be 1 (x.kind), be 2 (x.seq)] ++ [((letterO (x.letter)).getD [])])) hw (hAr.nowA (s := ⟨wr, _⟩) (Mono.slice Mono.byte) hw)) (fun v => ?_)
       refine VL.at (fun w58 h1w => ?_)
       obtain ⟨p59, c60, rfl, hO62, hA61⟩ := h1w
       refine VL.toOwn hO62 ?_
       refine VL.extract rfl rfl ?_
       refine VL.extract rfl rfl ?_
       refine VL.assign rfl ?_
       refine VL.assign rfl ?_
       refine VL.nn ?_
       refine VC.ret ?_
       refine VX.ret2 rfl rfl rfl (fun we hw => ?_)
       exact postO ((show joinO ([be 1 (x.kind), be 2 (x.seq)] ++ [((letterO (x.letter)).getD [])]) true = callO x from callO_3 h18_0 ((good_3 h18_0 hs).2 h25_5))) ⟨p59, c60, rfl, hw.drop.drop.subA, (hA61.nowA (s := ⟨w58, _⟩) Mono.byte hw.drop.drop)⟩
    ·have h18_0 : x.kind ≠ 3 := by have h : ¬ ((x.kind : Nat) : Int) = 3 := h18_0; omega
     refine VL.assign rfl ?_
     refine VL.nn ?_
     refine VC.no rfl ?_
     refine VC.sr ?_
     refine VL.eql rfl rfl ?_
     refine VL.case (fun h22_0 => ?_) (fun h22_0 => ?_)
     ·have h22_0 : x.kind = 4 := by have h : ((x.kind : Nat) : Int) = 4 := h22_0; omega
      refine VL.assign rfl ?_
      refine VL.nn ?_
      refine VC.yes rfl ?_
      refine VC.sr ?_
      refine VL.fieldAddr rfl fo110_3 rfl ?_
      refine VL.load (v := .int .u16 (x.mark)) 2 3 rfl kd68 (fun _ h => h) rfl rfl rfl ?_
      refine VL.fieldAddr rfl fo110_3 rfl ?_
      refine VL.store (L := calL) (qs := [[.int .u16 (x.mark)]]) 1 3 1 rfl rfl rfl (.inr ⟨kd68, rfl⟩) rfl rfl rfl (by intro u hu; simp [cat] at hu; subst hu; rfl) rfl rfl ?_
      refine VL.set1 ?_
      refine VL.nn ?_
      refine VC.region ?_
      refine VL.move rfl ?_
      refine VL.fieldAddr rfl fo110_3 rfl ?_
      refine VL.load (v := .int .u16 (x.mark)) 2 3 rfl kd68 (fun _ h => h) rfl rfl rfl ?_
      refine VL.conv (by rw [Try.underlying68]; rfl) Try.underlying3 rfl (by simp only [InR]; omega) ?_
      refine VL.call Try.func108 rfl (by decide) rfl (fun w' hw => num_S hw (x.mark) 2 (by omega) (by decide) (by decide) (fits2 (by omega))) (fun v => ?_)
      refine VL.at (fun w63 h1w => ?_)
      obtain ⟨p64, c65, rfl, hO67, hA66⟩ := h1w
      refine VL.toOwn hO67 ?_
      refine VL.lit el31 rfl rfl rfl (by simp [Value.cells]) (by intro u hu; simp [Value.cells] at hu; rcases hu with rfl <;> rfl) (fun g68 => ?_)
      refine VL.letRowS [be 2 (x.mark)] rfl (fun w' hw => ⟨⟨_, _, rfl, (hA66.nowA (s := ⟨w63, _⟩) Mono.byte hw)⟩, trivial⟩) (fun w69 hO70 hA71 => ?_)
      refine VL.appends (R := bytesR) (hR := Mono.slice Mono.byte) (ys := [be 1 (x.kind), be 2 (x.seq)]) (zs := [be 2 (x.mark)]) 0 el31 rfl rfl rfl (fun _ h => h) rfl (fun _ hw => (hA71.nowA (s := ⟨w69, _⟩) (Mono.slice Mono.byte) hw)) bytesR_ok1 (by simp only [List.length_append, List.length_cons, List.length_nil, List.length_map]; omega) (fun g72 c73 => ?_) (by simp only [List.length_append, List.length_cons, List.length_nil, List.length_map]; omega)
      refine VL.set0 ?_
      refine VL.assign rfl ?_
      refine VL.nil ?_
      refine VX.block_normal ?_
      refine VX.next ?_
      refine VC.seq ?_
      refine VC.sr ?_
      refine VL.move rfl ?_
      refine VL.not rfl ?_
      refine VL.move rfl ?_
      refine VL.go rfl rfl rfl ?_
      refine VL.loads (cs := cat (calV (x) q d p c)) 2 0 17 rfl kd110 (fun _ h => h) rfl rfl rfl rfl ?_
      refine VL.go rfl rfl rfl ?_
      refine VL.loads (cs := cat (calV ((Cal.mk x.kind x.seq 0 x.mark [] letter0)) none 0 none 0)) 1 0 17 rfl kd110 (fun _ h => h) rfl rfl rfl rfl ?_
      refine VL.go rfl rfl rfl ?_
      refine VL.call Try.func79 rfl (by decide) rfl (fun w' hw => sameCalls_g hw hx (hV.nowA (s := ⟨w, _⟩) Mono_bundle hw) (hA.nowA (s := ⟨w, _⟩) Mono.byte hw) (⟨hx.kind, hx.seq, (show (0 : Nat) < 256 by decide), hx.mark, (by simp), letter0_ok⟩ : Cal.ok (Cal.mk x.kind x.seq 0 x.mark [] letter0)) Arr.none Arr.none) (fun v => ?_)
      refine VL.ex fun b => VL.fact fun e => VL.fact fun h25_5 => ?_
      subst e
      cases b
      ·have h25_5 := mt h25_5.2 (by decide)
       refine VL.go rfl rfl rfl ?_
       refine VL.not rfl ?_
       refine VL.pick_f rfl rfl ?_
       refine VL.nn ?_
       refine VC.yes rfl ?_
       refine VC.sr ?_
       refine VL.assign rfl ?_
       refine VL.assign rfl ?_
       refine VL.nn ?_
       refine VC.ret ?_
       refine VX.then_ret ?_
       refine VX.ret2 rfl rfl rfl (fun we hw => ?_)
       exact postO ((not_good (fun e => h25_5 ((good_4 h22_0).1 e)))) ⟨none, 0, rfl, hw.drop.drop.drop.subA, Arr.none⟩
      ·have h25_5 := h25_5.1 rfl
       refine VL.go rfl rfl rfl ?_
       refine VL.not rfl ?_
       refine VL.pick_f rfl rfl ?_
       refine VL.nn ?_
       refine VC.no rfl ?_
       refine VC.skip ?_
       refine VX.next ?_
       refine VC.seq ?_
       refine VC.letArr (fun wr hOr hAr => ?_)
       refine VC.region ?_
       refine VL.move rfl ?_
       refine VL.call Try.func31 rfl (by decide) rfl (fun w' hw => join_O (ls := ([be 1 (x.kind), be 2 (x.seq)] ++ [be 2 (x.mark)])) hw (hAr.nowA (s := ⟨wr, _⟩) (Mono.slice Mono.byte) hw)) (fun v => ?_)
       refine VL.at (fun w74 h1w => ?_)
       obtain ⟨p75, c76, rfl, hO78, hA77⟩ := h1w
       refine VL.toOwn hO78 ?_
       refine VL.extract rfl rfl ?_
       refine VL.extract rfl rfl ?_
       refine VL.assign rfl ?_
       refine VL.assign rfl ?_
       refine VL.nn ?_
       refine VC.ret ?_
       refine VX.ret2 rfl rfl rfl (fun we hw => ?_)
       exact postO ((show joinO ([be 1 (x.kind), be 2 (x.seq)] ++ [be 2 (x.mark)]) true = callO x from callO_4 h22_0 ((good_4 h22_0).2 h25_5))) ⟨p75, c76, rfl, hw.drop.drop.subA, (hA77.nowA (s := ⟨w74, _⟩) Mono.byte hw.drop.drop)⟩
     ·have h22_0 : x.kind ≠ 4 := by have h : ¬ ((x.kind : Nat) : Int) = 4 := h22_0; omega
      refine VL.assign rfl ?_
      refine VL.nn ?_
      refine VC.no rfl ?_
      refine VC.sr ?_
      refine VL.assign rfl ?_
      refine VL.assign rfl ?_
      refine VL.nn ?_
      refine VC.ret ?_
      refine VX.block_ret ?_
      refine VX.then_ret ?_
      refine VX.ret2 rfl rfl rfl (fun we hw => ?_)
      exact postO ((callO_none (by unfold callGood; simp [h7_0, h15_0, h18_0, h22_0]))) ⟨none, 0, rfl, hw.drop.drop.drop.subA, Arr.none⟩

theorem sameCalls_e {S : List Snap} {H : List Chunk} {w : World} (ho : Own S H w) {x y : Cal} (hx : x.ok) {q : Option Addr} {d : Nat} (hV : Arr 162 bundleR' (keys H) w q x.bundles d) {p : Option Addr} {c : Nat} (hA : Bytes (keys H) w p x.letter.body c) {q2 : Option Addr} {d2 : Nat} (hU : Arr 162 bundleR' (keys H) w q2 y.bundles d2) {p2 : Option Addr} {c2 : Nat} (hB : Bytes (keys H) w p2 y.letter.body c2) (e : y = x) : Calls Try.prog 79 #[.agg (cat (calV x q d p c)).toArray, .agg (cat (calV y q2 d2 p2 c2)).toArray] w (Ret fun v w' => v = .bool true ∧ Own S H w') :=
 calls_mono (sameCalls_g ho hx hV hA (e ▸ hx) hU hB) fun v w' ⟨b, h1, h2, h3⟩ => ⟨by rw [h1, h2.2 e], h3⟩

end Go.Proofs.Ytcfecmoagfgnaaa

