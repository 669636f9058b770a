/- The statement FedqRows is proved, for every input: part 14 of 21 of the texts that it needs. -/
import Derived.Test.YtcfecmoagfgnaaaMfrwAM
/- The law on items. -/
namespace Go.Proofs.Ytcfecmoagfgnaaa
open Go.Vc Go.Pl

theorem keep1 {x : Itm} : Itm.mk x.kind 0 0 x.letter bundle0 object0 = x ↔ bareP (itemA x) := by
 obtain ⟨k, a, p, l, b, o⟩ := x
 constructor
 ·intro h; rw [Itm.mk.injEq] at h; obtain ⟨_, h1, h2, h3, h4, h5⟩ := h; exact ⟨h1.symm, h2.symm, rfl, h4.symm, h5.symm⟩
 ·rintro ⟨h1, h2, h3, h4, h5⟩; simp only at h1 h2 h4 h5; subst h1 h2 h4 h5; rfl
theorem keep2 {x : Itm} : Itm.mk x.kind x.asker x.peer letter0 bundle0 object0 = x ↔ bareP (itemB x) := by
 obtain ⟨k, a, p, l, b, o⟩ := x
 constructor
 ·intro h; rw [Itm.mk.injEq] at h; obtain ⟨_, h1, h2, h3, h4, h5⟩ := h; exact ⟨rfl, rfl, h3.symm, h4.symm, h5.symm⟩
 ·rintro ⟨h1, h2, h3, h4, h5⟩; simp only at h3 h4 h5; subst h3 h4 h5; rfl
theorem keep3 {x : Itm} : Itm.mk x.kind x.asker 0 letter0 x.bundle object0 = x ↔ bareP (itemC x) := by
 obtain ⟨k, a, p, l, b, o⟩ := x
 constructor
 ·intro h; rw [Itm.mk.injEq] at h; obtain ⟨_, h1, h2, h3, h4, h5⟩ := h; exact ⟨rfl, h2.symm, h3.symm, rfl, h5.symm⟩
 ·rintro ⟨h1, h2, h3, h4, h5⟩; simp only at h2 h3 h5; subst h2 h3 h5; rfl
theorem keep5 {x : Itm} : Itm.mk x.kind 0 0 letter0 bundle0 x.object = x ↔ bareP (itemD x) := by
 obtain ⟨k, a, p, l, b, o⟩ := x
 constructor
 ·intro h; rw [Itm.mk.injEq] at h; obtain ⟨_, h1, h2, h3, h4, h5⟩ := h; exact ⟨h1.symm, h2.symm, h3.symm, h4.symm, rfl⟩
 ·rintro ⟨h1, h2, h3, h4, h5⟩; simp only at h1 h2 h3 h4; subst h1 h2 h3 h4; rfl
theorem item1_f {x : Itm} (h : x.kind = 1) (hs : (letterO x.letter).isSome = false) : none = itemO x := by
 unfold itemO itemGood
 rw [if_pos h, hs, Bool.false_and]
 exact none_joinO _
theorem item5_f {x : Itm} (h : x.kind = 5 ∨ x.kind = 6) (hs : (objectO x.object).isSome = false) : none = itemO x := by
 unfold itemO itemGood
 rw [if_neg (by omega), if_neg (by omega), if_neg (by omega), if_pos h, hs, Bool.false_and]
 exact none_joinO _
theorem sameItems_g {S : List Snap} {H : List Chunk} {w : World} (ho : Own S H w) {x : Itm} (hx : x.ok) {p : Option Addr} {c : Nat} (hA : Bytes (keys H) w p x.letter.body c) {q : Option Addr} {d : Nat} (hV : Arr 65 vouchR (keys H) w q x.object.vouches d) {y : Itm} (hy : y.ok) {p2 : Option Addr} {c2 : Nat} (hB : Bytes (keys H) w p2 y.letter.body c2) {q2 : Option Addr} {d2 : Nat} (hU : Arr 65 vouchR (keys H) w q2 y.object.vouches d2) : Calls Try.prog 59 #[.agg (cat (itemV x p c q d)).toArray, .agg (cat (itemV y p2 c2 q2 d2)).toArray] w (Ret fun v w' => ∃ b : Bool, v = .bool b ∧ (b = true ↔ y = x) ∧ Own S H w') := by
 refine enter (G := Own (⟨w, keys H⟩ :: S) H) ho.keep Try.func59 rfl Try.ntmps59 rfl ?_
 refine VC.sr ?_
 refine VL.box (L := itemL) (ps := (itemV (x) p c q d)) rfl rfl (itemV_len hx) (fun g1 => ?_)
 refine VL.box (L := itemL) (ps := (itemV (y) p2 c2 q2 d2)) rfl rfl (itemV_len hy) (fun g2 => ?_)
 refine VL.assign rfl ?_
 refine VL.nn ?_
 refine VC.sr ?_
 refine VL.fieldAddr rfl fo87_0 rfl ?_
 refine VL.load (v := .int .u8 (x.kind)) 1 0 rfl kd5 (fun _ h => h) rfl rfl rfl ?_
 refine VL.fieldAddr rfl fo87_0 rfl ?_
 refine VL.load (v := .int .u8 (y.kind)) 0 0 rfl kd5 (fun _ h => h) rfl rfl rfl ?_
 refine VL.eql rfl rfl ?_
 refine VL.case (fun h1_4 => ?_) (fun h1_4 => ?_)
 ·have h1_4 : x.kind = y.kind := by omega
  refine VL.move rfl ?_
  refine VL.go rfl rfl rfl ?_
  refine VL.fieldAddr rfl fo87_1 rfl ?_
  refine VL.go rfl rfl rfl ?_
  refine VL.load (v := .int .u8 (x.asker)) 1 1 rfl kd5 (fun _ h => h) rfl rfl rfl ?_
  refine VL.go rfl rfl rfl ?_
  refine VL.fieldAddr rfl fo87_1 rfl ?_
  refine VL.go rfl rfl rfl ?_
  refine VL.load (v := .int .u8 (y.asker)) 0 1 rfl kd5 (fun _ h => h) rfl rfl rfl ?_
  refine VL.go rfl rfl rfl ?_
  refine VL.eql rfl rfl ?_
  refine VL.case (fun h1_10 => ?_) (fun h1_10 => ?_)
  ·have h1_10 : x.asker = y.asker := by omega
   refine VL.pick_t rfl rfl ?_
   refine VL.move rfl ?_
   refine VL.go rfl rfl rfl ?_
   refine VL.fieldAddr rfl fo87_2 rfl ?_
   refine VL.go rfl rfl rfl ?_
   refine VL.load (v := .int .u8 (x.peer)) 1 2 rfl kd5 (fun _ h => h) rfl rfl rfl ?_
   refine VL.go rfl rfl rfl ?_
   refine VL.fieldAddr rfl fo87_2 rfl ?_
   refine VL.go rfl rfl rfl ?_
   refine VL.load (v := .int .u8 (y.peer)) 0 2 rfl kd5 (fun _ h => h) rfl rfl rfl ?_
   refine VL.go rfl rfl rfl ?_
   refine VL.eql rfl rfl ?_
   refine VL.case (fun h1_17 => ?_) (fun h1_17 => ?_)
   ·have h1_17 : x.peer = y.peer := by omega
    refine VL.pick_t rfl rfl ?_
    refine VL.move rfl ?_
    refine VL.go rfl rfl rfl ?_
    refine VL.fieldAddr rfl fo87_3 rfl ?_
    refine VL.go rfl rfl rfl ?_
    refine VL.loads (cs := cat (letterV (x.letter) p c)) 1 3 12 rfl kd72 (fun _ h => h) rfl rfl rfl rfl ?_
    refine VL.go rfl rfl rfl ?_
    refine VL.fieldAddr rfl fo87_3 rfl ?_
    refine VL.go rfl rfl rfl ?_
    refine VL.loads (cs := cat (letterV (y.letter) p2 c2)) 0 3 12 rfl kd72 (fun _ h => h) rfl rfl rfl rfl ?_
    refine VL.go rfl rfl rfl ?_
    refine VL.call Try.func55 rfl (by decide) rfl (fun w' hw => sameLetters_g hw hx.letter (hA.nowA (s := ⟨w, _⟩) Mono.byte hw) hy.letter (hB.nowA (s := ⟨w, _⟩) Mono.byte hw)) (fun v => ?_)
    refine VL.ex fun b => VL.fact fun e => VL.fact fun h1_24 => ?_
    subst e
    cases b
    ·have h1_24 := mt h1_24.2 (by decide)
     refine VL.pick_t rfl rfl ?_
     refine VL.move rfl ?_
     refine VL.pass rfl rfl rfl rfl rfl ?_
     refine VL.pass rfl rfl rfl rfl rfl ?_
     refine VL.pass rfl rfl rfl rfl rfl ?_
     refine VL.pass rfl rfl rfl rfl rfl ?_
     refine VL.pass rfl rfl rfl rfl rfl ?_
     refine VL.pick_f rfl rfl ?_
     refine VL.move rfl ?_
     refine VL.pass rfl rfl rfl rfl rfl ?_
     refine VL.pass rfl rfl rfl rfl rfl ?_
     refine VL.pass rfl rfl rfl rfl rfl ?_
     refine VL.pass rfl rfl rfl rfl rfl ?_
     refine VL.pass rfl rfl rfl rfl rfl ?_
     refine VL.pick_f rfl rfl ?_
     refine VL.assign rfl ?_
     refine VL.nn ?_
     refine VC.ret ?_
     refine VX.ret1 rfl rfl (fun we hw => ?_)
     refine ⟨false, rfl, ?_, hw.drop.drop.subA⟩
     rw [item_iff]
     simp [h1_4, h1_10, h1_17, h1_24]
    ·have h1_24 := h1_24.1 rfl
     refine VL.pick_t rfl rfl ?_
     refine VL.move rfl ?_
     refine VL.go rfl rfl rfl ?_
     refine VL.fieldAddr rfl fo87_4 rfl ?_
     refine VL.go rfl rfl rfl ?_
     refine VL.loads (cs := cat (bundleV (x.bundle))) 1 15 6 rfl kd82 (fun _ h => h) rfl rfl rfl rfl ?_
     refine VL.go rfl rfl rfl ?_
     refine VL.fieldAddr rfl fo87_4 rfl ?_
     refine VL.go rfl rfl rfl ?_
     refine VL.loads (cs := cat (bundleV (y.bundle))) 0 15 6 rfl kd82 (fun _ h => h) rfl rfl rfl rfl ?_
     refine VL.go rfl rfl rfl ?_
     refine VL.eqT guard82 rfl rfl (eqBundle hx.bundle hy.bundle) (fun b h1_31 => ?_)
     cases b
     ·have h1_31 := mt h1_31.2 (by decide)
      refine VL.pick_t rfl rfl ?_
      refine VL.move rfl ?_
      refine VL.pass rfl rfl rfl rfl rfl ?_
      refine VL.pass rfl rfl rfl rfl rfl ?_
      refine VL.pass rfl rfl rfl rfl rfl ?_
      refine VL.pass rfl rfl rfl rfl rfl ?_
      refine VL.pass rfl rfl rfl rfl rfl ?_
      refine VL.pick_f rfl rfl ?_
      refine VL.assign rfl ?_
      refine VL.nn ?_
      refine VC.ret ?_
      refine VX.ret1 rfl rfl (fun we hw => ?_)
      refine ⟨false, rfl, ?_, hw.drop.drop.subA⟩
      rw [item_iff]
      simp [h1_4, h1_10, h1_17, h1_24, h1_31]
     ·have h1_31 := h1_31.1 rfl
      refine VL.pick_t rfl rfl ?_
      refine VL.move rfl ?_
      refine VL.go rfl rfl rfl ?_
      refine VL.fieldAddr rfl fo87_5 rfl ?_
      refine VL.go rfl rfl rfl ?_
      refine VL.loads (cs := cat (objectV (x.object) q d)) 1 21 7 rfl kd85 (fun _ h => h) rfl rfl rfl rfl ?_
      refine VL.go rfl rfl rfl ?_
      refine VL.fieldAddr rfl fo87_5 rfl ?_
      refine VL.go rfl rfl rfl ?_
      refine VL.loads (cs := cat (objectV (y.object) q2 d2)) 0 21 7 rfl kd85 (fun _ h => h) rfl rfl rfl rfl ?_
      refine VL.go rfl rfl rfl ?_
      refine VL.call Try.func72 rfl (by decide) rfl (fun w' hw => sameObjects_g hw hx.object (hV.nowA (s := ⟨w, _⟩) Mono_vouch hw) hy.object (hU.nowA (s := ⟨w, _⟩) Mono_vouch hw)) (fun v => ?_)
      refine VL.ex fun b => VL.fact fun e => VL.fact fun h1_38 => ?_
      subst e
      cases b
      ·have h1_38 := mt h1_38.2 (by decide)
       refine VL.pick_t rfl rfl ?_
       refine VL.assign rfl ?_
       refine VL.nn ?_
       refine VC.ret ?_
       refine VX.ret1 rfl rfl (fun we hw => ?_)
       refine ⟨false, rfl, ?_, hw.drop.drop.subA⟩
       rw [item_iff]
       simp [h1_4, h1_10, h1_17, h1_24, h1_31, h1_38]
      ·have h1_38 := h1_38.1 rfl
       refine VL.pick_t rfl rfl ?_
       refine VL.assign rfl ?_
       refine VL.nn ?_
       refine VC.ret ?_
       refine VX.ret1 rfl rfl (fun we hw => ?_)
       refine ⟨true, rfl, ?_, hw.drop.drop.subA⟩
       rw [item_iff]
       simp [h1_4, h1_10, h1_17, h1_24, h1_31, h1_38]
   ·have h1_17 : ¬ x.peer = y.peer := by omega
    refine VL.pick_t rfl rfl ?_
    refine VL.move rfl ?_
    refine VL.pass rfl rfl rfl rfl rfl ?_
    refine VL.pass rfl rfl rfl rfl rfl ?_
    refine VL.pass rfl rfl rfl rfl rfl ?_
    refine VL.pass rfl rfl rfl rfl rfl ?_
    refine VL.pass rfl rfl rfl rfl rfl ?_
    refine VL.pick_f rfl rfl ?_
    refine VL.move rfl ?_
    refine VL.pass rfl rfl rfl rfl rfl ?_
    refine VL.pass rfl rfl rfl rfl rfl ?_
    refine VL.pass rfl rfl rfl rfl rfl ?_
    refine VL.pass rfl rfl rfl rfl rfl ?_
    refine VL.pass rfl rfl rfl rfl rfl ?_
    refine VL.pick_f rfl rfl ?_
    refine VL.move rfl ?_
    refine VL.pass rfl rfl rfl rfl rfl ?_
    refine VL.pass rfl rfl rfl rfl rfl ?_
    refine VL.pass rfl rfl rfl rfl rfl ?_
    refine VL.pass rfl rfl rfl rfl rfl ?_
    refine VL.pass rfl rfl rfl rfl rfl ?_
    refine VL.pick_f rfl rfl ?_
    refine VL.assign rfl ?_
    refine VL.nn ?_
    refine VC.ret ?_
    refine VX.ret1 rfl rfl (fun we hw => ?_)
    refine ⟨false, rfl, ?_, hw.drop.drop.subA⟩
    rw [item_iff]
    simp [h1_4, h1_10, h1_17]
  ·have h1_10 : ¬ x.asker = y.asker := by omega
   refine VL.pick_t rfl rfl ?_
   refine VL.move rfl ?_
   refine VL.pass rfl rfl rfl rfl rfl ?_
   refine VL.pass rfl rfl rfl rfl rfl ?_
   refine VL.pass rfl rfl rfl rfl rfl ?_
   refine VL.pass rfl rfl rfl rfl rfl ?_
   refine VL.pass rfl rfl rfl rfl rfl ?_
   refine VL.pick_f rfl rfl ?_
   refine VL.move rfl ?_
   refine VL.pass rfl rfl rfl rfl rfl ?_
   refine VL.pass rfl rfl rfl rfl rfl ?_
   refine VL.pass rfl rfl rfl rfl rfl ?_
   refine VL.pass rfl rfl rfl rfl rfl ?_
   refine VL.pass rfl rfl rfl rfl rfl ?_
   refine VL.pick_f rfl rfl ?_
   refine VL.move rfl ?_
   refine VL.pass rfl rfl rfl rfl rfl ?_
   refine VL.pass rfl rfl rfl rfl rfl ?_
   refine VL.pass rfl rfl rfl rfl rfl ?_
   refine VL.pass rfl rfl rfl rfl rfl ?_
   refine VL.pass rfl rfl rfl rfl rfl ?_
   refine VL.pick_f rfl rfl ?_
   refine VL.move rfl ?_
   refine VL.pass rfl rfl rfl rfl rfl ?_
   refine VL.pass rfl rfl rfl rfl rfl ?_
   refine VL.pass rfl rfl rfl rfl rfl ?_
   refine VL.pass rfl rfl rfl rfl rfl ?_
   refine VL.pass rfl rfl rfl rfl rfl ?_
   refine VL.pick_f rfl rfl ?_
   refine VL.assign rfl ?_
   refine VL.nn ?_
   refine VC.ret ?_
   refine VX.ret1 rfl rfl (fun we hw => ?_)
   refine ⟨false, rfl, ?_, hw.drop.drop.subA⟩
   rw [item_iff]
   simp [h1_4, h1_10]
 ·have h1_4 : ¬ x.kind = y.kind := by omega
  refine VL.move rfl ?_
  refine VL.pass rfl rfl rfl rfl rfl ?_
  refine VL.pass rfl rfl rfl rfl rfl ?_
  refine VL.pass rfl rfl rfl rfl rfl ?_
  refine VL.pass rfl rfl rfl rfl rfl ?_
  refine VL.pass rfl rfl rfl rfl rfl ?_
  refine VL.pick_f rfl rfl ?_
  refine VL.move rfl ?_
  refine VL.pass rfl rfl rfl rfl rfl ?_
  refine VL.pass rfl rfl rfl rfl rfl ?_
  refine VL.pass rfl rfl rfl rfl rfl ?_
  refine VL.pass rfl rfl rfl rfl rfl ?_
  refine VL.pass rfl rfl rfl rfl rfl ?_
  refine VL.pick_f rfl rfl ?_
  refine VL.move rfl ?_
  refine VL.pass rfl rfl rfl rfl rfl ?_
  refine VL.pass rfl rfl rfl rfl rfl ?_
  refine VL.pass rfl rfl rfl rfl rfl ?_
  refine VL.pass rfl rfl rfl rfl rfl ?_
  refine VL.pass rfl rfl rfl rfl rfl ?_
  refine VL.pick_f rfl rfl ?_
  refine VL.move rfl ?_
  refine VL.pass rfl rfl rfl rfl rfl ?_
  refine VL.pass rfl rfl rfl rfl rfl ?_
  refine VL.pass rfl rfl rfl rfl rfl ?_
  refine VL.pass rfl rfl rfl rfl rfl ?_
  refine VL.pass rfl rfl rfl rfl rfl ?_
  refine VL.pick_f rfl rfl ?_
  refine VL.move rfl ?_
  refine VL.pass rfl rfl rfl rfl rfl ?_
  refine VL.pass rfl rfl rfl rfl rfl ?_
  refine VL.pass rfl rfl rfl rfl rfl ?_
  refine VL.pass rfl rfl rfl rfl rfl ?_
  refine VL.pass rfl rfl rfl rfl rfl ?_
  refine VL.pick_f rfl rfl ?_
  refine VL.assign rfl ?_
  refine VL.nn ?_
  refine VC.ret ?_
  refine VX.ret1 rfl rfl (fun we hw => ?_)
  refine ⟨false, rfl, ?_, hw.drop.drop.subA⟩
  rw [item_iff]
  simp [h1_4]

theorem refItem_w {S : List Snap} {H : List Chunk} {w : World} (ho : Own S H w) {x : Itm} (hx : x.ok) {p : Option Addr} {c : Nat} (hA : Bytes (keys H) w p x.letter.body c) {q : Option Addr} {d : Nat} (hV : Arr 65 vouchR (keys H) w q x.object.vouches d) : Calls Try.prog 57 #[.agg (cat (itemV x p c q d)).toArray] w (RetO S H (itemO x)) := by
 have hx1 := hx.kind
 have hx2 := hx.asker
 have hx3 := hx.peer
 refine enter (G := Own (⟨w, keys H⟩ :: S) H) ho.keep Try.func57 rfl Try.ntmps57 rfl ?_
 refine VC.sr ?_
 refine VL.box (L := itemL) (ps := (itemV (x) p c q d)) rfl rfl (itemV_len hx) (fun g1 => ?_)
 refine VL.assign rfl ?_
 refine VL.assign rfl ?_
 refine VL.nn ?_
 refine VC.sr ?_
 refine VL.fieldAddr rfl fo87_0 rfl ?_
 refine VL.load (v := .int .u8 (x.kind)) 0 0 rfl kd5 (fun _ h => h) rfl rfl rfl ?_
 refine VL.build (zs := itemZ) (L := itemFL) [(0, [.int .u8 (x.kind)])] plan87 rfl ⟨⟨rfl, ⟨_, rfl, rfl⟩, rfl⟩, trivial⟩ rfl ?_
 refine VL.newv (v' := .agg (cat (itemV ((Itm.mk x.kind 0 0 letter0 bundle0 object0)) none 0 none 0)).toArray) (by kernel_rfl) ?_
 refine VL.alloc (L := itemL) (ps := (itemV (item0) none 0 none 0)) zero87 rfl rfl (fun g2 => ?_)
 refine VL.store (L := itemL) (qs := (itemV ((Itm.mk x.kind 0 0 letter0 bundle0 object0)) none 0 none 0)) (ps' := (itemV ((Itm.mk x.kind 0 0 letter0 bundle0 object0)) none 0 none 0)) 0 0 28 rfl rfl rfl (.inl kd87) rfl rfl (itemV_len (⟨hx.kind, (show (0 : Nat) < 256 by decide), (show (0 : Nat) < 256 by decide), letter0_ok, bundle0_ok, object0_ok⟩ : Itm.ok (Itm.mk x.kind 0 0 letter0 bundle0 object0))) (itemV_ok1 ((Itm.mk x.kind 0 0 letter0 bundle0 object0)) none 0 none 0) rfl rfl ?_
 refine VL.set0 ?_
 refine VL.nn ?_
 refine VC.sr ?_
 refine VL.fieldAddr rfl fo87_0 rfl ?_
 refine VL.load (v := .int .u8 (x.kind)) 1 0 rfl kd5 (fun _ h => h) rfl rfl rfl ?_
 refine VL.litByte (m := x.kind) el24 rfl (by have hm := hx.kind; omega) (fun g3 w4 hO5 hA6 => ?_)
 refine VL.litB [be 1 (x.kind)] el31 rfl rfl rfl (by simp [Value.cells]) (by intro u hu; simp [Value.cells] at hu; rcases hu with rfl <;> rfl) rfl (fun _ w' hw => ⟨⟨_, _, rfl, (hA6.nowA (s := ⟨w4, _⟩) Mono.byte hw)⟩, trivial⟩) (fun v => ?_)
 refine VL.ex fun g7 => VL.fact fun e8 => ?_
 subst e8
 refine VL.assign rfl ?_
 refine VL.nn ?_
 refine VC.sr ?_
 refine VL.assign rfl ?_
 refine VL.nn ?_
 refine VC.sr ?_
 refine VL.assign rfl ?_
 refine VL.nn ?_
 refine VC.seq ?_
 refine VC.sr ?_
 refine VL.fieldAddr rfl fo87_0 rfl ?_
 refine VL.load (v := .int .u8 (x.kind)) 2 0 rfl kd5 (fun _ h => h) rfl rfl rfl ?_
 refine VL.nn ?_
 refine VC.block ?_
 refine VC.sr ?_
 refine VL.eql rfl rfl ?_
 refine VL.case (fun h7_0 => ?_) (fun h7_0 => ?_)
 ·have h7_0 : x.kind = 1 := by have h : ((x.kind : Nat) : Int) = 1 := h7_0; omega
  refine VL.assign rfl ?_
  refine VL.nn ?_
  refine VC.yes rfl ?_
  refine VC.sr ?_
  refine VL.fieldAddr rfl fo87_3 rfl ?_
  refine VL.loads (cs := cat (letterV (x.letter) p c)) 2 3 12 rfl kd72 (fun _ h => h) rfl rfl rfl rfl ?_
  refine VL.fieldAddr rfl fo87_3 rfl ?_
  refine VL.store (L := itemL) (qs := (letterV (x.letter) p c)) 1 3 12 rfl rfl rfl (.inl kd72) rfl rfl (letterV_len hx.letter) (letterV_ok1 (x.letter) p c) rfl rfl ?_
  refine VL.set1 ?_
  refine VL.nn ?_
  refine VC.sr ?_
  refine VL.fieldAddr rfl fo87_3 rfl ?_
  refine VL.loads (cs := cat (letterV (x.letter) p c)) 2 3 12 rfl kd72 (fun _ h => h) rfl rfl rfl rfl ?_
  refine VL.call Try.func51 rfl (by decide) rfl (fun w' hw => refLetter_w hw (x := x.letter) hx.letter (hA.nowA (s := ⟨w, _⟩) Mono.byte hw)) (fun v => ?_)
  refine VL.at (fun w9 h1w => ?_)
  obtain ⟨p10, c11, rfl, hO13, hA12⟩ := h1w
  refine VL.toOwn hO13 ?_
  refine VL.move rfl ?_
  refine VL.extract rfl rfl ?_
  refine VL.extract rfl rfl ?_
  refine VL.assign rfl ?_
  refine VL.assign rfl ?_
  refine VL.nn ?_
  refine VC.region ?_
  refine VL.move rfl ?_
  refine VL.move rfl ?_
  refine VL.lit el31 rfl rfl rfl (by simp [Value.cells]) (by intro u hu; simp [Value.cells] at hu; rcases hu with rfl <;> rfl) (fun g14 => ?_)
  refine VL.letRowS [((letterO (x.letter)).getD [])] rfl (fun w' hw => ⟨⟨_, _, rfl, (hA12.nowA (s := ⟨w9, _⟩) Mono.byte hw)⟩, trivial⟩) (fun w15 hO16 hA17 => ?_)
  refine VL.appends (R := bytesR) (hR := Mono.slice Mono.byte) (ys := [be 1 (x.kind)]) (zs := [((letterO (x.letter)).getD [])]) 0 el31 rfl rfl rfl (fun _ h => h) rfl (fun _ hw => (hA17.nowA (s := ⟨w15, _⟩) (Mono.slice Mono.byte) hw)) bytesR_ok1 (by simp only [List.length_append, List.length_cons, List.length_nil, List.length_map]; omega) (fun g18 c19 => ?_) (by simp only [List.length_append, List.length_cons, List.length_nil, List.length_map]; omega)
  refine VL.set0 ?_
  refine VL.assign rfl ?_
  refine VL.nil ?_
  refine VX.block_normal ?_
  refine VX.next ?_
  refine VC.seq ?_
  refine VC.sr ?_
  refine VL.move rfl ?_
  cases hs : (letterO x.letter).isSome
  ·refine VL.not rfl ?_
   refine VL.move rfl ?_
   refine VL.pass rfl rfl rfl rfl rfl ?_
   refine VL.pass rfl rfl rfl rfl rfl ?_
   refine VL.pass rfl rfl rfl rfl rfl ?_
   refine VL.pass rfl rfl rfl rfl rfl ?_
   refine VL.pick_t rfl rfl ?_
   refine VL.nn ?_
   refine VC.yes rfl ?_
   refine VC.sr ?_
   refine VL.assign rfl ?_
   refine VL.assign rfl ?_
   refine VL.nn ?_
   refine VC.ret ?_
   refine VX.then_ret ?_
   refine VX.ret2 rfl rfl rfl (fun we hw => ?_)
   exact postO ((item1_f h7_0 hs)) ⟨none, 0, rfl, hw.drop.drop.drop.subA, Arr.none⟩
  ·refine VL.not rfl ?_
   refine VL.move rfl ?_
   refine VL.go rfl rfl rfl ?_
   refine VL.loads (cs := cat (itemV (x) p c q d)) 2 0 28 rfl kd87 (fun _ h => h) rfl rfl rfl rfl ?_
   refine VL.go rfl rfl rfl ?_
   refine VL.loads (cs := cat (itemV ((Itm.mk x.kind 0 0 x.letter bundle0 object0)) p c none 0)) 1 0 28 rfl kd87 (fun _ h => h) rfl rfl rfl rfl ?_
   refine VL.go rfl rfl rfl ?_
   refine VL.call Try.func59 rfl (by decide) rfl (fun w' hw => sameItems_g hw hx (hA.nowA (s := ⟨w, _⟩) Mono.byte hw) (hV.nowA (s := ⟨w, _⟩) Mono_vouch hw) (⟨hx.kind, (show (0 : Nat) < 256 by decide), (show (0 : Nat) < 256 by decide), hx.letter, bundle0_ok, object0_ok⟩ : Itm.ok (Itm.mk x.kind 0 0 x.letter bundle0 object0)) (hA.nowA (s := ⟨w, _⟩) Mono.byte hw) Arr.none) (fun v => ?_)
   refine VL.ex fun b => VL.fact fun e => VL.fact fun h25_5 => ?_
   subst e
   cases b
   ·have h25_5 := mt h25_5.2 (by decide)
    refine VL.go rfl rfl rfl ?_
    refine VL.not rfl ?_
    refine VL.pick_f rfl rfl ?_
    refine VL.nn ?_
    refine VC.yes rfl ?_
    refine VC.sr ?_
    refine VL.assign rfl ?_
    refine VL.assign rfl ?_
    refine VL.nn ?_
    refine VC.ret ?_
    refine VX.then_ret ?_
    refine VX.ret2 rfl rfl rfl (fun we hw => ?_)
    exact postO ((item1_n h7_0 fun e => h25_5 (keep1.2 e))) ⟨none, 0, rfl, hw.drop.drop.drop.subA, Arr.none⟩
   ·have h25_5 := h25_5.1 rfl
    refine VL.go rfl rfl rfl ?_
    refine VL.not rfl ?_
    refine VL.pick_f rfl rfl ?_
    refine VL.nn ?_
    refine VC.no rfl ?_
    refine VC.skip ?_
    refine VX.next ?_
    refine VC.seq ?_
    refine VC.letArr (fun wr hOr hAr => ?_)
    refine VC.region ?_
    refine VL.move rfl ?_
    refine VL.call Try.func31 rfl (by decide) rfl (fun w' hw => join_O (ls := ([be 1 (x.kind)] ++ [((letterO (x.letter)).getD [])])) hw (hAr.nowA (s := ⟨wr, _⟩) (Mono.slice Mono.byte) hw)) (fun v => ?_)
    refine VL.at (fun w20 h1w => ?_)
    obtain ⟨p21, c22, rfl, hO24, hA23⟩ := h1w
    refine VL.toOwn hO24 ?_
    refine VL.extract rfl rfl ?_
    refine VL.extract rfl rfl ?_
    refine VL.assign rfl ?_
    refine VL.assign rfl ?_
    refine VL.nn ?_
    refine VC.ret ?_
    refine VX.ret2 rfl rfl rfl (fun we hw => ?_)
    exact postO ((show joinO ([be 1 (x.kind)] ++ [((letterO (x.letter)).getD [])]) true = itemO x from by rw [← item1_y h7_0 (keep1.1 h25_5)]; rw [hs]; rfl)) ⟨p21, c22, rfl, hw.drop.drop.subA, (hA23.nowA (s := ⟨w20, _⟩) Mono.byte hw.drop.drop)⟩
 ·have h7_0 : x.kind ≠ 1 := by have h : ¬ ((x.kind : Nat) : Int) = 1 := h7_0; omega
  refine VL.assign rfl ?_
  refine VL.nn ?_
  refine VC.no rfl ?_
  refine VC.seq ?_
  refine VC.sr ?_
  refine VL.eql rfl rfl ?_
  refine VL.case (fun h11_0 => ?_) (fun h11_0 => ?_)
  ·have h11_0 : x.kind = 2 := by have h : ((x.kind : Nat) : Int) = 2 := h11_0; omega
   refine VL.assign rfl ?_
   refine VL.nn ?_
   refine VC.yes rfl ?_
   refine VC.skip ?_
   refine VX.next ?_
   refine VC.yes rfl ?_
   refine VC.sr ?_
   refine VL.fieldAddr rfl fo87_1 rfl ?_
   refine VL.load (v := .int .u8 (x.asker)) 2 1 rfl kd5 (fun _ h => h) rfl rfl rfl ?_
   refine VL.fieldAddr rfl fo87_1 rfl ?_
   refine VL.store (L := itemL) (qs := [[.int .u8 (x.asker)]]) 1 1 1 rfl rfl rfl (.inr ⟨kd5, rfl⟩) rfl rfl rfl (by intro u hu; simp [cat] at hu; subst hu; rfl) rfl rfl ?_
   refine VL.set1 ?_
   refine VL.nn ?_
   refine VC.sr ?_
   refine VL.fieldAddr rfl fo87_2 rfl ?_
   refine VL.load (v := .int .u8 (x.peer)) 2 2 rfl kd5 (fun _ h => h) rfl rfl rfl ?_
   refine VL.fieldAddr rfl fo87_2 rfl ?_
   refine VL.store (L := itemL) (qs := [[.int .u8 (x.peer)]]) 1 2 1 rfl rfl rfl (.inr ⟨kd5, rfl⟩) rfl rfl rfl (by intro u hu; simp [cat] at hu; subst hu; rfl) rfl rfl ?_
   refine VL.set1 ?_
   refine VL.nn ?_
   refine VC.region ?_
   refine VL.move rfl ?_
   refine VL.fieldAddr rfl fo87_1 rfl ?_
   refine VL.load (v := .int .u8 (x.asker)) 2 1 rfl kd5 (fun _ h => h) rfl rfl rfl ?_
   refine VL.litByte (m := x.asker) el24 rfl (by have hm := hx.asker; omega) (fun g25 w26 hO27 hA28 => ?_)
   refine VL.fieldAddr rfl fo87_2 rfl ?_
   refine VL.load (v := .int .u8 (x.peer)) 2 2 rfl kd5 (fun _ h => h) rfl rfl rfl ?_
   refine VL.litByte (m := x.peer) el24 rfl (by have hm := hx.peer; omega) (fun g29 w30 hO31 hA32 => ?_)
   refine VL.lit el31 rfl rfl rfl (by simp [Value.cells]) (by intro u hu; simp [Value.cells] at hu; rcases hu with rfl | rfl <;> rfl) (fun g33 => ?_)
   refine VL.letRowS [be 1 (x.asker), be 1 (x.peer)] rfl (fun w' hw => ⟨⟨_, _, rfl, (hA28.nowA (s := ⟨w26, _⟩) Mono.byte hw)⟩, ⟨⟨_, _, rfl, (hA32.nowA (s := ⟨w30, _⟩) Mono.byte hw)⟩, trivial⟩⟩) (fun w34 hO35 hA36 => ?_)
   refine VL.appends (R := bytesR) (hR := Mono.slice Mono.byte) (ys := [be 1 (x.kind)]) (zs := [be 1 (x.asker), be 1 (x.peer)]) 0 el31 rfl rfl rfl (fun _ h => h) rfl (fun _ hw => (hA36.nowA (s := ⟨w34, _⟩) (Mono.slice Mono.byte) hw)) bytesR_ok1 (by simp only [List.length_append, List.length_cons, List.length_nil, List.length_map]; omega) (fun g37 c38 => ?_) (by simp only [List.length_append, List.length_cons, List.length_nil, List.length_map]; omega)
   refine VL.set0 ?_
   refine VL.assign rfl ?_
   refine VL.nil ?_
   refine VX.block_normal ?_
   refine VX.next ?_
   refine VC.seq ?_
   refine VC.sr ?_
   refine VL.move rfl ?_
   refine VL.not rfl ?_
   refine VL.move rfl ?_
   refine VL.go rfl rfl rfl ?_
   refine VL.loads (cs := cat (itemV (x) p c q d)) 2 0 28 rfl kd87 (fun _ h => h) rfl rfl rfl rfl ?_
   refine VL.go rfl rfl rfl ?_
   refine VL.loads (cs := cat (itemV ((Itm.mk x.kind x.asker x.peer letter0 bundle0 object0)) none 0 none 0)) 1 0 28 rfl kd87 (fun _ h => h) rfl rfl rfl rfl ?_
   refine VL.go rfl rfl rfl ?_
   refine VL.call Try.func59 rfl (by decide) rfl (fun w' hw => sameItems_g hw hx (hA.nowA (s := ⟨w, _⟩) Mono.byte hw) (hV.nowA (s := ⟨w, _⟩) Mono_vouch hw) (⟨hx.kind, hx.asker, hx.peer, letter0_ok, bundle0_ok, object0_ok⟩ : Itm.ok (Itm.mk x.kind x.asker x.peer letter0 bundle0 object0)) Arr.none Arr.none) (fun v => ?_)
   refine VL.ex fun b => VL.fact fun e => VL.fact fun h25_5 => ?_
   subst e
   cases b
   ·have h25_5 := mt h25_5.2 (by decide)
    refine VL.go rfl rfl rfl ?_
    refine VL.not rfl ?_
    refine VL.pick_f rfl rfl ?_
    refine VL.nn ?_
    refine VC.yes rfl ?_
    refine VC.sr ?_
    refine VL.assign rfl ?_
    refine VL.assign rfl ?_
    refine VL.nn ?_
    refine VC.ret ?_
    refine VX.then_ret ?_
    refine VX.ret2 rfl rfl rfl (fun we hw => ?_)
    exact postO ((item2_n (.inl h11_0) fun e => h25_5 (keep2.2 e))) ⟨none, 0, rfl, hw.drop.drop.drop.subA, Arr.none⟩
   ·have h25_5 := h25_5.1 rfl
    refine VL.go rfl rfl rfl ?_
    refine VL.not rfl ?_
    refine VL.pick_f rfl rfl ?_
    refine VL.nn ?_
    refine VC.no rfl ?_
    refine VC.skip ?_
    refine VX.next ?_
    refine VC.seq ?_
    refine VC.letArr (fun wr hOr hAr => ?_)
    refine VC.region ?_
    refine VL.move rfl ?_
    refine VL.call Try.func31 rfl (by decide) rfl (fun w' hw => join_O (ls := ([be 1 (x.kind)] ++ [be 1 (x.asker), be 1 (x.peer)])) hw (hAr.nowA (s := ⟨wr, _⟩) (Mono.slice Mono.byte) hw)) (fun v => ?_)
    refine VL.at (fun w39 h1w => ?_)
    obtain ⟨p40, c41, rfl, hO43, hA42⟩ := h1w
    refine VL.toOwn hO43 ?_
    refine VL.extract rfl rfl ?_
    refine VL.extract rfl rfl ?_
    refine VL.assign rfl ?_
    refine VL.assign rfl ?_
    refine VL.nn ?_
    refine VC.ret ?_
    refine VX.ret2 rfl rfl rfl (fun we hw => ?_)
    exact postO ((show joinO ([be 1 (x.kind)] ++ [be 1 (x.asker), be 1 (x.peer)]) true = itemO x from item2_y (.inl h11_0) (keep2.1 h25_5))) ⟨p40, c41, rfl, hw.drop.drop.subA, (hA42.nowA (s := ⟨w39, _⟩) Mono.byte hw.drop.drop)⟩
  ·have h11_0 : x.kind ≠ 2 := by have h : ¬ ((x.kind : Nat) : Int) = 2 := h11_0; omega
   refine VL.assign rfl ?_
   refine VL.nn ?_
   refine VC.no rfl ?_
   refine VC.region ?_
   refine VL.eql rfl rfl ?_
   refine VL.case (fun h12_0 => ?_) (fun h12_0 => ?_)
   ·have h12_0 : x.kind = 4 := by have h : ((x.kind : Nat) : Int) = 4 := h12_0; omega
    refine VL.assign rfl ?_
    refine VL.nn ?_
    refine VC.yes rfl ?_
    refine VC.sr ?_
    refine VL.fieldAddr rfl fo87_1 rfl ?_
    refine VL.load (v := .int .u8 (x.asker)) 2 1 rfl kd5 (fun _ h => h) rfl rfl rfl ?_
    refine VL.fieldAddr rfl fo87_1 rfl ?_
    refine VL.store (L := itemL) (qs := [[.int .u8 (x.asker)]]) 1 1 1 rfl rfl rfl (.inr ⟨kd5, rfl⟩) rfl rfl rfl (by intro u hu; simp [cat] at hu; subst hu; rfl) rfl rfl ?_
    refine VL.set1 ?_
    refine VL.nn ?_
    refine VC.sr ?_
    refine VL.fieldAddr rfl fo87_2 rfl ?_
    refine VL.load (v := .int .u8 (x.peer)) 2 2 rfl kd5 (fun _ h => h) rfl rfl rfl ?_
    refine VL.fieldAddr rfl fo87_2 rfl ?_
    refine VL.store (L := itemL) (qs := [[.int .u8 (x.peer)]]) 1 2 1 rfl rfl rfl (.inr ⟨kd5, rfl⟩) rfl rfl rfl (by intro u hu; simp [cat] at hu; subst hu; rfl) rfl rfl ?_
    refine VL.set1 ?_
    refine VL.nn ?_
    refine VC.region ?_
    refine VL.move rfl ?_
    refine VL.fieldAddr rfl fo87_1 rfl ?_
    refine VL.load (v := .int .u8 (x.asker)) 2 1 rfl kd5 (fun _ h => h) rfl rfl rfl ?_
    refine VL.litByte (m := x.asker) el24 rfl (by have hm := hx.asker; omega) (fun g44 w45 hO46 hA47 => ?_)
    refine VL.fieldAddr rfl fo87_2 rfl ?_
    refine VL.load (v := .int .u8 (x.peer)) 2 2 rfl kd5 (fun _ h => h) rfl rfl rfl ?_
    refine VL.litByte (m := x.peer) el24 rfl (by have hm := hx.peer; omega) (fun g48 w49 hO50 hA51 => ?_)
    refine VL.lit el31 rfl rfl rfl (by simp [Value.cells]) (by intro u hu; simp [Value.cells] at hu; rcases hu with rfl | rfl <;> rfl) (fun g52 => ?_)
    refine VL.letRowS [be 1 (x.asker), be 1 (x.peer)] rfl (fun w' hw => ⟨⟨_, _, rfl, (hA47.nowA (s := ⟨w45, _⟩) Mono.byte hw)⟩, ⟨⟨_, _, rfl, (hA51.nowA (s := ⟨w49, _⟩) Mono.byte hw)⟩, trivial⟩⟩) (fun w53 hO54 hA55 => ?_)
    refine VL.appends (R := bytesR) (hR := Mono.slice Mono.byte) (ys := [be 1 (x.kind)]) (zs := [be 1 (x.asker), be 1 (x.peer)]) 0 el31 rfl rfl rfl (fun _ h => h) rfl (fun _ hw => (hA55.nowA (s := ⟨w53, _⟩) (Mono.slice Mono.byte) hw)) bytesR_ok1 (by simp only [List.length_append, List.length_cons, List.length_nil, List.length_map]; omega) (fun g56 c57 => ?_) (by simp only [List.length_append, List.length_cons, List.length_nil, List.length_map]; omega)
    refine VL.set0 ?_
    refine VL.assign rfl ?_
    refine VL.nil ?_
    refine VX.block_normal ?_
    refine VX.next ?_
    refine VC.seq ?_
    refine VC.sr ?_
    refine VL.move rfl ?_
    refine VL.not rfl ?_
    refine VL.move rfl ?_
    refine VL.go rfl rfl rfl ?_
    refine VL.loads (cs := cat (itemV (x) p c q d)) 2 0 28 rfl kd87 (fun _ h => h) rfl rfl rfl rfl ?_
    refine VL.go rfl rfl rfl ?_
    refine VL.loads (cs := cat (itemV ((Itm.mk x.kind x.asker x.peer letter0 bundle0 object0)) none 0 none 0)) 1 0 28 rfl kd87 (fun _ h => h) rfl rfl rfl rfl ?_
    refine VL.go rfl rfl rfl ?_
    refine VL.call Try.func59 rfl (by decide) rfl (fun w' hw => sameItems_g hw hx (hA.nowA (s := ⟨w, _⟩) Mono.byte hw) (hV.nowA (s := ⟨w, _⟩) Mono_vouch hw) (⟨hx.kind, hx.asker, hx.peer, letter0_ok, bundle0_ok, object0_ok⟩ : Itm.ok (Itm.mk x.kind x.asker x.peer letter0 bundle0 object0)) Arr.none Arr.none) (fun v => ?_)
    refine VL.ex fun b => VL.fact fun e => VL.fact fun h25_5 => ?_
    subst e
    cases b
    ·have h25_5 := mt h25_5.2 (by decide)
     refine VL.go rfl rfl rfl ?_
     refine VL.not rfl ?_
     refine VL.pick_f rfl rfl ?_
     refine VL.nn ?_
     refine VC.yes rfl ?_
     refine VC.sr ?_
     refine VL.assign rfl ?_
     refine VL.assign rfl ?_
     refine VL.nn ?_
     refine VC.ret ?_
     refine VX.then_ret ?_
     refine VX.ret2 rfl rfl rfl (fun we hw => ?_)
     exact postO ((item2_n (.inr h12_0) fun e => h25_5 (keep2.2 e))) ⟨none, 0, rfl, hw.drop.drop.drop.subA, Arr.none⟩
    ·have h25_5 := h25_5.1 rfl
     refine VL.go rfl rfl rfl ?_
     refine VL.not rfl ?_
     refine VL.pick_f rfl rfl ?_
     refine VL.nn ?_
     refine VC.no rfl ?_
     refine VC.skip ?_
     refine VX.next ?_
     refine VC.seq ?_
     refine VC.letArr (fun wr hOr hAr => ?_)
     refine VC.region ?_
     refine VL.move rfl ?_
     refine VL.call Try.func31 rfl (by decide) rfl (fun w' hw => join_O (ls := ([be 1 (x.kind)] ++ [be 1 (x.asker), be 1 (x.peer)])) hw (hAr.nowA (s := ⟨wr, _⟩) (Mono.slice Mono.byte) hw)) (fun v => ?_)
     refine VL.at (fun w58 h1w => ?_)
     obtain ⟨p59, c60, rfl, hO62, hA61⟩ := h1w
     refine VL.toOwn hO62 ?_
     refine VL.extract rfl rfl ?_
     refine VL.extract rfl rfl ?_
     refine VL.assign rfl ?_
     refine VL.assign rfl ?_
     refine VL.nn ?_
     refine VC.ret ?_
     refine VX.ret2 rfl rfl rfl (fun we hw => ?_)
     exact postO ((show joinO ([be 1 (x.kind)] ++ [be 1 (x.asker), be 1 (x.peer)]) true = itemO x from item2_y (.inr h12_0) (keep2.1 h25_5))) ⟨p59, c60, rfl, hw.drop.drop.subA, (hA61.nowA (s := ⟨w58, _⟩) Mono.byte hw.drop.drop)⟩
   ·have h12_0 : x.kind ≠ 4 := by have h : ¬ ((x.kind : Nat) : Int) = 4 := h12_0; omega
    refine VL.assign rfl ?_
    refine VL.nn ?_
    refine VC.no rfl ?_
    refine VC.sr ?_
    refine VL.eql rfl rfl ?_
    refine VL.case (fun h16_0 => ?_) (fun h16_0 => ?_)
    ·have h16_0 : x.kind = 3 := by have h : ((x.kind : Nat) : Int) = 3 := h16_0; omega
     refine VL.assign rfl ?_
     refine VL.nn ?_
     refine VC.yes rfl ?_
     refine VC.sr ?_
     refine VL.fieldAddr rfl fo87_1 rfl ?_
     refine VL.load (v := .int .u8 (x.asker)) 2 1 rfl kd5 (fun _ h => h) rfl rfl rfl ?_
     refine VL.fieldAddr rfl fo87_1 rfl ?_
     refine VL.store (L := itemL) (qs := [[.int .u8 (x.asker)]]) 1 1 1 rfl rfl rfl (.inr ⟨kd5, rfl⟩) rfl rfl rfl (by intro u hu; simp [cat] at hu; subst hu; rfl) rfl rfl ?_
     refine VL.set1 ?_
     refine VL.nn ?_
     refine VC.sr ?_
     refine VL.fieldAddr rfl fo87_4 rfl ?_
     refine VL.loads (cs := cat (bundleV (x.bundle))) 2 15 6 rfl kd82 (fun _ h => h) rfl rfl rfl rfl ?_
     refine VL.fieldAddr rfl fo87_4 rfl ?_
     refine VL.store (L := itemL) (qs := (bundleV (x.bundle))) 1 15 6 rfl rfl rfl (.inl kd82) rfl rfl (bundleV_len hx.bundle) (bundleV_ok1 (x.bundle)) rfl rfl ?_
     refine VL.set1 ?_
     refine VL.nn ?_
     apply VC.anyTA 8 1010 (F := [eqF _, eqF _, eqF _, capF (be 1 (x.asker)) 1, eqF _, eqF _, bytesF (bundleB (x.bundle)), arrF 1 bytesR (Mono.slice Mono.byte) ([be 1 (x.asker), bundleB (x.bundle)])]) [⟨[], [5]⟩, ⟨[], [1]⟩, ⟨[(59, 1)], []⟩, ⟨[(60, 2)], []⟩, ⟨[], [1]⟩, ⟨[(62, 4)], []⟩, ⟨[(63, 5)], []⟩, ⟨[(61, 3), (64, 6)], []⟩] [(58, 0), (65, 7)] [0, 1, 2, 3, 4, 5, 6, 7, 8, 9, 10, 11, 12, 13, 14, 15, 16, 17, 18, 19, 20, 21, 22, 23, 24, 25, 26, 27, 28, 29, 30, 31, 32, 33, 34, 35, 36, 37, 38, 39, 40, 41, 42, 43, 44, 45, 46, 47, 48, 49, 50, 51, 52, 53, 54, 55, 56, 57, 66, 67, 68, 69, 70, 71, 72, 73, 74, 75, 76, 77, 78, 79, 80, 81, 82, 83, 84, 85, 86, 87, 88, 89, 90, 91, 92, 93, 94] rfl (by kernel_rfl) (by kernel_rfl) rfl rfl (by kernel_rfl) (by kernel_rfl) (by kernel_rfl) rfl ?obs19 ?end19
     case obs19 =>
      refine Obs.cons ?_ ?_
      ·refine obS (by kernel_rfl) rfl rfl (fun ph19 w19 hO19 => ?_)
       refine VL.move rfl ?_
       exact VL.finS hO19 rfl rfl
      refine Obs.cons ?_ ?_
      ·refine obS (by kernel_rfl) rfl rfl (fun ph19 w19 hO19 => ?_)
       refine VL.fieldAddr rfl fo87_1 rfl ?_
       exact VL.finS hO19 rfl rfl
      refine Obs.cons ?_ ?_
      ·refine ob (by kernel_rfl) rfl (by kernel_rfl) rfl (fun w19 hO19 => ?_)
       rintro _ rfl
       refine VL.load (v := .int .u8 (x.asker)) 2 1 rfl kd5 (fun _ e => e ▸ hO19) rfl rfl rfl ?_
       exact VL.finS hO19 rfl rfl
      refine Obs.cons ?_ ?_
      ·refine ob (by kernel_rfl) rfl (by kernel_rfl) rfl (fun w19 hO19 => ?_)
       rintro _ rfl
       refine VL.toOwn hO19 ?_
       refine VL.litByte (m := x.asker) el24 rfl (by have hm := hx.asker; omega) (fun g63 w64 hO65 hA66 => ?_)
       exact VL.finO rfl (fun _ h => h.subA) (fun _ h => ⟨_, rfl, (hA66.nowA (s := ⟨w64, _⟩) Mono.byte h)⟩)
      refine Obs.cons ?_ ?_
      ·refine obS (by kernel_rfl) rfl rfl (fun ph19 w19 hO19 => ?_)
       refine VL.fieldAddr rfl fo87_4 rfl ?_
       exact VL.finS hO19 rfl rfl
      refine Obs.cons ?_ ?_
      ·refine ob (by kernel_rfl) rfl (by kernel_rfl) rfl (fun w19 hO19 => ?_)
       rintro _ rfl
       refine VL.loads (cs := cat (bundleV (x.bundle))) 2 15 6 rfl kd82 (fun _ e => e ▸ hO19) rfl rfl rfl rfl ?_
       exact VL.finS hO19 rfl rfl
      refine Obs.cons ?_ ?_
      ·refine ob (by kernel_rfl) rfl (by kernel_rfl) rfl (fun w19 hO19 => ?_)
       rintro _ rfl
       refine VL.toOwn hO19 ?_
       refine VL.call Try.func62 rfl (by decide) rfl (fun w' hw => refBundle_w hw (x := x.bundle) hx.bundle) (fun v => ?_)
       refine VL.at (fun w67 h1w => ?_)
       obtain ⟨p68, c69, rfl, hO71, hA70⟩ := h1w
       refine VL.toOwn hO71 ?_
       exact VL.finO rfl (fun _ h => h.subA) (fun _ h => ⟨_, _, rfl, (hA70.nowA (s := ⟨w67, _⟩) Mono.byte h)⟩)
      refine Obs.cons ?_ ?_
      ·refine ob (by kernel_rfl) rfl (by kernel_rfl) rfl (fun w19 hO19 => ?_)
       rintro _ ⟨p19_3, rfl, hA19_3⟩ _ ⟨p19_6, c19_6, rfl, hA19_6⟩
       refine VL.toOwn hO19 ?_
       refine VL.lit el31 rfl rfl rfl (by simp [Value.cells]) (by intro u hu; simp [Value.cells] at hu; rcases hu with rfl | rfl <;> rfl) (fun g72 => ?_)
       refine VL.letRowS [be 1 (x.asker), bundleB (x.bundle)] rfl (fun w' hw => ⟨⟨_, _, rfl, (hA19_3.nowA (s := ⟨w19, _⟩) Mono.byte hw)⟩, ⟨⟨_, _, rfl, (hA19_6.nowA (s := ⟨w19, _⟩) Mono.byte hw)⟩, trivial⟩⟩) (fun w73 hO74 hA75 => ?_)
       exact VL.finO rfl (fun _ h => h.subA) (fun _ h => ⟨_, _, rfl, (hA75.nowA (s := ⟨w73, _⟩) (Mono.slice Mono.byte) h)⟩)
      exact Obs.nil
     case end19 =>
      intro w19 hO19
      rintro _ rfl _ ⟨p19_7, c19_7, rfl, hA19_7⟩
      refine VL.toOwn hO19 ?_
      refine VL.appends (R := bytesR) (hR := Mono.slice Mono.byte) (ys := [be 1 (x.kind)]) (zs := [be 1 (x.asker), bundleB (x.bundle)]) 0 el31 rfl rfl rfl (fun _ h => h) rfl (fun _ hw => (hA19_7.nowA (s := ⟨w19, _⟩) (Mono.slice Mono.byte) hw)) bytesR_ok1 (by simp only [List.length_append, List.length_cons, List.length_nil, List.length_map]; omega) (fun g76 c77 => ?_) (by simp only [List.length_append, List.length_cons, List.length_nil, List.length_map]; omega)
      refine VL.set0 ?_
      refine VL.assign rfl ?_
      refine VL.nil ?_
      refine VX.block_normal ?_
      refine VX.next ?_
      refine VC.seq ?_
      refine VC.sr ?_
      refine VL.move rfl ?_
      refine VL.not rfl ?_
      refine VL.move rfl ?_
      refine VL.go rfl rfl rfl ?_
      refine VL.loads (cs := cat (itemV (x) p c q d)) 2 0 28 rfl kd87 (fun _ h => h) rfl rfl rfl rfl ?_
      refine VL.go rfl rfl rfl ?_
      refine VL.loads (cs := cat (itemV ((Itm.mk x.kind x.asker 0 letter0 x.bundle object0)) none 0 none 0)) 1 0 28 rfl kd87 (fun _ h => h) rfl rfl rfl rfl ?_
      refine VL.go rfl rfl rfl ?_
      refine VL.call Try.func59 rfl (by decide) rfl (fun w' hw => sameItems_g hw hx (hA.nowA (s := ⟨w, _⟩) Mono.byte hw) (hV.nowA (s := ⟨w, _⟩) Mono_vouch hw) (⟨hx.kind, hx.asker, (show (0 : Nat) < 256 by decide), letter0_ok, hx.bundle, object0_ok⟩ : Itm.ok (Itm.mk x.kind x.asker 0 letter0 x.bundle object0)) Arr.none Arr.none) (fun v => ?_)
      refine VL.ex fun b => VL.fact fun e => VL.fact fun h25_5 => ?_
      subst e
      cases b
      ·have h25_5 := mt h25_5.2 (by decide)
       refine VL.go rfl rfl rfl ?_
       refine VL.not rfl ?_
       refine VL.pick_f rfl rfl ?_
       refine VL.nn ?_
       refine VC.yes rfl ?_
       refine VC.sr ?_
       refine VL.assign rfl ?_
       refine VL.assign rfl ?_
       refine VL.nn ?_
       refine VC.ret ?_
       refine VX.then_ret ?_
       refine VX.ret2 rfl rfl rfl (fun we hw => ?_)
       exact postO ((item3_n h16_0 fun e => h25_5 (keep3.2 e))) ⟨none, 0, rfl, hw.drop.drop.drop.subA, Arr.none⟩
      ·have h25_5 := h25_5.1 rfl
       refine VL.go rfl rfl rfl ?_
       refine VL.not rfl ?_
       refine VL.pick_f rfl rfl ?_
       refine VL.nn ?_
       refine VC.no rfl ?_
       refine VC.skip ?_
       refine VX.next ?_
       refine VC.seq ?_
       refine VC.letArr (fun wr hOr hAr => ?_)
       refine VC.region ?_
       refine VL.move rfl ?_
       refine VL.call Try.func31 rfl (by decide) rfl (fun w' hw => join_O (ls := ([be 1 (x.kind)] ++ [be 1 (x.asker), bundleB (x.bundle)])) hw (hAr.nowA (s := ⟨wr, _⟩) (Mono.slice Mono.byte) hw)) (fun v => ?_)
       refine VL.at (fun w78 h1w => ?_)
       obtain ⟨p79, c80, rfl, hO82, hA81⟩ := h1w
       refine VL.toOwn hO82 ?_
       refine VL.extract rfl rfl ?_
       refine VL.extract rfl rfl ?_
       refine VL.assign rfl ?_
       refine VL.assign rfl ?_
       refine VL.nn ?_
       refine VC.ret ?_
       refine VX.ret2 rfl rfl rfl (fun we hw => ?_)
       exact postO ((show joinO ([be 1 (x.kind)] ++ [be 1 (x.asker), bundleB (x.bundle)]) true = itemO x from item3_y h16_0 (keep3.1 h25_5))) ⟨p79, c80, rfl, hw.drop.drop.subA, (hA81.nowA (s := ⟨w78, _⟩) Mono.byte hw.drop.drop)⟩
    ·have h16_0 : x.kind ≠ 3 := by have h : ¬ ((x.kind : Nat) : Int) = 3 := h16_0; omega
     refine VL.assign rfl ?_
     refine VL.nn ?_
     refine VC.no rfl ?_
     refine VC.seq ?_
     refine VC.sr ?_
     refine VL.eql rfl rfl ?_
     refine VL.case (fun h20_0 => ?_) (fun h20_0 => ?_)
     ·have h20_0 : x.kind = 5 := by have h : ((x.kind : Nat) : Int) = 5 := h20_0; omega
      refine VL.assign rfl ?_
      refine VL.nn ?_
      refine VC.yes rfl ?_
      refine VC.skip ?_
      refine VX.next ?_
      refine VC.yes rfl ?_
      refine VC.sr ?_
      refine VL.fieldAddr rfl fo87_5 rfl ?_
      refine VL.loads (cs := cat (objectV (x.object) q d)) 2 21 7 rfl kd85 (fun _ h => h) rfl rfl rfl rfl ?_
      refine VL.fieldAddr rfl fo87_5 rfl ?_
      refine VL.store (L := itemL) (qs := (objectV (x.object) q d)) 1 21 7 rfl rfl rfl (.inl kd85) rfl rfl (objectV_len hx.object) (objectV_ok1 (x.object) q d) rfl rfl ?_
      refine VL.set1 ?_
      refine VL.nn ?_
      refine VC.sr ?_
      refine VL.fieldAddr rfl fo87_5 rfl ?_
      refine VL.loads (cs := cat (objectV (x.object) q d)) 2 21 7 rfl kd85 (fun _ h => h) rfl rfl rfl rfl ?_
      refine VL.call Try.func66 rfl (by decide) rfl (fun w' hw => refObject_w hw (x := x.object) hx.object (hV.nowA (s := ⟨w, _⟩) Mono_vouch hw)) (fun v => ?_)
      refine VL.at (fun w83 h1w => ?_)
      obtain ⟨p84, c85, rfl, hO87, hA86⟩ := h1w
      refine VL.toOwn hO87 ?_
      refine VL.move rfl ?_
      refine VL.extract rfl rfl ?_
      refine VL.extract rfl rfl ?_
      refine VL.assign rfl ?_
      refine VL.assign rfl ?_
      refine VL.nn ?_
      refine VC.region ?_
      refine VL.move rfl ?_
      refine VL.move rfl ?_
      refine VL.lit el31 rfl rfl rfl (by simp [Value.cells]) (by intro u hu; simp [Value.cells] at hu; rcases hu with rfl <;> rfl) (fun g88 => ?_)
      refine VL.letRowS [((objectO (x.object)).getD [])] rfl (fun w' hw => ⟨⟨_, _, rfl, (hA86.nowA (s := ⟨w83, _⟩) Mono.byte hw)⟩, trivial⟩) (fun w89 hO90 hA91 => ?_)
      refine VL.appends (R := bytesR) (hR := Mono.slice Mono.byte) (ys := [be 1 (x.kind)]) (zs := [((objectO (x.object)).getD [])]) 0 el31 rfl rfl rfl (fun _ h => h) rfl (fun _ hw => (hA91.nowA (s := ⟨w89, _⟩) (Mono.slice Mono.byte) hw)) bytesR_ok1 (by simp only [List.length_append, List.length_cons, List.length_nil, List.length_map]; omega) (fun g92 c93 => ?_) (by simp only [List.length_append, List.length_cons, List.length_nil, List.length_map]; omega)
      refine VL.set0 ?_
      refine VL.assign rfl ?_
      refine VL.nil ?_
      refine VX.block_normal ?_
      refine VX.next ?_
      refine VC.seq ?_
      refine VC.sr ?_
      refine VL.move rfl ?_
      cases hs : (objectO x.object).isSome
      ·refine VL.not rfl ?_
       refine VL.move rfl ?_
       refine VL.pass rfl rfl rfl rfl rfl ?_
       refine VL.pass rfl rfl rfl rfl rfl ?_
       refine VL.pass rfl rfl rfl rfl rfl ?_
       refine VL.pass rfl rfl rfl rfl rfl ?_
       refine VL.pick_t rfl rfl ?_
       refine VL.nn ?_
       refine VC.yes rfl ?_
       refine VC.sr ?_
       refine VL.assign rfl ?_
       refine VL.assign rfl ?_
       refine VL.nn ?_
       refine VC.ret ?_
       refine VX.then_ret ?_
       refine VX.ret2 rfl rfl rfl (fun we hw => ?_)
       exact postO ((item5_f (.inl h20_0) hs)) ⟨none, 0, rfl, hw.drop.drop.drop.subA, Arr.none⟩
      ·refine VL.not rfl ?_
       refine VL.move rfl ?_
       refine VL.go rfl rfl rfl ?_
       refine VL.loads (cs := cat (itemV (x) p c q d)) 2 0 28 rfl kd87 (fun _ h => h) rfl rfl rfl rfl ?_
       refine VL.go rfl rfl rfl ?_
       refine VL.loads (cs := cat (itemV ((Itm.mk x.kind 0 0 letter0 bundle0 x.object)) none 0 q d)) 1 0 28 rfl kd87 (fun _ h => h) rfl rfl rfl rfl ?_
       refine VL.go rfl rfl rfl ?_
       refine VL.call Try.func59 rfl (by decide) rfl (fun w' hw => sameItems_g hw hx (hA.nowA (s := ⟨w, _⟩) Mono.byte hw) (hV.nowA (s := ⟨w, _⟩) Mono_vouch hw) (⟨hx.kind, (show (0 : Nat) < 256 by decide), (show (0 : Nat) < 256 by decide), letter0_ok, bundle0_ok, hx.object⟩ : Itm.ok (Itm.mk x.kind 0 0 letter0 bundle0 x.object)) Arr.none (hV.nowA (s := ⟨w, _⟩) Mono_vouch hw)) (fun v => ?_)
       refine VL.ex fun b => VL.fact fun e => VL.fact fun h25_5 => ?_
       subst e
       cases b
       ·have h25_5 := mt h25_5.2 (by decide)
        refine VL.go rfl rfl rfl ?_
        refine VL.not rfl ?_
        refine VL.pick_f rfl rfl ?_
        refine VL.nn ?_
        refine VC.yes rfl ?_
        refine VC.sr ?_
        refine VL.assign rfl ?_
        refine VL.assign rfl ?_
        refine VL.nn ?_
        refine VC.ret ?_
        refine VX.then_ret ?_
        refine VX.ret2 rfl rfl rfl (fun we hw => ?_)
        exact postO ((item5_n (.inl h20_0) fun e => h25_5 (keep5.2 e))) ⟨none, 0, rfl, hw.drop.drop.drop.subA, Arr.none⟩
       ·have h25_5 := h25_5.1 rfl
        refine VL.go rfl rfl rfl ?_
        refine VL.not rfl ?_
        refine VL.pick_f rfl rfl ?_
        refine VL.nn ?_
        refine VC.no rfl ?_
        refine VC.skip ?_
        refine VX.next ?_
        refine VC.seq ?_
        refine VC.letArr (fun wr hOr hAr => ?_)
        refine VC.region ?_
        refine VL.move rfl ?_
        refine VL.call Try.func31 rfl (by decide) rfl (fun w' hw => join_O (ls := ([be 1 (x.kind)] ++ [((objectO (x.object)).getD [])])) hw (hAr.nowA (s := ⟨wr, _⟩) (Mono.slice Mono.byte) hw)) (fun v => ?_)
        refine VL.at (fun w94 h1w => ?_)
        obtain ⟨p95, c96, rfl, hO98, hA97⟩ := h1w
        refine VL.toOwn hO98 ?_
        refine VL.extract rfl rfl ?_
        refine VL.extract rfl rfl ?_
        refine VL.assign rfl ?_
        refine VL.assign rfl ?_
        refine VL.nn ?_
        refine VC.ret ?_
        refine VX.ret2 rfl rfl rfl (fun we hw => ?_)
        exact postO ((show joinO ([be 1 (x.kind)] ++ [((objectO (x.object)).getD [])]) true = itemO x from by rw [← item5_y (.inl h20_0) (keep5.1 h25_5)]; rw [hs]; rfl)) ⟨p95, c96, rfl, hw.drop.drop.subA, (hA97.nowA (s := ⟨w94, _⟩) Mono.byte hw.drop.drop)⟩
     ·have h20_0 : x.kind ≠ 5 := by have h : ¬ ((x.kind : Nat) : Int) = 5 := h20_0; omega
      refine VL.assign rfl ?_
      refine VL.nn ?_
      refine VC.no rfl ?_
      refine VC.region ?_
      refine VL.eql rfl rfl ?_
      refine VL.case (fun h21_0 => ?_) (fun h21_0 => ?_)
      ·have h21_0 : x.kind = 6 := by have h : ((x.kind : Nat) : Int) = 6 := h21_0; omega
       refine VL.assign rfl ?_
       refine VL.nn ?_
       refine VC.yes rfl ?_
       refine VC.sr ?_
       refine VL.fieldAddr rfl fo87_5 rfl ?_
       refine VL.loads (cs := cat (objectV (x.object) q d)) 2 21 7 rfl kd85 (fun _ h => h) rfl rfl rfl rfl ?_
       refine VL.fieldAddr rfl fo87_5 rfl ?_
       refine VL.store (L := itemL) (qs := (objectV (x.object) q d)) 1 21 7 rfl rfl rfl (.inl kd85) rfl rfl (objectV_len hx.object) (objectV_ok1 (x.object) q d) rfl rfl ?_
       refine VL.set1 ?_
       refine VL.nn ?_
       refine VC.sr ?_
       refine VL.fieldAddr rfl fo87_5 rfl ?_
       refine VL.loads (cs := cat (objectV (x.object) q d)) 2 21 7 rfl kd85 (fun _ h => h) rfl rfl rfl rfl ?_
       refine VL.call Try.func66 rfl (by decide) rfl (fun w' hw => refObject_w hw (x := x.object) hx.object (hV.nowA (s := ⟨w, _⟩) Mono_vouch hw)) (fun v => ?_)
       refine VL.at (fun w99 h1w => ?_)
       obtain ⟨p100, c101, rfl, hO103, hA102⟩ := h1w
       refine VL.toOwn hO103 ?_
       refine VL.move rfl ?_
       refine VL.extract rfl rfl ?_
       refine VL.extract rfl rfl ?_
       refine VL.assign rfl ?_
       refine VL.assign rfl ?_
       refine VL.nn ?_
       refine VC.region ?_
       refine VL.move rfl ?_
       refine VL.move rfl ?_
       refine VL.lit el31 rfl rfl rfl (by simp [Value.cells]) (by intro u hu; simp [Value.cells] at hu; rcases hu with rfl <;> rfl) (fun g104 => ?_)
       refine VL.letRowS [((objectO (x.object)).getD [])] rfl (fun w' hw => ⟨⟨_, _, rfl, (hA102.nowA (s := ⟨w99, _⟩) Mono.byte hw)⟩, trivial⟩) (fun w105 hO106 hA107 => ?_)
       refine VL.appends (R := bytesR) (hR := Mono.slice Mono.byte) (ys := [be 1 (x.kind)]) (zs := [((objectO (x.object)).getD [])]) 0 el31 rfl rfl rfl (fun _ h => h) rfl (fun _ hw => (hA107.nowA (s := ⟨w105, _⟩) (Mono.slice Mono.byte) hw)) bytesR_ok1 (by simp only [List.length_append, List.length_cons, List.length_nil, List.length_map]; omega) (fun g108 c109 => ?_) (by simp only [List.length_append, List.length_cons, List.length_nil, List.length_map]; omega)
       refine VL.set0 ?_
       refine VL.assign rfl ?_
       refine VL.nil ?_
       refine VX.block_normal ?_
       refine VX.next ?_
       refine VC.seq ?_
       refine VC.sr ?_
       refine VL.move rfl ?_
       cases hs : (objectO x.object).isSome
       ·refine VL.not rfl ?_
        refine VL.move rfl ?_
        refine VL.pass rfl rfl rfl rfl rfl ?_
        refine VL.pass rfl rfl rfl rfl rfl ?_
        refine VL.pass rfl rfl rfl rfl rfl ?_
        refine VL.pass rfl rfl rfl rfl rfl ?_
        refine VL.pick_t rfl rfl ?_
        refine VL.nn ?_
        refine VC.yes rfl ?_
        refine VC.sr ?_
        refine VL.assign rfl ?_
        refine VL.assign rfl ?_
        refine VL.nn ?_
        refine VC.ret ?_
        refine VX.then_ret ?_
        refine VX.ret2 rfl rfl rfl (fun we hw => ?_)
        exact postO ((item5_f (.inr h21_0) hs)) ⟨none, 0, rfl, hw.drop.drop.drop.subA, Arr.none⟩
       ·refine VL.not rfl ?_
        refine VL.move rfl ?_
        refine VL.go rfl rfl rfl ?_
        refine VL.loads (cs := cat (itemV (x) p c q d)) 2 0 28 rfl kd87 (fun _ h => h) rfl rfl rfl rfl ?_
        refine VL.go rfl rfl rfl ?_
        refine VL.loads (cs := cat (itemV ((Itm.mk x.kind 0 0 letter0 bundle0 x.object)) none 0 q d)) 1 0 28 rfl kd87 (fun _ h => h) rfl rfl rfl rfl ?_
        refine VL.go rfl rfl rfl ?_
        refine VL.call Try.func59 rfl (by decide) rfl (fun w' hw => sameItems_g hw hx (hA.nowA (s := ⟨w, _⟩) Mono.byte hw) (hV.nowA (s := ⟨w, _⟩) Mono_vouch hw) (⟨hx.kind, (show (0 : Nat) < 256 by decide), (show (0 : Nat) < 256 by decide), letter0_ok, bundle0_ok, hx.object⟩ : Itm.ok (Itm.mk x.kind 0 0 letter0 bundle0 x.object)) Arr.none (hV.nowA (s := ⟨w, _⟩) Mono_vouch hw)) (fun v => ?_)
        refine VL.ex fun b => VL.fact fun e => VL.fact fun h25_5 => ?_
        subst e
        cases b
        ·have h25_5 := mt h25_5.2 (by decide)
         refine VL.go rfl rfl rfl ?_
         refine VL.not rfl ?_
         refine VL.pick_f rfl rfl ?_
         refine VL.nn ?_
         refine VC.yes rfl ?_
         refine VC.sr ?_
         refine VL.assign rfl ?_
         refine VL.assign rfl ?_
         refine VL.nn ?_
         refine VC.ret ?_
         refine VX.then_ret ?_
         refine VX.ret2 rfl rfl rfl (fun we hw => ?_)
         exact postO ((item5_n (.inr h21_0) fun e => h25_5 (keep5.2 e))) ⟨none, 0, rfl, hw.drop.drop.drop.subA, Arr.none⟩
        ·have h25_5 := h25_5.1 rfl
         refine VL.go rfl rfl rfl ?_
         refine VL.not rfl ?_
         refine VL.pick_f rfl rfl ?_
         refine VL.nn ?_
         refine VC.no rfl ?_
         refine VC.skip ?_
         refine VX.next ?_
         refine VC.seq ?_
         refine VC.letArr (fun wr hOr hAr => ?_)
         refine VC.region ?_
         refine VL.move rfl ?_
         refine VL.call Try.func31 rfl (by decide) rfl (fun w' hw => join_O (ls := ([be 1 (x.kind)] ++ [((objectO (x.object)).getD [])])) hw (hAr.nowA (s := ⟨wr, _⟩) (Mono.slice Mono.byte) hw)) (fun v => ?_)
         refine VL.at (fun w110 h1w => ?_)
         obtain ⟨p111, c112, rfl, hO114, hA113⟩ := h1w
         refine VL.toOwn hO114 ?_
         refine VL.extract rfl rfl ?_
         refine VL.extract rfl rfl ?_
         refine VL.assign rfl ?_
         refine VL.assign rfl ?_
         refine VL.nn ?_
         refine VC.ret ?_
         refine VX.ret2 rfl rfl rfl (fun we hw => ?_)
         exact postO ((show joinO ([be 1 (x.kind)] ++ [((objectO (x.object)).getD [])]) true = itemO x from by rw [← item5_y (.inr h21_0) (keep5.1 h25_5)]; rw [hs]; rfl)) ⟨p111, c112, rfl, hw.drop.drop.subA, (hA113.nowA (s := ⟨w110, _⟩) Mono.byte hw.drop.drop)⟩
      ·have h21_0 : x.kind ≠ 6 := by have h : ¬ ((x.kind : Nat) : Int) = 6 := h21_0; omega
       refine VL.assign rfl ?_
       refine VL.nn ?_
       refine VC.no rfl ?_
       refine VC.sr ?_
       refine VL.assign rfl ?_
       refine VL.assign rfl ?_
       refine VL.nn ?_
       refine VC.ret ?_
       refine VX.block_ret ?_
       refine VX.then_ret ?_
       refine VX.ret2 rfl rfl rfl (fun we hw => ?_)
       exact postO ((item0_n h7_0 h11_0 h16_0 h12_0 h20_0 h21_0)) ⟨none, 0, rfl, hw.drop.drop.drop.subA, Arr.none⟩

theorem sameItems_e {S : List Snap} {H : List Chunk} {w : World} (ho : Own S H w) {x y : Itm} (hx : x.ok) {p : Option Addr} {c : Nat} (hA : Bytes (keys H) w p x.letter.body c) {q : Option Addr} {d : Nat} (hV : Arr 65 vouchR (keys H) w q x.object.vouches d) {p2 : Option Addr} {c2 : Nat} (hB : Bytes (keys H) w p2 y.letter.body c2) {q2 : Option Addr} {d2 : Nat} (hU : Arr 65 vouchR (keys H) w q2 y.object.vouches d2) (e : y = x) : Calls Try.prog 59 #[.agg (cat (itemV x p c q d)).toArray, .agg (cat (itemV y p2 c2 q2 d2)).toArray] w (Ret fun v w' => v = .bool true ∧ Own S H w') :=
 calls_mono (sameItems_g ho hx hA hV (e ▸ hx) hB hU) fun v w' ⟨b, h1, h2, h3⟩ => ⟨by rw [h1, h2.2 e], h3⟩

end Go.Proofs.Ytcfecmoagfgnaaa

/- A region whose order is open, in which a text's bytes are marked. -/
namespace Go.Vc
open Go.Proofs.Ytcfecmoagfgnaaa
section
variable {P : Program} {n : Nat} {Q : Exit → Act → World → Prop} {ops : Array Oper} {S : List Snap} {H : List Chunk}

/-- Memory that nobody owns stays, but for what is marked behind a row. -/
def Marked (K : List Nat) (w w' : World) : Prop :=
  w'.os = w.os ∧ w'.tape = w.tape ∧ w'.output = w.output ∧ w.heap.size ≤ w'.heap.size ∧ ∀ k, k < w.heap.size → k ∉ K → w'.heap[k]? = w.heap[k]? ∨ ∃ cs e fr fr', w.heap[k]? = some (.cells cs e fr) ∧ w'.heap[k]? = some (.cells cs e fr')
theorem Marked.of {K : List Nat} {w w' : World} (h : Snap.ok ⟨w, K⟩ w') : Marked K w w' := ⟨h.os, h.tape, h.output, h.size, fun k a b => .inl (h.block k a b)⟩
theorem Arr.marked {X : Type} {R : Rel X} {sz : Nat} {K : List Nat} {w w' : World} {p : Option Addr} {xs : List X} {c : Nat} (h : Arr sz R K w p xs c) (hm : Marked K w w') (hR : ∀ vs x, R K w vs x → R K w' vs x) : Arr sz R K w' p xs c :=
 ⟨h.le, h.cap, h.nil, fun a ea hc => by
  obtain ⟨h1, h2, h3, cs, el, fr, hg, hx⟩ := h.at_ a ea hc
  obtain ⟨_, _, _, hsz, hb⟩ := hm
  rcases hb a.block h3 h2 with e | ⟨cs', e', fr', fr'', e1, e2⟩
  ·exact ⟨h1, h2, by omega, cs, el, fr, by rw [e]; exact hg, fun j x hj => (hx j x hj).elim fun vs ⟨a1, a2, a3⟩ => ⟨vs, a1, hR vs x a2, a3⟩⟩
  ·rw [hg] at e1
   cases e1
   exact ⟨h1, h2, by omega, cs, el, fr'', e2, fun j x hj => (hx j x hj).elim fun vs ⟨a1, a2, a3⟩ => ⟨vs, a1, hR vs x a2, a3⟩⟩⟩
def Lasts {K : List Nat} (f : SFact K) : Prop := ∀ v w w', Marked K w w' → f.f v w → f.f v w'
def AllLast {K : List Nat} : List (SFact K) → Prop
  | [] => True
  | f :: r => Lasts f ∧ AllLast r
theorem AllLast.get {K : List Nat} : ∀ {F : List (SFact K)}, AllLast F → ∀ (i : Nat) (f : SFact K), F[i]? = some f → Lasts f
 | [], _, i, f, h => by simp at h
 | g :: r, ⟨h1, h2⟩, i, f, h => by
  cases i with
  | zero => simp at h; subst h; exact h1
  | succ i => exact AllLast.get h2 i f (by simpa using h)

/-- A chunk that says nothing of other memory. -/
def Solid (c : Chunk) : Prop := ∀ K w w', (∀ k ∈ c.ks, w'.heap[k]? = w.heap[k]?) → c.φ K w → c.φ K w'
theorem Own.mark {w w' : World} {g : Nat} (h : Own S H w) (hs : ∀ c ∈ H, Solid c) (hgk : g ∉ keys H) (hn : ∀ s ∈ S, g ∈ s.K ∨ s.w.heap.size ≤ g) (h1 : w'.os = w.os) (h2 : w'.tape = w.tape) (h3 : w'.output = w.output) (h4 : w'.heap.size = w.heap.size) (h5 : ∀ k, k ≠ g → w'.heap[k]? = w.heap[k]?) : Own S H w' := by
 refine ⟨h.nodup, fun k hk => by rw [h4]; exact h.lt k hk, fun c hc => hs c hc _ w w' (fun k hk => h5 k fun e => hgk (by subst e; exact List.mem_flatMap.2 ⟨c, hc, hk⟩)) (h.holds c hc), fun s hsm => ?_⟩
 obtain ⟨a, b⟩ := h.snap s hsm
 refine ⟨⟨h1.trans a.os, h2.trans a.tape, h3.trans a.output, by rw [h4]; exact a.size, fun k hk hk2 => ?_⟩, b⟩
 rw [h5 k ?_]
 ·exact a.block k hk hk2
 ·rintro rfl
  rcases hn s hsm with e | e
  ·exact hk2 e
  ·omega
end
end Go.Vc

/- The rules of the walks, continued: in a region whose order is open, an operation without a result turns what is owned. -/
namespace Go.Vc
open Go.Proofs.Ytcfecmoagfgnaaa
section
variable {P : Program} {n : Nat} {Q : Exit → Act → World → Prop} {ops : Array Oper} {S : List Snap} {H H' : List Chunk}
/-- What is owned, ahead of that operation and behind it. -/
def JL (S : List Snap) (H H' : List Chunk) : Bool → World → Prop
  | false, w => Own S H w
  | true, w => Own S H' w
theorem JL.ok {ph : Bool} {w : World} (h : JL S H H' ph w) {s : Snap} (hs : s ∈ S) : s.ok w := by
 cases ph with
 | false => exact (Own.snap h s hs).1
 | true => exact (Own.snap h s hs).1
theorem obSL {kk : Nat} {F : List (SFact (keys H))} {σ : Sl} {i : Nat} {I : Ins} {o : Oper} (hok : insOk ops i I = true) (hn : decide ((I.pre.map (·.1)).Nodup) = true) (hk : Nat.beq i kk = false)
  (h : ∀ ph w0, JL S H H' ph w0 → EachV F w0 I.pre [] (fun τ => VL P n ops (Post n Q (JL S H H') (Turn (keys H)) (factOf (F.map (·.f)) i) o.dst ph ph w0) [o] (τ ++ only σ I.bas) (fun w => w = w0))) :
  Ob P n ops Q (JL S H H') (Turn (keys H)) kk (F.map (·.f)) σ i I o :=
 ⟨hok, fun ph w0 vals hJ _ _ _ _ hF => by
  have h1 := EachV.spec I.pre [] _ (h ph w0 hJ) hF
  intro a w ha hw
  have h2 := h1 a w (ha.back (of_decide_eq_true hn)) hw
  have e : (ph || Nat.beq i kk) = ph := by rw [hk, Bool.or_false]
  rw [e]
  exact h2⟩
theorem obL {kk : Nat} {F : List (SFact (keys H))} {σ : Sl} {i : Nat} {I : Ins} {o : Oper} (hok : insOk ops i I = true) (hn : decide ((I.pre.map (·.1)).Nodup) = true)
  (hk : (match ops[kk]? with | none => false | some p => !waits p i) = false) (hki : Nat.beq i kk = false)
  (h : ∀ w0, Own S H w0 → EachV F w0 I.pre [] (fun τ => VL P n ops (Post n Q (JL S H H') (Turn (keys H)) (factOf (F.map (·.f)) i) o.dst false false w0) [o] (τ ++ only σ I.bas) (fun w => w = w0))) :
  Ob P n ops Q (JL S H H') (Turn (keys H)) kk (F.map (·.f)) σ i I o :=
 ⟨hok, fun ph w0 vals hJ _ h2 h3 _ hF => by
  have hp : ph = false := by
   cases hkk : ops[kk]? with
   | none => exact h3 hkk
   | some p => rw [hkk] at hk; exact h2 p hkk (by simpa using hk)
  subst hp
  have h1 := EachV.spec I.pre [] _ (h w0 hJ) hF
  intro a w ha hw
  have h2 := h1 a w (ha.back (of_decide_eq_true hn)) hw
  rw [hki]
  exact h2⟩
theorem obKL {kk : Nat} {F : List (SFact (keys H))} {σ : Sl} {I : Ins} {o : Oper} (hok : insOk ops kk I = true) (hn : decide ((I.pre.map (·.1)).Nodup) = true)
  (h : ∀ w0, Own S H w0 → EachV F w0 I.pre [] (fun τ => VL P n ops (Post n Q (JL S H H') (Turn (keys H)) (factOf (F.map (·.f)) kk) o.dst false true w0) [o] (τ ++ only σ I.bas) (fun w => w = w0))) :
  Ob P n ops Q (JL S H H') (Turn (keys H)) kk (F.map (·.f)) σ kk I o :=
 ⟨hok, fun ph w0 vals hJ h1 _ _ _ hF => by
  have hp : ph = false := h1 rfl
  subst hp
  have h1 := EachV.spec I.pre [] _ (h w0 hJ) hF
  intro a w ha hw
  have h2 := h1 a w (ha.back (of_decide_eq_true hn)) hw
  rw [Nat.beq_refl]
  exact h2⟩
theorem VL.finSL {f : Fact} {d : Nat} {ph : Bool} {w0 : World} {σ : Sl} {v : Value} (hO : JL S H H' ph w0) (hv : look σ d = some v) (h : f v w0) :
  VL P n ops (Post n Q (JL S H H') (Turn (keys H)) f (some d) ph ph w0) [] σ (fun w => w = w0) :=
 VL.fin hv fun w e => by subst e; exact ⟨h, Turn.rfl_, hO⟩
theorem VL.finOL {f : Fact} {d : Nat} {w0 : World} {σ : Sl} {v : Value} (hv : look σ d = some v) {G : World → Prop} (hG : ∀ w, G w → Own (⟨w0, keys H⟩ :: S) H w) (h : ∀ w, G w → f v w) :
  VL P n ops (Post n Q (JL S H H') (Turn (keys H)) f (some d) false false w0) [] σ G :=
 VL.fin hv fun w hw => ⟨h w hw, ((hG w hw).after (List.mem_cons_self ..)).1, (hG w hw).lose⟩
theorem VL.finKL0 {f : Fact} {w0 : World} {σ : Sl} {G : World → Prop} (hG : ∀ w, G w → Own (⟨w0, keys H⟩ :: S) H' w) (h : ∀ w, G w → f undef w) :
  VL P n ops (Post n Q (JL S H H') (Turn (keys H)) f none false true w0) [] σ G :=
 VL.fin0 fun w hw => ⟨h w hw, ((hG w hw).after (List.mem_cons_self ..)).1, (hG w hw).lose⟩
theorem VC.anyTL {id : Nat} {l : List Oper} {σ : Sl} (H' : List Chunk) (m kk : Nat) (F : List (SFact (keys H))) (Is : List Ins) (outs : List (Nat × Nat)) (bas : List Nat)
  (hmix : P.follows .mixedOrders = true) (hp : plainRegion l.toArray = true) (htl : tailed l.toArray m = true) (hkm : Nat.blt kk m = true) (hml : Nat.ble m l.length = true)
  (hlate : (F.zipIdx.all fun (f, i) => !f.late || Nat.beq i kk || match l[i]? with | some o => waits o kk | none => true) = true)
  (houts : outs.all (fun (d, j) => Nat.blt j m && match l[j]? with | some p => (match p.dst with | some d' => Nat.beq d d' | none => false) | none => false) = true)
  (hbas : bas.all (fun t => (l.take m).all fun p => match p.dst with | some d => !Nat.beq d t | none => true) = true) (hn : decide ((outs.map (·.1)).Nodup) = true)
  (hobs : Obs P n l.toArray Q (JL S H H') (Turn (keys H)) kk (F.map (·.f)) σ 0 Is (l.take m))
  (hend : ∀ w0, Own S H' w0 → EachV F w0 outs [] (fun τ => VL P n l.toArray Q (l.drop m) (τ ++ only σ bas) (fun w => w = w0))) :
  VC P n Q (.region id l.toArray true) σ (Own S H) :=
 VC.anyT (JL S H H') (Turn (keys H)) m kk (F.map (·.f)) Is outs bas hmix hp htl (by left; simp [Nat.blt, Nat.ble_eq] at hkm; omega) (by simpa [Nat.ble_eq] using hml) (fun _ h => h.drew) (lateOf F) (fun i o hi hl => by
  unfold lateOf at hl
  cases hf : F[i]? with
  | none => simp [hf] at hl
  | some f =>
   simp only [hf] at hl
   have h1 := List.all_eq_true.1 hlate (f, i) (by rw [List.mem_zipIdx_iff_getElem?]; simpa using hf)
   simp only [hl, hi, Bool.not_true, Bool.false_or, Bool.or_eq_true] at h1
   rcases h1 with h1 | h1
   ·exact .inl (Nat.eq_of_beq_eq_true h1)
   ·exact .inr h1) (fact_stays F) houts hbas hobs (fun vals a w ha ⟨h1, h2⟩ => (hend w (by rw [hkm] at h2; exact h2)).spec outs [] _ h1 a w (ha.back (of_decide_eq_true hn)) rfl)
/-- Two results that stand in variables, and a third in a slot. -/
theorem VX.ret_cells2 {σ : Sl} {G : World → Prop} {fn : Func} {S' : Value → World → Prop} {t1 t2 u g1 g2 : Nat} {ty1 ty2 T1 T2 : TypeId} {L1 L2 : List Nat} {ps1 ps2 : List (List Value)} {x : Value} (i1 i2 : Nat) {cs1 cs2 : List Value} (hr : fn.results = #[.cell t1 ty1, .cell t2 ty2, .tmp u])
  (ht1 : look σ t1 = some (.pointer (some ⟨g1, 0, none⟩))) (ht2 : look σ t2 = some (.pointer (some ⟨g2, 0, none⟩))) (hu : look σ u = some x)
  (hk1 : kindOf P ty1 = some (some cs1.length)) (hk2 : kindOf P ty2 = some (some cs2.length)) (hG : ∀ w, G w → Own S H w) (hi1 : H[i1]? = some (blk g1 T1 L1 ps1)) (hi2 : H[i2]? = some (blk g2 T2 L2 ps2)) (hc1 : cat ps1 = cs1) (hc2 : cat ps2 = cs2)
  (h : ∀ w, G w → S' (.tuple #[.agg cs1.toArray, .agg cs2.toArray, x]) w) : VX n (bodyPost P fn (Ret S')) .ret σ G :=
 fun a w ha hw => ⟨ha.dfr, .tuple #[.agg cs1.toArray, .agg cs2.toArray, x], by
  obtain ⟨hg1, _⟩ := (hG w hw).holds _ (List.mem_of_getElem? hi1)
  obtain ⟨hg2, _⟩ := (hG w hw).holds _ (List.mem_of_getElem? hi2)
  have h1 := ha.at_ t1 _ ht1
  have h2 := ha.at_ t2 _ ht2
  have h3 := ha.at_ u _ hu
  simp only [Array.getD_eq_getD_getElem?] at h1 h2 h3
  have hcell1 : ∀ j v, cs1[j]? = some v → w.cell? ((⟨g1, 0, none⟩ : Addr).add j) = some v := by
   intro j v hj
   rw [add_lit, cell_of_row w g1 _ _ T1 (0, 0) hg1, hc1, Nat.zero_add]
   simpa using hj
  have hcell2 : ∀ j v, cs2[j]? = some v → w.cell? ((⟨g2, 0, none⟩ : Addr).add j) = some v := by
   intro j v hj
   rw [add_lit, cell_of_row w g2 _ _ T2 (0, 0) hg2, hc2, Nat.zero_add]
   simpa using hj
  have hld1 : (loadVar ty1 ⟨g1, 0, none⟩).run P w = .ok (.agg cs1.toArray) w := by
   simp [loadVar, (kindOf_agg hk1 w).1, (kindOf_agg hk1 w).2, run_loadCells_list (P := P) w ⟨g1, 0, none⟩ cs1 hcell1]
  have hld2 : (loadVar ty2 ⟨g2, 0, none⟩).run P w = .ok (.agg cs2.toArray) w := by
   simp [loadVar, (kindOf_agg hk2 w).1, (kindOf_agg hk2 w).2, run_loadCells_list (P := P) w ⟨g2, 0, none⟩ cs2 hcell2]
  simp [results, hr, h1, h2, h3, asAddr, hld1, hld2], h w hw⟩
end
end Go.Vc

/- The rules of the walks, continued: a region whose order is open, in which memory is made behind the operation that turns what is owned. -/
namespace Go.Vc
section
variable {P : Program} {n : Nat} {Q : Exit → Act → World → Prop} {ops : Array Oper} {S : List Snap} {H H' : List Chunk}
/-- How worlds may turn: ahead of that operation; behind it nothing that is there turns. -/
def Turn2 (K : List Nat) : Bool → World → World → Prop
  | false, w, w' => Snap.ok ⟨w, K⟩ w'
  | true, w, w' => Snap.ok ⟨w, []⟩ w'
theorem Turn2.rfl_ {K : List Nat} {ph : Bool} {w : World} : Turn2 K ph w w := by cases ph <;> exact Snap.ok_refl _ _
/-- What is owned stays where nothing that is there turns. -/
theorem Own.later {w w' : World} (h : Own S H w) (hs : Snap.ok ⟨w, []⟩ w') : Own S H w' := by
 have := Own.grow (A := []) h hs.os hs.tape hs.output hs.size (fun k hk => hs.block k hk (by simp)) (by simp [keys]) (by simp [keys]) (by simp)
 simpa using this
/-- A slice of bytes in a block of bytes. -/
def BytesT (K : List Nat) (w : World) (p : Option Addr) (l : List UInt8) (c : Nat) : Prop := Bytes K w p l c ∧ (0 < c → ∀ a, p = some a → ∃ cs fr, w.heap[a.block]? = some (.cells cs 5 fr))
/-- It lies apart from a row of something else. -/
theorem BytesT.apart {w : World} {X : Type} {R : Rel X} {hR : Mono R} {e : TypeId} {sz : Nat} {g : Option Nat} {c c' : Nat} {ys : List X} {p : Option Addr} {l : List UInt8} (h : BytesT (keys H) w p l c) (ho : Own S (arow e sz R hR g c' ys :: H) w) (he : e ≠ 5) : Bytes (keys (arow e sz R hR g c' ys :: H)) w p l c := by
 obtain ⟨h1, h2⟩ := h
 obtain ⟨a1, a2, a3, a4⟩ := h1
 refine ⟨a1, a2, a3, fun a ea hc => ?_⟩
 obtain ⟨b1, b2, b3, b4⟩ := a4 a ea hc
 refine ⟨b1, ?_, b3, b4⟩
 rw [keys_cons, List.mem_append]
 rintro (hk | hk)
 ·have hg : g = some a.block := by simpa [arow] using hk
  subst hg
  obtain ⟨_, ⟨hrow, _⟩, _⟩ := ho.holds (arow e sz R hR (some a.block) c' ys) (by simp)
  rcases hrow.2 with ⟨e1, _⟩ | ⟨g1, cap1, cur, e1, _, e3, _⟩
  ·simp [rowV] at e1
  ·simp [rowV] at e1
   obtain ⟨rfl, rfl⟩ := e1
   obtain ⟨cs, fr, h3⟩ := h2 hc a ea
   rw [e3] at h3
   cases h3
   exact he rfl
 ·exact b2 hk
end
end Go.Vc

/- The rules of the walks, continued: regions whose order is open, where 'ahead of' and 'behind' are asked by way of other operations too. -/
namespace Go.Vc
section
variable {P : Program} {n : Nat} {Q : Exit → Act → World → Prop} {ops : Array Oper}

def Ob3 (P : Program) (n : Nat) (ops : Array Oper) (Q : Exit → Act → World → Prop) (J : Bool → World → Prop) (Stp : Bool → World → World → Prop) (kk : Nat) (F : List Fact) (σ : Sl) (i : Nat) (I : Ins) (o : Oper) : Prop :=
  insOk ops i I = true ∧ ∀ (ph : Bool) (w0 : World) (vals : Nat → Value), J ph w0 → (i = kk → ph = false) → (below ops ops.size kk i = true → ph = false) → (ops[kk]? = none → ph = false) → (below ops ops.size i kk = true → ph = true) → (∀ p ∈ I.pre, factOf F p.2 (vals p.2) w0) →
    VL P n ops (Post n Q J Stp (factOf F i) o.dst ph (ph || Nat.beq i kk) w0) [o] (preSlots I.pre vals ++ only σ I.bas) (fun w => w = w0)


def Obs3 (P : Program) (n : Nat) (ops : Array Oper) (Q : Exit → Act → World → Prop) (J : Bool → World → Prop) (Stp : Bool → World → World → Prop) (kk : Nat) (F : List Fact) (σ : Sl) : Nat → List Ins → List Oper → Prop
  | i, I :: Is, o :: os => Ob3 P n ops Q J Stp kk F σ i I o ∧ Obs3 P n ops Q J Stp kk F σ (i + 1) Is os
  | _, [], [] => True
  | _, _, _ => False

theorem Obs3.cons {J : Bool → World → Prop} {Stp : Bool → World → World → Prop} {kk : Nat} {F : List Fact} {σ : Sl} {i : Nat} {I : Ins} {Is : List Ins} {o : Oper} {os : List Oper} (h : Ob3 P n ops Q J Stp kk F σ i I o) (k : Obs3 P n ops Q J Stp kk F σ (i + 1) Is os) : Obs3 P n ops Q J Stp kk F σ i (I :: Is) (o :: os) := ⟨h, k⟩
theorem Obs3.nil {J : Bool → World → Prop} {Stp : Bool → World → World → Prop} {kk : Nat} {F : List Fact} {σ : Sl} {i : Nat} : Obs3 P n ops Q J Stp kk F σ i [] [] := trivial


theorem Obs3.get {J : Bool → World → Prop} {Stp : Bool → World → World → Prop} {kk : Nat} {F : List Fact} {σ : Sl} : ∀ (Is : List Ins) (os : List Oper) (k : Nat), Obs3 P n ops Q J Stp kk F σ k Is os → ∀ i o, os[i]? = some o → ∃ I, Ob3 P n ops Q J Stp kk F σ (k + i) I o
 | [], [], _, _, i, o, h => by simp at h
 | [], _ :: _, _, h, _, _, _ => h.elim
 | _ :: _, [], _, h, _, _, _ => h.elim
 | I :: Is, o :: os, k, h, i, p, hi => by
  cases i with
  | zero => simp at hi; subst hi; exact ⟨I, h.1⟩
  | succ i =>
   obtain ⟨I', h'⟩ := Obs3.get Is os (k + 1) h.2 i p (by simpa using hi)
   exact ⟨I', by rw [show k + (i + 1) = k + 1 + i by omega]; exact h'⟩

variable {S : List Snap} {H H' : List Chunk}
end
end Go.Vc

