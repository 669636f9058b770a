/- The statement FedqRows is proved, for every input: part 10 of 21 of the texts that it needs. -/
import Derived.Test.YtcfecmoagfgnaaaMfrwAI
/- wire: bytes of items. -/
namespace Go.Proofs.Ytcfecmoagfgnaaa
open Go.Vc Go.Pl

theorem bare_w {S : List Snap} {H : List Chunk} {w : World} (ho : Own S H w) {x : Itm} (hx : x.ok) {p : Option Addr} {c : Nat} {q : Option Addr} {d : Nat} : Calls Try.prog 127 #[.agg (cat (itemV x p c q d)).toArray] w (Ret fun v w' => ∃ b : Bool, v = .bool b ∧ (b = true ↔ bareP x) ∧ Own S H w') := by
 refine enter (G := Own (⟨w, keys H⟩ :: S) H) ho.keep Try.func127 rfl Try.ntmps127 rfl ?_
 refine VC.sr ?_
 refine VL.box (L := itemL) (ps := (itemV (x) p c q d)) rfl rfl (itemV_len hx) (fun g1 => ?_)
 refine VL.assign rfl ?_
 refine VL.nn ?_
 refine VC.sr ?_
 refine VL.fieldAddr rfl fo87_1 rfl ?_
 refine VL.load (v := .int .u8 (x.asker)) 0 1 rfl kd5 (fun _ h => h) rfl rfl rfl ?_
 refine VL.eql rfl rfl ?_
 refine VL.case (fun h1_2 => ?_) (fun h1_2 => ?_)
 ·have h1_2 : x.asker = 0 := by omega
  refine VL.move rfl ?_
  refine VL.go rfl rfl rfl ?_
  refine VL.fieldAddr rfl fo87_2 rfl ?_
  refine VL.go rfl rfl rfl ?_
  refine VL.load (v := .int .u8 (x.peer)) 0 2 rfl kd5 (fun _ h => h) rfl rfl rfl ?_
  refine VL.go rfl rfl rfl ?_
  refine VL.eql rfl rfl ?_
  refine VL.case (fun h1_6 => ?_) (fun h1_6 => ?_)
  ·have h1_6 : x.peer = 0 := by omega
   refine VL.pick_t rfl rfl ?_
   refine VL.move rfl ?_
   refine VL.go rfl rfl rfl ?_
   refine VL.fieldAddr rfl fo87_3 rfl ?_
   refine VL.go rfl rfl rfl ?_
   refine VL.loads (cs := cat (letterV (x.letter) p c)) 0 3 12 rfl kd72 (fun _ h => h) rfl rfl rfl rfl ?_
   refine VL.go rfl rfl rfl ?_
   refine VL.call Try.func138 rfl (by decide) rfl (fun w' hw => emptyLetter_w hw (x := x.letter) hx.letter) (fun v => ?_)
   refine VL.ex fun b => VL.fact fun e => VL.fact fun h1_11 => ?_
   subst e
   cases b
   ·have h1_11 := mt h1_11.2 (by decide)
    refine VL.pick_t rfl rfl ?_
    refine VL.move rfl ?_
    refine VL.pass rfl rfl rfl rfl rfl ?_
    refine VL.pass rfl rfl rfl rfl rfl ?_
    refine VL.pass rfl rfl rfl rfl rfl ?_
    refine VL.pass rfl rfl rfl rfl rfl ?_
    refine VL.pick_f rfl rfl ?_
    refine VL.move rfl ?_
    refine VL.pass rfl rfl rfl rfl rfl ?_
    refine VL.pass rfl rfl rfl rfl rfl ?_
    refine VL.pass rfl rfl rfl rfl rfl ?_
    refine VL.pick_f rfl rfl ?_
    refine VL.assign rfl ?_
    refine VL.nn ?_
    refine VC.ret ?_
    refine VX.ret1 rfl rfl (fun we hw => ?_)
    refine ⟨false, rfl, ?_, hw.drop.subA⟩
    unfold bareP
    simp [h1_2, h1_6, h1_11]
   ·have h1_11 := h1_11.1 rfl
    refine VL.pick_t rfl rfl ?_
    refine VL.move rfl ?_
    refine VL.go rfl rfl rfl ?_
    refine VL.fieldAddr rfl fo87_4 rfl ?_
    refine VL.go rfl rfl rfl ?_
    refine VL.loads (cs := cat (bundleV (x.bundle))) 0 15 6 rfl kd82 (fun _ h => h) rfl rfl rfl rfl ?_
    refine VL.go rfl rfl rfl ?_
    refine VL.build0 (cs := cat (bundleV (bundle0))) built82 ?_
    refine VL.go rfl rfl rfl ?_
    refine VL.eqT guard82 rfl rfl (eqBundle hx.bundle bundle0_ok) (fun b h1_17 => ?_)
    cases b
    ·have h1_17 := mt h1_17.2 (by decide)
     refine VL.pick_t rfl rfl ?_
     refine VL.move rfl ?_
     refine VL.pass rfl rfl rfl rfl rfl ?_
     refine VL.pass rfl rfl rfl rfl rfl ?_
     refine VL.pass rfl rfl rfl rfl rfl ?_
     refine VL.pick_f rfl rfl ?_
     refine VL.assign rfl ?_
     refine VL.nn ?_
     refine VC.ret ?_
     refine VX.ret1 rfl rfl (fun we hw => ?_)
     refine ⟨false, rfl, ?_, hw.drop.subA⟩
     unfold bareP
     simp [h1_2, h1_6, h1_11, h1_17]
    ·have h1_17 := h1_17.1 rfl
     refine VL.pick_t rfl rfl ?_
     refine VL.move rfl ?_
     refine VL.go rfl rfl rfl ?_
     refine VL.fieldAddr rfl fo87_5 rfl ?_
     refine VL.go rfl rfl rfl ?_
     refine VL.loads (cs := cat (objectV (x.object) q d)) 0 21 7 rfl kd85 (fun _ h => h) rfl rfl rfl rfl ?_
     refine VL.go rfl rfl rfl ?_
     refine VL.call Try.func163 rfl (by decide) rfl (fun w' hw => emptyObject_w hw (x := x.object) hx.object) (fun v => ?_)
     refine VL.ex fun b => VL.fact fun e => VL.fact fun h1_22 => ?_
     subst e
     cases b
     ·have h1_22 := mt h1_22.2 (by decide)
      refine VL.pick_t rfl rfl ?_
      refine VL.assign rfl ?_
      refine VL.nn ?_
      refine VC.ret ?_
      refine VX.ret1 rfl rfl (fun we hw => ?_)
      refine ⟨false, rfl, ?_, hw.drop.subA⟩
      unfold bareP
      simp [h1_2, h1_6, h1_11, h1_17, h1_22]
     ·have h1_22 := h1_22.1 rfl
      refine VL.pick_t rfl rfl ?_
      refine VL.assign rfl ?_
      refine VL.nn ?_
      refine VC.ret ?_
      refine VX.ret1 rfl rfl (fun we hw => ?_)
      refine ⟨true, rfl, ?_, hw.drop.subA⟩
      unfold bareP
      simp [h1_2, h1_6, h1_11, h1_17, h1_22]
  ·have h1_6 : ¬ x.peer = 0 := by omega
   refine VL.pick_t rfl rfl ?_
   refine VL.move rfl ?_
   refine VL.pass rfl rfl rfl rfl rfl ?_
   refine VL.pass rfl rfl rfl rfl rfl ?_
   refine VL.pass rfl rfl rfl rfl rfl ?_
   refine VL.pick_f rfl rfl ?_
   refine VL.move rfl ?_
   refine VL.pass rfl rfl rfl rfl rfl ?_
   refine VL.pass rfl rfl rfl rfl rfl ?_
   refine VL.pass rfl rfl rfl rfl rfl ?_
   refine VL.pass rfl rfl rfl rfl rfl ?_
   refine VL.pick_f rfl rfl ?_
   refine VL.move rfl ?_
   refine VL.pass rfl rfl rfl rfl rfl ?_
   refine VL.pass rfl rfl rfl rfl rfl ?_
   refine VL.pass rfl rfl rfl rfl rfl ?_
   refine VL.pick_f rfl rfl ?_
   refine VL.assign rfl ?_
   refine VL.nn ?_
   refine VC.ret ?_
   refine VX.ret1 rfl rfl (fun we hw => ?_)
   refine ⟨false, rfl, ?_, hw.drop.subA⟩
   unfold bareP
   simp [h1_2, h1_6]
 ·have h1_2 : ¬ x.asker = 0 := by omega
  refine VL.move rfl ?_
  refine VL.pass rfl rfl rfl rfl rfl ?_
  refine VL.pass rfl rfl rfl rfl rfl ?_
  refine VL.pass rfl rfl rfl rfl rfl ?_
  refine VL.pick_f rfl rfl ?_
  refine VL.move rfl ?_
  refine VL.pass rfl rfl rfl rfl rfl ?_
  refine VL.pass rfl rfl rfl rfl rfl ?_
  refine VL.pass rfl rfl rfl rfl rfl ?_
  refine VL.pick_f rfl rfl ?_
  refine VL.move rfl ?_
  refine VL.pass rfl rfl rfl rfl rfl ?_
  refine VL.pass rfl rfl rfl rfl rfl ?_
  refine VL.pass rfl rfl rfl rfl rfl ?_
  refine VL.pass rfl rfl rfl rfl rfl ?_
  refine VL.pick_f rfl rfl ?_
  refine VL.move rfl ?_
  refine VL.pass rfl rfl rfl rfl rfl ?_
  refine VL.pass rfl rfl rfl rfl rfl ?_
  refine VL.pass rfl rfl rfl rfl rfl ?_
  refine VL.pick_f rfl rfl ?_
  refine VL.assign rfl ?_
  refine VL.nn ?_
  refine VC.ret ?_
  refine VX.ret1 rfl rfl (fun we hw => ?_)
  refine ⟨false, rfl, ?_, hw.drop.subA⟩
  unfold bareP
  simp [h1_2]

theorem putItem_w {S : List Snap} {H : List Chunk} {w : World} (ho : Own S H w) {x : Itm} (hx : x.ok) {p : Option Addr} {c : Nat} (hA : Bytes (keys H) w p x.letter.body c) {q : Option Addr} {d : Nat} (hV : Arr 65 vouchR (keys H) w q x.object.vouches d) : Calls Try.prog 56 #[.agg (cat (itemV x p c q d)).toArray] w (RetO S H (itemO x)) := by
 have hx1 := hx.kind
 have hx2 := hx.asker
 have hx3 := hx.peer
 refine enter (G := Own (⟨w, keys H⟩ :: S) H) ho.keep Try.func56 rfl Try.ntmps56 rfl ?_
 refine VC.sr ?_
 refine VL.box (L := itemL) (ps := (itemV (x) p c q d)) rfl rfl (itemV_len hx) (fun g1 => ?_)
 refine VL.assign rfl ?_
 refine VL.assign rfl ?_
 refine VL.nn ?_
 refine VC.sr ?_
 refine VL.build (zs := [[.slice none 0 0], [.bool false]]) [] plan181 rfl trivial rfl ?_
 refine VL.box (L := [1, 1]) (ps := [[rowV none 0 0], [.bool false]]) rfl rfl rfl (fun g2 => ?_)
 refine VL.turn (fun w' hw => Own.newW hw) ?_
 refine VL.assign rfl ?_
 refine VL.nn ?_
 refine VC.sr ?_
 refine VL.move rfl ?_
 refine VL.fieldAddr rfl fo87_0 rfl ?_
 refine VL.load (v := .int .u8 (x.kind)) 2 0 rfl kd5 (fun _ h => h) rfl rfl rfl ?_
 refine VL.conv (by rw [Try.underlying5]; rfl) Try.underlying22 rfl (inr_u64 (by omega)) ?_
 refine VL.call Try.func116 rfl (by decide) rfl (fun w' hw => num_w hw (by simp only [List.length_append, List.length_cons, List.length_nil, List.length_map]; omega) (x.kind) (fits_small (by omega)) 1 (by decide) (by decide) (fits1 (by omega))) (fun v => ?_)
 refine VL.fact fun e5 => ?_
 subst e5
 refine VL.ex fun gp3 => VL.ex fun c4 => ?_
 refine VL.nn ?_
 refine VC.seq ?_
 refine VC.sr ?_
 refine VL.fieldAddr rfl fo87_0 rfl ?_
 refine VL.load (v := .int .u8 (x.kind)) 2 0 rfl kd5 (fun _ h => h) rfl rfl rfl ?_
 refine VL.nn ?_
 refine VC.block ?_
 refine VC.sr ?_
 refine VL.eql rfl rfl ?_
 refine VL.case (fun h5_0 => ?_) (fun h5_0 => ?_)
 ·have h5_0 : x.kind = 1 := by omega
  refine VL.assign rfl ?_
  refine VL.nn ?_
  refine VC.yes rfl ?_
  refine VC.sr ?_
  refine VL.move rfl ?_
  refine VL.fieldAddr rfl fo87_3 rfl ?_
  refine VL.loads (cs := cat (letterV (x.letter) p c)) 2 3 12 rfl kd72 (fun _ h => h) rfl rfl rfl rfl ?_
  refine VL.call Try.func50 rfl (by decide) rfl (fun w' hw => putLetter_w hw (x := x.letter) hx.letter (hA.nowA (s := ⟨w, _⟩) Mono.byte hw)) (fun v => ?_)
  refine VL.at (fun w6 h1w => ?_)
  obtain ⟨p7, c8, rfl, hO10, hA9⟩ := h1w
  refine VL.toOwn hO10 ?_
  refine VL.extract rfl rfl ?_
  refine VL.extract rfl rfl ?_
  refine VL.call Try.func117 rfl (by decide) rfl (fun w' hw => piece_w hw (by simp only [List.length_append, List.length_cons, List.length_nil, List.length_map]; omega) (hA9.nowA (s := ⟨w6, _⟩) Mono.byte hw) (((letterO (x.letter)).isSome))) (fun v => ?_)
  refine VL.fact fun e13 => ?_
  subst e13
  refine VL.ex fun gp11 => VL.ex fun c12 => ?_
  refine VL.nn ?_
  refine VC.region ?_
  refine VL.build0 (cs := cat (letterV (letter0) none 0)) built72 ?_
  refine VL.fieldAddr rfl fo87_3 rfl ?_
  refine VL.store (L := itemL) (qs := (letterV (letter0) none 0)) 2 3 12 rfl rfl rfl (.inl kd72) rfl rfl rfl (letterV_ok1 letter0 none 0) rfl rfl ?_
  refine VL.set2 ?_
  refine VL.nil ?_
  refine VX.block_normal ?_
  refine VX.next ?_
  refine VC.seq ?_
  refine VC.sr ?_
  refine VL.loads (cs := cat (itemV ((itemA x)) none 0 q d)) 2 0 28 rfl kd87 (fun _ h => h) rfl rfl rfl rfl ?_
  refine VL.call Try.func127 rfl (by decide) rfl (fun w' hw => bare_w hw (x := (itemA x)) (itemA_ok hx)) (fun v => ?_)
  refine VL.ex fun b => VL.fact fun e => VL.fact fun h21_1 => ?_
  subst e
  cases b
  ·have h21_1 := mt h21_1.2 (by decide)
   refine VL.not rfl ?_
   refine VL.nn ?_
   refine VC.yes rfl ?_
   refine VC.sr ?_
   refine VL.assign rfl ?_
   refine VL.assign rfl ?_
   refine VL.nn ?_
   refine VC.ret ?_
   refine VX.then_ret ?_
   refine VX.ret2 rfl rfl rfl (fun we hw => ?_)
   exact postO ((item1_n h5_0 h21_1)) ⟨none, 0, rfl, hw.drop.drop.drop.subA, Arr.none⟩
  ·have h21_1 := h21_1.1 rfl
   refine VL.not rfl ?_
   refine VL.nn ?_
   refine VC.no rfl ?_
   refine VC.skip ?_
   refine VX.next ?_
   refine VC.sr ?_
   refine VL.move rfl ?_
   refine VL.call Try.func118 rfl (by decide) rfl (fun w' hw => done_O hw) (fun v => ?_)
   refine VL.at (fun w14 h1w => ?_)
   obtain ⟨p15, c16, rfl, hO18, hA17⟩ := h1w
   refine VL.toOwn hO18 ?_
   refine VL.extract rfl rfl ?_
   refine VL.extract rfl rfl ?_
   refine VL.assign rfl ?_
   refine VL.assign rfl ?_
   refine VL.nn ?_
   refine VC.ret ?_
   refine VX.ret2 rfl rfl rfl (fun we hw => ?_)
   exact postO (((by cases hs : (letterO x.letter).isSome <;> rfl : joinO ([be 1 x.kind, (letterO x.letter).getD []]) (!(false || !(letterO x.letter).isSome)) = joinO [be 1 x.kind, (letterO x.letter).getD []] (letterO x.letter).isSome).trans (item1_y h5_0 h21_1))) ⟨p15, c16, rfl, hw.drop.subA, (hA17.nowA (s := ⟨w14, _⟩) Mono.byte hw.drop)⟩
 ·have h5_0 : x.kind ≠ 1 := by omega
  refine VL.assign rfl ?_
  refine VL.nn ?_
  refine VC.no rfl ?_
  refine VC.seq ?_
  refine VC.sr ?_
  refine VL.eql rfl rfl ?_
  refine VL.case (fun h8_0 => ?_) (fun h8_0 => ?_)
  ·have h8_0 : x.kind = 2 := by omega
   refine VL.assign rfl ?_
   refine VL.nn ?_
   refine VC.yes rfl ?_
   refine VC.skip ?_
   refine VX.next ?_
   refine VC.yes rfl ?_
   refine VC.sr ?_
   refine VL.move rfl ?_
   refine VL.fieldAddr rfl fo87_1 rfl ?_
   refine VL.load (v := .int .u8 (x.asker)) 2 1 rfl kd5 (fun _ h => h) rfl rfl rfl ?_
   refine VL.conv (by rw [Try.underlying5]; rfl) Try.underlying22 rfl (inr_u64 (by omega)) ?_
   refine VL.call Try.func116 rfl (by decide) rfl (fun w' hw => num_w hw (by simp only [List.length_append, List.length_cons, List.length_nil, List.length_map]; omega) (x.asker) (fits_small (by omega)) 1 (by decide) (by decide) (fits1 (by omega))) (fun v => ?_)
   refine VL.fact fun e21 => ?_
   subst e21
   refine VL.ex fun gp19 => VL.ex fun c20 => ?_
   refine VL.nn ?_
   refine VC.sr ?_
   refine VL.move rfl ?_
   refine VL.fieldAddr rfl fo87_2 rfl ?_
   refine VL.load (v := .int .u8 (x.peer)) 2 2 rfl kd5 (fun _ h => h) rfl rfl rfl ?_
   refine VL.conv (by rw [Try.underlying5]; rfl) Try.underlying22 rfl (inr_u64 (by omega)) ?_
   refine VL.call Try.func116 rfl (by decide) rfl (fun w' hw => num_w hw (by simp only [List.length_append, List.length_cons, List.length_nil, List.length_map]; omega) (x.peer) (fits_small (by omega)) 1 (by decide) (by decide) (fits1 (by omega))) (fun v => ?_)
   refine VL.fact fun e24 => ?_
   subst e24
   refine VL.ex fun gp22 => VL.ex fun c23 => ?_
   refine VL.nn ?_
   refine VC.region ?_
   refine VL.fieldAddr rfl fo87_1 rfl ?_
   refine VL.store (L := itemL) (qs := [[.int .u8 (0)]]) 2 1 1 rfl rfl rfl (.inr ⟨kd5, rfl⟩) rfl rfl rfl (by intro u hu; simp [cat] at hu; subst hu; rfl) rfl rfl ?_
   refine VL.set2 ?_
   refine VL.fieldAddr rfl fo87_2 rfl ?_
   refine VL.store (L := itemL) (qs := [[.int .u8 (0)]]) 2 2 1 rfl rfl rfl (.inr ⟨kd5, rfl⟩) rfl rfl rfl (by intro u hu; simp [cat] at hu; subst hu; rfl) rfl rfl ?_
   refine VL.set2 ?_
   refine VL.nil ?_
   refine VX.block_normal ?_
   refine VX.next ?_
   refine VC.seq ?_
   refine VC.sr ?_
   refine VL.loads (cs := cat (itemV ((itemB x)) p c q d)) 2 0 28 rfl kd87 (fun _ h => h) rfl rfl rfl rfl ?_
   refine VL.call Try.func127 rfl (by decide) rfl (fun w' hw => bare_w hw (x := (itemB x)) (itemB_ok hx)) (fun v => ?_)
   refine VL.ex fun b => VL.fact fun e => VL.fact fun h21_1 => ?_
   subst e
   cases b
   ·have h21_1 := mt h21_1.2 (by decide)
    refine VL.not rfl ?_
    refine VL.nn ?_
    refine VC.yes rfl ?_
    refine VC.sr ?_
    refine VL.assign rfl ?_
    refine VL.assign rfl ?_
    refine VL.nn ?_
    refine VC.ret ?_
    refine VX.then_ret ?_
    refine VX.ret2 rfl rfl rfl (fun we hw => ?_)
    exact postO ((item2_n (.inl h8_0) h21_1)) ⟨none, 0, rfl, hw.drop.drop.drop.subA, Arr.none⟩
   ·have h21_1 := h21_1.1 rfl
    refine VL.not rfl ?_
    refine VL.nn ?_
    refine VC.no rfl ?_
    refine VC.skip ?_
    refine VX.next ?_
    refine VC.sr ?_
    refine VL.move rfl ?_
    refine VL.call Try.func118 rfl (by decide) rfl (fun w' hw => done_O hw) (fun v => ?_)
    refine VL.at (fun w25 h1w => ?_)
    obtain ⟨p26, c27, rfl, hO29, hA28⟩ := h1w
    refine VL.toOwn hO29 ?_
    refine VL.extract rfl rfl ?_
    refine VL.extract rfl rfl ?_
    refine VL.assign rfl ?_
    refine VL.assign rfl ?_
    refine VL.nn ?_
    refine VC.ret ?_
    refine VX.ret2 rfl rfl rfl (fun we hw => ?_)
    exact postO ((item2_y (.inl h8_0) h21_1)) ⟨p26, c27, rfl, hw.drop.subA, (hA28.nowA (s := ⟨w25, _⟩) Mono.byte hw.drop)⟩
  ·have h8_0 : x.kind ≠ 2 := by omega
   refine VL.assign rfl ?_
   refine VL.nn ?_
   refine VC.no rfl ?_
   refine VC.region ?_
   refine VL.eql rfl rfl ?_
   refine VL.case (fun h9_0 => ?_) (fun h9_0 => ?_)
   ·have h9_0 : x.kind = 4 := by omega
    refine VL.assign rfl ?_
    refine VL.nn ?_
    refine VC.yes rfl ?_
    refine VC.sr ?_
    refine VL.move rfl ?_
    refine VL.fieldAddr rfl fo87_1 rfl ?_
    refine VL.load (v := .int .u8 (x.asker)) 2 1 rfl kd5 (fun _ h => h) rfl rfl rfl ?_
    refine VL.conv (by rw [Try.underlying5]; rfl) Try.underlying22 rfl (inr_u64 (by omega)) ?_
    refine VL.call Try.func116 rfl (by decide) rfl (fun w' hw => num_w hw (by simp only [List.length_append, List.length_cons, List.length_nil, List.length_map]; omega) (x.asker) (fits_small (by omega)) 1 (by decide) (by decide) (fits1 (by omega))) (fun v => ?_)
    refine VL.fact fun e32 => ?_
    subst e32
    refine VL.ex fun gp30 => VL.ex fun c31 => ?_
    refine VL.nn ?_
    refine VC.sr ?_
    refine VL.move rfl ?_
    refine VL.fieldAddr rfl fo87_2 rfl ?_
    refine VL.load (v := .int .u8 (x.peer)) 2 2 rfl kd5 (fun _ h => h) rfl rfl rfl ?_
    refine VL.conv (by rw [Try.underlying5]; rfl) Try.underlying22 rfl (inr_u64 (by omega)) ?_
    refine VL.call Try.func116 rfl (by decide) rfl (fun w' hw => num_w hw (by simp only [List.length_append, List.length_cons, List.length_nil, List.length_map]; omega) (x.peer) (fits_small (by omega)) 1 (by decide) (by decide) (fits1 (by omega))) (fun v => ?_)
    refine VL.fact fun e35 => ?_
    subst e35
    refine VL.ex fun gp33 => VL.ex fun c34 => ?_
    refine VL.nn ?_
    refine VC.region ?_
    refine VL.fieldAddr rfl fo87_1 rfl ?_
    refine VL.store (L := itemL) (qs := [[.int .u8 (0)]]) 2 1 1 rfl rfl rfl (.inr ⟨kd5, rfl⟩) rfl rfl rfl (by intro u hu; simp [cat] at hu; subst hu; rfl) rfl rfl ?_
    refine VL.set2 ?_
    refine VL.fieldAddr rfl fo87_2 rfl ?_
    refine VL.store (L := itemL) (qs := [[.int .u8 (0)]]) 2 2 1 rfl rfl rfl (.inr ⟨kd5, rfl⟩) rfl rfl rfl (by intro u hu; simp [cat] at hu; subst hu; rfl) rfl rfl ?_
    refine VL.set2 ?_
    refine VL.nil ?_
    refine VX.block_normal ?_
    refine VX.next ?_
    refine VC.seq ?_
    refine VC.sr ?_
    refine VL.loads (cs := cat (itemV ((itemB x)) p c q d)) 2 0 28 rfl kd87 (fun _ h => h) rfl rfl rfl rfl ?_
    refine VL.call Try.func127 rfl (by decide) rfl (fun w' hw => bare_w hw (x := (itemB x)) (itemB_ok hx)) (fun v => ?_)
    refine VL.ex fun b => VL.fact fun e => VL.fact fun h21_1 => ?_
    subst e
    cases b
    ·have h21_1 := mt h21_1.2 (by decide)
     refine VL.not rfl ?_
     refine VL.nn ?_
     refine VC.yes rfl ?_
     refine VC.sr ?_
     refine VL.assign rfl ?_
     refine VL.assign rfl ?_
     refine VL.nn ?_
     refine VC.ret ?_
     refine VX.then_ret ?_
     refine VX.ret2 rfl rfl rfl (fun we hw => ?_)
     exact postO ((item2_n (.inr h9_0) h21_1)) ⟨none, 0, rfl, hw.drop.drop.drop.subA, Arr.none⟩
    ·have h21_1 := h21_1.1 rfl
     refine VL.not rfl ?_
     refine VL.nn ?_
     refine VC.no rfl ?_
     refine VC.skip ?_
     refine VX.next ?_
     refine VC.sr ?_
     refine VL.move rfl ?_
     refine VL.call Try.func118 rfl (by decide) rfl (fun w' hw => done_O hw) (fun v => ?_)
     refine VL.at (fun w36 h1w => ?_)
     obtain ⟨p37, c38, rfl, hO40, hA39⟩ := h1w
     refine VL.toOwn hO40 ?_
     refine VL.extract rfl rfl ?_
     refine VL.extract rfl rfl ?_
     refine VL.assign rfl ?_
     refine VL.assign rfl ?_
     refine VL.nn ?_
     refine VC.ret ?_
     refine VX.ret2 rfl rfl rfl (fun we hw => ?_)
     exact postO ((item2_y (.inr h9_0) h21_1)) ⟨p37, c38, rfl, hw.drop.subA, (hA39.nowA (s := ⟨w36, _⟩) Mono.byte hw.drop)⟩
   ·have h9_0 : x.kind ≠ 4 := by omega
    refine VL.assign rfl ?_
    refine VL.nn ?_
    refine VC.no rfl ?_
    refine VC.sr ?_
    refine VL.eql rfl rfl ?_
    refine VL.case (fun h13_0 => ?_) (fun h13_0 => ?_)
    ·have h13_0 : x.kind = 3 := by omega
     refine VL.assign rfl ?_
     refine VL.nn ?_
     refine VC.yes rfl ?_
     refine VC.sr ?_
     refine VL.move rfl ?_
     refine VL.fieldAddr rfl fo87_1 rfl ?_
     refine VL.load (v := .int .u8 (x.asker)) 2 1 rfl kd5 (fun _ h => h) rfl rfl rfl ?_
     refine VL.conv (by rw [Try.underlying5]; rfl) Try.underlying22 rfl (inr_u64 (by omega)) ?_
     refine VL.call Try.func116 rfl (by decide) rfl (fun w' hw => num_w hw (by simp only [List.length_append, List.length_cons, List.length_nil, List.length_map]; omega) (x.asker) (fits_small (by omega)) 1 (by decide) (by decide) (fits1 (by omega))) (fun v => ?_)
     refine VL.fact fun e43 => ?_
     subst e43
     refine VL.ex fun gp41 => VL.ex fun c42 => ?_
     refine VL.nn ?_
     refine VC.sr ?_
     refine VL.move rfl ?_
     refine VL.fieldAddr rfl fo87_4 rfl ?_
     refine VL.loads (cs := cat (bundleV (x.bundle))) 2 15 6 rfl kd82 (fun _ h => h) rfl rfl rfl rfl ?_
     refine VL.call Try.func60 rfl (by decide) rfl (fun w' hw => putBundle_w hw (x := x.bundle) hx.bundle) (fun v => ?_)
     refine VL.at (fun w44 h1w => ?_)
     obtain ⟨p45, c46, rfl, hO48, hA47⟩ := h1w
     refine VL.toOwn hO48 ?_
     refine VL.extract rfl rfl ?_
     refine VL.extract rfl rfl ?_
     refine VL.call Try.func117 rfl (by decide) rfl (fun w' hw => piece_w hw (by simp only [List.length_append, List.length_cons, List.length_nil, List.length_map]; omega) (hA47.nowA (s := ⟨w44, _⟩) Mono.byte hw) (((some (bundleB (x.bundle))).isSome))) (fun v => ?_)
     refine VL.fact fun e51 => ?_
     subst e51
     refine VL.ex fun gp49 => VL.ex fun c50 => ?_
     refine VL.nn ?_
     refine VC.region ?_
     refine VL.build0 (cs := cat (bundleV (bundle0))) built82 ?_
     refine VL.fieldAddr rfl fo87_1 rfl ?_
     refine VL.store (L := itemL) (qs := [[.int .u8 (0)]]) 2 1 1 rfl rfl rfl (.inr ⟨kd5, rfl⟩) rfl rfl rfl (by intro u hu; simp [cat] at hu; subst hu; rfl) rfl rfl ?_
     refine VL.set2 ?_
     refine VL.fieldAddr rfl fo87_4 rfl ?_
     refine VL.store (L := itemL) (qs := (bundleV (bundle0))) 2 15 6 rfl rfl rfl (.inl kd82) rfl rfl rfl (bundleV_ok1 bundle0) rfl rfl ?_
     refine VL.set2 ?_
     refine VL.nil ?_
     refine VX.block_normal ?_
     refine VX.next ?_
     refine VC.seq ?_
     refine VC.sr ?_
     refine VL.loads (cs := cat (itemV ((itemC x)) p c q d)) 2 0 28 rfl kd87 (fun _ h => h) rfl rfl rfl rfl ?_
     refine VL.call Try.func127 rfl (by decide) rfl (fun w' hw => bare_w hw (x := (itemC x)) (itemC_ok hx)) (fun v => ?_)
     refine VL.ex fun b => VL.fact fun e => VL.fact fun h21_1 => ?_
     subst e
     cases b
     ·have h21_1 := mt h21_1.2 (by decide)
      refine VL.not rfl ?_
      refine VL.nn ?_
      refine VC.yes rfl ?_
      refine VC.sr ?_
      refine VL.assign rfl ?_
      refine VL.assign rfl ?_
      refine VL.nn ?_
      refine VC.ret ?_
      refine VX.then_ret ?_
      refine VX.ret2 rfl rfl rfl (fun we hw => ?_)
      exact postO ((item3_n h13_0 h21_1)) ⟨none, 0, rfl, hw.drop.drop.drop.subA, Arr.none⟩
     ·have h21_1 := h21_1.1 rfl
      refine VL.not rfl ?_
      refine VL.nn ?_
      refine VC.no rfl ?_
      refine VC.skip ?_
      refine VX.next ?_
      refine VC.sr ?_
      refine VL.move rfl ?_
      refine VL.call Try.func118 rfl (by decide) rfl (fun w' hw => done_O hw) (fun v => ?_)
      refine VL.at (fun w52 h1w => ?_)
      obtain ⟨p53, c54, rfl, hO56, hA55⟩ := h1w
      refine VL.toOwn hO56 ?_
      refine VL.extract rfl rfl ?_
      refine VL.extract rfl rfl ?_
      refine VL.assign rfl ?_
      refine VL.assign rfl ?_
      refine VL.nn ?_
      refine VC.ret ?_
      refine VX.ret2 rfl rfl rfl (fun we hw => ?_)
      exact postO ((item3_y h13_0 h21_1)) ⟨p53, c54, rfl, hw.drop.subA, (hA55.nowA (s := ⟨w52, _⟩) Mono.byte hw.drop)⟩
    ·have h13_0 : x.kind ≠ 3 := by omega
     refine VL.assign rfl ?_
     refine VL.nn ?_
     refine VC.no rfl ?_
     refine VC.seq ?_
     refine VC.sr ?_
     refine VL.eql rfl rfl ?_
     refine VL.case (fun h17_0 => ?_) (fun h17_0 => ?_)
     ·have h17_0 : x.kind = 5 := by omega
      refine VL.assign rfl ?_
      refine VL.nn ?_
      refine VC.yes rfl ?_
      refine VC.skip ?_
      refine VX.next ?_
      refine VC.yes rfl ?_
      refine VC.sr ?_
      refine VL.move rfl ?_
      refine VL.fieldAddr rfl fo87_5 rfl ?_
      refine VL.loads (cs := cat (objectV (x.object) q d)) 2 21 7 rfl kd85 (fun _ h => h) rfl rfl rfl rfl ?_
      refine VL.call Try.func65 rfl (by decide) rfl (fun w' hw => putObject_w hw (x := x.object) hx.object (hV.nowA (s := ⟨w, _⟩) Mono_vouch hw)) (fun v => ?_)
      refine VL.at (fun w57 h1w => ?_)
      obtain ⟨p58, c59, rfl, hO61, hA60⟩ := h1w
      refine VL.toOwn hO61 ?_
      refine VL.extract rfl rfl ?_
      refine VL.extract rfl rfl ?_
      refine VL.call Try.func117 rfl (by decide) rfl (fun w' hw => piece_w hw (by simp only [List.length_append, List.length_cons, List.length_nil, List.length_map]; omega) (hA60.nowA (s := ⟨w57, _⟩) Mono.byte hw) (((objectO (x.object)).isSome))) (fun v => ?_)
      refine VL.fact fun e64 => ?_
      subst e64
      refine VL.ex fun gp62 => VL.ex fun c63 => ?_
      refine VL.nn ?_
      refine VC.region ?_
      refine VL.build0 (cs := cat (objectV (object0) none 0)) built85 ?_
      refine VL.fieldAddr rfl fo87_5 rfl ?_
      refine VL.store (L := itemL) (qs := (objectV (object0) none 0)) 2 21 7 rfl rfl rfl (.inl kd85) rfl rfl rfl (objectV_ok1 object0 none 0) rfl rfl ?_
      refine VL.set2 ?_
      refine VL.nil ?_
      refine VX.block_normal ?_
      refine VX.next ?_
      refine VC.seq ?_
      refine VC.sr ?_
      refine VL.loads (cs := cat (itemV ((itemD x)) p c none 0)) 2 0 28 rfl kd87 (fun _ h => h) rfl rfl rfl rfl ?_
      refine VL.call Try.func127 rfl (by decide) rfl (fun w' hw => bare_w hw (x := (itemD x)) (itemD_ok hx)) (fun v => ?_)
      refine VL.ex fun b => VL.fact fun e => VL.fact fun h21_1 => ?_
      subst e
      cases b
      ·have h21_1 := mt h21_1.2 (by decide)
       refine VL.not rfl ?_
       refine VL.nn ?_
       refine VC.yes rfl ?_
       refine VC.sr ?_
       refine VL.assign rfl ?_
       refine VL.assign rfl ?_
       refine VL.nn ?_
       refine VC.ret ?_
       refine VX.then_ret ?_
       refine VX.ret2 rfl rfl rfl (fun we hw => ?_)
       exact postO ((item5_n (.inl h17_0) h21_1)) ⟨none, 0, rfl, hw.drop.drop.drop.subA, Arr.none⟩
      ·have h21_1 := h21_1.1 rfl
       refine VL.not rfl ?_
       refine VL.nn ?_
       refine VC.no rfl ?_
       refine VC.skip ?_
       refine VX.next ?_
       refine VC.sr ?_
       refine VL.move rfl ?_
       refine VL.call Try.func118 rfl (by decide) rfl (fun w' hw => done_O hw) (fun v => ?_)
       refine VL.at (fun w65 h1w => ?_)
       obtain ⟨p66, c67, rfl, hO69, hA68⟩ := h1w
       refine VL.toOwn hO69 ?_
       refine VL.extract rfl rfl ?_
       refine VL.extract rfl rfl ?_
       refine VL.assign rfl ?_
       refine VL.assign rfl ?_
       refine VL.nn ?_
       refine VC.ret ?_
       refine VX.ret2 rfl rfl rfl (fun we hw => ?_)
       exact postO (((by cases hs : (objectO x.object).isSome <;> rfl : joinO ([be 1 x.kind, (objectO x.object).getD []]) (!(false || !(objectO x.object).isSome)) = joinO [be 1 x.kind, (objectO x.object).getD []] (objectO x.object).isSome).trans (item5_y (.inl h17_0) h21_1))) ⟨p66, c67, rfl, hw.drop.subA, (hA68.nowA (s := ⟨w65, _⟩) Mono.byte hw.drop)⟩
     ·have h17_0 : x.kind ≠ 5 := by omega
      refine VL.assign rfl ?_
      refine VL.nn ?_
      refine VC.no rfl ?_
      refine VC.region ?_
      refine VL.eql rfl rfl ?_
      refine VL.case (fun h18_0 => ?_) (fun h18_0 => ?_)
      ·have h18_0 : x.kind = 6 := by omega
       refine VL.assign rfl ?_
       refine VL.nn ?_
       refine VC.yes rfl ?_
       refine VC.sr ?_
       refine VL.move rfl ?_
       refine VL.fieldAddr rfl fo87_5 rfl ?_
       refine VL.loads (cs := cat (objectV (x.object) q d)) 2 21 7 rfl kd85 (fun _ h => h) rfl rfl rfl rfl ?_
       refine VL.call Try.func65 rfl (by decide) rfl (fun w' hw => putObject_w hw (x := x.object) hx.object (hV.nowA (s := ⟨w, _⟩) Mono_vouch hw)) (fun v => ?_)
       refine VL.at (fun w70 h1w => ?_)
       obtain ⟨p71, c72, rfl, hO74, hA73⟩ := h1w
       refine VL.toOwn hO74 ?_
       refine VL.extract rfl rfl ?_
       refine VL.extract rfl rfl ?_
       refine VL.call Try.func117 rfl (by decide) rfl (fun w' hw => piece_w hw (by simp only [List.length_append, List.length_cons, List.length_nil, List.length_map]; omega) (hA73.nowA (s := ⟨w70, _⟩) Mono.byte hw) (((objectO (x.object)).isSome))) (fun v => ?_)
       refine VL.fact fun e77 => ?_
       subst e77
       refine VL.ex fun gp75 => VL.ex fun c76 => ?_
       refine VL.nn ?_
       refine VC.region ?_
       refine VL.build0 (cs := cat (objectV (object0) none 0)) built85 ?_
       refine VL.fieldAddr rfl fo87_5 rfl ?_
       refine VL.store (L := itemL) (qs := (objectV (object0) none 0)) 2 21 7 rfl rfl rfl (.inl kd85) rfl rfl rfl (objectV_ok1 object0 none 0) rfl rfl ?_
       refine VL.set2 ?_
       refine VL.nil ?_
       refine VX.block_normal ?_
       refine VX.next ?_
       refine VC.seq ?_
       refine VC.sr ?_
       refine VL.loads (cs := cat (itemV ((itemD x)) p c none 0)) 2 0 28 rfl kd87 (fun _ h => h) rfl rfl rfl rfl ?_
       refine VL.call Try.func127 rfl (by decide) rfl (fun w' hw => bare_w hw (x := (itemD x)) (itemD_ok hx)) (fun v => ?_)
       refine VL.ex fun b => VL.fact fun e => VL.fact fun h21_1 => ?_
       subst e
       cases b
       ·have h21_1 := mt h21_1.2 (by decide)
        refine VL.not rfl ?_
        refine VL.nn ?_
        refine VC.yes rfl ?_
        refine VC.sr ?_
        refine VL.assign rfl ?_
        refine VL.assign rfl ?_
        refine VL.nn ?_
        refine VC.ret ?_
        refine VX.then_ret ?_
        refine VX.ret2 rfl rfl rfl (fun we hw => ?_)
        exact postO ((item5_n (.inr h18_0) h21_1)) ⟨none, 0, rfl, hw.drop.drop.drop.subA, Arr.none⟩
       ·have h21_1 := h21_1.1 rfl
        refine VL.not rfl ?_
        refine VL.nn ?_
        refine VC.no rfl ?_
        refine VC.skip ?_
        refine VX.next ?_
        refine VC.sr ?_
        refine VL.move rfl ?_
        refine VL.call Try.func118 rfl (by decide) rfl (fun w' hw => done_O hw) (fun v => ?_)
        refine VL.at (fun w78 h1w => ?_)
        obtain ⟨p79, c80, rfl, hO82, hA81⟩ := h1w
        refine VL.toOwn hO82 ?_
        refine VL.extract rfl rfl ?_
        refine VL.extract rfl rfl ?_
        refine VL.assign rfl ?_
        refine VL.assign rfl ?_
        refine VL.nn ?_
        refine VC.ret ?_
        refine VX.ret2 rfl rfl rfl (fun we hw => ?_)
        exact postO (((by cases hs : (objectO x.object).isSome <;> rfl : joinO ([be 1 x.kind, (objectO x.object).getD []]) (!(false || !(objectO x.object).isSome)) = joinO [be 1 x.kind, (objectO x.object).getD []] (objectO x.object).isSome).trans (item5_y (.inr h18_0) h21_1))) ⟨p79, c80, rfl, hw.drop.subA, (hA81.nowA (s := ⟨w78, _⟩) Mono.byte hw.drop)⟩
      ·have h18_0 : x.kind ≠ 6 := by omega
       refine VL.assign rfl ?_
       refine VL.nn ?_
       refine VC.no rfl ?_
       refine VC.sr ?_
       refine VL.assign rfl ?_
       refine VL.assign rfl ?_
       refine VL.nn ?_
       refine VC.ret ?_
       refine VX.block_ret ?_
       refine VX.then_ret ?_
       refine VX.ret2 rfl rfl rfl (fun we hw => ?_)
       exact postO ((item0_n h5_0 h8_0 h13_0 h9_0 h17_0 h18_0)) ⟨none, 0, rfl, hw.drop.drop.drop.subA, Arr.none⟩

end Go.Proofs.Ytcfecmoagfgnaaa

/- wire: what takes pieces: its fields; more rules. -/
namespace Go.Vc
section
variable {P : Program} {n : Nat} {Q : Exit → Act → World → Prop} {σ : Sl} {G : World → Prop} {ops : Array Oper} {rest : List Oper}
variable {d : Nat} {ty : TypeId} {pos : String} {aft : Array Edge}
variable {S : List Snap} {H H' : List Chunk}

theorem VC.letArr {X : Type} {R : Rel X} {hR : Mono R} {e : TypeId} {sz : Nat} {g : Option Nat} {c : Nat} {ys : List X} {code : Code} (h : ∀ w1, Own S H w1 → Arr sz R (keys H) w1 (g.map fun g => ⟨g, 0, none⟩) ys c → VC P n Q code σ (Own (⟨w1, keys H⟩ :: S) H)) : VC P n Q code σ (Own S (arow e sz R hR g c ys :: H)) := fun a w ha hw =>
 h w hw.drop hw.letArr a w ha hw.drop.keep

/-- 'x[a:]', its value spelled out. -/
theorem VL.dropE {t e : TypeId} {x o : Operand} {k : IntKind} {l : List UInt8} {p : Option Addr} {c : Nat} (a : Nat) (hx : ev σ x = some (.slice p l.length c)) (ho : ev σ o = some (.int k (a : Int))) (ht : P.underlying t = some (.slice e)) (hsz : (P.info? e).map (·.size) = some 1) (ha : a ≤ l.length) (hc : l.length ≤ c)
  (h : VL P n ops Q rest ((d, .slice (if c = a then p else p.map (·.add (a * 1))) (l.drop a).length (c - a)) :: σ) G) (hdn : Nat.blt d n = true := by rfl) : VL P n ops Q (⟨some d, .slice t x (some o) none none, ty, pos, aft, none⟩ :: rest) σ G := by
 refine VL.val rfl rfl hdn (fun b' w hb' _ => ?_) h
 have := run_sliceAt (P := P) (w := w) (p := p) (m := l.length) (c := c) (a := a) (b := l.length) (hi := none) (lo := some (.int k (a : Int))) ht hsz (.inr ⟨k, rfl⟩) (.inl ⟨rfl, rfl⟩) ha hc
 simp [execOp, hb'.ev hx, hb'.ev ho, this]

theorem seg_at {α : Type} {A B : List α} {o m : Nat} (hA : A.length = o) (l cur : List α) (hl : cur.length = l.length) : (A ++ (cur ++ B)).take o ++ l ++ (A ++ (cur ++ B)).drop (o + l.length) = A ++ (l ++ B) := by
 subst hA
 rw [List.take_left, List.append_assoc]
 congr 1
 congr 1
 rw [← hl, ← List.length_append, ← List.append_assoc, List.drop_left]

/-- 'copy(x[:], l)', where l is as long as the array x, which is part j of a variable. -/
theorem VL.copyPart {x y : Operand} {t1 t2 e T : TypeId} {tys : Array TypeId} {g o m c : Nat} {p : Option Addr} {l : List UInt8} {L : List Nat} {ps ps' : List (List Value)} (i j : Nat) (htys : tys = #[t1, t2]) (hu : P.underlying t1 = some (.slice e)) (hs : (P.info? e).map (·.size) = some 1)
  (hx : ev σ x = some (.slice (some ⟨g, o, none⟩) m m)) (hy : ev σ y = some (.slice p l.length c)) (hi : H[i]? = some (blk g T L ps)) (hLj : L[j]? = some m) (ho : (L.take j).sum = o) (hl : l.length = m) (hm : 0 < m) (hA : ∀ w, Own S H w → CellsAt w p (l.map bv))
  (hp : ps.set j (l.map bv) = ps') (hH : H.set i (blk g T L ps') = H') (h : ∀ v, VL P n ops Q rest ((d, v) :: σ) (Own S H')) (hdn : Nat.blt d n = true := by rfl) : VL P n ops Q (⟨some d, .call ⟨.builtin .copy, #[x, y], tys⟩, ty, pos, aft, none⟩ :: rest) σ (Own S H) := by
 subst htys
 refine VL.act (K := fun _ w' => Own S H' w') rfl rfl hdn (fun a w ha hw => ?_) h
 obtain ⟨hg, hL⟩ := hw.holds _ (List.mem_of_getElem? hi)
 have hjl : j < ps.length := by
  have := (List.getElem?_eq_some_iff.1 hLj).1
  rw [← hL] at this; simpa using this
 have hpj : (ps[j]).length = m := by
  have := (List.getElem?_eq_some_iff.1 hLj).2
  subst hL
  simpa using this
 have e0 := flatten_at ps j 1
 have h1 : (ps.drop j).take 1 = [ps[j]] := by
  rw [List.drop_eq_getElem_cons hjl, List.take_succ_cons, List.take_zero]
 rw [h1] at e0
 simp only [List.flatten_cons, List.flatten_nil, List.append_nil] at e0
 have hlen := sum_take_length ps j
 rw [hL, ho] at hlen
 have eset : (ps.set j (l.map bv)).flatten = (ps.take j).flatten ++ (l.map bv ++ (ps.drop (j + 1)).flatten) := by
  rw [List.set_eq_take_append_cons_drop, if_pos hjl]
  simp
 rcases hA w hw with ⟨_, h0⟩ | ⟨a', rfl, hc⟩
 ·have : l = [] := by simpa using h0
  subst this
  simp at hl; omega
 ·have hr := run_copy_row (P := P) w t1 t2 ty e g o m m a' l.length c (cat ps).toArray T (l.map bv) hu hs hg (by simp [hl]) hc (by
   rw [List.size_toArray, cat_eq, e0, List.length_append, List.length_append, hlen, hpj, List.length_map, hl]
   first | omega | skip) (ok1_bytes l)
  have e1 : (cat ps).toArray.toList.take o ++ l.map bv ++ (cat ps).toArray.toList.drop (o + (l.map bv).length) = cat ps' := by
   rw [← hp, cat_eq, cat_eq, eset, e0]
   exact seg_at (m := m) hlen _ _ (by rw [List.length_map, hl, hpj])
  rw [e1] at hr
  refine ⟨goInt (l.map bv).length, w.setRow g (cat ps').toArray, ?_, blk_set (ps' := ps') hw hi ?_ hH⟩
  ·simp [execOp, resolve, invoke, builtin, ha.ev hx, ha.ev hy, hr]
  ·rw [← hp, List.map_set, hL, List.length_map, hl, ← (List.getElem?_eq_some_iff.1 hLj).2]
   exact List.set_getElem_self _
end
end Go.Vc
namespace Go.Proofs.Ytcfecmoagfgnaaa
open Go.Vc Go.Pl
section
variable {n : Nat} {Q : Exit → Act → World → Prop} {σ : Sl} {G : World → Prop} {ops : Array Oper} {rest : List Oper}
variable {d : Nat} {ty : TypeId} {pos : String} {aft : Array Edge}
variable {S : List Snap} {H H' : List Chunk}

/-- The pieces that are left, loaded. -/
theorem loadParts {x : Operand} {g : Nat} {parts : List (List UInt8)} {why : Nat} (i : Nat) (hx : ev σ x = some (.pointer (some ⟨g, 0, none⟩))) (hi : H[i]? = some (rch g parts why))
  (h : ∀ p c w1, Own S H w1 → Arr 1 bytesR (keys H) w1 p parts c → VL Try.prog n ops Q rest ((d, .slice p parts.length c) :: σ) (Own (⟨w1, keys H⟩ :: S) H)) (hdn : Nat.blt d n = true := by rfl) : VL Try.prog n ops Q (⟨some d, .load 31 x, ty, pos, aft, none⟩ :: rest) σ (Own S H) := by
 refine VL.at fun w hw => ?_
 obtain ⟨ps, h1, h2, p, c, rfl, hA⟩ := hw.holds _ (List.mem_of_getElem? hi)
 refine VL.val (v := .slice p parts.length c) rfl rfl hdn (fun a w' ha e => ?_) (VL.turn (fun w' e => by subst e; exact hw.keep) (h p c w hw hA))
 subst e
 have hc : w'.cell? ⟨g, 0, none⟩ = some (.slice p parts.length c) := by
  rw [cell_of_row w' g 0 _ 196 (0, 0) h1]; rfl
 simp [execOp, ha.ev hx, run_load_cell kd31 hc]
/-- The error, loaded. -/
theorem loadWhy {x : Operand} {g : Nat} {parts : List (List UInt8)} {why : Nat} (i : Nat) (hx : ev σ x = some (.pointer (some ⟨g, 1, none⟩))) (hG : ∀ w, G w → Own S H w) (hi : H[i]? = some (rch g parts why))
  (h : VL Try.prog n ops Q rest ((d, .int .i64 why) :: σ) G) (hdn : Nat.blt d n = true := by rfl) : VL Try.prog n ops Q (⟨some d, .load 35 x, ty, pos, aft, none⟩ :: rest) σ G :=
 VL.val rfl rfl hdn (fun a w ha hw => by
  obtain ⟨ps, h1, h2, p, c, rfl, hA⟩ := (hG w hw).holds _ (List.mem_of_getElem? hi)
  have hc : w.cell? ⟨g, 1, none⟩ = some (.int .i64 why) := by
   rw [cell_of_row w g 1 _ 196 (0, 0) h1]; rfl
  simp [execOp, ha.ev hx, run_load_cell kd35 hc]) h
end
end Go.Proofs.Ytcfecmoagfgnaaa

/- wire: what bytes are read as: objects. -/
namespace Go.Proofs.Ytcfecmoagfgnaaa
open Go.Vc Go.Pl

theorem object_why' (l : List UInt8) : endW (vouchesW 4 (((((((openP l).drop 1).drop 1).drop 1).drop 1).drop 1).drop 1)).2.1 (if (vouchesW 4 (((((((openP l).drop 1).drop 1).drop 1).drop 1).drop 1).drop 1)).2.2 then (takesW objectK (openP l) (openW l)) else failW (takesW objectK (openP l) (openW l)) 141) = if (objectR l).isSome then 0 else 141 := by
 have := object_why l
 simpa only [List.drop_drop] using this
theorem object_vouches' {l : List UInt8} (h : (objectR l).isSome = true) : objectR l = some (objectOf (openP l) (vouchesW 4 (((((((openP l).drop 1).drop 1).drop 1).drop 1).drop 1).drop 1)).1) := by
 have := object_vouches h
 simpa only [List.drop_drop] using this
theorem object_fin {l : List UInt8} {vs : List Vouch} {ps : List (List UInt8)} (hv : vouchesW 4 (((((((openP l).drop 1).drop 1).drop 1).drop 1).drop 1).drop 1) = (vs ++ (vouchesW (4 - vs.length) ps).1, (vouchesW (4 - vs.length) ps).2.1, (vouchesW (4 - vs.length) ps).2.2)) (hx : ps = [] ∨ 4 ≤ vs.length) : endW ps (takesW objectK (openP l) (openW l)) = (if (objectR l).isSome then 0 else 141) ∧ ∀ y, objectR l = some y → y = objectOf (openP l) vs := by
 have e : vouchesW (4 - vs.length) ps = ([], ps, true) := by
  rcases hx with rfl | hx
  ·cases (4 - vs.length) <;> rfl
  ·rw [show 4 - vs.length = 0 by omega]
   cases ps <;> rfl
 rw [e] at hv
 have h1 := object_why' l
 rw [hv] at h1
 refine ⟨h1, fun y hy => ?_⟩
 have h2 := object_vouches' (l := l) (by rw [hy]; rfl)
 rw [hv, hy] at h2
 have := Option.some.inj h2
 rw [List.append_nil] at this
 exact this
theorem object_brk {l : List UInt8} {vs : List Vouch} {p : List UInt8} {r : List (List UInt8)} (hv : vouchesW 4 (((((((openP l).drop 1).drop 1).drop 1).drop 1).drop 1).drop 1) = (vs ++ (vouchesW (4 - vs.length) (p :: r)).1, (vouchesW (4 - vs.length) (p :: r)).2.1, (vouchesW (4 - vs.length) (p :: r)).2.2)) (hx : vs.length < 4) (hp : p.length ≠ 65) : objectR l = none ∧ endW r (failW (takesW objectK (openP l) (openW l)) 141) = 141 := by
 obtain ⟨k, hk⟩ : ∃ k, 4 - vs.length = k + 1 := ⟨4 - vs.length - 1, by omega⟩
 have e : vouchesW (4 - vs.length) (p :: r) = ([], r, false) := by rw [hk]; exact if_neg hp
 have hw : failW (takesW objectK (openP l) (openW l)) 141 = 141 := by
  obtain ⟨h1, h2⟩ := takesW_open (ks := objectK) (by simp) l
  by_cases hf : fitsP objectK (openP l)
  ·rw [h1 hf]; rfl
  ·rw [h2 hf]; rfl
 rw [e] at hv
 have h1 := object_why' l
 rw [hv] at h1
 have e2 : (if (vs ++ ([] : List Vouch), r, false).2.2 = true then (takesW objectK (openP l) (openW l)) else failW (takesW objectK (openP l) (openW l)) 141) = 141 := hw
 rw [e2, endW_141] at h1
 refine ⟨?_, by rw [hw, endW_141]⟩
 cases ho : objectR l with
 | none => rfl
 | some y => rw [ho] at h1; exact absurd h1 (by simp)
theorem vouch_step {l : List UInt8} {vs : List Vouch} {p : List UInt8} {r : List (List UInt8)} (hv : vouchesW 4 (((((((openP l).drop 1).drop 1).drop 1).drop 1).drop 1).drop 1) = (vs ++ (vouchesW (4 - vs.length) (p :: r)).1, (vouchesW (4 - vs.length) (p :: r)).2.1, (vouchesW (4 - vs.length) (p :: r)).2.2)) (hx : vs.length < 4) (hp : p.length = 65) : vouchesW 4 (((((((openP l).drop 1).drop 1).drop 1).drop 1).drop 1).drop 1) = ((vs ++ [vouchOf p]) ++ (vouchesW (4 - (vs ++ [vouchOf p]).length) r).1, (vouchesW (4 - (vs ++ [vouchOf p]).length) r).2.1, (vouchesW (4 - (vs ++ [vouchOf p]).length) r).2.2) := by
 obtain ⟨k, hk⟩ : ∃ k, 4 - vs.length = k + 1 := ⟨4 - vs.length - 1, by omega⟩
 have e : vouchesW (4 - vs.length) (p :: r) = (vouchOf p :: (vouchesW k r).1, (vouchesW k r).2.1, (vouchesW k r).2.2) := by rw [hk]; exact if_pos hp
 rw [hv, e, List.length_append, List.length_singleton, show 4 - (vs.length + 1) = k by omega, List.append_assoc]; rfl
abbrev vouchN (p : List UInt8) : Vouch := ⟨(p.headD 0).toNat, zeros 64⟩
theorem vouchN_ok (p : List UInt8) : (vouchN p).ok := ⟨UInt8.toNat_lt _, rfl⟩
theorem el83 : Elem Try.prog 83 202 65 65 (.agg (cat (vouchV vouch0)).toArray) := ⟨Try.underlying83, by kernel_rfl, by kernel_rfl, rfl, by decide⟩
theorem one_vouch {K : List Nat} {w : World} {v : Vouch} (hv : v.ok) (j : Nat) (y : Vouch) (hj : [v][j]? = some y) : vouchR K w ((([Value.agg (cat (vouchV v)).toArray].flatMap (·.cells.toList)).drop (j * 65)).take 65) y := by
 have hj0 : j = 0 := by have := (List.getElem?_eq_some_iff.1 hj).1; simp at this; exact this
 subst hj0
 simp at hj; subst hj
 refine ⟨hv, ?_⟩
 have e : [Value.agg (cat (vouchV v)).toArray].flatMap (·.cells.toList) = cat (vouchV v) := by simp [Value.cells]
 rw [e, Nat.zero_mul, List.drop_zero, List.take_of_length_le (by rw [cat_size (vouchV_len hv)]; decide)]
theorem objectOf_ok {l : List UInt8} {vs : List Vouch} (h : ∀ v ∈ vs, v.ok) : (objectOf (openP l) vs).ok := ⟨takeN_lt _ 1, takeN_lt _ 1, takeB_length _ _, takeN_lt _ 4, takeN_lt _ 4, takeB_length _ _, h⟩
theorem objectOf_nil (l : List UInt8) : (objectOf (openP l) []).ok := objectOf_ok (by simp)
theorem objectR_ok (l : List UInt8) : ((objectR l).getD object0).ok := by
 cases h : objectR l with
 | none => exact object0_ok
 | some x => exact (objectR_iff.1 h).1
theorem newRow {S : List Snap} {H : List Chunk} {w : World} (h : Own S H w) : Own S (arow 202 65 vouchR Mono_vouch none 0 ([] : List Vouch) :: H) w := Own.arow_nil Mono_vouch 202 65 h

theorem getObject_w {S : List Snap} {H : List Chunk} {w : World} (ho : Own S H w) {p : Option Addr} {l : List UInt8} {c : Nat} (hA : Bytes (keys H) w p l c) : Calls Try.prog 71 #[.slice p l.length c] w (Ret fun v w' => ∃ q d, v = .tuple #[.agg (cat (objectV ((objectR l).getD object0) q d)).toArray, .int .i64 (((if (objectR l).isSome then 0 else 141 : Nat)) : Int)] ∧ Own S H w' ∧ Arr 65 vouchR (keys H) w' q ((objectR l).getD object0).vouches d) := by
 refine enter (G := Own (⟨w, keys H⟩ :: S) H) ho.keep Try.func71 rfl Try.ntmps71 rfl ?_
 refine VC.sr ?_
 refine VL.alloc (L := objectL) (ps := (objectV (object0) none 0)) zero85 rfl rfl (fun g1 => ?_)
 refine VL.assign rfl ?_
 refine VL.nn ?_
 refine VC.sr ?_
 refine VL.move rfl ?_
 refine VL.call Try.func121 rfl (by decide) rfl (fun w' hw => open_R hw (hA.nowA (s := ⟨w, _⟩) Mono.byte hw)) (fun v => ?_)
 refine VL.ex fun g2 => VL.fact fun e3 => ?_
 subst e3
 refine VL.assign rfl ?_
 refine VL.nn ?_
 refine VC.sr ?_
 refine VL.move rfl ?_
 refine VL.call Try.func122 rfl (by decide) rfl (fun w' hw => byte_R (i := 0) rfl hw) (fun v => ?_)
 refine VL.fact fun e4 => ?_
 subst e4
 refine VL.set0 ?_
 refine VL.move rfl ?_
 refine VL.call Try.func122 rfl (by decide) rfl (fun w' hw => byte_R (i := 0) rfl hw) (fun v => ?_)
 refine VL.fact fun e5 => ?_
 subst e5
 refine VL.set0 ?_
 refine VL.move rfl ?_
 refine VL.call Try.func129 rfl (by decide) rfl (fun w' hw => key_R (i := 0) rfl hw) (fun v => ?_)
 refine VL.fact fun e6 => ?_
 subst e6
 refine VL.set0 ?_
 refine VL.move rfl ?_
 refine VL.call Try.func132 rfl (by decide) rfl (fun w' hw => num_R (i := 0) rfl hw 4 (by decide) (by decide)) (fun v => ?_)
 refine VL.fact fun e7 => ?_
 subst e7
 refine VL.set0 ?_
 refine VL.conv (by rw [Try.underlying22]; rfl) Try.underlying48 rfl (by have hlt := (takeN_lt ((((openP (l)).drop 1).drop 1).drop 1) 4); simp only [InR]; omega) ?_
 refine VL.move rfl ?_
 refine VL.call Try.func132 rfl (by decide) rfl (fun w' hw => num_R (i := 0) rfl hw 4 (by decide) (by decide)) (fun v => ?_)
 refine VL.fact fun e8 => ?_
 subst e8
 refine VL.set0 ?_
 refine VL.conv (by rw [Try.underlying22]; rfl) Try.underlying48 rfl (by have hlt := (takeN_lt (((((openP (l)).drop 1).drop 1).drop 1).drop 1) 4); simp only [InR]; omega) ?_
 refine VL.move rfl ?_
 refine VL.call Try.func131 rfl (by decide) rfl (fun w' hw => sig_R (i := 0) rfl hw) (fun v => ?_)
 refine VL.fact fun e9 => ?_
 subst e9
 refine VL.set0 ?_
 refine VL.build (zs := objectZ) (L := objectFL) [(0, [.int .u8 (takeN (openP (l)) 1)]), (1, [.int .u8 (takeN ((openP (l)).drop 1) 1)]), (2, (takeB 32 (((openP (l)).drop 1).drop 1)).map bv), (3, [.int .u32 (takeN ((((openP (l)).drop 1).drop 1).drop 1) 4)]), (4, [.int .u32 (takeN (((((openP (l)).drop 1).drop 1).drop 1).drop 1) 4)]), (5, (takeB 64 ((((((openP (l)).drop 1).drop 1).drop 1).drop 1).drop 1)).map bv)] plan85 rfl ⟨⟨rfl, ⟨_, rfl, rfl⟩, rfl⟩, ⟨⟨rfl, ⟨_, rfl, rfl⟩, rfl⟩, ⟨⟨rfl, ⟨_, rfl, rfl⟩, (arr_q (takeB_length (((openP (l)).drop 1).drop 1) 32))⟩, ⟨⟨rfl, ⟨_, rfl, rfl⟩, rfl⟩, ⟨⟨rfl, ⟨_, rfl, rfl⟩, rfl⟩, ⟨⟨rfl, ⟨_, rfl, rfl⟩, (arr_q (takeB_length ((((((openP (l)).drop 1).drop 1).drop 1).drop 1).drop 1) 64))⟩, trivial⟩⟩⟩⟩⟩⟩ rfl ?_
 refine VL.newv (v' := .agg (cat (objectV ((objectOf (openP l) [])) none 0)).toArray) rfl ?_
 refine VL.alloc (L := objectL) (ps := (objectV (object0) none 0)) zero85 rfl rfl (fun g10 => ?_)
 refine VL.store (L := objectL) (qs := (objectV ((objectOf (openP l) [])) none 0)) (ps' := (objectV ((objectOf (openP l) [])) none 0)) 0 0 7 rfl rfl rfl (.inl kd85) rfl rfl (objectV_len (objectOf_nil l)) (objectV_ok1 ((objectOf (openP l) [])) none 0) rfl rfl ?_
 refine VL.set0 ?_
 refine VL.nn ?_
 refine VC.seq ?_
 refine VC.block ?_
 refine VC.turn (G' := Own _ (arow 202 65 vouchR Mono_vouch none 0 ([] : List Vouch) :: blk g10 85 objectL (objectV ((objectOf (openP l) [])) none 0) :: rch g2 (((((((openP (l)).drop 1).drop 1).drop 1).drop 1).drop 1).drop 1) (lenW ((((((openP (l)).drop 1).drop 1).drop 1).drop 1).drop 1) (lenW (((((openP (l)).drop 1).drop 1).drop 1).drop 1) (lenW ((((openP (l)).drop 1).drop 1).drop 1) (lenW (((openP (l)).drop 1).drop 1) (lenW ((openP (l)).drop 1) (lenW (openP (l)) (openW (l)) 1) 1) 32) 4) 4) 64) :: blk g1 85 objectL (objectV (object0) none 0) :: H)) (fun w' h => newRow h) ?_
 refine VC.loop (X := List Vouch × List (List UInt8) × Option Nat × Nat) (fun _ => [(4, .pointer (some ⟨g2, 0, none⟩)), (5, .pointer (some ⟨g10, 0, none⟩)), (2, .pointer (some ⟨g1, 0, none⟩))]) (fun (vs, ps, gv, cv) w' => (vs.length ≤ 4 ∧ (∀ v ∈ vs, v.ok) ∧ vouchesW 4 (((((((openP l).drop 1).drop 1).drop 1).drop 1).drop 1).drop 1) = (vs ++ (vouchesW (4 - vs.length) ps).1, (vouchesW (4 - vs.length) ps).2.1, (vouchesW (4 - vs.length) ps).2.2)) ∧ Own (⟨w, keys H⟩ :: S) (arow 202 65 vouchR Mono_vouch gv cv vs :: blk g10 85 objectL (objectV ((objectOf (openP l) vs)) (gv.map fun g => (⟨g, 0, none⟩ : Addr)) cv) :: rch g2 ps (lenW ((((((openP (l)).drop 1).drop 1).drop 1).drop 1).drop 1) (lenW (((((openP (l)).drop 1).drop 1).drop 1).drop 1) (lenW ((((openP (l)).drop 1).drop 1).drop 1) (lenW (((openP (l)).drop 1).drop 1) (lenW ((openP (l)).drop 1) (lenW (openP (l)) (openW (l)) 1) 1) 32) 4) 4) 64) :: blk g1 85 objectL (objectV (object0) none 0) :: H) w') (fun (_, ps, _) => ps.length) ([], (((((((openP (l)).drop 1).drop 1).drop 1).drop 1).drop 1).drop 1), none, 0) ⟨rfl, rfl, rfl, trivial⟩ (fun w' h => ⟨⟨Nat.zero_le _, by simp, rfl⟩, h⟩) (fun (vs, ps, gv, cv) => VC.fact fun ⟨hn, hvs, hveq⟩ => ?_)
 ·skip
  refine VC.seq ?_
  refine VC.sr ?_
  refine VL.move rfl ?_
  refine VL.nilCheck rfl ?_
  refine VL.fieldAddr rfl fo196_0 rfl ?_
  refine loadParts 2 rfl rfl (fun p11 c12 w13 hO14 hA15 => ?_)
  refine VL.len Try.underlying31 rfl rfl ?_
  refine VL.gtr rfl rfl ?_
  refine VL.case (fun h3_5 => ?_) (fun h3_5 => ?_)
  ·obtain ⟨pc, rest, rfl⟩ : ∃ pc rest, ps = pc :: rest := by
    cases ps with
    | nil => exact absurd h3_5 (by simp)
    | cons a b => exact ⟨a, b, rfl⟩
   refine VL.move rfl ?_
   refine VL.go rfl rfl rfl ?_
   refine VL.fieldAddr rfl fo85_6 rfl ?_
   refine VL.go rfl rfl rfl ?_
   refine VL.load (v := .slice (gv.map fun g => (⟨g, 0, none⟩ : Addr)) ((objectOf (openP l) vs).vouches).length cv) 1 6 rfl kd83 (fun _ h => h) rfl rfl rfl ?_
   refine VL.go rfl rfl rfl ?_
   refine VL.len Try.underlying83 rfl rfl ?_
   refine VL.go rfl rfl rfl ?_
   refine VL.lss rfl rfl ?_
   refine VL.case (fun h3_10 => ?_) (fun h3_10 => ?_)
   ·have h3_10 : vs.length < 4 := by have h : ((vs.length : Nat) : Int) < 4 := h3_10; omega
    refine VL.pick_t rfl rfl ?_
    refine VL.nn ?_
    refine VC.yes rfl ?_
    refine VC.skip ?_
    refine VX.next ?_
    refine VC.block ?_
    refine VC.sr ?_
    refine VL.move rfl ?_
    refine VL.call Try.func124 rfl (by decide) rfl (fun w' hw => piece_R (i := 2) rfl hw) (fun v => ?_)
    refine VL.at (fun w16 h1w => ?_)
    obtain ⟨p17, c18, rfl, hO20, hA19⟩ := h1w
    replace hO20 := ownSet2 hO20
    replace hA19 := arrSet2 hA19
    refine VL.toOwn hO20 ?_
    refine VL.assign rfl ?_
    refine VL.nn ?_
    refine VC.seq ?_
    refine VC.sr ?_
    refine VL.move rfl ?_
    refine VL.len Try.underlying24 rfl rfl ?_
    refine VL.neq rfl rfl ?_
    refine VL.case (fun h5_2 => ?_) (fun h5_2 => ?_)
    ·have hpc : pc.length ≠ 65 := by have h : ((pc.length : Nat) : Int) ≠ 65 := h5_2; omega
     refine VL.nn ?_
     refine VC.yes rfl ?_
     refine VC.sr ?_
     refine VL.move rfl ?_
     refine VL.call Try.func125 rfl (by decide) rfl (fun w' hw => fail_R (i := 2) rfl hw (141)) (fun v => ?_)
     refine VL.fact fun e21 => ?_
     subst e21
     refine VL.set2 ?_
     refine VL.nn ?_
     refine VC.exit ?_
     refine VX.then_exit ?_
     refine VX.block_past rfl ?_
     refine VX.then_exit ?_
     refine VX.block_here ?_
     refine VX.next ?_
     refine VC.seq ?_
     refine VC.seq ?_
     refine VC.letArr (fun wr hOr hAr => ?_)
     refine VC.region ?_
     refine VL.move rfl ?_
     refine VL.call Try.func126 rfl (by decide) rfl (fun w' hw => end_R (i := 1) rfl hw) (fun v => ?_)
     refine VL.fact fun e22 => ?_
     subst e22
     refine VL.set1 ?_
     refine VL.assign rfl ?_
     refine VL.nn ?_
     refine VC.sr ?_
     refine VL.move rfl ?_
     refine VL.neq rfl rfl ?_
     refine VL.case (fun h11_1 => ?_) (fun h11_1 => ?_)
     ·refine VL.nn ?_
      refine VC.yes rfl ?_
      refine VC.sr ?_
      refine VL.build0 (cs := cat (objectV (object0) none 0)) built85 ?_
      refine VL.move rfl ?_
      refine VL.store (L := objectL) (qs := (objectV (object0) none 0)) (ps' := (objectV (object0) none 0)) 2 0 7 rfl rfl rfl (.inl kd85) rfl rfl rfl (objectV_ok1 object0 none 0) rfl rfl ?_
      refine VL.set2 ?_
      refine VL.assign rfl ?_
      refine VL.nn ?_
      refine VC.ret ?_
      refine VX.then_ret ?_
      refine VX.ret_cell (cs := cat (objectV (object0) none 0)) 2 rfl rfl rfl kd85 (fun _ h => h) rfl rfl (fun we hw => ?_)
      obtain ⟨e1, e2⟩ := object_brk hveq h3_10 hpc
      exact ⟨none, 0, by rw [e1]; exact congrArg (fun n : Nat => Value.tuple #[_, .int .i64 (n : Int)]) e2, hw.drop.drop.drop.subA, by rw [e1]; exact Arr.none⟩
     ·refine VL.nn ?_
      refine VC.no rfl ?_
      refine VC.skip ?_
      refine VX.next ?_
      refine VC.sr ?_
      refine VL.loads (cs := cat (objectV ((objectOf (openP l) vs)) (gv.map fun g => (⟨g, 0, none⟩ : Addr)) cv)) 0 0 7 rfl kd85 (fun _ h => h) rfl rfl rfl rfl ?_
      refine VL.store (L := objectL) (qs := (objectV ((objectOf (openP l) vs)) (gv.map fun g => (⟨g, 0, none⟩ : Addr)) cv)) (ps' := (objectV ((objectOf (openP l) vs)) (gv.map fun g => (⟨g, 0, none⟩ : Addr)) cv)) 2 0 7 rfl rfl rfl (.inl kd85) rfl rfl (objectV_len (objectOf_ok hvs)) (objectV_ok1 ((objectOf (openP l) vs)) (gv.map fun g => (⟨g, 0, none⟩ : Addr)) cv) rfl rfl ?_
      refine VL.set2 ?_
      refine VL.assign rfl ?_
      refine VL.nn ?_
      refine VC.ret ?_
      refine VX.ret_cell (cs := cat (objectV ((objectOf (openP l) vs)) (gv.map fun g => (⟨g, 0, none⟩ : Addr)) cv)) 2 rfl rfl rfl (by rw [cat_size (objectV_len (objectOf_ok hvs))]; exact kd85) (fun _ h => h) rfl rfl (fun we hw => ?_)
      exact absurd (fun e => absurd ((congrArg (fun n : Nat => (n : Int)) (object_brk hveq h3_10 hpc).2).symm.trans e) (by decide)) h11_1
    ·have hpc : pc.length = 65 := by have h : ¬ ((pc.length : Nat) : Int) ≠ 65 := h5_2; omega
     refine VL.nn ?_
     refine VC.no rfl ?_
     refine VC.skip ?_
     refine VX.next ?_
     refine VC.sr ?_
     refine VL.move rfl ?_
     refine VL.index (xs := pc) rfl rfl Try.underlying24 sz24 hA19 (by omega) (by omega) ?_
     refine VL.byte (s := ⟨w16, _⟩) rfl kd5 (fun _ h => h) (by repeat (first | exact List.mem_cons_self .. | apply List.mem_cons_of_mem)) hA19 (y := pc.headD 0) (by
      show pc[0]? = _
      cases pc with
      | nil => simp at hpc
      | cons a r => rfl) ?_
     refine VL.build (zs := vouchZ) (L := vouchFL) [(0, [.int .u8 ((pc.headD 0).toNat)])] plan202 rfl ⟨⟨rfl, ⟨_, rfl, rfl⟩, rfl⟩, trivial⟩ rfl ?_
     refine VL.newv (v' := .agg (cat (vouchV ((vouchN pc)))).toArray) rfl ?_
     refine VL.alloc (L := vouchL) (ps := (vouchV (vouch0))) zero202 rfl rfl (fun g23 => ?_)
     refine VL.store (L := vouchL) (qs := (vouchV ((vouchN pc)))) (ps' := (vouchV ((vouchN pc)))) 0 0 2 rfl rfl rfl (.inl kd202) rfl rfl (vouchV_len (vouchN_ok pc)) (vouchV_ok1 ((vouchN pc))) rfl rfl ?_
     refine VL.set0 ?_
     refine VL.nn ?_
     refine VC.seq ?_
     apply VC.anyTA 4 1005 (F := [eqF _, eqF _, eqF _, eqF _]) [⟨[], [7]⟩, ⟨[(49, 0)], []⟩, ⟨[], [6]⟩, ⟨[(51, 2)], []⟩] [(50, 1), (52, 3)] [0, 2, 3, 4, 5, 6, 7, 8, 9, 10, 11, 12, 13, 14, 15, 16, 17, 18, 19, 20, 21, 22, 23, 24, 25, 26, 27, 28, 29, 30, 31, 32, 33, 34, 35, 36, 37, 38, 39, 40, 41, 42, 43, 45, 46, 47, 48, 54, 55, 56, 57, 58, 59, 60, 61, 62, 63, 64, 65, 66] rfl (by kernel_rfl) (by kernel_rfl) rfl rfl (by kernel_rfl) (by kernel_rfl) (by kernel_rfl) rfl ?obs8 ?end8
     case obs8 =>
      refine Obs.cons ?_ ?_
      ·refine obS (by kernel_rfl) rfl rfl (fun ph8 w8 hO8 => ?_)
       refine VL.fieldAddr rfl fo202_1 rfl ?_
       exact VL.finS hO8 rfl rfl
      refine Obs.cons ?_ ?_
      ·refine obS (by kernel_rfl) rfl rfl (fun ph8 w8 hO8 => ?_)
       rintro _ rfl
       refine VL.sliceArrAt Try.underlying80 (by kernel_rfl) rfl ?_
       exact VL.finS hO8 rfl rfl
      refine Obs.cons ?_ ?_
      ·refine obS (by kernel_rfl) rfl rfl (fun ph8 w8 hO8 => ?_)
       refine VL.move rfl ?_
       exact VL.finS hO8 rfl rfl
      refine Obs.cons ?_ ?_
      ·refine obS (by kernel_rfl) rfl rfl (fun ph8 w8 hO8 => ?_)
       rintro _ rfl
       refine VL.dropE (l := pc) 1 rfl rfl Try.underlying24 sz24 (by omega) hA19.le ?_
       exact VL.finS hO8 rfl rfl
      exact Obs.nil
     case end8 =>
      intro w8 hO8
      rintro _ rfl _ rfl
      refine VL.toOwn hO8 ?_
      refine VL.copyPart (l := pc.drop 1) (ps' := vouchV (vouchOf pc)) 0 1 rfl Try.underlying24 (by kernel_rfl) rfl rfl rfl rfl rfl (by rw [List.length_drop]; omega) (by decide) (fun _ hw => (Arr.now (s := ⟨w16, _⟩) (hA19.drop 1 (Nat.le_trans (by omega) hA19.le)) Mono.byte hw (by repeat (first | exact List.mem_cons_self .. | apply List.mem_cons_of_mem))).bytes) rfl rfl (fun _ => ?_)
      refine VL.nn ?_
      refine VC.region ?_
      refine VL.fieldAddr rfl fo85_6 rfl ?_
      refine VL.load (v := .slice (gv.map fun g => (⟨g, 0, none⟩ : Addr)) ((objectOf (openP l) vs).vouches).length cv) 2 6 rfl kd83 (fun _ h => h) rfl rfl rfl ?_
      refine VL.loads (cs := cat (vouchV ((vouchOf pc)))) 0 0 2 rfl kd202 (fun _ h => h) rfl rfl rfl rfl ?_
      refine VL.lit el83 rfl rfl rfl (by intro v hv; simp only [List.mem_singleton] at hv; subst hv; show (cat (vouchV (vouchOf pc))).toArray.size = 65; rw [List.size_toArray, cat_size (vouchV_len (vouchOf_ok hpc))]; rfl) (by rw [show [Value.agg (cat (vouchV (vouchOf pc))).toArray].flatMap (·.cells.toList) = cat (vouchV (vouchOf pc)) by simp [Value.cells]]; exact vouchV_ok1 _) (fun gl => ?_)
      refine VL.letRow vouchR [vouchOf pc] rfl (fun w' hw => one_vouch (vouchOf_ok hpc)) (fun wl hOl hAl => ?_)
      refine VL.appends (R := vouchR) (hR := Mono_vouch) (ys := vs) (zs := [vouchOf pc]) 1 el83 rfl rfl rfl (fun _ h => h) rfl (fun _ hw => (hAl.nowA (s := ⟨wl, _⟩) Mono_vouch hw)) (fun _ _ _ _ h => by obtain ⟨_, rfl⟩ := h; exact vouchV_ok1 _) (by simp only [List.length_cons, List.length_nil]; omega) (fun gv2 cv2 => ?_) (by simp only [List.length_cons, List.length_nil]; omega)
      refine VL.set1 ?_
      refine VL.fieldAddr rfl fo85_6 rfl ?_
      refine VL.store (L := objectL) (qs := [[rowV gv2 (vs ++ [vouchOf pc]).length cv2]]) (ps' := (objectV ((objectOf (openP l) (vs ++ [vouchOf pc]))) (gv2.map fun g => (⟨g, 0, none⟩ : Addr)) cv2)) 2 6 1 rfl rfl rfl (.inr ⟨kd83, rfl⟩) rfl rfl rfl (by intro u hu; simp [cat] at hu; subst hu; rfl) rfl rfl ?_
      refine VL.set2 ?_
      refine VL.nil ?_
      refine VX.block_normal ?_
      refine VX.round (vs ++ [vouchOf pc], rest, gv2, cv2) ⟨rfl, rfl, rfl, trivial⟩ (fun w' h => ⟨⟨by rw [List.length_append, List.length_singleton]; omega, fun v hv => ?_, vouch_step hveq (by omega) hpc⟩, (h.drop).subA⟩) (by show rest.length < (pc :: rest).length; simp)
      rw [List.mem_append, List.mem_singleton] at hv
      rcases hv with hv | rfl
      ·exact hvs v hv
      ·exact vouchOf_ok hpc
   ·have h3_10 : 4 ≤ vs.length := by have h : ¬ ((vs.length : Nat) : Int) < 4 := h3_10; omega
    refine VL.pick_t rfl rfl ?_
    refine VL.nn ?_
    refine VC.no rfl ?_
    refine VC.exit ?_
    refine VX.then_exit ?_
    refine VX.then_exit ?_
    refine VX.block_here ?_
    refine VX.next ?_
    refine VC.seq ?_
    refine VC.seq ?_
    refine VC.letArr (fun wr hOr hAr => ?_)
    refine VC.region ?_
    refine VL.move rfl ?_
    refine VL.call Try.func126 rfl (by decide) rfl (fun w' hw => end_R (i := 1) rfl hw) (fun v => ?_)
    refine VL.fact fun e24 => ?_
    subst e24
    refine VL.set1 ?_
    refine VL.assign rfl ?_
    refine VL.nn ?_
    refine VC.sr ?_
    refine VL.move rfl ?_
    refine VL.neq rfl rfl ?_
    refine VL.case (fun h11_1 => ?_) (fun h11_1 => ?_)
    ·refine VL.nn ?_
     refine VC.yes rfl ?_
     refine VC.sr ?_
     refine VL.build0 (cs := cat (objectV (object0) none 0)) built85 ?_
     refine VL.move rfl ?_
     refine VL.store (L := objectL) (qs := (objectV (object0) none 0)) (ps' := (objectV (object0) none 0)) 2 0 7 rfl rfl rfl (.inl kd85) rfl rfl rfl (objectV_ok1 object0 none 0) rfl rfl ?_
     refine VL.set2 ?_
     refine VL.assign rfl ?_
     refine VL.nn ?_
     refine VC.ret ?_
     refine VX.then_ret ?_
     refine VX.ret_cell (cs := cat (objectV (object0) none 0)) 2 rfl rfl rfl kd85 (fun _ h => h) rfl rfl (fun we hw => ?_)
     obtain ⟨hfin, _⟩ := object_fin hveq (.inr h3_10)
     obtain ⟨e1, e2⟩ := why_none h11_1 hfin
     exact ⟨none, 0, by rw [e1]; exact congrArg (fun n : Nat => Value.tuple #[_, .int .i64 (n : Int)]) e2, hw.drop.drop.drop.subA, by rw [e1]; exact Arr.none⟩
    ·refine VL.nn ?_
     refine VC.no rfl ?_
     refine VC.skip ?_
     refine VX.next ?_
     refine VC.sr ?_
     refine VL.loads (cs := cat (objectV ((objectOf (openP l) vs)) (gv.map fun g => (⟨g, 0, none⟩ : Addr)) cv)) 0 0 7 rfl kd85 (fun _ h => h) rfl rfl rfl rfl ?_
     refine VL.store (L := objectL) (qs := (objectV ((objectOf (openP l) vs)) (gv.map fun g => (⟨g, 0, none⟩ : Addr)) cv)) (ps' := (objectV ((objectOf (openP l) vs)) (gv.map fun g => (⟨g, 0, none⟩ : Addr)) cv)) 2 0 7 rfl rfl rfl (.inl kd85) rfl rfl (objectV_len (objectOf_ok hvs)) (objectV_ok1 ((objectOf (openP l) vs)) (gv.map fun g => (⟨g, 0, none⟩ : Addr)) cv) rfl rfl ?_
     refine VL.set2 ?_
     refine VL.assign rfl ?_
     refine VL.nn ?_
     refine VC.ret ?_
     refine VX.ret_cell (cs := cat (objectV ((objectOf (openP l) vs)) (gv.map fun g => (⟨g, 0, none⟩ : Addr)) cv)) 2 rfl rfl rfl (by rw [cat_size (objectV_len (objectOf_ok hvs))]; exact kd85) (fun _ h => h) rfl rfl (fun we hw => ?_)
     obtain ⟨hfin, hy2⟩ := object_fin hveq (.inr h3_10)
     obtain ⟨y, e1⟩ := why_some h11_1 hfin
     have e3 := hy2 y e1
     rw [e1, e3]
     exact ⟨_, _, rfl, hw.drop.drop.drop.subA, hAr.nowA (s := ⟨wr, _⟩) Mono_vouch hw.drop.drop.drop⟩
  ·obtain rfl : ps = [] := List.eq_nil_of_length_eq_zero (by omega)
   refine VL.move rfl ?_
   refine VL.pass rfl rfl rfl rfl rfl ?_
   refine VL.pass rfl rfl rfl rfl rfl ?_
   refine VL.pass rfl rfl rfl rfl rfl ?_
   refine VL.pass rfl rfl rfl rfl rfl ?_
   refine VL.pick_f rfl rfl ?_
   refine VL.nn ?_
   refine VC.no rfl ?_
   refine VC.exit ?_
   refine VX.then_exit ?_
   refine VX.then_exit ?_
   refine VX.block_here ?_
   refine VX.next ?_
   refine VC.seq ?_
   refine VC.seq ?_
   refine VC.letArr (fun wr hOr hAr => ?_)
   refine VC.region ?_
   refine VL.move rfl ?_
   refine VL.call Try.func126 rfl (by decide) rfl (fun w' hw => end_R (i := 1) rfl hw) (fun v => ?_)
   refine VL.fact fun e25 => ?_
   subst e25
   refine VL.set1 ?_
   refine VL.assign rfl ?_
   refine VL.nn ?_
   refine VC.sr ?_
   refine VL.move rfl ?_
   refine VL.neq rfl rfl ?_
   refine VL.case (fun h11_1 => ?_) (fun h11_1 => ?_)
   ·refine VL.nn ?_
    refine VC.yes rfl ?_
    refine VC.sr ?_
    refine VL.build0 (cs := cat (objectV (object0) none 0)) built85 ?_
    refine VL.move rfl ?_
    refine VL.store (L := objectL) (qs := (objectV (object0) none 0)) (ps' := (objectV (object0) none 0)) 2 0 7 rfl rfl rfl (.inl kd85) rfl rfl rfl (objectV_ok1 object0 none 0) rfl rfl ?_
    refine VL.set2 ?_
    refine VL.assign rfl ?_
    refine VL.nn ?_
    refine VC.ret ?_
    refine VX.then_ret ?_
    refine VX.ret_cell (cs := cat (objectV (object0) none 0)) 2 rfl rfl rfl kd85 (fun _ h => h) rfl rfl (fun we hw => ?_)
    obtain ⟨hfin, _⟩ := object_fin hveq (.inl rfl)
    obtain ⟨e1, e2⟩ := why_none h11_1 hfin
    exact ⟨none, 0, by rw [e1]; exact congrArg (fun n : Nat => Value.tuple #[_, .int .i64 (n : Int)]) e2, hw.drop.drop.drop.subA, by rw [e1]; exact Arr.none⟩
   ·refine VL.nn ?_
    refine VC.no rfl ?_
    refine VC.skip ?_
    refine VX.next ?_
    refine VC.sr ?_
    refine VL.loads (cs := cat (objectV ((objectOf (openP l) vs)) (gv.map fun g => (⟨g, 0, none⟩ : Addr)) cv)) 0 0 7 rfl kd85 (fun _ h => h) rfl rfl rfl rfl ?_
    refine VL.store (L := objectL) (qs := (objectV ((objectOf (openP l) vs)) (gv.map fun g => (⟨g, 0, none⟩ : Addr)) cv)) (ps' := (objectV ((objectOf (openP l) vs)) (gv.map fun g => (⟨g, 0, none⟩ : Addr)) cv)) 2 0 7 rfl rfl rfl (.inl kd85) rfl rfl (objectV_len (objectOf_ok hvs)) (objectV_ok1 ((objectOf (openP l) vs)) (gv.map fun g => (⟨g, 0, none⟩ : Addr)) cv) rfl rfl ?_
    refine VL.set2 ?_
    refine VL.assign rfl ?_
    refine VL.nn ?_
    refine VC.ret ?_
    refine VX.ret_cell (cs := cat (objectV ((objectOf (openP l) vs)) (gv.map fun g => (⟨g, 0, none⟩ : Addr)) cv)) 2 rfl rfl rfl (by rw [cat_size (objectV_len (objectOf_ok hvs))]; exact kd85) (fun _ h => h) rfl rfl (fun we hw => ?_)
    obtain ⟨hfin, hy2⟩ := object_fin hveq (.inl rfl)
    obtain ⟨y, e1⟩ := why_some h11_1 hfin
    have e3 := hy2 y e1
    rw [e1, e3]
    exact ⟨_, _, rfl, hw.drop.drop.drop.subA, hAr.nowA (s := ⟨wr, _⟩) Mono_vouch hw.drop.drop.drop⟩

end Go.Proofs.Ytcfecmoagfgnaaa

