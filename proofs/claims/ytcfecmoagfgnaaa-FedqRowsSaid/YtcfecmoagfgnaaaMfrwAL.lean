/- The statement FedqRows is proved, for every input: part 12 of 21 of the texts that it needs. -/
import Derived.Test.YtcfecmoagfgnaaaMfrwAK
/- The reference: letters. -/
namespace Go.Proofs.Ytcfecmoagfgnaaa
open Go.Vc Go.Pl

theorem num_S {S : List Snap} {H : List Chunk} {w : World} (ho : Own S H w) (m k : Nat) (hm : m ≤ 4294967295) (h1 : 1 ≤ k) (h8 : k ≤ 8) (hf : Fits k m) : Calls Try.prog 108 #[.int .i64 m, .int .i64 k] w (Ret fun v w' => ∃ p c, v = .slice p (be k m).length c ∧ Own S H w' ∧ Bytes (keys H) w' p (be k m) c) :=
 calls_mono (num_any ho m k hm h1 h8 hf) fun v w' ⟨h1, p, c, e, hA⟩ => ⟨p, c, by rw [be_length]; exact e, h1, hA⟩
theorem all_S {S : List Snap} {H : List Chunk} {w : World} (ho : Own S H w) {p : Option Addr} {ls : List (List UInt8)} {c : Nat} (hA : Arr 1 bytesR (keys H) w p ls c) (hok : joinOk ls) : Calls Try.prog 120 #[.slice p ls.length c] w (Ret fun v w' => ∃ p c, v = .slice p (joinB ls).length c ∧ Own S H w' ∧ Bytes (keys H) w' p (joinB ls) c) :=
 calls_mono (all_any ho hA hok) fun v w' ⟨h1, p, c, e, hA⟩ => ⟨p, c, e, h1, hA⟩
theorem join_O {S : List Snap} {H : List Chunk} {w : World} (ho : Own S H w) {p : Option Addr} {ls : List (List UInt8)} {c : Nat} (hA : Arr 1 bytesR (keys H) w p ls c) : Calls Try.prog 31 #[.slice p ls.length c] w (RetO S H (joinO ls true)) := by
 refine calls_mono (refJoin_any ho hA) fun v w' ⟨h1, h2⟩ => ?_
 rcases h2 with ⟨h3, p, c, e, hA⟩ | ⟨h3, e⟩
 ·rw [joinO_some h3 rfl]
  exact ⟨p, c, e, h1, hA⟩
 ·rw [joinO_none fun h => h3 h.1]
  exact ⟨none, 0, e, h1, Arr.none⟩
theorem refHeader_w {S : List Snap} {H : List Chunk} {w : World} (ho : Own S H w) {x : Header} (hx : x.ok) : Calls Try.prog 53 #[.agg (cat (headerV x)).toArray] w (RetO S H (headerO x)) := by
 have hx1 := hx.id
 have hx2 := hx.n
 have hx3 := hx.prev
 refine enter (G := Own (⟨w, keys H⟩ :: S) H) ho.keep Try.func53 rfl Try.ntmps53 rfl ?_
 refine VC.sr ?_
 refine VL.box (L := headerL) (ps := (headerV (x))) rfl rfl (headerV_len hx) (fun g1 => ?_)
 refine VL.assign rfl ?_
 refine VL.assign rfl ?_
 refine VL.nn ?_
 refine VC.sr ?_
 refine VL.assign rfl ?_
 refine VL.nn ?_
 refine VC.seq ?_
 refine VC.sr ?_
 refine VL.fieldAddr rfl fo70_1 rfl ?_
 refine VL.load (v := .bool x.first) 0 1 rfl kd4 (fun _ h => h) rfl rfl rfl ?_
 cases h2_1 : x.first
 ·refine VL.nn ?_
  refine VC.no rfl ?_
  refine VC.skip ?_
  refine VX.next ?_
  refine VC.seq ?_
  refine VC.sr ?_
  refine VL.fieldAddr rfl fo70_1 rfl ?_
  refine VL.load (v := .bool x.first) 0 1 rfl kd4 (fun _ h => h) rfl rfl rfl ?_
  rw [h2_1]
  refine VL.not rfl ?_
  refine VL.move rfl ?_
  refine VL.go rfl rfl rfl ?_
  refine VL.fieldAddr rfl fo70_2 rfl ?_
  refine VL.go rfl rfl rfl ?_
  refine VL.loads (cs := (x.agree).map bv) 0 2 1 rfl kd44 (fun _ h => h) rfl rfl rfl rfl ?_
  refine VL.go rfl rfl rfl ?_
  refine VL.build0 (cs := (zeros 32).map bv) built43 ?_
  refine VL.go rfl rfl rfl ?_
  refine VL.neT guard44 rfl rfl (eqKey 9998 hx.agree rfl) (fun b h4_7 => ?_)
  cases b
  ·have h4_7 := mt h4_7.2 (by decide)
   refine VL.go rfl rfl rfl ?_
   refine VL.move rfl ?_
   refine VL.pass rfl rfl rfl rfl rfl ?_
   refine VL.pass rfl rfl rfl rfl rfl ?_
   refine VL.pass rfl rfl rfl rfl rfl ?_
   refine VL.pass rfl rfl rfl rfl rfl ?_
   refine VL.go rfl rfl rfl ?_
   refine VL.pick_t rfl rfl ?_
   refine VL.go rfl rfl rfl ?_
   refine VL.move rfl ?_
   refine VL.pass rfl rfl rfl rfl rfl ?_
   refine VL.pass rfl rfl rfl rfl rfl ?_
   refine VL.pass rfl rfl rfl rfl rfl ?_
   refine VL.pass rfl rfl rfl rfl rfl ?_
   refine VL.go rfl rfl rfl ?_
   refine VL.pick_t rfl rfl ?_
   refine VL.go rfl rfl rfl ?_
   refine VL.move rfl ?_
   refine VL.pass rfl rfl rfl rfl rfl ?_
   refine VL.pass rfl rfl rfl rfl rfl ?_
   refine VL.pass rfl rfl rfl rfl rfl ?_
   refine VL.go rfl rfl rfl ?_
   refine VL.pick_t rfl rfl ?_
   refine VL.pick_t rfl rfl ?_
   refine VL.nn ?_
   refine VC.yes rfl ?_
   refine VC.sr ?_
   refine VL.assign rfl ?_
   refine VL.assign rfl ?_
   refine VL.nn ?_
   refine VC.ret ?_
   refine VX.then_ret ?_
   refine VX.ret2 rfl rfl rfl (fun we hw => ?_)
   exact postO (headerO_none (by unfold headerFit; simp [h2_1, h4_7])) ⟨none, 0, rfl, hw.drop.subA, Arr.none⟩
  ·have h4_7 := h4_7.1 rfl
   refine VL.go rfl rfl rfl ?_
   refine VL.move rfl ?_
   refine VL.go rfl rfl rfl ?_
   refine VL.fieldAddr rfl fo70_3 rfl ?_
   refine VL.go rfl rfl rfl ?_
   refine VL.loads (cs := (x.signer).map bv) 0 3 1 rfl kd44 (fun _ h => h) rfl rfl rfl rfl ?_
   refine VL.go rfl rfl rfl ?_
   refine VL.build0 (cs := (zeros 32).map bv) built43 ?_
   refine VL.go rfl rfl rfl ?_
   refine VL.neT guard44 rfl rfl (eqKey 9998 hx.signer rfl) (fun b h4_12 => ?_)
   cases b
   ·have h4_12 := mt h4_12.2 (by decide)
    refine VL.go rfl rfl rfl ?_
    refine VL.pick_f rfl rfl ?_
    refine VL.go rfl rfl rfl ?_
    refine VL.move rfl ?_
    refine VL.pass rfl rfl rfl rfl rfl ?_
    refine VL.pass rfl rfl rfl rfl rfl ?_
    refine VL.pass rfl rfl rfl rfl rfl ?_
    refine VL.pass rfl rfl rfl rfl rfl ?_
    refine VL.go rfl rfl rfl ?_
    refine VL.pick_t rfl rfl ?_
    refine VL.go rfl rfl rfl ?_
    refine VL.move rfl ?_
    refine VL.pass rfl rfl rfl rfl rfl ?_
    refine VL.pass rfl rfl rfl rfl rfl ?_
    refine VL.pass rfl rfl rfl rfl rfl ?_
    refine VL.go rfl rfl rfl ?_
    refine VL.pick_t rfl rfl ?_
    refine VL.pick_t rfl rfl ?_
    refine VL.nn ?_
    refine VC.yes rfl ?_
    refine VC.sr ?_
    refine VL.assign rfl ?_
    refine VL.assign rfl ?_
    refine VL.nn ?_
    refine VC.ret ?_
    refine VX.then_ret ?_
    refine VX.ret2 rfl rfl rfl (fun we hw => ?_)
    exact postO (headerO_none (by unfold headerFit; simp [h2_1, h4_7, h4_12])) ⟨none, 0, rfl, hw.drop.subA, Arr.none⟩
   ·have h4_12 := h4_12.1 rfl
    refine VL.go rfl rfl rfl ?_
    refine VL.pick_f rfl rfl ?_
    refine VL.go rfl rfl rfl ?_
    refine VL.move rfl ?_
    refine VL.go rfl rfl rfl ?_
    refine VL.fieldAddr rfl fo70_4 rfl ?_
    refine VL.go rfl rfl rfl ?_
    refine VL.loads (cs := (x.base).map bv) 0 4 1 rfl kd44 (fun _ h => h) rfl rfl rfl rfl ?_
    refine VL.go rfl rfl rfl ?_
    refine VL.build0 (cs := (zeros 32).map bv) built43 ?_
    refine VL.go rfl rfl rfl ?_
    refine VL.neT guard44 rfl rfl (eqKey 9998 hx.base rfl) (fun b h4_18 => ?_)
    cases b
    ·have h4_18 := mt h4_18.2 (by decide)
     refine VL.go rfl rfl rfl ?_
     refine VL.pick_f rfl rfl ?_
     refine VL.go rfl rfl rfl ?_
     refine VL.move rfl ?_
     refine VL.pass rfl rfl rfl rfl rfl ?_
     refine VL.pass rfl rfl rfl rfl rfl ?_
     refine VL.pass rfl rfl rfl rfl rfl ?_
     refine VL.go rfl rfl rfl ?_
     refine VL.pick_t rfl rfl ?_
     refine VL.pick_t rfl rfl ?_
     refine VL.nn ?_
     refine VC.yes rfl ?_
     refine VC.sr ?_
     refine VL.assign rfl ?_
     refine VL.assign rfl ?_
     refine VL.nn ?_
     refine VC.ret ?_
     refine VX.then_ret ?_
     refine VX.ret2 rfl rfl rfl (fun we hw => ?_)
     exact postO (headerO_none (by unfold headerFit; simp [h2_1, h4_7, h4_12, h4_18])) ⟨none, 0, rfl, hw.drop.subA, Arr.none⟩
    ·have h4_18 := h4_18.1 rfl
     refine VL.go rfl rfl rfl ?_
     refine VL.pick_f rfl rfl ?_
     refine VL.go rfl rfl rfl ?_
     refine VL.move rfl ?_
     refine VL.go rfl rfl rfl ?_
     refine VL.fieldAddr rfl fo70_5 rfl ?_
     refine VL.go rfl rfl rfl ?_
     refine VL.load (v := .int .u16 (x.id)) 0 5 rfl kd68 (fun _ h => h) rfl rfl rfl ?_
     refine VL.go rfl rfl rfl ?_
     refine VL.gtr rfl rfl ?_
     refine VL.case (fun h4_23 => ?_) (fun h4_23 => ?_)
     ·have h4_23 : x.id ≠ 0 := by omega
      refine VL.go rfl rfl rfl ?_
      refine VL.pick_f rfl rfl ?_
      refine VL.pick_t rfl rfl ?_
      refine VL.nn ?_
      refine VC.yes rfl ?_
      refine VC.sr ?_
      refine VL.assign rfl ?_
      refine VL.assign rfl ?_
      refine VL.nn ?_
      refine VC.ret ?_
      refine VX.then_ret ?_
      refine VX.ret2 rfl rfl rfl (fun we hw => ?_)
      exact postO (headerO_none (by unfold headerFit; simp [h2_1, h4_7, h4_12, h4_18, h4_23])) ⟨none, 0, rfl, hw.drop.subA, Arr.none⟩
     ·have h4_23 : x.id = 0 := by omega
      refine VL.go rfl rfl rfl ?_
      refine VL.pick_f rfl rfl ?_
      refine VL.pick_t rfl rfl ?_
      refine VL.nn ?_
      refine VC.no rfl ?_
      refine VC.skip ?_
      refine VX.next ?_
      refine VC.seq ?_
      refine VC.letCells 0 rfl (fun w2 hO4 hF3 => ?_)
      apply VC.anyTA 24 1028 (F := [eqF _, eqF _, eqF _, capF (be 1 (0)) 1, eqF _, eqF _, eqF _, eqF _, eqF _, eqF _, eqF _, eqF _, eqF _, bytesF (be 2 (x.id)), eqF _, eqF _, eqF _, eqF _, eqF _, bytesF (be 2 (x.n)), eqF _, eqF _, eqF _, bytesF (be 2 (x.prev))]) [⟨[], [1]⟩, ⟨[(33, 0)], []⟩, ⟨[], [4]⟩, ⟨[(35, 2)], []⟩, ⟨[], [1]⟩, ⟨[(37, 4)], []⟩, ⟨[], [1]⟩, ⟨[(39, 6)], []⟩, ⟨[], [1]⟩, ⟨[(41, 8)], []⟩, ⟨[], [1]⟩, ⟨[(43, 10)], []⟩, ⟨[(44, 11)], []⟩, ⟨[(45, 12)], []⟩, ⟨[], [1]⟩, ⟨[(47, 14)], []⟩, ⟨[], [1]⟩, ⟨[(49, 16)], []⟩, ⟨[(50, 17)], []⟩, ⟨[(51, 18)], []⟩, ⟨[], [1]⟩, ⟨[(53, 20)], []⟩, ⟨[(54, 21)], []⟩, ⟨[(55, 22)], []⟩] [(34, 1), (36, 3), (38, 5), (40, 7), (42, 9), (46, 13), (48, 15), (52, 19), (56, 23)] [0, 1, 2, 3, 5, 6, 7, 8, 9, 10, 11, 12, 13, 14, 15, 16, 17, 18, 19, 20, 21, 22, 23, 24, 25, 26, 27, 28, 29, 30, 31, 32, 57, 58] rfl (by kernel_rfl) (by kernel_rfl) rfl rfl (by kernel_rfl) (by kernel_rfl) (by kernel_rfl) rfl ?obs6 ?end6
      case obs6 =>
       refine Obs.cons ?_ ?_
       ·refine obS (by kernel_rfl) rfl rfl (fun ph6 w6 hO6 => ?_)
        refine VL.fieldAddr rfl fo70_0 rfl ?_
        exact VL.finS hO6 rfl rfl
       refine Obs.cons ?_ ?_
       ·refine obS (by kernel_rfl) rfl rfl (fun ph6 w6 hO6 => ?_)
        rintro _ rfl
        refine VL.sliceArrAt Try.underlying44 (by kernel_rfl) rfl ?_
        refine VL.newv (v' := .slice (some ⟨g1, 0, none⟩) (x.session).length 32) (by rw [hx.session]) ?_
        exact VL.finS hO6 rfl rfl
       refine Obs.cons ?_ ?_
       ·refine obS (by kernel_rfl) rfl rfl (fun ph6 w6 hO6 => ?_)
        refine VL.move rfl ?_
        exact VL.finS hO6 rfl rfl
       refine Obs.cons ?_ ?_
       ·refine ob (by kernel_rfl) rfl (by kernel_rfl) rfl (fun w6 hO6 => ?_)
        rintro _ rfl
        refine VL.toOwn hO6 ?_
        refine VL.litByte (m := 0) el24 rfl (by omega) (fun g5 w6 hO7 hA8 => ?_)
        exact VL.finO rfl (fun _ h => h.subA) (fun _ h => ⟨_, rfl, (hA8.nowA (s := ⟨w6, _⟩) Mono.byte h)⟩)
       refine Obs.cons ?_ ?_
       ·refine obS (by kernel_rfl) rfl rfl (fun ph6 w6 hO6 => ?_)
        refine VL.fieldAddr rfl fo70_2 rfl ?_
        exact VL.finS hO6 rfl rfl
       refine Obs.cons ?_ ?_
       ·refine obS (by kernel_rfl) rfl rfl (fun ph6 w6 hO6 => ?_)
        rintro _ rfl
        refine VL.sliceArrAt Try.underlying44 (by kernel_rfl) rfl ?_
        refine VL.newv (v' := .slice (some ⟨g1, 33, none⟩) (x.agree).length 32) (by rw [hx.agree]) ?_
        exact VL.finS hO6 rfl rfl
       refine Obs.cons ?_ ?_
       ·refine obS (by kernel_rfl) rfl rfl (fun ph6 w6 hO6 => ?_)
        refine VL.fieldAddr rfl fo70_3 rfl ?_
        exact VL.finS hO6 rfl rfl
       refine Obs.cons ?_ ?_
       ·refine obS (by kernel_rfl) rfl rfl (fun ph6 w6 hO6 => ?_)
        rintro _ rfl
        refine VL.sliceArrAt Try.underlying44 (by kernel_rfl) rfl ?_
        refine VL.newv (v' := .slice (some ⟨g1, 65, none⟩) (x.signer).length 32) (by rw [hx.signer]) ?_
        exact VL.finS hO6 rfl rfl
       refine Obs.cons ?_ ?_
       ·refine obS (by kernel_rfl) rfl rfl (fun ph6 w6 hO6 => ?_)
        refine VL.fieldAddr rfl fo70_4 rfl ?_
        exact VL.finS hO6 rfl rfl
       refine Obs.cons ?_ ?_
       ·refine obS (by kernel_rfl) rfl rfl (fun ph6 w6 hO6 => ?_)
        rintro _ rfl
        refine VL.sliceArrAt Try.underlying44 (by kernel_rfl) rfl ?_
        refine VL.newv (v' := .slice (some ⟨g1, 97, none⟩) (x.base).length 32) (by rw [hx.base]) ?_
        exact VL.finS hO6 rfl rfl
       refine Obs.cons ?_ ?_
       ·refine obS (by kernel_rfl) rfl rfl (fun ph6 w6 hO6 => ?_)
        refine VL.fieldAddr rfl fo70_5 rfl ?_
        exact VL.finS hO6 rfl rfl
       refine Obs.cons ?_ ?_
       ·refine obS (by kernel_rfl) rfl rfl (fun ph6 w6 hO6 => ?_)
        rintro _ rfl
        refine VL.loadF (s := ⟨w2, _⟩) (v := .int .u16 (x.id)) 5 rfl kd68 hF3 (fun _ e => e ▸ Still.ok hO6 (by repeat (first | exact List.mem_cons_self .. | apply List.mem_cons_of_mem))) rfl rfl ?_
        exact VL.finS hO6 rfl rfl
       refine Obs.cons ?_ ?_
       ·refine obS (by kernel_rfl) rfl rfl (fun ph6 w6 hO6 => ?_)
        rintro _ rfl
        refine VL.conv (by rw [Try.underlying68]; rfl) Try.underlying3 rfl (by simp only [InR]; omega) ?_
        exact VL.finS hO6 rfl rfl
       refine Obs.cons ?_ ?_
       ·refine ob (by kernel_rfl) rfl (by kernel_rfl) rfl (fun w6 hO6 => ?_)
        rintro _ rfl
        refine VL.toOwn hO6 ?_
        refine VL.call Try.func108 rfl (by decide) rfl (fun w' hw => num_S hw (x.id) 2 (by omega) (by decide) (by decide) (fits2 (by omega))) (fun v => ?_)
        refine VL.at (fun w9 h1w => ?_)
        obtain ⟨p10, c11, rfl, hO13, hA12⟩ := h1w
        refine VL.toOwn hO13 ?_
        exact VL.finO rfl (fun _ h => h.subA) (fun _ h => ⟨_, _, rfl, (hA12.nowA (s := ⟨w9, _⟩) Mono.byte h)⟩)
       refine Obs.cons ?_ ?_
       ·refine obS (by kernel_rfl) rfl rfl (fun ph6 w6 hO6 => ?_)
        refine VL.fieldAddr rfl fo70_6 rfl ?_
        exact VL.finS hO6 rfl rfl
       refine Obs.cons ?_ ?_
       ·refine obS (by kernel_rfl) rfl rfl (fun ph6 w6 hO6 => ?_)
        rintro _ rfl
        refine VL.sliceArrAt Try.underlying44 (by kernel_rfl) rfl ?_
        refine VL.newv (v' := .slice (some ⟨g1, 130, none⟩) (x.ratchet).length 32) (by rw [hx.ratchet]) ?_
        exact VL.finS hO6 rfl rfl
       refine Obs.cons ?_ ?_
       ·refine obS (by kernel_rfl) rfl rfl (fun ph6 w6 hO6 => ?_)
        refine VL.fieldAddr rfl fo70_7 rfl ?_
        exact VL.finS hO6 rfl rfl
       refine Obs.cons ?_ ?_
       ·refine obS (by kernel_rfl) rfl rfl (fun ph6 w6 hO6 => ?_)
        rintro _ rfl
        refine VL.loadF (s := ⟨w2, _⟩) (v := .int .u16 (x.n)) 7 rfl kd68 hF3 (fun _ e => e ▸ Still.ok hO6 (by repeat (first | exact List.mem_cons_self .. | apply List.mem_cons_of_mem))) rfl rfl ?_
        exact VL.finS hO6 rfl rfl
       refine Obs.cons ?_ ?_
       ·refine obS (by kernel_rfl) rfl rfl (fun ph6 w6 hO6 => ?_)
        rintro _ rfl
        refine VL.conv (by rw [Try.underlying68]; rfl) Try.underlying3 rfl (by simp only [InR]; omega) ?_
        exact VL.finS hO6 rfl rfl
       refine Obs.cons ?_ ?_
       ·refine ob (by kernel_rfl) rfl (by kernel_rfl) rfl (fun w6 hO6 => ?_)
        rintro _ rfl
        refine VL.toOwn hO6 ?_
        refine VL.call Try.func108 rfl (by decide) rfl (fun w' hw => num_S hw (x.n) 2 (by omega) (by decide) (by decide) (fits2 (by omega))) (fun v => ?_)
        refine VL.at (fun w14 h1w => ?_)
        obtain ⟨p15, c16, rfl, hO18, hA17⟩ := h1w
        refine VL.toOwn hO18 ?_
        exact VL.finO rfl (fun _ h => h.subA) (fun _ h => ⟨_, _, rfl, (hA17.nowA (s := ⟨w14, _⟩) Mono.byte h)⟩)
       refine Obs.cons ?_ ?_
       ·refine obS (by kernel_rfl) rfl rfl (fun ph6 w6 hO6 => ?_)
        refine VL.fieldAddr rfl fo70_8 rfl ?_
        exact VL.finS hO6 rfl rfl
       refine Obs.cons ?_ ?_
       ·refine obS (by kernel_rfl) rfl rfl (fun ph6 w6 hO6 => ?_)
        rintro _ rfl
        refine VL.loadF (s := ⟨w2, _⟩) (v := .int .u16 (x.prev)) 8 rfl kd68 hF3 (fun _ e => e ▸ Still.ok hO6 (by repeat (first | exact List.mem_cons_self .. | apply List.mem_cons_of_mem))) rfl rfl ?_
        exact VL.finS hO6 rfl rfl
       refine Obs.cons ?_ ?_
       ·refine obS (by kernel_rfl) rfl rfl (fun ph6 w6 hO6 => ?_)
        rintro _ rfl
        refine VL.conv (by rw [Try.underlying68]; rfl) Try.underlying3 rfl (by simp only [InR]; omega) ?_
        exact VL.finS hO6 rfl rfl
       refine Obs.cons ?_ ?_
       ·refine ob (by kernel_rfl) rfl (by kernel_rfl) rfl (fun w6 hO6 => ?_)
        rintro _ rfl
        refine VL.toOwn hO6 ?_
        refine VL.call Try.func108 rfl (by decide) rfl (fun w' hw => num_S hw (x.prev) 2 (by omega) (by decide) (by decide) (fits2 (by omega))) (fun v => ?_)
        refine VL.at (fun w19 h1w => ?_)
        obtain ⟨p20, c21, rfl, hO23, hA22⟩ := h1w
        refine VL.toOwn hO23 ?_
        exact VL.finO rfl (fun _ h => h.subA) (fun _ h => ⟨_, _, rfl, (hA22.nowA (s := ⟨w19, _⟩) Mono.byte h)⟩)
       exact Obs.nil
      case end6 =>
       intro w6 hO6
       rintro _ rfl _ ⟨p6_3, rfl, hA6_3⟩ _ rfl _ rfl _ rfl _ ⟨p6_13, c6_13, rfl, hA6_13⟩ _ rfl _ ⟨p6_19, c6_19, rfl, hA6_19⟩ _ ⟨p6_23, c6_23, rfl, hA6_23⟩
       refine VL.toOwn hO6 ?_
       refine VL.lit el31 rfl rfl rfl (by simp [Value.cells]) (by intro u hu; simp [Value.cells] at hu; rcases hu with rfl | rfl | rfl | rfl | rfl | rfl | rfl | rfl | rfl <;> rfl) (fun g24 => ?_)
       refine VL.letRowS [x.session, be 1 (0), x.agree, x.signer, x.base, be 2 (x.id), x.ratchet, be 2 (x.n), be 2 (x.prev)] rfl (fun w' hw => ⟨⟨_, _, rfl, ((hF3.bytes 0 0 rfl rfl hx.session rfl).nowA (s := ⟨w2, _⟩) Mono.byte hw)⟩, ⟨⟨_, _, rfl, (hA6_3.nowA (s := ⟨w6, _⟩) Mono.byte hw)⟩, ⟨⟨_, _, rfl, ((hF3.bytes 2 33 rfl rfl hx.agree rfl).nowA (s := ⟨w2, _⟩) Mono.byte hw)⟩, ⟨⟨_, _, rfl, ((hF3.bytes 3 65 rfl rfl hx.signer rfl).nowA (s := ⟨w2, _⟩) Mono.byte hw)⟩, ⟨⟨_, _, rfl, ((hF3.bytes 4 97 rfl rfl hx.base rfl).nowA (s := ⟨w2, _⟩) Mono.byte hw)⟩, ⟨⟨_, _, rfl, (hA6_13.nowA (s := ⟨w6, _⟩) Mono.byte hw)⟩, ⟨⟨_, _, rfl, ((hF3.bytes 6 130 rfl rfl hx.ratchet rfl).nowA (s := ⟨w2, _⟩) Mono.byte hw)⟩, ⟨⟨_, _, rfl, (hA6_19.nowA (s := ⟨w6, _⟩) Mono.byte hw)⟩, ⟨⟨_, _, rfl, (hA6_23.nowA (s := ⟨w6, _⟩) Mono.byte hw)⟩, trivial⟩⟩⟩⟩⟩⟩⟩⟩⟩) (fun w25 hO26 hA27 => ?_)
       refine VL.call Try.func120 rfl (by decide) rfl (fun w' hw => all_S (ls := [x.session, be 1 (0), x.agree, x.signer, x.base, be 2 (x.id), x.ratchet, be 2 (x.n), be 2 (x.prev)]) hw (hA27.nowA (s := ⟨w25, _⟩) (Mono.slice Mono.byte) hw) (by have h := headerP_ok hx; unfold headerP at h; rw [h2_1] at h; exact h)) (fun v => ?_)
       refine VL.at (fun w28 h1w => ?_)
       obtain ⟨p29, c30, rfl, hO32, hA31⟩ := h1w
       refine VL.toOwn hO32 ?_
       refine VL.assign rfl ?_
       refine VL.assign rfl ?_
       refine VL.nn ?_
       refine VC.ret ?_
       refine VX.ret2 rfl rfl rfl (fun we hw => ?_)
       exact postO ((show some (joinB [x.session, be 1 (0), x.agree, x.signer, x.base, be 2 (x.id), x.ratchet, be 2 (x.n), be 2 (x.prev)]) = headerO x from by rw [← headerO_is hx (by unfold headerFit; simp [h2_1, h4_7, h4_12, h4_18, h4_23]), joinO_some (headerP_ok hx) rfl]; unfold headerP; rw [h2_1]; rfl)) ⟨p29, c30, rfl, hw.subA, (hA31.nowA (s := ⟨w28, _⟩) Mono.byte hw)⟩
 ·refine VL.nn ?_
  refine VC.yes rfl ?_
  refine VC.region ?_
  refine VL.assign rfl ?_
  refine VL.nn ?_
  refine VC.seq ?_
  refine VC.sr ?_
  refine VL.fieldAddr rfl fo70_1 rfl ?_
  refine VL.load (v := .bool x.first) 0 1 rfl kd4 (fun _ h => h) rfl rfl rfl ?_
  rw [h2_1]
  refine VL.not rfl ?_
  refine VL.move rfl ?_
  refine VL.pass rfl rfl rfl rfl rfl ?_
  refine VL.pass rfl rfl rfl rfl rfl ?_
  refine VL.pass rfl rfl rfl rfl rfl ?_
  refine VL.pass rfl rfl rfl rfl rfl ?_
  refine VL.pass rfl rfl rfl rfl rfl ?_
  refine VL.passu rfl rfl rfl rfl ?_
  refine VL.passu rfl rfl rfl rfl ?_
  refine VL.passu rfl rfl rfl rfl ?_
  refine VL.passu rfl rfl rfl rfl ?_
  refine VL.pass rfl rfl rfl rfl rfl ?_
  refine VL.pass rfl rfl rfl rfl rfl ?_
  refine VL.passu rfl rfl rfl rfl ?_
  refine VL.passu rfl rfl rfl rfl ?_
  refine VL.passu rfl rfl rfl rfl ?_
  refine VL.passu rfl rfl rfl rfl ?_
  refine VL.pass rfl rfl rfl rfl rfl ?_
  refine VL.pass rfl rfl rfl rfl rfl ?_
  refine VL.passu rfl rfl rfl rfl ?_
  refine VL.passu rfl rfl rfl rfl ?_
  refine VL.passu rfl rfl rfl rfl ?_
  refine VL.pass rfl rfl rfl rfl rfl ?_
  refine VL.pick_f rfl rfl ?_
  refine VL.nn ?_
  refine VC.no rfl ?_
  refine VC.skip ?_
  refine VX.next ?_
  refine VC.seq ?_
  refine VC.letCells 0 rfl (fun w33 hO35 hF34 => ?_)
  apply VC.anyTA 24 1028 (F := [eqF _, eqF _, eqF _, capF (be 1 (1)) 1, eqF _, eqF _, eqF _, eqF _, eqF _, eqF _, eqF _, eqF _, eqF _, bytesF (be 2 (x.id)), eqF _, eqF _, eqF _, eqF _, eqF _, bytesF (be 2 (x.n)), eqF _, eqF _, eqF _, bytesF (be 2 (x.prev))]) [⟨[], [1]⟩, ⟨[(33, 0)], []⟩, ⟨[], [4]⟩, ⟨[(35, 2)], []⟩, ⟨[], [1]⟩, ⟨[(37, 4)], []⟩, ⟨[], [1]⟩, ⟨[(39, 6)], []⟩, ⟨[], [1]⟩, ⟨[(41, 8)], []⟩, ⟨[], [1]⟩, ⟨[(43, 10)], []⟩, ⟨[(44, 11)], []⟩, ⟨[(45, 12)], []⟩, ⟨[], [1]⟩, ⟨[(47, 14)], []⟩, ⟨[], [1]⟩, ⟨[(49, 16)], []⟩, ⟨[(50, 17)], []⟩, ⟨[(51, 18)], []⟩, ⟨[], [1]⟩, ⟨[(53, 20)], []⟩, ⟨[(54, 21)], []⟩, ⟨[(55, 22)], []⟩] [(34, 1), (36, 3), (38, 5), (40, 7), (42, 9), (46, 13), (48, 15), (52, 19), (56, 23)] [0, 1, 2, 3, 5, 6, 7, 8, 9, 10, 11, 12, 13, 14, 15, 16, 17, 18, 19, 20, 21, 22, 23, 24, 25, 26, 27, 28, 29, 30, 31, 32, 57, 58] rfl (by kernel_rfl) (by kernel_rfl) rfl rfl (by kernel_rfl) (by kernel_rfl) (by kernel_rfl) rfl ?obs6 ?end6
  case obs6 =>
   refine Obs.cons ?_ ?_
   ·refine obS (by kernel_rfl) rfl rfl (fun ph6 w6 hO6 => ?_)
    refine VL.fieldAddr rfl fo70_0 rfl ?_
    exact VL.finS hO6 rfl rfl
   refine Obs.cons ?_ ?_
   ·refine obS (by kernel_rfl) rfl rfl (fun ph6 w6 hO6 => ?_)
    rintro _ rfl
    refine VL.sliceArrAt Try.underlying44 (by kernel_rfl) rfl ?_
    refine VL.newv (v' := .slice (some ⟨g1, 0, none⟩) (x.session).length 32) (by rw [hx.session]) ?_
    exact VL.finS hO6 rfl rfl
   refine Obs.cons ?_ ?_
   ·refine obS (by kernel_rfl) rfl rfl (fun ph6 w6 hO6 => ?_)
    refine VL.move rfl ?_
    exact VL.finS hO6 rfl rfl
   refine Obs.cons ?_ ?_
   ·refine ob (by kernel_rfl) rfl (by kernel_rfl) rfl (fun w6 hO6 => ?_)
    rintro _ rfl
    refine VL.toOwn hO6 ?_
    refine VL.litByte (m := 1) el24 rfl (by omega) (fun g36 w37 hO38 hA39 => ?_)
    exact VL.finO rfl (fun _ h => h.subA) (fun _ h => ⟨_, rfl, (hA39.nowA (s := ⟨w37, _⟩) Mono.byte h)⟩)
   refine Obs.cons ?_ ?_
   ·refine obS (by kernel_rfl) rfl rfl (fun ph6 w6 hO6 => ?_)
    refine VL.fieldAddr rfl fo70_2 rfl ?_
    exact VL.finS hO6 rfl rfl
   refine Obs.cons ?_ ?_
   ·refine obS (by kernel_rfl) rfl rfl (fun ph6 w6 hO6 => ?_)
    rintro _ rfl
    refine VL.sliceArrAt Try.underlying44 (by kernel_rfl) rfl ?_
    refine VL.newv (v' := .slice (some ⟨g1, 33, none⟩) (x.agree).length 32) (by rw [hx.agree]) ?_
    exact VL.finS hO6 rfl rfl
   refine Obs.cons ?_ ?_
   ·refine obS (by kernel_rfl) rfl rfl (fun ph6 w6 hO6 => ?_)
    refine VL.fieldAddr rfl fo70_3 rfl ?_
    exact VL.finS hO6 rfl rfl
   refine Obs.cons ?_ ?_
   ·refine obS (by kernel_rfl) rfl rfl (fun ph6 w6 hO6 => ?_)
    rintro _ rfl
    refine VL.sliceArrAt Try.underlying44 (by kernel_rfl) rfl ?_
    refine VL.newv (v' := .slice (some ⟨g1, 65, none⟩) (x.signer).length 32) (by rw [hx.signer]) ?_
    exact VL.finS hO6 rfl rfl
   refine Obs.cons ?_ ?_
   ·refine obS (by kernel_rfl) rfl rfl (fun ph6 w6 hO6 => ?_)
    refine VL.fieldAddr rfl fo70_4 rfl ?_
    exact VL.finS hO6 rfl rfl
   refine Obs.cons ?_ ?_
   ·refine obS (by kernel_rfl) rfl rfl (fun ph6 w6 hO6 => ?_)
    rintro _ rfl
    refine VL.sliceArrAt Try.underlying44 (by kernel_rfl) rfl ?_
    refine VL.newv (v' := .slice (some ⟨g1, 97, none⟩) (x.base).length 32) (by rw [hx.base]) ?_
    exact VL.finS hO6 rfl rfl
   refine Obs.cons ?_ ?_
   ·refine obS (by kernel_rfl) rfl rfl (fun ph6 w6 hO6 => ?_)
    refine VL.fieldAddr rfl fo70_5 rfl ?_
    exact VL.finS hO6 rfl rfl
   refine Obs.cons ?_ ?_
   ·refine obS (by kernel_rfl) rfl rfl (fun ph6 w6 hO6 => ?_)
    rintro _ rfl
    refine VL.loadF (s := ⟨w33, _⟩) (v := .int .u16 (x.id)) 5 rfl kd68 hF34 (fun _ e => e ▸ Still.ok hO6 (by repeat (first | exact List.mem_cons_self .. | apply List.mem_cons_of_mem))) rfl rfl ?_
    exact VL.finS hO6 rfl rfl
   refine Obs.cons ?_ ?_
   ·refine obS (by kernel_rfl) rfl rfl (fun ph6 w6 hO6 => ?_)
    rintro _ rfl
    refine VL.conv (by rw [Try.underlying68]; rfl) Try.underlying3 rfl (by simp only [InR]; omega) ?_
    exact VL.finS hO6 rfl rfl
   refine Obs.cons ?_ ?_
   ·refine ob (by kernel_rfl) rfl (by kernel_rfl) rfl (fun w6 hO6 => ?_)
    rintro _ rfl
    refine VL.toOwn hO6 ?_
    refine VL.call Try.func108 rfl (by decide) rfl (fun w' hw => num_S hw (x.id) 2 (by omega) (by decide) (by decide) (fits2 (by omega))) (fun v => ?_)
    refine VL.at (fun w40 h1w => ?_)
    obtain ⟨p41, c42, rfl, hO44, hA43⟩ := h1w
    refine VL.toOwn hO44 ?_
    exact VL.finO rfl (fun _ h => h.subA) (fun _ h => ⟨_, _, rfl, (hA43.nowA (s := ⟨w40, _⟩) Mono.byte h)⟩)
   refine Obs.cons ?_ ?_
   ·refine obS (by kernel_rfl) rfl rfl (fun ph6 w6 hO6 => ?_)
    refine VL.fieldAddr rfl fo70_6 rfl ?_
    exact VL.finS hO6 rfl rfl
   refine Obs.cons ?_ ?_
   ·refine obS (by kernel_rfl) rfl rfl (fun ph6 w6 hO6 => ?_)
    rintro _ rfl
    refine VL.sliceArrAt Try.underlying44 (by kernel_rfl) rfl ?_
    refine VL.newv (v' := .slice (some ⟨g1, 130, none⟩) (x.ratchet).length 32) (by rw [hx.ratchet]) ?_
    exact VL.finS hO6 rfl rfl
   refine Obs.cons ?_ ?_
   ·refine obS (by kernel_rfl) rfl rfl (fun ph6 w6 hO6 => ?_)
    refine VL.fieldAddr rfl fo70_7 rfl ?_
    exact VL.finS hO6 rfl rfl
   refine Obs.cons ?_ ?_
   ·refine obS (by kernel_rfl) rfl rfl (fun ph6 w6 hO6 => ?_)
    rintro _ rfl
    refine VL.loadF (s := ⟨w33, _⟩) (v := .int .u16 (x.n)) 7 rfl kd68 hF34 (fun _ e => e ▸ Still.ok hO6 (by repeat (first | exact List.mem_cons_self .. | apply List.mem_cons_of_mem))) rfl rfl ?_
    exact VL.finS hO6 rfl rfl
   refine Obs.cons ?_ ?_
   ·refine obS (by kernel_rfl) rfl rfl (fun ph6 w6 hO6 => ?_)
    rintro _ rfl
    refine VL.conv (by rw [Try.underlying68]; rfl) Try.underlying3 rfl (by simp only [InR]; omega) ?_
    exact VL.finS hO6 rfl rfl
   refine Obs.cons ?_ ?_
   ·refine ob (by kernel_rfl) rfl (by kernel_rfl) rfl (fun w6 hO6 => ?_)
    rintro _ rfl
    refine VL.toOwn hO6 ?_
    refine VL.call Try.func108 rfl (by decide) rfl (fun w' hw => num_S hw (x.n) 2 (by omega) (by decide) (by decide) (fits2 (by omega))) (fun v => ?_)
    refine VL.at (fun w45 h1w => ?_)
    obtain ⟨p46, c47, rfl, hO49, hA48⟩ := h1w
    refine VL.toOwn hO49 ?_
    exact VL.finO rfl (fun _ h => h.subA) (fun _ h => ⟨_, _, rfl, (hA48.nowA (s := ⟨w45, _⟩) Mono.byte h)⟩)
   refine Obs.cons ?_ ?_
   ·refine obS (by kernel_rfl) rfl rfl (fun ph6 w6 hO6 => ?_)
    refine VL.fieldAddr rfl fo70_8 rfl ?_
    exact VL.finS hO6 rfl rfl
   refine Obs.cons ?_ ?_
   ·refine obS (by kernel_rfl) rfl rfl (fun ph6 w6 hO6 => ?_)
    rintro _ rfl
    refine VL.loadF (s := ⟨w33, _⟩) (v := .int .u16 (x.prev)) 8 rfl kd68 hF34 (fun _ e => e ▸ Still.ok hO6 (by repeat (first | exact List.mem_cons_self .. | apply List.mem_cons_of_mem))) rfl rfl ?_
    exact VL.finS hO6 rfl rfl
   refine Obs.cons ?_ ?_
   ·refine obS (by kernel_rfl) rfl rfl (fun ph6 w6 hO6 => ?_)
    rintro _ rfl
    refine VL.conv (by rw [Try.underlying68]; rfl) Try.underlying3 rfl (by simp only [InR]; omega) ?_
    exact VL.finS hO6 rfl rfl
   refine Obs.cons ?_ ?_
   ·refine ob (by kernel_rfl) rfl (by kernel_rfl) rfl (fun w6 hO6 => ?_)
    rintro _ rfl
    refine VL.toOwn hO6 ?_
    refine VL.call Try.func108 rfl (by decide) rfl (fun w' hw => num_S hw (x.prev) 2 (by omega) (by decide) (by decide) (fits2 (by omega))) (fun v => ?_)
    refine VL.at (fun w50 h1w => ?_)
    obtain ⟨p51, c52, rfl, hO54, hA53⟩ := h1w
    refine VL.toOwn hO54 ?_
    exact VL.finO rfl (fun _ h => h.subA) (fun _ h => ⟨_, _, rfl, (hA53.nowA (s := ⟨w50, _⟩) Mono.byte h)⟩)
   exact Obs.nil
  case end6 =>
   intro w6 hO6
   rintro _ rfl _ ⟨p6_3, rfl, hA6_3⟩ _ rfl _ rfl _ rfl _ ⟨p6_13, c6_13, rfl, hA6_13⟩ _ rfl _ ⟨p6_19, c6_19, rfl, hA6_19⟩ _ ⟨p6_23, c6_23, rfl, hA6_23⟩
   refine VL.toOwn hO6 ?_
   refine VL.lit el31 rfl rfl rfl (by simp [Value.cells]) (by intro u hu; simp [Value.cells] at hu; rcases hu with rfl | rfl | rfl | rfl | rfl | rfl | rfl | rfl | rfl <;> rfl) (fun g55 => ?_)
   refine VL.letRowS [x.session, be 1 (1), x.agree, x.signer, x.base, be 2 (x.id), x.ratchet, be 2 (x.n), be 2 (x.prev)] rfl (fun w' hw => ⟨⟨_, _, rfl, ((hF34.bytes 0 0 rfl rfl hx.session rfl).nowA (s := ⟨w33, _⟩) Mono.byte hw)⟩, ⟨⟨_, _, rfl, (hA6_3.nowA (s := ⟨w6, _⟩) Mono.byte hw)⟩, ⟨⟨_, _, rfl, ((hF34.bytes 2 33 rfl rfl hx.agree rfl).nowA (s := ⟨w33, _⟩) Mono.byte hw)⟩, ⟨⟨_, _, rfl, ((hF34.bytes 3 65 rfl rfl hx.signer rfl).nowA (s := ⟨w33, _⟩) Mono.byte hw)⟩, ⟨⟨_, _, rfl, ((hF34.bytes 4 97 rfl rfl hx.base rfl).nowA (s := ⟨w33, _⟩) Mono.byte hw)⟩, ⟨⟨_, _, rfl, (hA6_13.nowA (s := ⟨w6, _⟩) Mono.byte hw)⟩, ⟨⟨_, _, rfl, ((hF34.bytes 6 130 rfl rfl hx.ratchet rfl).nowA (s := ⟨w33, _⟩) Mono.byte hw)⟩, ⟨⟨_, _, rfl, (hA6_19.nowA (s := ⟨w6, _⟩) Mono.byte hw)⟩, ⟨⟨_, _, rfl, (hA6_23.nowA (s := ⟨w6, _⟩) Mono.byte hw)⟩, trivial⟩⟩⟩⟩⟩⟩⟩⟩⟩) (fun w56 hO57 hA58 => ?_)
   refine VL.call Try.func120 rfl (by decide) rfl (fun w' hw => all_S (ls := [x.session, be 1 (1), x.agree, x.signer, x.base, be 2 (x.id), x.ratchet, be 2 (x.n), be 2 (x.prev)]) hw (hA58.nowA (s := ⟨w56, _⟩) (Mono.slice Mono.byte) hw) (by have h := headerP_ok hx; unfold headerP at h; rw [h2_1] at h; exact h)) (fun v => ?_)
   refine VL.at (fun w59 h1w => ?_)
   obtain ⟨p60, c61, rfl, hO63, hA62⟩ := h1w
   refine VL.toOwn hO63 ?_
   refine VL.assign rfl ?_
   refine VL.assign rfl ?_
   refine VL.nn ?_
   refine VC.ret ?_
   refine VX.ret2 rfl rfl rfl (fun we hw => ?_)
   exact postO ((show some (joinB [x.session, be 1 (1), x.agree, x.signer, x.base, be 2 (x.id), x.ratchet, be 2 (x.n), be 2 (x.prev)]) = headerO x from by rw [← headerO_is hx (by unfold headerFit; simp [h2_1]), joinO_some (headerP_ok hx) rfl]; unfold headerP; rw [h2_1]; rfl)) ⟨p60, c61, rfl, hw.subA, (hA62.nowA (s := ⟨w59, _⟩) Mono.byte hw)⟩

theorem refLetter_w {S : List Snap} {H : List Chunk} {w : World} (ho : Own S H w) {x : Letter} (hx : x.ok) {p : Option Addr} {c : Nat} (hA : Bytes (keys H) w p x.body c) : Calls Try.prog 51 #[.agg (cat (letterV x p c)).toArray] w (RetO S H (letterO x)) := by
 have hx1 := hx.src
 have hx2 := hx.dst
 refine enter (G := Own (⟨w, keys H⟩ :: S) H) ho.keep Try.func51 rfl Try.ntmps51 rfl ?_
 refine VC.sr ?_
 refine VL.box (L := letterL) (ps := (letterV (x) p c)) rfl rfl (letterV_len hx) (fun g1 => ?_)
 refine VL.assign rfl ?_
 refine VL.assign rfl ?_
 refine VL.nn ?_
 refine VC.sr ?_
 refine VL.fieldAddr rfl fo72_2 rfl ?_
 refine VL.loads (cs := cat (headerV (x.header))) 0 2 9 rfl kd70 (fun _ h => h) rfl rfl rfl rfl ?_
 refine VL.call Try.func53 rfl (by decide) rfl (fun w' hw => refHeader_w hw (x := x.header) hx.header) (fun v => ?_)
 refine VL.at (fun w2 h1w => ?_)
 obtain ⟨p3, c4, rfl, hO6, hA5⟩ := h1w
 refine VL.toOwn hO6 ?_
 refine VL.move rfl ?_
 refine VL.extract rfl rfl ?_
 refine VL.extract rfl rfl ?_
 refine VL.assign rfl ?_
 refine VL.assign rfl ?_
 refine VL.nn ?_
 refine VC.seq ?_
 refine VC.sr ?_
 refine VL.move rfl ?_
 cases hs : (headerO x.header).isSome
 ·refine VL.not rfl ?_
  refine VL.nn ?_
  refine VC.yes rfl ?_
  refine VC.sr ?_
  refine VL.assign rfl ?_
  refine VL.assign rfl ?_
  refine VL.nn ?_
  refine VC.ret ?_
  refine VX.then_ret ?_
  refine VX.ret2 rfl rfl rfl (fun we hw => ?_)
  exact postO ((show (none : Option (List UInt8)) = letterO x from by unfold letterO; rw [hs]; exact none_joinO _)) ⟨none, 0, rfl, hw.drop.subA, Arr.none⟩
 ·refine VL.not rfl ?_
  refine VL.nn ?_
  refine VC.no rfl ?_
  refine VC.skip ?_
  refine VX.next ?_
  refine VC.sr ?_
  refine VL.fieldAddr rfl fo72_0 rfl ?_
  refine VL.load (v := .int .u8 (x.src)) 0 0 rfl kd5 (fun _ h => h) rfl rfl rfl ?_
  refine VL.litByte (m := x.src) el24 rfl (by have hm := hx.src; omega) (fun g7 w8 hO9 hA10 => ?_)
  refine VL.fieldAddr rfl fo72_1 rfl ?_
  refine VL.load (v := .int .u8 (x.dst)) 0 1 rfl kd5 (fun _ h => h) rfl rfl rfl ?_
  refine VL.litByte (m := x.dst) el24 rfl (by have hm := hx.dst; omega) (fun g11 w12 hO13 hA14 => ?_)
  refine VL.move rfl ?_
  refine VL.fieldAddr rfl fo72_3 rfl ?_
  refine VL.load (v := .slice p (x.body).length c) 0 11 rfl kd24 (fun _ h => h) rfl rfl rfl ?_
  refine VL.lit el31 rfl rfl rfl (by simp [Value.cells]) (by intro u hu; simp [Value.cells] at hu; rcases hu with rfl | rfl | rfl | rfl <;> rfl) (fun g15 => ?_)
  refine VL.letRowS [be 1 (x.src), be 1 (x.dst), ((headerO (x.header)).getD []), x.body] rfl (fun w' hw => ⟨⟨_, _, rfl, (hA10.nowA (s := ⟨w8, _⟩) Mono.byte hw)⟩, ⟨⟨_, _, rfl, (hA14.nowA (s := ⟨w12, _⟩) Mono.byte hw)⟩, ⟨⟨_, _, rfl, (hA5.nowA (s := ⟨w2, _⟩) Mono.byte hw)⟩, ⟨⟨_, _, rfl, (hA.nowA (s := ⟨w, _⟩) Mono.byte hw)⟩, trivial⟩⟩⟩⟩) (fun w16 hO17 hA18 => ?_)
  refine VL.call Try.func31 rfl (by decide) rfl (fun w' hw => join_O (ls := [be 1 (x.src), be 1 (x.dst), ((headerO (x.header)).getD []), x.body]) hw (hA18.nowA (s := ⟨w16, _⟩) (Mono.slice Mono.byte) hw)) (fun v => ?_)
  refine VL.at (fun w19 h1w => ?_)
  obtain ⟨p20, c21, rfl, hO23, hA22⟩ := h1w
  refine VL.toOwn hO23 ?_
  refine VL.extract rfl rfl ?_
  refine VL.extract rfl rfl ?_
  refine VL.assign rfl ?_
  refine VL.assign rfl ?_
  refine VL.nn ?_
  refine VC.ret ?_
  refine VX.ret2 rfl rfl rfl (fun we hw => ?_)
  exact postO ((show joinO (letterP x) true = letterO x from by unfold letterO; rw [hs])) ⟨p20, c21, rfl, hw.drop.subA, (hA22.nowA (s := ⟨w19, _⟩) Mono.byte hw.drop)⟩

end Go.Proofs.Ytcfecmoagfgnaaa

/- Struct arguments, opened. -/
namespace Go.Proofs.Ytcfecmoagfgnaaa
open Go.Vc Go.Pl

open Go.ChangeShapes Go.WideShapes Go.ChangeAt Go.RowKit
section
variable {Hh : Type} {enc : TypeId × Value → Hh} {P : Program} {W : World} {t : TypeId}
def natR (k : IntKind) (b : Nat) : Rel Nat := fun _ _ vs n => n < b ∧ vs = [.int k n]
def boolR : Rel Bool := fun _ _ vs b => vs = [.bool b]
def arrR (n : Nat) : Rel (List UInt8) := fun _ _ vs l => l.length = n ∧ vs = l.map bv
theorem openNat {k : IntKind} {b : Nat} (hb : ∀ n : Int, (Lit.int k n).wf = true → 0 ≤ n ∧ n < b) (ht : P.underlying t = some (.int k)) : Opens enc P W t (natR k b) := by
 intro fuel cs x h
 cases fuel with
 | zero => simp [DataW.trod] at h
 | succ n =>
  unfold DataW.trod at h
  rw [ht] at h
  split at h <;> simp_all
  rename_i k0 k n' heq
  subst heq
  obtain ⟨⟨rfl, hw⟩, _⟩ := h
  obtain ⟨h1, h2⟩ := hb _ hw
  refine ⟨n'.toNat, by omega, ?_⟩
  rw [Int.toNat_of_nonneg h1]
theorem openU8 (ht : P.underlying t = some (.int .u8)) : Opens enc P W t (natR .u8 256) := openNat (fun n h => by have := bounds_u8 h; omega) ht
theorem openU16 (ht : P.underlying t = some (.int .u16)) : Opens enc P W t (natR .u16 65536) := openNat (fun n h => by have := bounds_u16 h; omega) ht
theorem openU32 (ht : P.underlying t = some (.int .u32)) : Opens enc P W t (natR .u32 4294967296) := openNat (fun n h => by have := bounds_u32 h; omega) ht
theorem openBool (ht : P.underlying t = some .bool) : Opens enc P W t boolR := by
 intro fuel cs x h
 cases fuel with
 | zero => simp [DataW.trod] at h
 | succ n =>
  unfold DataW.trod at h
  rw [ht] at h
  split at h <;> simp_all
  rename_i b
  cases b
  ·exact .inl rfl
  ·exact .inr rfl
theorem openArr {n : Nat} {e : TypeId} (ht : P.underlying t = some (.array n e)) (he : P.underlying e = some (.int .u8)) (hc : P.cellsOf e = 1) (hn : P.cellsOf t = n) : Opens enc P W t (arrR n) := by
 intro fuel cs x h
 obtain ⟨xs, m, rfl, _, hl, hxl, hx⟩ := DataW.trod_array ht h
 rw [hn] at hl
 rw [hc] at hx
 have each : ∀ i, i < n → ∃ b : UInt8, (cs.drop (i * 1)).take 1 = [bv b] := by
  intro i hi
  have h1 := hx i hi
  rw [List.getElem?_eq_getElem (by omega)] at h1
  exact Opens.u8 (enc := enc) (W := W) he _ _ _ h1
 obtain ⟨l, h1, h2⟩ := pick_list n each
 refine ⟨l, h1, ?_⟩
 refine List.ext_getElem? fun i => ?_
 rw [List.getElem?_map]
 by_cases hi : i < n
 ·have e1 := h2 i (l[i]'(by omega)) (List.getElem?_eq_getElem (by omega))
  rw [List.getElem?_eq_getElem (l := l) (by omega)]
  have e2 : ((cs.drop (i * 1)).take 1)[0]? = some (bv (l[i]'(by omega))) := by rw [e1]; rfl
  rw [List.getElem?_take_of_lt (by decide), List.getElem?_drop] at e2
  simpa using e2
 ·rw [List.getElem?_eq_none (by omega), List.getElem?_eq_none (by omega)]; rfl
def FieldsAt (enc : TypeId × Value → Hh) (P : Program) (W : World) (fuel : Nat) (cs : List Value) : List (TypeId × Nat × Nat) → Prop
  | [] => True
  | e :: r => (∃ z, DataW.trod enc P W 0 (fun _ => true) true fuel e.1 ((cs.drop e.2.1).take e.2.2) = some z) ∧ FieldsAt enc P W fuel cs r
theorem openFields {fs : Array Field} {fuel : Nat} {cs : List Value} {x : DataW Hh × List MemPlace} (L : List (TypeId × Nat × Nat)) (ht : P.underlying t = some (.struct fs)) (hL : fs.toList.map (fun f => (f.type, f.offset, P.cellsOf f.type)) = L) (h : DataW.trod enc P W 0 (fun _ => true) true fuel t cs = some x) :
  cs.length = P.cellsOf t ∧ ∃ m, FieldsAt enc P W m cs L := by
 obtain ⟨xs, m, _, _, hl, hxl, hx⟩ := DataW.trod_struct ht h
 refine ⟨hl, m, ?_⟩
 subst hL
 have key : ∀ (gs : List Field), (∀ f ∈ gs, ∃ z, DataW.trod enc P W 0 (fun _ => true) true m f.type ((cs.drop f.offset).take (P.cellsOf f.type)) = some z) → FieldsAt enc P W m cs (gs.map (fun f => (f.type, f.offset, P.cellsOf f.type))) := by
  intro gs
  induction gs with
  | nil => intro _; trivial
  | cons g r ih => intro hg; exact ⟨hg g (by simp), ih fun f hf => hg f (by simp [hf])⟩
 refine key _ fun f hf => ?_
 obtain ⟨i, hi⟩ := List.mem_iff_getElem?.1 hf
 have hlt : i < xs.length := by
  have := (List.getElem?_eq_some_iff.1 hi).1
  simp at this hxl; omega
 have h1 := hx i f (by simpa using hi)
 rw [List.getElem?_eq_getElem hlt] at h1
 exact ⟨_, h1⟩
/-- Cells, cut where the fields begin. -/
theorem cutCells {cs a : List Value} (o n : Nat) (h : (cs.drop o).take n = a) : cs.drop o = a ++ cs.drop (o + n) := by
 rw [← h, ← List.drop_drop, List.take_append_drop]
theorem Opens.struct {fs : Array Field} {X : Type} {R : Rel X} {r : Reach} {base : Nat} {v : Value} {d : DataW Hh} {ps : List MemPlace} (ht : P.underlying t = some (.struct fs)) (h : Opens enc P W t R) (hval : Value.okWide P W r base t v) (hd : DataW.Trod enc P W 0 (fun _ => true) true t v d ps) :
  ∃ cs y, v = .agg cs.toArray ∧ R [] W cs y := by
 obtain ⟨fuel, hf⟩ := hd
 obtain ⟨y, hy⟩ := h _ _ _ hf
 unfold Value.okWide at hval
 rw [ht] at hval
 obtain ⟨cs, rfl, _⟩ := hval
 exact ⟨cs.toList, y, by simp, by simpa [Value.cells] using hy⟩
end
section
variable {Hh : Type} {enc : TypeId × Value → Hh} {W : World}

def headerR' : Rel Header := fun _ _ vs x => x.ok ∧ vs = cat (headerV x)
theorem open70 : Opens enc Try.prog W 70 headerR' := by
 intro fuel cs x h
 obtain ⟨hl, m, hz0, hz1, hz2, hz3, hz4, hz5, hz6, hz7, hz8, _⟩ := openFields [(44, 0, 32), (4, 32, 1), (44, 33, 32), (44, 65, 32), (44, 97, 32), (68, 129, 1), (44, 130, 32), (68, 162, 1), (68, 163, 1)] Try.underlying70 (by kernel_rfl) h
 rw [show Try.prog.cellsOf 70 = 164 by kernel_rfl] at hl
 obtain ⟨z0, hz0⟩ := hz0
 obtain ⟨y0, ho0, hy0⟩ := (openArr (n := 32) Try.underlying44 Try.underlying5 (by kernel_rfl) (by kernel_rfl)) _ _ _ hz0
 obtain ⟨z1, hz1⟩ := hz1
 obtain ⟨y1, hy1⟩ := (openBool Try.underlying4) _ _ _ hz1
 obtain ⟨z2, hz2⟩ := hz2
 obtain ⟨y2, ho2, hy2⟩ := (openArr (n := 32) Try.underlying44 Try.underlying5 (by kernel_rfl) (by kernel_rfl)) _ _ _ hz2
 obtain ⟨z3, hz3⟩ := hz3
 obtain ⟨y3, ho3, hy3⟩ := (openArr (n := 32) Try.underlying44 Try.underlying5 (by kernel_rfl) (by kernel_rfl)) _ _ _ hz3
 obtain ⟨z4, hz4⟩ := hz4
 obtain ⟨y4, ho4, hy4⟩ := (openArr (n := 32) Try.underlying44 Try.underlying5 (by kernel_rfl) (by kernel_rfl)) _ _ _ hz4
 obtain ⟨z5, hz5⟩ := hz5
 obtain ⟨y5, ho5, hy5⟩ := (openU16 Try.underlying68) _ _ _ hz5
 obtain ⟨z6, hz6⟩ := hz6
 obtain ⟨y6, ho6, hy6⟩ := (openArr (n := 32) Try.underlying44 Try.underlying5 (by kernel_rfl) (by kernel_rfl)) _ _ _ hz6
 obtain ⟨z7, hz7⟩ := hz7
 obtain ⟨y7, ho7, hy7⟩ := (openU16 Try.underlying68) _ _ _ hz7
 obtain ⟨z8, hz8⟩ := hz8
 obtain ⟨y8, ho8, hy8⟩ := (openU16 Try.underlying68) _ _ _ hz8
 refine ⟨⟨y0, y1, y2, y3, y4, y5, y6, y7, y8⟩, ⟨ho0, ho2, ho3, ho4, ho5, ho6, ho7, ho8⟩, ?_⟩
 have e0 : cs = cs.drop 0 := rfl
 have f0 := cutCells 0 32 hy0
 have f1 := cutCells 32 1 hy1
 have f2 := cutCells 33 32 hy2
 have f3 := cutCells 65 32 hy3
 have f4 := cutCells 97 32 hy4
 have f5 := cutCells 129 1 hy5
 have f6 := cutCells 130 32 hy6
 have f7 := cutCells 162 1 hy7
 have f8 := cutCells 163 1 hy8
 have fe : cs.drop 164 = [] := List.drop_eq_nil_of_le (by omega)
 rw [e0, f0, f1, f2, f3, f4, f5, f6, f7, f8, fe]
 simp only [cat, List.append_assoc, List.append_nil, List.nil_append]
def bundleR' : Rel Bundle := fun _ _ vs x => x.ok ∧ vs = cat (bundleV x)
theorem open82 : Opens enc Try.prog W 82 bundleR' := by
 intro fuel cs x h
 obtain ⟨hl, m, hz0, hz1, hz2, hz3, hz4, hz5, _⟩ := openFields [(5, 0, 1), (44, 1, 32), (44, 33, 32), (68, 65, 1), (44, 66, 32), (80, 98, 64)] Try.underlying82 (by kernel_rfl) h
 rw [show Try.prog.cellsOf 82 = 162 by kernel_rfl] at hl
 obtain ⟨z0, hz0⟩ := hz0
 obtain ⟨y0, ho0, hy0⟩ := (openU8 Try.underlying5) _ _ _ hz0
 obtain ⟨z1, hz1⟩ := hz1
 obtain ⟨y1, ho1, hy1⟩ := (openArr (n := 32) Try.underlying44 Try.underlying5 (by kernel_rfl) (by kernel_rfl)) _ _ _ hz1
 obtain ⟨z2, hz2⟩ := hz2
 obtain ⟨y2, ho2, hy2⟩ := (openArr (n := 32) Try.underlying44 Try.underlying5 (by kernel_rfl) (by kernel_rfl)) _ _ _ hz2
 obtain ⟨z3, hz3⟩ := hz3
 obtain ⟨y3, ho3, hy3⟩ := (openU16 Try.underlying68) _ _ _ hz3
 obtain ⟨z4, hz4⟩ := hz4
 obtain ⟨y4, ho4, hy4⟩ := (openArr (n := 32) Try.underlying44 Try.underlying5 (by kernel_rfl) (by kernel_rfl)) _ _ _ hz4
 obtain ⟨z5, hz5⟩ := hz5
 obtain ⟨y5, ho5, hy5⟩ := (openArr (n := 64) Try.underlying80 Try.underlying5 (by kernel_rfl) (by kernel_rfl)) _ _ _ hz5
 refine ⟨⟨y0, y1, y2, y3, y4, y5⟩, ⟨ho0, ho1, ho2, ho3, ho4, ho5⟩, ?_⟩
 have e0 : cs = cs.drop 0 := rfl
 have f0 := cutCells 0 1 hy0
 have f1 := cutCells 1 32 hy1
 have f2 := cutCells 33 32 hy2
 have f3 := cutCells 65 1 hy3
 have f4 := cutCells 66 32 hy4
 have f5 := cutCells 98 64 hy5
 have fe : cs.drop 162 = [] := List.drop_eq_nil_of_le (by omega)
 rw [e0, f0, f1, f2, f3, f4, f5, fe]
 simp only [cat, List.append_assoc, List.append_nil, List.nil_append]
theorem open202 : Opens enc Try.prog W 202 vouchR := by
 intro fuel cs x h
 obtain ⟨hl, m, hz0, hz1, _⟩ := openFields [(5, 0, 1), (80, 1, 64)] Try.underlying202 (by kernel_rfl) h
 rw [show Try.prog.cellsOf 202 = 65 by kernel_rfl] at hl
 obtain ⟨z0, hz0⟩ := hz0
 obtain ⟨y0, ho0, hy0⟩ := (openU8 Try.underlying5) _ _ _ hz0
 obtain ⟨z1, hz1⟩ := hz1
 obtain ⟨y1, ho1, hy1⟩ := (openArr (n := 64) Try.underlying80 Try.underlying5 (by kernel_rfl) (by kernel_rfl)) _ _ _ hz1
 refine ⟨⟨y0, y1⟩, ⟨ho0, ho1⟩, ?_⟩
 have e0 : cs = cs.drop 0 := rfl
 have f0 := cutCells 0 1 hy0
 have f1 := cutCells 1 64 hy1
 have fe : cs.drop 65 = [] := List.drop_eq_nil_of_le (by omega)
 rw [e0, f0, f1, fe]
 simp only [cat, List.append_assoc, List.append_nil, List.nil_append]
theorem vouch_at {vs : List Vouch} {p : Option Addr} {c : Nat} (h : Arr 65 vouchR [] W p vs c) {i : Nat} {v : Vouch} (hi : vs[i]? = some v) : v.ok := by
 obtain ⟨vs, a, _, _, h1, _⟩ := h.cell hi
 exact h1.1
def letterR' : Rel Letter := fun K w vs x => ∃ p c, x.ok ∧ vs = cat (letterV x p c) ∧ Bytes K w p x.body c
theorem open72 : Opens enc Try.prog W 72 letterR' := by
 intro fuel cs x h
 obtain ⟨hl, m, hz0, hz1, hz2, hz3, _⟩ := openFields [(5, 0, 1), (5, 1, 1), (70, 2, 164), (24, 166, 1)] Try.underlying72 (by kernel_rfl) h
 rw [show Try.prog.cellsOf 72 = 167 by kernel_rfl] at hl
 obtain ⟨z0, hz0⟩ := hz0
 obtain ⟨y0, ho0, hy0⟩ := (openU8 Try.underlying5) _ _ _ hz0
 obtain ⟨z1, hz1⟩ := hz1
 obtain ⟨y1, ho1, hy1⟩ := (openU8 Try.underlying5) _ _ _ hz1
 obtain ⟨z2, hz2⟩ := hz2
 obtain ⟨y2, ho2, hy2⟩ := open70 _ _ _ hz2
 obtain ⟨z3, hz3⟩ := hz3
 obtain ⟨y3, p3, c3, hy3, hA3⟩ := (Opens.slice (sz := 1) Try.underlying24 (by kernel_rfl) (by decide) (Opens.u8 Try.underlying5)) _ _ _ hz3
 refine ⟨⟨y0, y1, y2, y3⟩, p3, c3, ⟨ho0, ho1, ho2⟩, ?_, hA3⟩
 have e0 : cs = cs.drop 0 := rfl
 have f0 := cutCells 0 1 hy0
 have f1 := cutCells 1 1 hy1
 have f2 := cutCells 2 164 hy2
 have f3 := cutCells 166 1 hy3
 have fe : cs.drop 167 = [] := List.drop_eq_nil_of_le (by omega)
 rw [e0, f0, f1, f2, f3, fe]
 simp only [cat, List.append_assoc, List.append_nil, List.nil_append]
def objectR' : Rel Object := fun K w vs x => ∃ p c, x.ok ∧ vs = cat (objectV x p c) ∧ Arr 65 vouchR K w p x.vouches c
theorem open85 : Opens enc Try.prog W 85 objectR' := by
 intro fuel cs x h
 obtain ⟨hl, m, hz0, hz1, hz2, hz3, hz4, hz5, hz6, _⟩ := openFields [(5, 0, 1), (5, 1, 1), (44, 2, 32), (48, 34, 1), (48, 35, 1), (80, 36, 64), (83, 100, 1)] Try.underlying85 (by kernel_rfl) h
 rw [show Try.prog.cellsOf 85 = 101 by kernel_rfl] at hl
 obtain ⟨z0, hz0⟩ := hz0
 obtain ⟨y0, ho0, hy0⟩ := (openU8 Try.underlying5) _ _ _ hz0
 obtain ⟨z1, hz1⟩ := hz1
 obtain ⟨y1, ho1, hy1⟩ := (openU8 Try.underlying5) _ _ _ hz1
 obtain ⟨z2, hz2⟩ := hz2
 obtain ⟨y2, ho2, hy2⟩ := (openArr (n := 32) Try.underlying44 Try.underlying5 (by kernel_rfl) (by kernel_rfl)) _ _ _ hz2
 obtain ⟨z3, hz3⟩ := hz3
 obtain ⟨y3, ho3, hy3⟩ := (openU32 Try.underlying48) _ _ _ hz3
 obtain ⟨z4, hz4⟩ := hz4
 obtain ⟨y4, ho4, hy4⟩ := (openU32 Try.underlying48) _ _ _ hz4
 obtain ⟨z5, hz5⟩ := hz5
 obtain ⟨y5, ho5, hy5⟩ := (openArr (n := 64) Try.underlying80 Try.underlying5 (by kernel_rfl) (by kernel_rfl)) _ _ _ hz5
 obtain ⟨z6, hz6⟩ := hz6
 obtain ⟨y6, p6, c6, hy6, hA6⟩ := (Opens.slice (sz := 65) Try.underlying83 (by kernel_rfl) (by decide) open202) _ _ _ hz6
 have hvs : ∀ v ∈ y6, v.ok := fun v hv => by
  obtain ⟨i, hi⟩ := List.mem_iff_getElem?.1 hv
  exact vouch_at hA6 hi
 refine ⟨⟨y0, y1, y2, y3, y4, y5, y6⟩, p6, c6, ⟨ho0, ho1, ho2, ho3, ho4, ho5, hvs⟩, ?_, hA6⟩
 have e0 : cs = cs.drop 0 := rfl
 have f0 := cutCells 0 1 hy0
 have f1 := cutCells 1 1 hy1
 have f2 := cutCells 2 32 hy2
 have f3 := cutCells 34 1 hy3
 have f4 := cutCells 35 1 hy4
 have f5 := cutCells 36 64 hy5
 have f6 := cutCells 100 1 hy6
 have fe : cs.drop 101 = [] := List.drop_eq_nil_of_le (by omega)
 rw [e0, f0, f1, f2, f3, f4, f5, f6, fe]
 simp only [cat, List.append_assoc, List.append_nil, List.nil_append]
def itemR' : Rel Itm := fun K w vs x => ∃ p c q d, x.ok ∧ vs = cat (itemV x p c q d) ∧ Bytes K w p x.letter.body c ∧ Arr 65 vouchR K w q x.object.vouches d
theorem open87 : Opens enc Try.prog W 87 itemR' := by
 intro fuel cs x h
 obtain ⟨hl, m, hz0, hz1, hz2, hz3, hz4, hz5, _⟩ := openFields [(5, 0, 1), (5, 1, 1), (5, 2, 1), (72, 3, 167), (82, 170, 162), (85, 332, 101)] Try.underlying87 (by kernel_rfl) h
 rw [show Try.prog.cellsOf 87 = 433 by kernel_rfl] at hl
 obtain ⟨z0, hz0⟩ := hz0
 obtain ⟨y0, ho0, hy0⟩ := (openU8 Try.underlying5) _ _ _ hz0
 obtain ⟨z1, hz1⟩ := hz1
 obtain ⟨y1, ho1, hy1⟩ := (openU8 Try.underlying5) _ _ _ hz1
 obtain ⟨z2, hz2⟩ := hz2
 obtain ⟨y2, ho2, hy2⟩ := (openU8 Try.underlying5) _ _ _ hz2
 obtain ⟨z3, hz3⟩ := hz3
 obtain ⟨y3, p3, c3, ho3, hy3, hA3⟩ := open72 _ _ _ hz3
 obtain ⟨z4, hz4⟩ := hz4
 obtain ⟨y4, ho4, hy4⟩ := open82 _ _ _ hz4
 obtain ⟨z5, hz5⟩ := hz5
 obtain ⟨y5, p5, c5, ho5, hy5, hA5⟩ := open85 _ _ _ hz5
 refine ⟨⟨y0, y1, y2, y3, y4, y5⟩, p3, c3, p5, c5, ⟨ho0, ho1, ho2, ho3, ho4, ho5⟩, ?_, hA3, hA5⟩
 have e0 : cs = cs.drop 0 := rfl
 have f0 := cutCells 0 1 hy0
 have f1 := cutCells 1 1 hy1
 have f2 := cutCells 2 1 hy2
 have f3 := cutCells 3 167 hy3
 have f4 := cutCells 170 162 hy4
 have f5 := cutCells 332 101 hy5
 have fe : cs.drop 433 = [] := List.drop_eq_nil_of_le (by omega)
 rw [e0, f0, f1, f2, f3, f4, f5, fe]
 simp only [cat, List.append_assoc, List.append_nil, List.nil_append]
end
end Go.Proofs.Ytcfecmoagfgnaaa

/- A row of slices that the call keeps in its hand. -/
namespace Go.Vc
open Go.Proofs.Ytcfecmoagfgnaaa
section
variable {P : Program} {n : Nat} {Q : Exit → Act → World → Prop} {σ : Sl} {ops : Array Oper} {rest : List Oper} {d : Nat} {ty : TypeId} {pos : String} {aft : Array Edge} {S : List Snap} {H : List Chunk}
theorem VL.litB {t : TypeId} {by_ : Nat} {z : Value} {len : Nat} {parts : List (Nat × Operand)} {vs : List Value} (ls : List (List UInt8)) (hE : Elem P t 24 1 by_ z) (hlen : Nat.ble (len * 1) 16777216 = true) (hk : parts.length = len)
  (hp : evps σ 0 parts = some vs) (hv : ∀ v ∈ vs, v.cells.size = 1) (h1 : ok1 (vs.flatMap (·.cells.toList))) (hm : len = ls.length)
  (hr : ∀ g w, Own S (row 24 1 (some g) len len (vs.flatMap (·.cells.toList)) :: H) w → RowOf (keys (row 24 1 (some g) len len (vs.flatMap (·.cells.toList)) :: H)) w (vs.flatMap (·.cells.toList)) ls)
  (h : ∀ v, VL P n ops Q rest ((d, v) :: σ) (fun w' => ∃ g, v = rowV (some g) len len ∧ Own S (brow (some g) len ls :: H) w')) (hdn : Nat.blt d n = true := by rfl) : VL P n ops Q (⟨some d, .buildSlice t len parts.toArray, ty, pos, aft, none⟩ :: rest) σ (Own S H) :=
 VL.lit hE hlen hk hp hv h1 (fun g => VL.turn (fun w' hw => ⟨g, rfl, hw.asArr (Mono.slice Mono.byte) hm ((hr g w' hw).at_)⟩) (h (rowV (some g) len len))) hdn
/-- An array in an element of a slice, as a slice. -/
theorem VL.sliceIn {X : Type} {R : Rel X} {sz c : Nat} {xs : List X} {p : Option Addr} {K : List Nat} {w' : World} {G : World → Prop} {t e : TypeId} {m o : Nat} {x : Operand} {y : X} (j i : Nat) (l : List UInt8) (ht : P.underlying t = some (.array m e)) (he : ((P.info? e).map (·.size)).isSome = true) (hx : ev σ x = some (pAt p o)) (hA : Arr sz R K w' p xs c)
  (hj : xs[j]? = some y) (ho : o = j * sz + i) (hl : l.length = m) (hm : m ≤ maxLen) (hr : ∀ vs, R K w' vs y → (vs.drop i).take m = l.map bv)
  (h : ∀ q, Bytes K w' (some q) l m → VL P n ops Q rest ((d, .slice (some q) l.length m) :: σ) G) (hdn : Nat.blt d n = true := by rfl) : VL P n ops Q (⟨some d, .slice t x none none none, ty, pos, aft, none⟩ :: rest) σ G := by
 have hn := (List.getElem?_eq_some_iff.1 hj).1
 obtain ⟨a, rfl⟩ := hA.isAt (by omega)
 have hc0 : 0 < c := by have := hA.le; omega
 obtain ⟨h1, h2, h3, cs, el, fr, hg, hcs⟩ := hA.at_ a rfl hc0
 obtain ⟨vs, hvl, hvr, hvc⟩ := hcs j y hj
 have hB : Bytes K w' (some ⟨a.block, a.off + o, none⟩) l m := by
  refine ⟨by omega, hm, fun e => (by cases e), fun a' ea _ => ?_⟩
  cases ea
  refine ⟨rfl, h2, h3, cs, el, fr, hg, fun k b hk => ⟨[bv b], rfl, rfl, fun q v hv => ?_⟩⟩
  have hq : q = 0 := by have := (List.getElem?_eq_some_iff.1 hv).1; simp at this; exact this
  subst hq
  simp at hv; subst hv
  have hkl := (List.getElem?_eq_some_iff.1 hk).1
  have e1 : ((vs.drop i).take m)[k]? = some (bv b) := by rw [hr vs hvr, List.getElem?_map, hk]; rfl
  rw [List.getElem?_take_of_lt (by omega), List.getElem?_drop] at e1
  have := hvc (i + k) (bv b) e1
  rw [show (⟨a.block, a.off + o, none⟩ : Addr).off + (k * 1 + 0) = a.off + (j * sz + (i + k)) by show a.off + o + (k * 1 + 0) = _; omega]
  exact this
 have := h ⟨a.block, a.off + o, none⟩ hB
 rw [hl] at this
 exact VL.sliceArrAt ht he (by rw [hx]; rfl) this hdn
theorem bytesR_ok1 : ∀ (K : List Nat) (w : World) (vs : List Value) (y : List UInt8), bytesR K w vs y → ok1 vs := by
 rintro K w vs y ⟨p, c, rfl, _⟩ u hu
 simp at hu; subst hu; rfl
end
end Go.Vc

