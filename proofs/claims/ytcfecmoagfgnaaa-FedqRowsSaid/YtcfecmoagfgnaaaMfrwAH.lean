/- The statement FedqRows is proved, for every input: part 8 of 21 of the texts that it needs. -/
import Derived.Test.YtcfecmoagfgnaaaMfrwAG
/- wire: bytes of bundles, headers, letters. -/
namespace Go.Proofs.Ytcfecmoagfgnaaa
open Go.Vc Go.Pl

theorem postO {S : List Snap} {H : List Chunk} {o o' : Option (List UInt8)} (e : o' = o) {v : Value} {w' : World} (h : ∃ p c, v = .tuple #[.slice p (o'.getD []).length c, .bool o'.isSome] ∧ Own S H w' ∧ Bytes (keys H) w' p (o'.getD []) c) : ∃ p c, v = .tuple #[.slice p (o.getD []).length c, .bool o.isSome] ∧ Own S H w' ∧ Bytes (keys H) w' p (o.getD []) c := by subst e; exact h

theorem putBundle_w {S : List Snap} {H : List Chunk} {w : World} (ho : Own S H w) {x : Bundle} (hx : x.ok) : Calls Try.prog 60 #[.agg (cat (bundleV x)).toArray] w (RetO S H (some (bundleB x))) := by
 have hx1 := hx.device
 have hx2 := hx.id
 refine enter (G := Own (⟨w, keys H⟩ :: S) H) ho.keep Try.func60 rfl Try.ntmps60 rfl ?_
 refine VC.sr ?_
 refine VL.box (L := bundleL) (ps := (bundleV (x))) rfl rfl (bundleV_len hx) (fun g1 => ?_)
 refine VL.assign rfl ?_
 refine VL.assign rfl ?_
 refine VL.nn ?_
 refine VC.sr ?_
 refine VL.build (zs := [[.slice none 0 0], [.bool false]]) [] plan181 rfl trivial rfl ?_
 refine VL.box (L := [1, 1]) (ps := [[rowV none 0 0], [.bool false]]) rfl rfl rfl (fun g2 => ?_)
 refine VL.turn (fun w' hw => Own.newW hw) ?_
 refine VL.assign rfl ?_
 refine VL.nn ?_
 refine VC.sr ?_
 refine VL.move rfl ?_
 refine VL.fieldAddr rfl fo82_0 rfl ?_
 refine VL.load (v := .int .u8 (x.device)) 2 0 rfl kd5 (fun _ h => h) rfl rfl rfl ?_
 refine VL.conv (by rw [Try.underlying5]; rfl) Try.underlying22 rfl (inr_u64 (by omega)) ?_
 refine VL.call Try.func116 rfl (by decide) rfl (fun w' hw => num_w hw (by simp only [List.length_append, List.length_cons, List.length_nil, List.length_map]; omega) (x.device) (fits_small (by omega)) 1 (by decide) (by decide) (fits1 (by omega))) (fun v => ?_)
 refine VL.fact fun e5 => ?_
 subst e5
 refine VL.ex fun gp3 => VL.ex fun c4 => ?_
 refine VL.nn ?_
 refine VC.sr ?_
 refine VL.move rfl ?_
 refine VL.fieldAddr rfl fo82_1 rfl ?_
 refine VL.loads (cs := (x.agree).map bv) 2 1 1 rfl kd44 (fun _ h => h) rfl rfl rfl rfl ?_
 refine VL.call Try.func119 rfl (by decide) rfl (fun w' hw => key_w hw (by simp only [List.length_append, List.length_cons, List.length_nil, List.length_map]; omega) (l := x.agree) hx.agree) (fun v => ?_)
 refine VL.fact fun e8 => ?_
 subst e8
 refine VL.ex fun gp6 => VL.ex fun c7 => ?_
 refine VL.nn ?_
 refine VC.sr ?_
 refine VL.move rfl ?_
 refine VL.fieldAddr rfl fo82_2 rfl ?_
 refine VL.loads (cs := (x.signer).map bv) 2 2 1 rfl kd44 (fun _ h => h) rfl rfl rfl rfl ?_
 refine VL.call Try.func119 rfl (by decide) rfl (fun w' hw => key_w hw (by simp only [List.length_append, List.length_cons, List.length_nil, List.length_map]; omega) (l := x.signer) hx.signer) (fun v => ?_)
 refine VL.fact fun e11 => ?_
 subst e11
 refine VL.ex fun gp9 => VL.ex fun c10 => ?_
 refine VL.nn ?_
 refine VC.sr ?_
 refine VL.move rfl ?_
 refine VL.fieldAddr rfl fo82_3 rfl ?_
 refine VL.load (v := .int .u16 (x.id)) 2 3 rfl kd68 (fun _ h => h) rfl rfl rfl ?_
 refine VL.conv (by rw [Try.underlying68]; rfl) Try.underlying22 rfl (inr_u64 (by omega)) ?_
 refine VL.call Try.func116 rfl (by decide) rfl (fun w' hw => num_w hw (by simp only [List.length_append, List.length_cons, List.length_nil, List.length_map]; omega) (x.id) (fits_small (by omega)) 2 (by decide) (by decide) (fits2 (by omega))) (fun v => ?_)
 refine VL.fact fun e14 => ?_
 subst e14
 refine VL.ex fun gp12 => VL.ex fun c13 => ?_
 refine VL.nn ?_
 refine VC.sr ?_
 refine VL.move rfl ?_
 refine VL.fieldAddr rfl fo82_4 rfl ?_
 refine VL.loads (cs := (x.once).map bv) 2 4 1 rfl kd44 (fun _ h => h) rfl rfl rfl rfl ?_
 refine VL.call Try.func119 rfl (by decide) rfl (fun w' hw => key_w hw (by simp only [List.length_append, List.length_cons, List.length_nil, List.length_map]; omega) (l := x.once) hx.once) (fun v => ?_)
 refine VL.fact fun e17 => ?_
 subst e17
 refine VL.ex fun gp15 => VL.ex fun c16 => ?_
 refine VL.nn ?_
 refine VC.sr ?_
 refine VL.move rfl ?_
 refine VL.fieldAddr rfl fo82_5 rfl ?_
 refine VL.loads (cs := (x.sig).map bv) 2 5 1 rfl kd80 (fun _ h => h) rfl rfl rfl rfl ?_
 refine VL.call Try.func128 rfl (by decide) rfl (fun w' hw => sig_w hw (by simp only [List.length_append, List.length_cons, List.length_nil, List.length_map]; omega) (l := x.sig) hx.sig) (fun v => ?_)
 refine VL.fact fun e20 => ?_
 subst e20
 refine VL.ex fun gp18 => VL.ex fun c19 => ?_
 refine VL.nn ?_
 refine VC.sr ?_
 refine VL.move rfl ?_
 refine VL.call Try.func118 rfl (by decide) rfl (fun w' hw => done_O hw) (fun v => ?_)
 refine VL.at (fun w21 h1w => ?_)
 obtain ⟨p22, c23, rfl, hO25, hA24⟩ := h1w
 refine VL.toOwn hO25 ?_
 refine VL.extract rfl rfl ?_
 refine VL.extract rfl rfl ?_
 refine VL.assign rfl ?_
 refine VL.assign rfl ?_
 refine VL.nn ?_
 refine VC.ret ?_
 refine VX.ret2 rfl rfl rfl (fun we hw => ?_)
 exact postO (joinO_some (bundleP_ok hx) rfl) ⟨p22, c23, rfl, hw.drop.subA, (hA24.nowA (s := ⟨w21, _⟩) Mono.byte hw.drop)⟩

theorem headerO_none {x : Header} (h : headerFit x = false) : (none : Option (List UInt8)) = headerO x := by unfold headerO; rw [h]; rfl
theorem headerO_is {x : Header} (hx : x.ok) (h : headerFit x = true) : joinO (headerP x) true = headerO x := by rw [← headerO_joinO hx, h]

theorem headerBytes_w {S : List Snap} {H : List Chunk} {w : World} (ho : Own S H w) {x : Header} (hx : x.ok) : Calls Try.prog 52 #[.agg (cat (headerV x)).toArray] w (RetO S H (headerO x)) := by
 have hx1 := hx.id
 have hx2 := hx.n
 have hx3 := hx.prev
 refine enter (G := Own (⟨w, keys H⟩ :: S) H) ho.keep Try.func52 rfl Try.ntmps52 rfl ?_
 refine VC.sr ?_
 refine VL.box (L := headerL) (ps := (headerV (x))) rfl rfl (headerV_len hx) (fun g1 => ?_)
 refine VL.assign rfl ?_
 refine VL.assign rfl ?_
 refine VL.nn ?_
 refine VC.seq ?_
 refine VC.sr ?_
 refine VL.fieldAddr rfl fo70_1 rfl ?_
 refine VL.load (v := .bool x.first) 0 1 rfl kd4 (fun _ h => h) rfl rfl rfl ?_
 cases h1_1 : x.first
 ·refine VL.not rfl ?_
  refine VL.move rfl ?_
  refine VL.go rfl rfl rfl ?_
  refine VL.fieldAddr rfl fo70_2 rfl ?_
  refine VL.go rfl rfl rfl ?_
  refine VL.loads (cs := (x.agree).map bv) 0 2 1 rfl kd44 (fun _ h => h) rfl rfl rfl rfl ?_
  refine VL.go rfl rfl rfl ?_
  refine VL.build0 (cs := (zeros 32).map bv) built44 ?_
  refine VL.go rfl rfl rfl ?_
  refine VL.neT guard44 rfl rfl (eqKey 9998 hx.agree rfl) (fun b h1_7 => ?_)
  cases b
  ·have h1_7 := mt h1_7.2 (by decide)
   refine VL.go rfl rfl rfl ?_
   refine VL.move rfl ?_
   refine VL.pass rfl rfl rfl rfl rfl ?_
   refine VL.pass rfl rfl rfl rfl rfl ?_
   refine VL.pass rfl rfl rfl rfl rfl ?_
   refine VL.pass rfl rfl rfl rfl rfl ?_
   refine VL.go rfl rfl rfl ?_
   refine VL.pick_t rfl rfl ?_
   refine VL.go rfl rfl rfl ?_
   refine VL.move rfl ?_
   refine VL.pass rfl rfl rfl rfl rfl ?_
   refine VL.pass rfl rfl rfl rfl rfl ?_
   refine VL.pass rfl rfl rfl rfl rfl ?_
   refine VL.pass rfl rfl rfl rfl rfl ?_
   refine VL.go rfl rfl rfl ?_
   refine VL.pick_t rfl rfl ?_
   refine VL.go rfl rfl rfl ?_
   refine VL.move rfl ?_
   refine VL.pass rfl rfl rfl rfl rfl ?_
   refine VL.pass rfl rfl rfl rfl rfl ?_
   refine VL.pass rfl rfl rfl rfl rfl ?_
   refine VL.go rfl rfl rfl ?_
   refine VL.pick_t rfl rfl ?_
   refine VL.pick_t rfl rfl ?_
   refine VL.nn ?_
   refine VC.yes rfl ?_
   refine VC.sr ?_
   refine VL.assign rfl ?_
   refine VL.assign rfl ?_
   refine VL.nn ?_
   refine VC.ret ?_
   refine VX.then_ret ?_
   refine VX.ret2 rfl rfl rfl (fun we hw => ?_)
   exact postO (headerO_none (by unfold headerFit; simp [h1_1, h1_7])) ⟨none, 0, rfl, hw.drop.subA, Arr.none⟩
  ·have h1_7 := h1_7.1 rfl
   refine VL.go rfl rfl rfl ?_
   refine VL.move rfl ?_
   refine VL.go rfl rfl rfl ?_
   refine VL.fieldAddr rfl fo70_3 rfl ?_
   refine VL.go rfl rfl rfl ?_
   refine VL.loads (cs := (x.signer).map bv) 0 3 1 rfl kd44 (fun _ h => h) rfl rfl rfl rfl ?_
   refine VL.go rfl rfl rfl ?_
   refine VL.build0 (cs := (zeros 32).map bv) built44 ?_
   refine VL.go rfl rfl rfl ?_
   refine VL.neT guard44 rfl rfl (eqKey 9998 hx.signer rfl) (fun b h1_12 => ?_)
   cases b
   ·have h1_12 := mt h1_12.2 (by decide)
    refine VL.go rfl rfl rfl ?_
    refine VL.pick_f rfl rfl ?_
    refine VL.go rfl rfl rfl ?_
    refine VL.move rfl ?_
    refine VL.pass rfl rfl rfl rfl rfl ?_
    refine VL.pass rfl rfl rfl rfl rfl ?_
    refine VL.pass rfl rfl rfl rfl rfl ?_
    refine VL.pass rfl rfl rfl rfl rfl ?_
    refine VL.go rfl rfl rfl ?_
    refine VL.pick_t rfl rfl ?_
    refine VL.go rfl rfl rfl ?_
    refine VL.move rfl ?_
    refine VL.pass rfl rfl rfl rfl rfl ?_
    refine VL.pass rfl rfl rfl rfl rfl ?_
    refine VL.pass rfl rfl rfl rfl rfl ?_
    refine VL.go rfl rfl rfl ?_
    refine VL.pick_t rfl rfl ?_
    refine VL.pick_t rfl rfl ?_
    refine VL.nn ?_
    refine VC.yes rfl ?_
    refine VC.sr ?_
    refine VL.assign rfl ?_
    refine VL.assign rfl ?_
    refine VL.nn ?_
    refine VC.ret ?_
    refine VX.then_ret ?_
    refine VX.ret2 rfl rfl rfl (fun we hw => ?_)
    exact postO (headerO_none (by unfold headerFit; simp [h1_1, h1_7, h1_12])) ⟨none, 0, rfl, hw.drop.subA, Arr.none⟩
   ·have h1_12 := h1_12.1 rfl
    refine VL.go rfl rfl rfl ?_
    refine VL.pick_f rfl rfl ?_
    refine VL.go rfl rfl rfl ?_
    refine VL.move rfl ?_
    refine VL.go rfl rfl rfl ?_
    refine VL.fieldAddr rfl fo70_4 rfl ?_
    refine VL.go rfl rfl rfl ?_
    refine VL.loads (cs := (x.base).map bv) 0 4 1 rfl kd44 (fun _ h => h) rfl rfl rfl rfl ?_
    refine VL.go rfl rfl rfl ?_
    refine VL.build0 (cs := (zeros 32).map bv) built44 ?_
    refine VL.go rfl rfl rfl ?_
    refine VL.neT guard44 rfl rfl (eqKey 9998 hx.base rfl) (fun b h1_18 => ?_)
    cases b
    ·have h1_18 := mt h1_18.2 (by decide)
     refine VL.go rfl rfl rfl ?_
     refine VL.pick_f rfl rfl ?_
     refine VL.go rfl rfl rfl ?_
     refine VL.move rfl ?_
     refine VL.pass rfl rfl rfl rfl rfl ?_
     refine VL.pass rfl rfl rfl rfl rfl ?_
     refine VL.pass rfl rfl rfl rfl rfl ?_
     refine VL.go rfl rfl rfl ?_
     refine VL.pick_t rfl rfl ?_
     refine VL.pick_t rfl rfl ?_
     refine VL.nn ?_
     refine VC.yes rfl ?_
     refine VC.sr ?_
     refine VL.assign rfl ?_
     refine VL.assign rfl ?_
     refine VL.nn ?_
     refine VC.ret ?_
     refine VX.then_ret ?_
     refine VX.ret2 rfl rfl rfl (fun we hw => ?_)
     exact postO (headerO_none (by unfold headerFit; simp [h1_1, h1_7, h1_12, h1_18])) ⟨none, 0, rfl, hw.drop.subA, Arr.none⟩
    ·have h1_18 := h1_18.1 rfl
     refine VL.go rfl rfl rfl ?_
     refine VL.pick_f rfl rfl ?_
     refine VL.go rfl rfl rfl ?_
     refine VL.move rfl ?_
     refine VL.go rfl rfl rfl ?_
     refine VL.fieldAddr rfl fo70_5 rfl ?_
     refine VL.go rfl rfl rfl ?_
     refine VL.load (v := .int .u16 (x.id)) 0 5 rfl kd68 (fun _ h => h) rfl rfl rfl ?_
     refine VL.go rfl rfl rfl ?_
     refine VL.neq rfl rfl ?_
     refine VL.case (fun h1_23 => ?_) (fun h1_23 => ?_)
     ·have h1_23 : x.id ≠ 0 := by omega
      refine VL.go rfl rfl rfl ?_
      refine VL.pick_f rfl rfl ?_
      refine VL.pick_t rfl rfl ?_
      refine VL.nn ?_
      refine VC.yes rfl ?_
      refine VC.sr ?_
      refine VL.assign rfl ?_
      refine VL.assign rfl ?_
      refine VL.nn ?_
      refine VC.ret ?_
      refine VX.then_ret ?_
      refine VX.ret2 rfl rfl rfl (fun we hw => ?_)
      exact postO (headerO_none (by unfold headerFit; simp [h1_1, h1_7, h1_12, h1_18, h1_23])) ⟨none, 0, rfl, hw.drop.subA, Arr.none⟩
     ·have h1_23 : x.id = 0 := by omega
      refine VL.go rfl rfl rfl ?_
      refine VL.pick_f rfl rfl ?_
      refine VL.pick_t rfl rfl ?_
      refine VL.nn ?_
      refine VC.no rfl ?_
      refine VC.skip ?_
      refine VX.next ?_
      refine VC.sr ?_
      refine VL.build (zs := [[.slice none 0 0], [.bool false]]) [] plan181 rfl trivial rfl ?_
      refine VL.box (L := [1, 1]) (ps := [[rowV none 0 0], [.bool false]]) rfl rfl rfl (fun g2 => ?_)
      refine VL.turn (fun w' hw => Own.newW hw) ?_
      refine VL.assign rfl ?_
      refine VL.nn ?_
      refine VC.sr ?_
      refine VL.assign rfl ?_
      refine VL.nn ?_
      refine VC.seq ?_
      refine VC.sr ?_
      refine VL.fieldAddr rfl fo70_1 rfl ?_
      refine VL.load (v := .bool x.first) 2 1 rfl kd4 (fun _ h => h) rfl rfl rfl ?_
      rw [h1_1]
      refine VL.nn ?_
      refine VC.no rfl ?_
      refine VC.skip ?_
      refine VX.next ?_
      refine VC.sr ?_
      refine VL.move rfl ?_
      refine VL.fieldAddr rfl fo70_0 rfl ?_
      refine VL.loads (cs := (x.session).map bv) 2 0 1 rfl kd44 (fun _ h => h) rfl rfl rfl rfl ?_
      refine VL.call Try.func119 rfl (by decide) rfl (fun w' hw => key_w hw (by simp only [List.length_append, List.length_cons, List.length_nil, List.length_map]; omega) (l := x.session) hx.session) (fun v => ?_)
      refine VL.fact fun e5 => ?_
      subst e5
      refine VL.ex fun gp3 => VL.ex fun c4 => ?_
      refine VL.nn ?_
      refine VC.sr ?_
      refine VL.move rfl ?_
      refine VL.move rfl ?_
      refine VL.call Try.func116 rfl (by decide) rfl (fun w' hw => num_w hw (by simp only [List.length_append, List.length_cons, List.length_nil, List.length_map]; omega) (0) (fits_small (by omega)) 1 (by decide) (by decide) (fits1 (by omega))) (fun v => ?_)
      refine VL.fact fun e8 => ?_
      subst e8
      refine VL.ex fun gp6 => VL.ex fun c7 => ?_
      refine VL.nn ?_
      refine VC.sr ?_
      refine VL.move rfl ?_
      refine VL.fieldAddr rfl fo70_2 rfl ?_
      refine VL.loads (cs := (x.agree).map bv) 2 2 1 rfl kd44 (fun _ h => h) rfl rfl rfl rfl ?_
      refine VL.call Try.func119 rfl (by decide) rfl (fun w' hw => key_w hw (by simp only [List.length_append, List.length_cons, List.length_nil, List.length_map]; omega) (l := x.agree) hx.agree) (fun v => ?_)
      refine VL.fact fun e11 => ?_
      subst e11
      refine VL.ex fun gp9 => VL.ex fun c10 => ?_
      refine VL.nn ?_
      refine VC.sr ?_
      refine VL.move rfl ?_
      refine VL.fieldAddr rfl fo70_3 rfl ?_
      refine VL.loads (cs := (x.signer).map bv) 2 3 1 rfl kd44 (fun _ h => h) rfl rfl rfl rfl ?_
      refine VL.call Try.func119 rfl (by decide) rfl (fun w' hw => key_w hw (by simp only [List.length_append, List.length_cons, List.length_nil, List.length_map]; omega) (l := x.signer) hx.signer) (fun v => ?_)
      refine VL.fact fun e14 => ?_
      subst e14
      refine VL.ex fun gp12 => VL.ex fun c13 => ?_
      refine VL.nn ?_
      refine VC.sr ?_
      refine VL.move rfl ?_
      refine VL.fieldAddr rfl fo70_4 rfl ?_
      refine VL.loads (cs := (x.base).map bv) 2 4 1 rfl kd44 (fun _ h => h) rfl rfl rfl rfl ?_
      refine VL.call Try.func119 rfl (by decide) rfl (fun w' hw => key_w hw (by simp only [List.length_append, List.length_cons, List.length_nil, List.length_map]; omega) (l := x.base) hx.base) (fun v => ?_)
      refine VL.fact fun e17 => ?_
      subst e17
      refine VL.ex fun gp15 => VL.ex fun c16 => ?_
      refine VL.nn ?_
      refine VC.sr ?_
      refine VL.move rfl ?_
      refine VL.fieldAddr rfl fo70_5 rfl ?_
      refine VL.load (v := .int .u16 (x.id)) 2 5 rfl kd68 (fun _ h => h) rfl rfl rfl ?_
      refine VL.conv (by rw [Try.underlying68]; rfl) Try.underlying22 rfl (inr_u64 (by omega)) ?_
      refine VL.call Try.func116 rfl (by decide) rfl (fun w' hw => num_w hw (by simp only [List.length_append, List.length_cons, List.length_nil, List.length_map]; omega) (x.id) (fits_small (by omega)) 2 (by decide) (by decide) (fits2 (by omega))) (fun v => ?_)
      refine VL.fact fun e20 => ?_
      subst e20
      refine VL.ex fun gp18 => VL.ex fun c19 => ?_
      refine VL.nn ?_
      refine VC.sr ?_
      refine VL.move rfl ?_
      refine VL.fieldAddr rfl fo70_6 rfl ?_
      refine VL.loads (cs := (x.ratchet).map bv) 2 6 1 rfl kd44 (fun _ h => h) rfl rfl rfl rfl ?_
      refine VL.call Try.func119 rfl (by decide) rfl (fun w' hw => key_w hw (by simp only [List.length_append, List.length_cons, List.length_nil, List.length_map]; omega) (l := x.ratchet) hx.ratchet) (fun v => ?_)
      refine VL.fact fun e23 => ?_
      subst e23
      refine VL.ex fun gp21 => VL.ex fun c22 => ?_
      refine VL.nn ?_
      refine VC.sr ?_
      refine VL.move rfl ?_
      refine VL.fieldAddr rfl fo70_7 rfl ?_
      refine VL.load (v := .int .u16 (x.n)) 2 7 rfl kd68 (fun _ h => h) rfl rfl rfl ?_
      refine VL.conv (by rw [Try.underlying68]; rfl) Try.underlying22 rfl (inr_u64 (by omega)) ?_
      refine VL.call Try.func116 rfl (by decide) rfl (fun w' hw => num_w hw (by simp only [List.length_append, List.length_cons, List.length_nil, List.length_map]; omega) (x.n) (fits_small (by omega)) 2 (by decide) (by decide) (fits2 (by omega))) (fun v => ?_)
      refine VL.fact fun e26 => ?_
      subst e26
      refine VL.ex fun gp24 => VL.ex fun c25 => ?_
      refine VL.nn ?_
      refine VC.sr ?_
      refine VL.move rfl ?_
      refine VL.fieldAddr rfl fo70_8 rfl ?_
      refine VL.load (v := .int .u16 (x.prev)) 2 8 rfl kd68 (fun _ h => h) rfl rfl rfl ?_
      refine VL.conv (by rw [Try.underlying68]; rfl) Try.underlying22 rfl (inr_u64 (by omega)) ?_
      refine VL.call Try.func116 rfl (by decide) rfl (fun w' hw => num_w hw (by simp only [List.length_append, List.length_cons, List.length_nil, List.length_map]; omega) (x.prev) (fits_small (by omega)) 2 (by decide) (by decide) (fits2 (by omega))) (fun v => ?_)
      refine VL.fact fun e29 => ?_
      subst e29
      refine VL.ex fun gp27 => VL.ex fun c28 => ?_
      refine VL.nn ?_
      refine VC.sr ?_
      refine VL.move rfl ?_
      refine VL.call Try.func118 rfl (by decide) rfl (fun w' hw => done_O hw) (fun v => ?_)
      refine VL.at (fun w30 h1w => ?_)
      obtain ⟨p31, c32, rfl, hO34, hA33⟩ := h1w
      refine VL.toOwn hO34 ?_
      refine VL.extract rfl rfl ?_
      refine VL.extract rfl rfl ?_
      refine VL.assign rfl ?_
      refine VL.assign rfl ?_
      refine VL.nn ?_
      refine VC.ret ?_
      refine VX.ret2 rfl rfl rfl (fun we hw => ?_)
      exact postO ((by rw [← headerO_is hx (by unfold headerFit; simp [h1_1, h1_7, h1_12, h1_18, h1_23])]; unfold headerP; rw [h1_1]; rfl)) ⟨p31, c32, rfl, hw.drop.subA, (hA33.nowA (s := ⟨w30, _⟩) Mono.byte hw.drop)⟩
 ·refine VL.not rfl ?_
  refine VL.move rfl ?_
  refine VL.pass rfl rfl rfl rfl rfl ?_
  refine VL.pass rfl rfl rfl rfl rfl ?_
  refine VL.pass rfl rfl rfl rfl rfl ?_
  refine VL.pass rfl rfl rfl rfl rfl ?_
  refine VL.pass rfl rfl rfl rfl rfl ?_
  refine VL.passu rfl rfl rfl rfl ?_
  refine VL.passu rfl rfl rfl rfl ?_
  refine VL.passu rfl rfl rfl rfl ?_
  refine VL.passu rfl rfl rfl rfl ?_
  refine VL.pass rfl rfl rfl rfl rfl ?_
  refine VL.pass rfl rfl rfl rfl rfl ?_
  refine VL.passu rfl rfl rfl rfl ?_
  refine VL.passu rfl rfl rfl rfl ?_
  refine VL.passu rfl rfl rfl rfl ?_
  refine VL.passu rfl rfl rfl rfl ?_
  refine VL.pass rfl rfl rfl rfl rfl ?_
  refine VL.pass rfl rfl rfl rfl rfl ?_
  refine VL.passu rfl rfl rfl rfl ?_
  refine VL.passu rfl rfl rfl rfl ?_
  refine VL.passu rfl rfl rfl rfl ?_
  refine VL.pass rfl rfl rfl rfl rfl ?_
  refine VL.pick_f rfl rfl ?_
  refine VL.nn ?_
  refine VC.no rfl ?_
  refine VC.skip ?_
  refine VX.next ?_
  refine VC.sr ?_
  refine VL.build (zs := [[.slice none 0 0], [.bool false]]) [] plan181 rfl trivial rfl ?_
  refine VL.box (L := [1, 1]) (ps := [[rowV none 0 0], [.bool false]]) rfl rfl rfl (fun g35 => ?_)
  refine VL.turn (fun w' hw => Own.newW hw) ?_
  refine VL.assign rfl ?_
  refine VL.nn ?_
  refine VC.sr ?_
  refine VL.assign rfl ?_
  refine VL.nn ?_
  refine VC.seq ?_
  refine VC.sr ?_
  refine VL.fieldAddr rfl fo70_1 rfl ?_
  refine VL.load (v := .bool x.first) 2 1 rfl kd4 (fun _ h => h) rfl rfl rfl ?_
  rw [h1_1]
  refine VL.nn ?_
  refine VC.yes rfl ?_
  refine VC.region ?_
  refine VL.assign rfl ?_
  refine VL.nn ?_
  refine VC.sr ?_
  refine VL.move rfl ?_
  refine VL.fieldAddr rfl fo70_0 rfl ?_
  refine VL.loads (cs := (x.session).map bv) 2 0 1 rfl kd44 (fun _ h => h) rfl rfl rfl rfl ?_
  refine VL.call Try.func119 rfl (by decide) rfl (fun w' hw => key_w hw (by simp only [List.length_append, List.length_cons, List.length_nil, List.length_map]; omega) (l := x.session) hx.session) (fun v => ?_)
  refine VL.fact fun e38 => ?_
  subst e38
  refine VL.ex fun gp36 => VL.ex fun c37 => ?_
  refine VL.nn ?_
  refine VC.sr ?_
  refine VL.move rfl ?_
  refine VL.move rfl ?_
  refine VL.call Try.func116 rfl (by decide) rfl (fun w' hw => num_w hw (by simp only [List.length_append, List.length_cons, List.length_nil, List.length_map]; omega) (1) (fits_small (by omega)) 1 (by decide) (by decide) (fits1 (by omega))) (fun v => ?_)
  refine VL.fact fun e41 => ?_
  subst e41
  refine VL.ex fun gp39 => VL.ex fun c40 => ?_
  refine VL.nn ?_
  refine VC.sr ?_
  refine VL.move rfl ?_
  refine VL.fieldAddr rfl fo70_2 rfl ?_
  refine VL.loads (cs := (x.agree).map bv) 2 2 1 rfl kd44 (fun _ h => h) rfl rfl rfl rfl ?_
  refine VL.call Try.func119 rfl (by decide) rfl (fun w' hw => key_w hw (by simp only [List.length_append, List.length_cons, List.length_nil, List.length_map]; omega) (l := x.agree) hx.agree) (fun v => ?_)
  refine VL.fact fun e44 => ?_
  subst e44
  refine VL.ex fun gp42 => VL.ex fun c43 => ?_
  refine VL.nn ?_
  refine VC.sr ?_
  refine VL.move rfl ?_
  refine VL.fieldAddr rfl fo70_3 rfl ?_
  refine VL.loads (cs := (x.signer).map bv) 2 3 1 rfl kd44 (fun _ h => h) rfl rfl rfl rfl ?_
  refine VL.call Try.func119 rfl (by decide) rfl (fun w' hw => key_w hw (by simp only [List.length_append, List.length_cons, List.length_nil, List.length_map]; omega) (l := x.signer) hx.signer) (fun v => ?_)
  refine VL.fact fun e47 => ?_
  subst e47
  refine VL.ex fun gp45 => VL.ex fun c46 => ?_
  refine VL.nn ?_
  refine VC.sr ?_
  refine VL.move rfl ?_
  refine VL.fieldAddr rfl fo70_4 rfl ?_
  refine VL.loads (cs := (x.base).map bv) 2 4 1 rfl kd44 (fun _ h => h) rfl rfl rfl rfl ?_
  refine VL.call Try.func119 rfl (by decide) rfl (fun w' hw => key_w hw (by simp only [List.length_append, List.length_cons, List.length_nil, List.length_map]; omega) (l := x.base) hx.base) (fun v => ?_)
  refine VL.fact fun e50 => ?_
  subst e50
  refine VL.ex fun gp48 => VL.ex fun c49 => ?_
  refine VL.nn ?_
  refine VC.sr ?_
  refine VL.move rfl ?_
  refine VL.fieldAddr rfl fo70_5 rfl ?_
  refine VL.load (v := .int .u16 (x.id)) 2 5 rfl kd68 (fun _ h => h) rfl rfl rfl ?_
  refine VL.conv (by rw [Try.underlying68]; rfl) Try.underlying22 rfl (inr_u64 (by omega)) ?_
  refine VL.call Try.func116 rfl (by decide) rfl (fun w' hw => num_w hw (by simp only [List.length_append, List.length_cons, List.length_nil, List.length_map]; omega) (x.id) (fits_small (by omega)) 2 (by decide) (by decide) (fits2 (by omega))) (fun v => ?_)
  refine VL.fact fun e53 => ?_
  subst e53
  refine VL.ex fun gp51 => VL.ex fun c52 => ?_
  refine VL.nn ?_
  refine VC.sr ?_
  refine VL.move rfl ?_
  refine VL.fieldAddr rfl fo70_6 rfl ?_
  refine VL.loads (cs := (x.ratchet).map bv) 2 6 1 rfl kd44 (fun _ h => h) rfl rfl rfl rfl ?_
  refine VL.call Try.func119 rfl (by decide) rfl (fun w' hw => key_w hw (by simp only [List.length_append, List.length_cons, List.length_nil, List.length_map]; omega) (l := x.ratchet) hx.ratchet) (fun v => ?_)
  refine VL.fact fun e56 => ?_
  subst e56
  refine VL.ex fun gp54 => VL.ex fun c55 => ?_
  refine VL.nn ?_
  refine VC.sr ?_
  refine VL.move rfl ?_
  refine VL.fieldAddr rfl fo70_7 rfl ?_
  refine VL.load (v := .int .u16 (x.n)) 2 7 rfl kd68 (fun _ h => h) rfl rfl rfl ?_
  refine VL.conv (by rw [Try.underlying68]; rfl) Try.underlying22 rfl (inr_u64 (by omega)) ?_
  refine VL.call Try.func116 rfl (by decide) rfl (fun w' hw => num_w hw (by simp only [List.length_append, List.length_cons, List.length_nil, List.length_map]; omega) (x.n) (fits_small (by omega)) 2 (by decide) (by decide) (fits2 (by omega))) (fun v => ?_)
  refine VL.fact fun e59 => ?_
  subst e59
  refine VL.ex fun gp57 => VL.ex fun c58 => ?_
  refine VL.nn ?_
  refine VC.sr ?_
  refine VL.move rfl ?_
  refine VL.fieldAddr rfl fo70_8 rfl ?_
  refine VL.load (v := .int .u16 (x.prev)) 2 8 rfl kd68 (fun _ h => h) rfl rfl rfl ?_
  refine VL.conv (by rw [Try.underlying68]; rfl) Try.underlying22 rfl (inr_u64 (by omega)) ?_
  refine VL.call Try.func116 rfl (by decide) rfl (fun w' hw => num_w hw (by simp only [List.length_append, List.length_cons, List.length_nil, List.length_map]; omega) (x.prev) (fits_small (by omega)) 2 (by decide) (by decide) (fits2 (by omega))) (fun v => ?_)
  refine VL.fact fun e62 => ?_
  subst e62
  refine VL.ex fun gp60 => VL.ex fun c61 => ?_
  refine VL.nn ?_
  refine VC.sr ?_
  refine VL.move rfl ?_
  refine VL.call Try.func118 rfl (by decide) rfl (fun w' hw => done_O hw) (fun v => ?_)
  refine VL.at (fun w63 h1w => ?_)
  obtain ⟨p64, c65, rfl, hO67, hA66⟩ := h1w
  refine VL.toOwn hO67 ?_
  refine VL.extract rfl rfl ?_
  refine VL.extract rfl rfl ?_
  refine VL.assign rfl ?_
  refine VL.assign rfl ?_
  refine VL.nn ?_
  refine VC.ret ?_
  refine VX.ret2 rfl rfl rfl (fun we hw => ?_)
  exact postO ((by rw [← headerO_is hx (by unfold headerFit; simp [h1_1])]; unfold headerP; rw [h1_1]; rfl)) ⟨p64, c65, rfl, hw.drop.subA, (hA66.nowA (s := ⟨w63, _⟩) Mono.byte hw.drop)⟩

theorem putLetter_w {S : List Snap} {H : List Chunk} {w : World} (ho : Own S H w) {x : Letter} (hx : x.ok) {p : Option Addr} {c : Nat} (hA : Bytes (keys H) w p x.body c) : Calls Try.prog 50 #[.agg (cat (letterV x p c)).toArray] w (RetO S H (letterO x)) := by
 have hx1 := hx.src
 have hx2 := hx.dst
 refine enter (G := Own (⟨w, keys H⟩ :: S) H) ho.keep Try.func50 rfl Try.ntmps50 rfl ?_
 refine VC.sr ?_
 refine VL.box (L := letterL) (ps := (letterV (x) p c)) rfl rfl (letterV_len hx) (fun g1 => ?_)
 refine VL.assign rfl ?_
 refine VL.assign rfl ?_
 refine VL.nn ?_
 refine VC.sr ?_
 refine VL.build (zs := [[.slice none 0 0], [.bool false]]) [] plan181 rfl trivial rfl ?_
 refine VL.box (L := [1, 1]) (ps := [[rowV none 0 0], [.bool false]]) rfl rfl rfl (fun g2 => ?_)
 refine VL.turn (fun w' hw => Own.newW hw) ?_
 refine VL.assign rfl ?_
 refine VL.nn ?_
 refine VC.sr ?_
 refine VL.move rfl ?_
 refine VL.fieldAddr rfl fo72_0 rfl ?_
 refine VL.load (v := .int .u8 (x.src)) 2 0 rfl kd5 (fun _ h => h) rfl rfl rfl ?_
 refine VL.conv (by rw [Try.underlying5]; rfl) Try.underlying22 rfl (inr_u64 (by omega)) ?_
 refine VL.call Try.func116 rfl (by decide) rfl (fun w' hw => num_w hw (by simp only [List.length_append, List.length_cons, List.length_nil, List.length_map]; omega) (x.src) (fits_small (by omega)) 1 (by decide) (by decide) (fits1 (by omega))) (fun v => ?_)
 refine VL.fact fun e5 => ?_
 subst e5
 refine VL.ex fun gp3 => VL.ex fun c4 => ?_
 refine VL.nn ?_
 refine VC.sr ?_
 refine VL.move rfl ?_
 refine VL.fieldAddr rfl fo72_1 rfl ?_
 refine VL.load (v := .int .u8 (x.dst)) 2 1 rfl kd5 (fun _ h => h) rfl rfl rfl ?_
 refine VL.conv (by rw [Try.underlying5]; rfl) Try.underlying22 rfl (inr_u64 (by omega)) ?_
 refine VL.call Try.func116 rfl (by decide) rfl (fun w' hw => num_w hw (by simp only [List.length_append, List.length_cons, List.length_nil, List.length_map]; omega) (x.dst) (fits_small (by omega)) 1 (by decide) (by decide) (fits1 (by omega))) (fun v => ?_)
 refine VL.fact fun e8 => ?_
 subst e8
 refine VL.ex fun gp6 => VL.ex fun c7 => ?_
 refine VL.nn ?_
 refine VC.sr ?_
 refine VL.move rfl ?_
 refine VL.fieldAddr rfl fo72_2 rfl ?_
 refine VL.loads (cs := cat (headerV (x.header))) 2 2 9 rfl kd70 (fun _ h => h) rfl rfl rfl rfl ?_
 refine VL.call Try.func52 rfl (by decide) rfl (fun w' hw => headerBytes_w hw (x := x.header) hx.header) (fun v => ?_)
 refine VL.at (fun w9 h1w => ?_)
 obtain ⟨p10, c11, rfl, hO13, hA12⟩ := h1w
 refine VL.toOwn hO13 ?_
 refine VL.extract rfl rfl ?_
 refine VL.extract rfl rfl ?_
 refine VL.call Try.func117 rfl (by decide) rfl (fun w' hw => piece_w hw (by simp only [List.length_append, List.length_cons, List.length_nil, List.length_map]; omega) (hA12.nowA (s := ⟨w9, _⟩) Mono.byte hw) (((headerO (x.header)).isSome))) (fun v => ?_)
 refine VL.fact fun e16 => ?_
 subst e16
 refine VL.ex fun gp14 => VL.ex fun c15 => ?_
 refine VL.nn ?_
 refine VC.sr ?_
 refine VL.move rfl ?_
 refine VL.fieldAddr rfl fo72_3 rfl ?_
 refine VL.load (v := .slice p (x.body).length c) 2 11 rfl kd24 (fun _ h => h) rfl rfl rfl ?_
 refine VL.call Try.func117 rfl (by decide) rfl (fun w' hw => piece_w hw (by simp only [List.length_append, List.length_cons, List.length_nil, List.length_map]; omega) (hA.nowA (s := ⟨w, _⟩) Mono.byte hw) true) (fun v => ?_)
 refine VL.fact fun e19 => ?_
 subst e19
 refine VL.ex fun gp17 => VL.ex fun c18 => ?_
 refine VL.nn ?_
 refine VC.sr ?_
 refine VL.move rfl ?_
 refine VL.call Try.func118 rfl (by decide) rfl (fun w' hw => done_O hw) (fun v => ?_)
 refine VL.at (fun w20 h1w => ?_)
 obtain ⟨p21, c22, rfl, hO24, hA23⟩ := h1w
 refine VL.toOwn hO24 ?_
 refine VL.extract rfl rfl ?_
 refine VL.extract rfl rfl ?_
 refine VL.assign rfl ?_
 refine VL.assign rfl ?_
 refine VL.nn ?_
 refine VC.ret ?_
 refine VX.ret2 rfl rfl rfl (fun we hw => ?_)
 exact postO ((by unfold letterO; congr 1; cases (headerO x.header).isSome <;> rfl)) ⟨p21, c22, rfl, hw.drop.subA, (hA23.nowA (s := ⟨w20, _⟩) Mono.byte hw.drop)⟩

end Go.Proofs.Ytcfecmoagfgnaaa

/- wire: what bytes are read as: bundles, headers, letters. -/
namespace Go.Proofs.Ytcfecmoagfgnaaa
open Go.Vc Go.Pl

theorem why_none {α : Type} {o : Option α} {n : Nat} (hn : (n : Int) ≠ 0) (h : n = if o.isSome then 0 else 141) : o = none ∧ n = 141 := by
 cases o with
 | none => exact ⟨rfl, h⟩
 | some x => exact absurd (by rw [h]; rfl) hn
theorem why_some {α : Type} {o : Option α} {n : Nat} (hn : ¬ (n : Int) ≠ 0) (h : n = if o.isSome then 0 else 141) : ∃ x, o = some x := by
 cases o with
 | none => exact absurd (show (n : Int) ≠ 0 by rw [h]; exact (by decide : ((141 : Nat) : Int) ≠ 0)) hn
 | some x => exact ⟨x, rfl⟩
theorem bundle_why' (l : List UInt8) : endW ((((((((openP l).drop 1).drop 1).drop 1).drop 1).drop 1)).drop 1) (takesW bundleK (openP l) (openW l)) = if (bundleR l).isSome then 0 else 141 := by
 have := bundle_why l
 simpa only [List.drop_drop] using this
theorem bundleR_of {l : List UInt8} {x : Bundle} (h : bundleR l = some x) : bundleOf (openP l) = x := by
 unfold bundleR at h
 split at h
 ·exact Option.some.inj h
 ·cases h
theorem bundleR_ok (l : List UInt8) : ((bundleR l).getD bundle0).ok := by
 cases h : bundleR l with
 | none => exact bundle0_ok
 | some x => exact (bundleR_iff.1 h).1
theorem header_why' (l : List UInt8) : endW (((((((((((openP l).drop 1).drop 1).drop 1).drop 1).drop 1)).drop 1).drop 1).drop 1).drop 1) (if (headerO (headerOf (openP l))).isSome = true ∧ firstOf (openP l) ≤ 1 then takesW headerK (openP l) (openW l) else failW (takesW headerK (openP l) (openW l)) 141) = if (headerR l).isSome then 0 else 141 := by
 have := header_why l
 simpa only [List.drop_drop] using this
abbrev headerS (s : List UInt8) : Header := ⟨s, false, zeros 32, zeros 32, zeros 32, 0, zeros 32, 0, 0⟩
theorem headerS_ok {s : List UInt8} (h : s.length = 32) : (headerS s).ok := ⟨h, rfl, rfl, rfl, header0_ok.id, rfl, header0_ok.n, header0_ok.prev⟩
abbrev letterS (a b : Nat) : Letter := ⟨a, b, header0, []⟩
theorem letterS_ok {a b : Nat} (h1 : a < 256) (h2 : b < 256) : (letterS a b).ok := ⟨h1, h2, header0_ok⟩
theorem headerR_of {l : List UInt8} {x : Header} (h : headerR l = some x) : headerOf (openP l) = x := by
 unfold headerR at h
 split at h
 ·exact Option.some.inj h
 ·cases h
theorem letter_why' (l : List UInt8) : endW ((((openP l).drop 1).drop 1).drop 1 |>.drop 1) (nextW ((((openP l).drop 1).drop 1).drop 1) (failW (takesW letterK (openP l) (openW l)) (if (headerR (nextP (((openP l).drop 1).drop 1))).isSome then 0 else 141))) = if (letterR l).isSome then 0 else 141 := by
 have := letter_why l
 simpa only [List.drop_drop] using this
theorem letterR_of {l : List UInt8} {x : Letter} (h : letterR l = some x) : ∃ hd, headerR (nextP (((openP l).drop 1).drop 1)) = some hd ∧ letterOf (openP l) hd = x := by
 unfold letterR at h
 split at h
 ·obtain ⟨hd, h1, h2⟩ := Option.map_eq_some_iff.1 h
  exact ⟨hd, h1, h2⟩
 ·cases h
theorem letterR_ok (l : List UInt8) : ((letterR l).getD letter0).ok := by
 cases h : letterR l with
 | none => exact letter0_ok
 | some x => exact (letterR_iff.1 h).1

theorem getBundle_w {S : List Snap} {H : List Chunk} {w : World} (ho : Own S H w) {p : Option Addr} {l : List UInt8} {c : Nat} (hA : Bytes (keys H) w p l c) : Calls Try.prog 61 #[.slice p l.length c] w (Ret fun v w' => v = .tuple #[.agg (cat (bundleV ((bundleR l).getD bundle0))).toArray, .int .i64 (((if (bundleR l).isSome then 0 else 141 : Nat)) : Int)] ∧ Own S H w') := by
 refine enter (G := Own (⟨w, keys H⟩ :: S) H) ho.keep Try.func61 rfl Try.ntmps61 rfl ?_
 refine VC.sr ?_
 refine VL.alloc (L := bundleL) (ps := (bundleV (bundle0))) zero82 rfl rfl (fun g1 => ?_)
 refine VL.assign rfl ?_
 refine VL.nn ?_
 refine VC.sr ?_
 refine VL.move rfl ?_
 refine VL.call Try.func121 rfl (by decide) rfl (fun w' hw => open_R hw (hA.nowA (s := ⟨w, _⟩) Mono.byte hw)) (fun v => ?_)
 refine VL.ex fun g2 => VL.fact fun e3 => ?_
 subst e3
 refine VL.assign rfl ?_
 refine VL.nn ?_
 refine VC.sr ?_
 refine VL.move rfl ?_
 refine VL.call Try.func122 rfl (by decide) rfl (fun w' hw => byte_R (i := 0) rfl hw) (fun v => ?_)
 refine VL.fact fun e4 => ?_
 subst e4
 refine VL.set0 ?_
 refine VL.move rfl ?_
 refine VL.call Try.func129 rfl (by decide) rfl (fun w' hw => key_R (i := 0) rfl hw) (fun v => ?_)
 refine VL.fact fun e5 => ?_
 subst e5
 refine VL.set0 ?_
 refine VL.move rfl ?_
 refine VL.call Try.func129 rfl (by decide) rfl (fun w' hw => key_R (i := 0) rfl hw) (fun v => ?_)
 refine VL.fact fun e6 => ?_
 subst e6
 refine VL.set0 ?_
 refine VL.move rfl ?_
 refine VL.call Try.func130 rfl (by decide) rfl (fun w' hw => short_R (i := 0) rfl hw) (fun v => ?_)
 refine VL.fact fun e7 => ?_
 subst e7
 refine VL.set0 ?_
 refine VL.move rfl ?_
 refine VL.call Try.func129 rfl (by decide) rfl (fun w' hw => key_R (i := 0) rfl hw) (fun v => ?_)
 refine VL.fact fun e8 => ?_
 subst e8
 refine VL.set0 ?_
 refine VL.move rfl ?_
 refine VL.call Try.func131 rfl (by decide) rfl (fun w' hw => sig_R (i := 0) rfl hw) (fun v => ?_)
 refine VL.fact fun e9 => ?_
 subst e9
 refine VL.set0 ?_
 refine VL.build (zs := bundleZ) (L := bundleFL) [(0, [.int .u8 (takeN (openP (l)) 1)]), (1, (takeB 32 ((openP (l)).drop 1)).map bv), (2, (takeB 32 (((openP (l)).drop 1).drop 1)).map bv), (3, [.int .u16 (takeN ((((openP (l)).drop 1).drop 1).drop 1) 2)]), (4, (takeB 32 (((((openP (l)).drop 1).drop 1).drop 1).drop 1)).map bv), (5, (takeB 64 ((((((openP (l)).drop 1).drop 1).drop 1).drop 1).drop 1)).map bv)] plan82 rfl ⟨⟨rfl, ⟨_, rfl, rfl⟩, rfl⟩, ⟨⟨rfl, ⟨_, rfl, rfl⟩, (arr_q (takeB_length ((openP (l)).drop 1) 32))⟩, ⟨⟨rfl, ⟨_, rfl, rfl⟩, (arr_q (takeB_length (((openP (l)).drop 1).drop 1) 32))⟩, ⟨⟨rfl, ⟨_, rfl, rfl⟩, rfl⟩, ⟨⟨rfl, ⟨_, rfl, rfl⟩, (arr_q (takeB_length (((((openP (l)).drop 1).drop 1).drop 1).drop 1) 32))⟩, ⟨⟨rfl, ⟨_, rfl, rfl⟩, (arr_q (takeB_length ((((((openP (l)).drop 1).drop 1).drop 1).drop 1).drop 1) 64))⟩, trivial⟩⟩⟩⟩⟩⟩ rfl ?_
 refine VL.newv (v' := .agg (cat (bundleV (bundleOf (openP l)))).toArray) rfl ?_
 refine VL.alloc (L := bundleL) (ps := (bundleV (bundle0))) zero82 rfl rfl (fun g10 => ?_)
 refine VL.store (L := bundleL) (qs := (bundleV (bundleOf (openP l)))) (ps' := (bundleV (bundleOf (openP l)))) 0 0 6 rfl rfl rfl (.inl kd82) rfl rfl (bundleV_len (bundleOf_ok (openP l))) (bundleV_ok1 (bundleOf (openP l))) rfl rfl ?_
 refine VL.set0 ?_
 refine VL.nn ?_
 refine VC.seq ?_
 refine VC.sr ?_
 refine VL.move rfl ?_
 refine VL.call Try.func126 rfl (by decide) rfl (fun w' hw => end_R (i := 1) rfl hw) (fun v => ?_)
 refine VL.fact fun e11 => ?_
 subst e11
 refine VL.set1 ?_
 refine VL.assign rfl ?_
 refine VL.nn ?_
 refine VC.sr ?_
 refine VL.move rfl ?_
 refine VL.neq rfl rfl ?_
 refine VL.case (fun h4_1 => ?_) (fun h4_1 => ?_)
 ·refine VL.nn ?_
  refine VC.yes rfl ?_
  refine VC.sr ?_
  refine VL.build0 (cs := cat (bundleV (bundle0))) built82 ?_
  refine VL.move rfl ?_
  refine VL.store (L := bundleL) (qs := (bundleV (bundle0))) (ps' := (bundleV (bundle0))) 2 0 6 rfl rfl rfl (.inl kd82) rfl rfl rfl (bundleV_ok1 bundle0) rfl rfl ?_
  refine VL.set2 ?_
  refine VL.assign rfl ?_
  refine VL.nn ?_
  refine VC.ret ?_
  refine VX.then_ret ?_
  refine VX.ret_cell (cs := cat (bundleV (bundle0))) 2 rfl rfl rfl kd82 (fun _ h => h) rfl rfl (fun we hw => ?_)
  obtain ⟨e1, e2⟩ := why_none h4_1 (bundle_why' l)
  exact ⟨by rw [e1, e2]; rfl, hw.drop.drop.drop.subA⟩
 ·refine VL.nn ?_
  refine VC.no rfl ?_
  refine VC.skip ?_
  refine VX.next ?_
  refine VC.sr ?_
  refine VL.loads (cs := cat (bundleV (bundleOf (openP l)))) 0 0 6 rfl kd82 (fun _ h => h) rfl rfl rfl rfl ?_
  refine VL.store (L := bundleL) (qs := (bundleV (bundleOf (openP l)))) (ps' := (bundleV (bundleOf (openP l)))) 2 0 6 rfl rfl rfl (.inl kd82) rfl rfl (bundleV_len (bundleOf_ok (openP l))) (bundleV_ok1 (bundleOf (openP l))) rfl rfl ?_
  refine VL.set2 ?_
  refine VL.assign rfl ?_
  refine VL.nn ?_
  refine VC.ret ?_
  refine VX.ret_cell (cs := cat (bundleV (bundleOf (openP l)))) 2 rfl rfl rfl (by rw [cat_size (bundleV_len (bundleOf_ok (openP l)))]; exact kd82) (fun _ h => h) rfl rfl (fun we hw => ?_)
  obtain ⟨y, e1⟩ := why_some h4_1 (bundle_why' l)
  exact ⟨by rw [e1, bundleR_of e1]; rfl, hw.drop.drop.drop.subA⟩

theorem header_w {S : List Snap} {H : List Chunk} {w : World} (ho : Own S H w) {p : Option Addr} {l : List UInt8} {c : Nat} (hA : Bytes (keys H) w p l c) : Calls Try.prog 123 #[.slice p l.length c] w (Ret fun v w' => v = .tuple #[.agg (cat (headerV (headerOf (openP l)))).toArray, .int .i64 (((if (headerR l).isSome then 0 else 141 : Nat)) : Int)] ∧ Own S H w') := by
 refine enter (G := Own (⟨w, keys H⟩ :: S) H) ho.keep Try.func123 rfl Try.ntmps123 rfl ?_
 refine VC.sr ?_
 refine VL.alloc (L := headerL) (ps := (headerV (header0))) zero70 rfl rfl (fun g1 => ?_)
 refine VL.assign rfl ?_
 refine VL.nn ?_
 refine VC.sr ?_
 refine VL.move rfl ?_
 refine VL.call Try.func121 rfl (by decide) rfl (fun w' hw => open_R hw (hA.nowA (s := ⟨w, _⟩) Mono.byte hw)) (fun v => ?_)
 refine VL.ex fun g2 => VL.fact fun e3 => ?_
 subst e3
 refine VL.assign rfl ?_
 refine VL.nn ?_
 refine VC.sr ?_
 refine VL.move rfl ?_
 refine VL.call Try.func129 rfl (by decide) rfl (fun w' hw => key_R (i := 0) rfl hw) (fun v => ?_)
 refine VL.fact fun e4 => ?_
 subst e4
 refine VL.set0 ?_
 refine VL.build (zs := headerZ) (L := headerFL) [(0, (takeB 32 (openP (l))).map bv)] plan70 rfl ⟨⟨rfl, ⟨_, rfl, rfl⟩, (arr_q (takeB_length (openP (l)) 32))⟩, trivial⟩ rfl ?_
 refine VL.newv (v' := .agg (cat (headerV ((headerS (takeB 32 (openP l)))))).toArray) rfl ?_
 refine VL.alloc (L := headerL) (ps := (headerV (header0))) zero70 rfl rfl (fun g5 => ?_)
 refine VL.store (L := headerL) (qs := (headerV ((headerS (takeB 32 (openP l)))))) (ps' := (headerV ((headerS (takeB 32 (openP l)))))) 0 0 9 rfl rfl rfl (.inl kd70) rfl rfl (headerV_len (headerS_ok (takeB_length (openP l) 32))) (headerV_ok1 ((headerS (takeB 32 (openP l))))) rfl rfl ?_
 refine VL.set0 ?_
 refine VL.nn ?_
 refine VC.sr ?_
 refine VL.move rfl ?_
 refine VL.call Try.func122 rfl (by decide) rfl (fun w' hw => byte_R (i := 1) rfl hw) (fun v => ?_)
 refine VL.fact fun e6 => ?_
 subst e6
 refine VL.set1 ?_
 refine VL.assign rfl ?_
 refine VL.nn ?_
 refine VC.sr ?_
 refine VL.move rfl ?_
 refine VL.eql rfl rfl ?_
 refine VL.newv (v' := .bool (decide (firstOf (openP l) = 1))) (by rw [Value.bool.injEq, decide_eq_decide]; exact natInt) ?_
 refine VL.fieldAddr rfl fo70_1 rfl ?_
 refine VL.store (L := headerL) (qs := [[.bool (decide (firstOf (openP l) = 1))]]) 0 1 1 rfl rfl rfl (.inr ⟨kd4, rfl⟩) rfl rfl rfl (by intro u hu; simp [cat] at hu; subst hu; rfl) rfl rfl ?_
 refine VL.set0 ?_
 refine VL.nn ?_
 refine VC.sr ?_
 refine VL.move rfl ?_
 refine VL.call Try.func129 rfl (by decide) rfl (fun w' hw => key_R (i := 1) rfl hw) (fun v => ?_)
 refine VL.fact fun e7 => ?_
 subst e7
 refine VL.set1 ?_
 refine VL.move rfl ?_
 refine VL.call Try.func129 rfl (by decide) rfl (fun w' hw => key_R (i := 1) rfl hw) (fun v => ?_)
 refine VL.fact fun e8 => ?_
 subst e8
 refine VL.set1 ?_
 refine VL.move rfl ?_
 refine VL.call Try.func129 rfl (by decide) rfl (fun w' hw => key_R (i := 1) rfl hw) (fun v => ?_)
 refine VL.fact fun e9 => ?_
 subst e9
 refine VL.set1 ?_
 refine VL.move rfl ?_
 refine VL.call Try.func130 rfl (by decide) rfl (fun w' hw => short_R (i := 1) rfl hw) (fun v => ?_)
 refine VL.fact fun e10 => ?_
 subst e10
 refine VL.set1 ?_
 refine VL.fieldAddr rfl fo70_2 rfl ?_
 refine VL.store (L := headerL) (qs := [(takeB 32 (((openP (l)).drop 1).drop 1)).map bv]) 0 2 1 rfl rfl rfl (.inl kd44) rfl rfl (arr_len (takeB_length (((openP (l)).drop 1).drop 1) 32)) (ok1_bytes _) rfl rfl ?_
 refine VL.set0 ?_
 refine VL.fieldAddr rfl fo70_3 rfl ?_
 refine VL.store (L := headerL) (qs := [(takeB 32 ((((openP (l)).drop 1).drop 1).drop 1)).map bv]) 0 3 1 rfl rfl rfl (.inl kd44) rfl rfl (arr_len (takeB_length ((((openP (l)).drop 1).drop 1).drop 1) 32)) (ok1_bytes _) rfl rfl ?_
 refine VL.set0 ?_
 refine VL.fieldAddr rfl fo70_4 rfl ?_
 refine VL.store (L := headerL) (qs := [(takeB 32 (((((openP (l)).drop 1).drop 1).drop 1).drop 1)).map bv]) 0 4 1 rfl rfl rfl (.inl kd44) rfl rfl (arr_len (takeB_length (((((openP (l)).drop 1).drop 1).drop 1).drop 1) 32)) (ok1_bytes _) rfl rfl ?_
 refine VL.set0 ?_
 refine VL.fieldAddr rfl fo70_5 rfl ?_
 refine VL.store (L := headerL) (qs := [[.int .u16 (takeN ((((((openP (l)).drop 1).drop 1).drop 1).drop 1).drop 1) 2)]]) 0 5 1 rfl rfl rfl (.inr ⟨kd68, rfl⟩) rfl rfl rfl (by intro u hu; simp [cat] at hu; subst hu; rfl) rfl rfl ?_
 refine VL.set0 ?_
 refine VL.nn ?_
 refine VC.sr ?_
 refine VL.move rfl ?_
 refine VL.call Try.func129 rfl (by decide) rfl (fun w' hw => key_R (i := 1) rfl hw) (fun v => ?_)
 refine VL.fact fun e11 => ?_
 subst e11
 refine VL.set1 ?_
 refine VL.move rfl ?_
 refine VL.call Try.func130 rfl (by decide) rfl (fun w' hw => short_R (i := 1) rfl hw) (fun v => ?_)
 refine VL.fact fun e12 => ?_
 subst e12
 refine VL.set1 ?_
 refine VL.move rfl ?_
 refine VL.call Try.func130 rfl (by decide) rfl (fun w' hw => short_R (i := 1) rfl hw) (fun v => ?_)
 refine VL.fact fun e13 => ?_
 subst e13
 refine VL.set1 ?_
 refine VL.fieldAddr rfl fo70_6 rfl ?_
 refine VL.store (L := headerL) (qs := [(takeB 32 (((((((openP (l)).drop 1).drop 1).drop 1).drop 1).drop 1).drop 1)).map bv]) 0 6 1 rfl rfl rfl (.inl kd44) rfl rfl (arr_len (takeB_length (((((((openP (l)).drop 1).drop 1).drop 1).drop 1).drop 1).drop 1) 32)) (ok1_bytes _) rfl rfl ?_
 refine VL.set0 ?_
 refine VL.fieldAddr rfl fo70_7 rfl ?_
 refine VL.store (L := headerL) (qs := [[.int .u16 (takeN ((((((((openP (l)).drop 1).drop 1).drop 1).drop 1).drop 1).drop 1).drop 1) 2)]]) 0 7 1 rfl rfl rfl (.inr ⟨kd68, rfl⟩) rfl rfl rfl (by intro u hu; simp [cat] at hu; subst hu; rfl) rfl rfl ?_
 refine VL.set0 ?_
 refine VL.fieldAddr rfl fo70_8 rfl ?_
 refine VL.store (L := headerL) (qs := [[.int .u16 (takeN (((((((((openP (l)).drop 1).drop 1).drop 1).drop 1).drop 1).drop 1).drop 1).drop 1) 2)]]) 0 8 1 rfl rfl rfl (.inr ⟨kd68, rfl⟩) rfl rfl rfl (by intro u hu; simp [cat] at hu; subst hu; rfl) rfl rfl ?_
 refine VL.set0 ?_
 refine VL.nn ?_
 refine VC.seq ?_
 refine VC.sr ?_
 refine VL.loads (cs := cat (headerV (headerOf (openP l)))) 0 0 9 rfl kd70 (fun _ h => h) rfl rfl rfl rfl ?_
 refine VL.call Try.func52 rfl (by decide) rfl (fun w' hw => headerBytes_w hw (x := headerOf (openP l)) (headerOf_ok (openP l))) (fun v => ?_)
 refine VL.at (fun w14 h1w => ?_)
 obtain ⟨p15, c16, rfl, hO18, hA17⟩ := h1w
 refine VL.toOwn hO18 ?_
 refine VL.move rfl ?_
 refine VL.extract rfl rfl ?_
 refine VL.extract rfl rfl ?_
 refine VL.assign rfl ?_
 refine VL.assign rfl ?_
 refine VL.nn ?_
 refine VC.sr ?_
 refine VL.move rfl ?_
 cases hs : (headerO (headerOf (openP l))).isSome
 ·refine VL.not rfl ?_
  refine VL.move rfl ?_
  refine VL.pass rfl rfl rfl rfl rfl ?_
  refine VL.pass rfl rfl rfl rfl rfl ?_
  refine VL.pick_t rfl rfl ?_
  refine VL.nn ?_
  refine VC.yes rfl ?_
  refine VC.region ?_
  refine VL.move rfl ?_
  refine VL.call Try.func125 rfl (by decide) rfl (fun w' hw => fail_R (i := 1) rfl hw (141)) (fun v => ?_)
  refine VL.fact fun e19 => ?_
  subst e19
  refine VL.set1 ?_
  refine VL.nn ?_
  refine VC.seq ?_
  refine VC.letCells 0 rfl (fun w20 hO22 hF21 => ?_)
  apply VC.anyTA 3 2 (F := [eqF _, eqF _, lateE _]) [⟨[], [5]⟩, ⟨[], [4]⟩, ⟨[(54, 1)], []⟩] [(53, 0), (55, 2)] [0, 2, 3, 4, 5, 6, 8, 9, 10, 11, 12, 13, 14, 15, 16, 17, 18, 19, 20, 21, 22, 23, 24, 25, 26, 27, 28, 29, 30, 31, 32, 33, 34, 35, 36, 37, 38, 39, 40, 41, 42, 43, 44, 45, 46, 47, 48, 49, 50, 51] rfl (by kernel_rfl) (by kernel_rfl) rfl rfl (by kernel_rfl) (by kernel_rfl) (by kernel_rfl) rfl ?obs10 ?end10
  case obs10 =>
   refine Obs.cons ?_ ?_
   ·refine obS (by kernel_rfl) rfl rfl (fun ph10 w10 hO10 => ?_)
    refine VL.loadsF (s := ⟨w20, _⟩) (cs := cat (headerV (headerOf (openP l)))) 0 9 rfl kd70 hF21 (fun _ e => e ▸ Still.ok hO10 (by repeat (first | exact List.mem_cons_self .. | apply List.mem_cons_of_mem))) rfl rfl rfl ?_
    exact VL.finS hO10 rfl rfl
   refine Obs.cons ?_ ?_
   ·refine obS (by kernel_rfl) rfl rfl (fun ph10 w10 hO10 => ?_)
    refine VL.move rfl ?_
    exact VL.finS hO10 rfl rfl
   refine Obs.cons ?_ ?_
   ·refine obK (by kernel_rfl) rfl (fun w10 hO10 => ?_)
    rintro _ rfl
    refine VL.toOwn hO10 ?_
    refine VL.call Try.func126 rfl (by decide) rfl (fun w' hw => end_R (i := 0) rfl hw) (fun v => ?_)
    exact VL.finC rfl (fun _ h => h.2) (fun _ h => ⟨w10, h⟩)
   exact Obs.nil
  case end10 =>
   intro w10 hO10
   rintro _ rfl _ ⟨wk10, rfl, hK24⟩
   replace hK24 : Own _ (rch g2 ((((((((((openP (l)).drop 1).drop 1).drop 1).drop 1).drop 1).drop 1).drop 1).drop 1).drop 1) (endW ((((((((((openP (l)).drop 1).drop 1).drop 1).drop 1).drop 1).drop 1).drop 1).drop 1).drop 1) (failW (lenW (((((((((openP (l)).drop 1).drop 1).drop 1).drop 1).drop 1).drop 1).drop 1).drop 1) (lenW ((((((((openP (l)).drop 1).drop 1).drop 1).drop 1).drop 1).drop 1).drop 1) (lenW (((((((openP (l)).drop 1).drop 1).drop 1).drop 1).drop 1).drop 1) (lenW ((((((openP (l)).drop 1).drop 1).drop 1).drop 1).drop 1) (lenW (((((openP (l)).drop 1).drop 1).drop 1).drop 1) (lenW ((((openP (l)).drop 1).drop 1).drop 1) (lenW (((openP (l)).drop 1).drop 1) (lenW ((openP (l)).drop 1) (lenW (openP (l)) (openW (l)) 32) 1) 32) 32) 32) 2) 32) 2) 2) (141))) :: blk g1 70 headerL (headerV (header0)) :: H) w10 := hK24
   refine VL.toOwn hK24 ?_
   refine VL.store (L := headerL) (qs := (headerV (headerOf (openP l)))) (ps' := (headerV (headerOf (openP l)))) 1 0 9 rfl rfl rfl (.inl kd70) rfl rfl (headerV_len (headerOf_ok (openP l))) (headerV_ok1 (headerOf (openP l))) rfl rfl ?_
   refine VL.set1 ?_
   refine VL.assign rfl ?_
   refine VL.nn ?_
   refine VC.ret ?_
   refine VX.ret_cell (cs := cat (headerV (headerOf (openP l)))) 1 rfl rfl rfl (by rw [cat_size (headerV_len (headerOf_ok (openP l)))]; exact kd70) (fun _ h => h) rfl rfl (fun we hw => ?_)
   have hc := header_why' l
   rw [show (if (headerO (headerOf (openP l))).isSome = true ∧ firstOf (openP l) ≤ 1 then takesW headerK (openP l) (openW l) else failW (takesW headerK (openP l) (openW l)) 141) = failW (takesW headerK (openP l) (openW l)) 141 from if_neg (fun h => by rw [hs] at h; cases h.1)] at hc
   exact ⟨congrArg (fun n : Nat => Value.tuple #[_, .int .i64 (n : Int)]) hc, hw.drop.drop.subA⟩
 ·refine VL.not rfl ?_
  refine VL.move rfl ?_
  refine VL.go rfl rfl rfl ?_
  refine VL.move rfl ?_
  refine VL.go rfl rfl rfl ?_
  refine VL.gtr rfl rfl ?_
  refine VL.case (fun h8_4 => ?_) (fun h8_4 => ?_)
  ·have h8_4 : ¬ firstOf (openP l) ≤ 1 := fun h => by have h8_4 : (1 : Int) < ((firstOf (openP l) : Nat) : Int) := h8_4; omega
   refine VL.pick_f rfl rfl ?_
   refine VL.nn ?_
   refine VC.yes rfl ?_
   refine VC.region ?_
   refine VL.move rfl ?_
   refine VL.call Try.func125 rfl (by decide) rfl (fun w' hw => fail_R (i := 1) rfl hw (141)) (fun v => ?_)
   refine VL.fact fun e25 => ?_
   subst e25
   refine VL.set1 ?_
   refine VL.nn ?_
   refine VC.seq ?_
   refine VC.letCells 0 rfl (fun w26 hO28 hF27 => ?_)
   apply VC.anyTA 3 2 (F := [eqF _, eqF _, lateE _]) [⟨[], [5]⟩, ⟨[], [4]⟩, ⟨[(54, 1)], []⟩] [(53, 0), (55, 2)] [0, 2, 3, 4, 5, 6, 8, 9, 10, 11, 12, 13, 14, 15, 16, 17, 18, 19, 20, 21, 22, 23, 24, 25, 26, 27, 28, 29, 30, 31, 32, 33, 34, 35, 36, 37, 38, 39, 40, 41, 42, 43, 44, 45, 46, 47, 48, 49, 50, 51] rfl (by kernel_rfl) (by kernel_rfl) rfl rfl (by kernel_rfl) (by kernel_rfl) (by kernel_rfl) rfl ?obs10 ?end10
   case obs10 =>
    refine Obs.cons ?_ ?_
    ·refine obS (by kernel_rfl) rfl rfl (fun ph10 w10 hO10 => ?_)
     refine VL.loadsF (s := ⟨w26, _⟩) (cs := cat (headerV (headerOf (openP l)))) 0 9 rfl kd70 hF27 (fun _ e => e ▸ Still.ok hO10 (by repeat (first | exact List.mem_cons_self .. | apply List.mem_cons_of_mem))) rfl rfl rfl ?_
     exact VL.finS hO10 rfl rfl
    refine Obs.cons ?_ ?_
    ·refine obS (by kernel_rfl) rfl rfl (fun ph10 w10 hO10 => ?_)
     refine VL.move rfl ?_
     exact VL.finS hO10 rfl rfl
    refine Obs.cons ?_ ?_
    ·refine obK (by kernel_rfl) rfl (fun w10 hO10 => ?_)
     rintro _ rfl
     refine VL.toOwn hO10 ?_
     refine VL.call Try.func126 rfl (by decide) rfl (fun w' hw => end_R (i := 0) rfl hw) (fun v => ?_)
     exact VL.finC rfl (fun _ h => h.2) (fun _ h => ⟨w10, h⟩)
    exact Obs.nil
   case end10 =>
    intro w10 hO10
    rintro _ rfl _ ⟨wk10, rfl, hK30⟩
    replace hK30 : Own _ (rch g2 ((((((((((openP (l)).drop 1).drop 1).drop 1).drop 1).drop 1).drop 1).drop 1).drop 1).drop 1) (endW ((((((((((openP (l)).drop 1).drop 1).drop 1).drop 1).drop 1).drop 1).drop 1).drop 1).drop 1) (failW (lenW (((((((((openP (l)).drop 1).drop 1).drop 1).drop 1).drop 1).drop 1).drop 1).drop 1) (lenW ((((((((openP (l)).drop 1).drop 1).drop 1).drop 1).drop 1).drop 1).drop 1) (lenW (((((((openP (l)).drop 1).drop 1).drop 1).drop 1).drop 1).drop 1) (lenW ((((((openP (l)).drop 1).drop 1).drop 1).drop 1).drop 1) (lenW (((((openP (l)).drop 1).drop 1).drop 1).drop 1) (lenW ((((openP (l)).drop 1).drop 1).drop 1) (lenW (((openP (l)).drop 1).drop 1) (lenW ((openP (l)).drop 1) (lenW (openP (l)) (openW (l)) 32) 1) 32) 32) 32) 2) 32) 2) 2) (141))) :: blk g1 70 headerL (headerV (header0)) :: H) w10 := hK30
    refine VL.toOwn hK30 ?_
    refine VL.store (L := headerL) (qs := (headerV (headerOf (openP l)))) (ps' := (headerV (headerOf (openP l)))) 1 0 9 rfl rfl rfl (.inl kd70) rfl rfl (headerV_len (headerOf_ok (openP l))) (headerV_ok1 (headerOf (openP l))) rfl rfl ?_
    refine VL.set1 ?_
    refine VL.assign rfl ?_
    refine VL.nn ?_
    refine VC.ret ?_
    refine VX.ret_cell (cs := cat (headerV (headerOf (openP l)))) 1 rfl rfl rfl (by rw [cat_size (headerV_len (headerOf_ok (openP l)))]; exact kd70) (fun _ h => h) rfl rfl (fun we hw => ?_)
    have hc := header_why' l
    rw [show (if (headerO (headerOf (openP l))).isSome = true ∧ firstOf (openP l) ≤ 1 then takesW headerK (openP l) (openW l) else failW (takesW headerK (openP l) (openW l)) 141) = failW (takesW headerK (openP l) (openW l)) 141 from if_neg (fun h => h8_4 h.2)] at hc
    exact ⟨congrArg (fun n : Nat => Value.tuple #[_, .int .i64 (n : Int)]) hc, hw.drop.drop.subA⟩
  ·have h8_4 : firstOf (openP l) ≤ 1 := by have h8_4 : ¬ (1 : Int) < ((firstOf (openP l) : Nat) : Int) := h8_4; omega
   refine VL.pick_f rfl rfl ?_
   refine VL.nn ?_
   refine VC.no rfl ?_
   refine VC.skip ?_
   refine VX.next ?_
   refine VC.seq ?_
   refine VC.letCells 0 rfl (fun w31 hO33 hF32 => ?_)
   apply VC.anyTA 3 2 (F := [eqF _, eqF _, lateE _]) [⟨[], [5]⟩, ⟨[], [4]⟩, ⟨[(54, 1)], []⟩] [(53, 0), (55, 2)] [0, 2, 3, 4, 5, 6, 8, 9, 10, 11, 12, 13, 14, 15, 16, 17, 18, 19, 20, 21, 22, 23, 24, 25, 26, 27, 28, 29, 30, 31, 32, 33, 34, 35, 36, 37, 38, 39, 40, 41, 42, 43, 44, 45, 46, 47, 48, 49, 50, 51] rfl (by kernel_rfl) (by kernel_rfl) rfl rfl (by kernel_rfl) (by kernel_rfl) (by kernel_rfl) rfl ?obs10 ?end10
   case obs10 =>
    refine Obs.cons ?_ ?_
    ·refine obS (by kernel_rfl) rfl rfl (fun ph10 w10 hO10 => ?_)
     refine VL.loadsF (s := ⟨w31, _⟩) (cs := cat (headerV (headerOf (openP l)))) 0 9 rfl kd70 hF32 (fun _ e => e ▸ Still.ok hO10 (by repeat (first | exact List.mem_cons_self .. | apply List.mem_cons_of_mem))) rfl rfl rfl ?_
     exact VL.finS hO10 rfl rfl
    refine Obs.cons ?_ ?_
    ·refine obS (by kernel_rfl) rfl rfl (fun ph10 w10 hO10 => ?_)
     refine VL.move rfl ?_
     exact VL.finS hO10 rfl rfl
    refine Obs.cons ?_ ?_
    ·refine obK (by kernel_rfl) rfl (fun w10 hO10 => ?_)
     rintro _ rfl
     refine VL.toOwn hO10 ?_
     refine VL.call Try.func126 rfl (by decide) rfl (fun w' hw => end_R (i := 0) rfl hw) (fun v => ?_)
     exact VL.finC rfl (fun _ h => h.2) (fun _ h => ⟨w10, h⟩)
    exact Obs.nil
   case end10 =>
    intro w10 hO10
    rintro _ rfl _ ⟨wk10, rfl, hK35⟩
    replace hK35 : Own _ (rch g2 ((((((((((openP (l)).drop 1).drop 1).drop 1).drop 1).drop 1).drop 1).drop 1).drop 1).drop 1) (endW ((((((((((openP (l)).drop 1).drop 1).drop 1).drop 1).drop 1).drop 1).drop 1).drop 1).drop 1) (lenW (((((((((openP (l)).drop 1).drop 1).drop 1).drop 1).drop 1).drop 1).drop 1).drop 1) (lenW ((((((((openP (l)).drop 1).drop 1).drop 1).drop 1).drop 1).drop 1).drop 1) (lenW (((((((openP (l)).drop 1).drop 1).drop 1).drop 1).drop 1).drop 1) (lenW ((((((openP (l)).drop 1).drop 1).drop 1).drop 1).drop 1) (lenW (((((openP (l)).drop 1).drop 1).drop 1).drop 1) (lenW ((((openP (l)).drop 1).drop 1).drop 1) (lenW (((openP (l)).drop 1).drop 1) (lenW ((openP (l)).drop 1) (lenW (openP (l)) (openW (l)) 32) 1) 32) 32) 32) 2) 32) 2) 2)) :: blk g1 70 headerL (headerV (header0)) :: H) w10 := hK35
    refine VL.toOwn hK35 ?_
    refine VL.store (L := headerL) (qs := (headerV (headerOf (openP l)))) (ps' := (headerV (headerOf (openP l)))) 1 0 9 rfl rfl rfl (.inl kd70) rfl rfl (headerV_len (headerOf_ok (openP l))) (headerV_ok1 (headerOf (openP l))) rfl rfl ?_
    refine VL.set1 ?_
    refine VL.assign rfl ?_
    refine VL.nn ?_
    refine VC.ret ?_
    refine VX.ret_cell (cs := cat (headerV (headerOf (openP l)))) 1 rfl rfl rfl (by rw [cat_size (headerV_len (headerOf_ok (openP l)))]; exact kd70) (fun _ h => h) rfl rfl (fun we hw => ?_)
    have hc := header_why' l
    rw [show (if (headerO (headerOf (openP l))).isSome = true ∧ firstOf (openP l) ≤ 1 then takesW headerK (openP l) (openW l) else failW (takesW headerK (openP l) (openW l)) 141) = takesW headerK (openP l) (openW l) from if_pos ⟨hs, h8_4⟩] at hc
    exact ⟨congrArg (fun n : Nat => Value.tuple #[_, .int .i64 (n : Int)]) hc, hw.drop.drop.subA⟩

theorem getLetter_w {S : List Snap} {H : List Chunk} {w : World} (ho : Own S H w) {p : Option Addr} {l : List UInt8} {c : Nat} (hA : Bytes (keys H) w p l c) : Calls Try.prog 54 #[.slice p l.length c] w (Ret fun v w' => ∃ p c, v = .tuple #[.agg (cat (letterV ((letterR l).getD letter0) p c)).toArray, .int .i64 (((if (letterR l).isSome then 0 else 141 : Nat)) : Int)] ∧ Own S H w' ∧ Bytes (keys H) w' p ((letterR l).getD letter0).body c) := by
 refine enter (G := Own (⟨w, keys H⟩ :: S) H) ho.keep Try.func54 rfl Try.ntmps54 rfl ?_
 refine VC.sr ?_
 refine VL.alloc (L := letterL) (ps := (letterV (letter0) none 0)) zero72 rfl rfl (fun g1 => ?_)
 refine VL.assign rfl ?_
 refine VL.nn ?_
 refine VC.sr ?_
 refine VL.move rfl ?_
 refine VL.call Try.func121 rfl (by decide) rfl (fun w' hw => open_R hw (hA.nowA (s := ⟨w, _⟩) Mono.byte hw)) (fun v => ?_)
 refine VL.ex fun g2 => VL.fact fun e3 => ?_
 subst e3
 refine VL.assign rfl ?_
 refine VL.nn ?_
 refine VC.sr ?_
 refine VL.move rfl ?_
 refine VL.call Try.func122 rfl (by decide) rfl (fun w' hw => byte_R (i := 0) rfl hw) (fun v => ?_)
 refine VL.fact fun e4 => ?_
 subst e4
 refine VL.set0 ?_
 refine VL.move rfl ?_
 refine VL.call Try.func122 rfl (by decide) rfl (fun w' hw => byte_R (i := 0) rfl hw) (fun v => ?_)
 refine VL.fact fun e5 => ?_
 subst e5
 refine VL.set0 ?_
 refine VL.build (zs := letterZ) (L := letterFL) [(0, [.int .u8 (takeN (openP (l)) 1)]), (1, [.int .u8 (takeN ((openP (l)).drop 1) 1)])] plan72 rfl ⟨⟨rfl, ⟨_, rfl, rfl⟩, rfl⟩, ⟨⟨rfl, ⟨_, rfl, rfl⟩, rfl⟩, trivial⟩⟩ rfl ?_
 refine VL.newv (v' := .agg (cat (letterV ((letterS (takeN (openP l) 1) (takeN ((openP l).drop 1) 1))) none 0)).toArray) rfl ?_
 refine VL.alloc (L := letterL) (ps := (letterV (letter0) none 0)) zero72 rfl rfl (fun g6 => ?_)
 refine VL.store (L := letterL) (qs := (letterV ((letterS (takeN (openP l) 1) (takeN ((openP l).drop 1) 1))) none 0)) (ps' := (letterV ((letterS (takeN (openP l) 1) (takeN ((openP l).drop 1) 1))) none 0)) 0 0 12 rfl rfl rfl (.inl kd72) rfl rfl (letterV_len (letterS_ok (takeN_lt (openP l) 1) (takeN_lt ((openP l).drop 1) 1))) (letterV_ok1 ((letterS (takeN (openP l) 1) (takeN ((openP l).drop 1) 1))) none 0) rfl rfl ?_
 refine VL.set0 ?_
 refine VL.nn ?_
 refine VC.sr ?_
 refine VL.move rfl ?_
 refine VL.call Try.func124 rfl (by decide) rfl (fun w' hw => piece_R (i := 1) rfl hw) (fun v => ?_)
 refine VL.at (fun w7 h1w => ?_)
 obtain ⟨p8, c9, rfl, hO11, hA10⟩ := h1w
 replace hO11 := ownSet1 hO11
 replace hA10 := arrSet1 hA10
 refine VL.toOwn hO11 ?_
 refine VL.call Try.func123 rfl (by decide) rfl (fun w' hw => header_w hw (hA10.nowA (s := ⟨w7, _⟩) Mono.byte hw)) (fun v => ?_)
 refine VL.fact fun e12 => ?_
 subst e12
 refine VL.move rfl ?_
 refine VL.extract rfl rfl ?_
 refine VL.extract rfl rfl ?_
 refine VL.alloc (L := headerL) (ps := (headerV (header0))) zero70 rfl rfl (fun g13 => ?_)
 refine VL.store (L := headerL) (qs := (headerV ((headerOf (openP (nextP (((openP (l)).drop 1).drop 1))))))) (ps' := (headerV ((headerOf (openP (nextP (((openP (l)).drop 1).drop 1))))))) 0 0 9 rfl rfl rfl (.inl kd70) rfl rfl (headerV_len (headerOf_ok (openP (nextP (((openP (l)).drop 1).drop 1))))) (headerV_ok1 ((headerOf (openP (nextP (((openP (l)).drop 1).drop 1)))))) rfl rfl ?_
 refine VL.set0 ?_
 refine VL.assign rfl ?_
 refine VL.nn ?_
 refine VC.sr ?_
 refine VL.move rfl ?_
 refine VL.move rfl ?_
 refine VL.call Try.func125 rfl (by decide) rfl (fun w' hw => fail_R (i := 2) rfl hw (if (headerR (nextP (((openP (l)).drop 1).drop 1))).isSome then 0 else 141)) (fun v => ?_)
 refine VL.fact fun e14 => ?_
 subst e14
 refine VL.set2 ?_
 refine VL.nn ?_
 refine VC.seq ?_
 refine VC.letCells 0 rfl (fun w15 hO17 hF16 => ?_)
 apply VC.anyTA 4 2 (F := [eqF _, eqF _, lateE _, eqF _]) [⟨[], [6]⟩, ⟨[], [4]⟩, ⟨[(26, 1)], []⟩, ⟨[], [5]⟩] [(25, 0), (27, 2), (28, 3)] [0, 2, 3, 4, 5, 6, 7, 8, 9, 10, 11, 12, 13, 14, 15, 16, 17, 18, 19, 20, 21, 22, 23, 29, 30, 31, 32, 33, 34, 35] rfl (by kernel_rfl) (by kernel_rfl) rfl rfl (by kernel_rfl) (by kernel_rfl) (by kernel_rfl) rfl ?obs5 ?end5
 case obs5 =>
  refine Obs.cons ?_ ?_
  ·refine obS (by kernel_rfl) rfl rfl (fun ph5 w5 hO5 => ?_)
   refine VL.loadsF (s := ⟨w15, _⟩) (cs := cat (headerV ((headerOf (openP (nextP (((openP (l)).drop 1).drop 1))))))) 0 9 rfl kd70 hF16 (fun _ e => e ▸ Still.ok hO5 (by repeat (first | exact List.mem_cons_self .. | apply List.mem_cons_of_mem))) rfl rfl rfl ?_
   exact VL.finS hO5 rfl rfl
  refine Obs.cons ?_ ?_
  ·refine obS (by kernel_rfl) rfl rfl (fun ph5 w5 hO5 => ?_)
   refine VL.move rfl ?_
   exact VL.finS hO5 rfl rfl
  refine Obs.cons ?_ ?_
  ·refine obK (by kernel_rfl) rfl (fun w5 hO5 => ?_)
   rintro _ rfl
   refine VL.toOwn hO5 ?_
   refine VL.call Try.func124 rfl (by decide) rfl (fun w' hw => piece_R (i := 1) rfl hw) (fun v => ?_)
   exact VL.finC rfl (fun _ ⟨_, _, _, h, _⟩ => h) (fun _ h => ⟨w5, h⟩)
  refine Obs.cons ?_ ?_
  ·refine obS (by kernel_rfl) rfl rfl (fun ph5 w5 hO5 => ?_)
   refine VL.fieldAddr rfl fo72_2 rfl ?_
   exact VL.finS hO5 rfl rfl
  exact Obs.nil
 case end5 =>
  intro w5 hO5
  rintro _ rfl _ ⟨wk5, p19, c20, rfl, hK23, hA21⟩ _ rfl
  replace hK23 : Own _ (blk g6 72 letterL (letterV ((letterS (takeN (openP l) 1) (takeN ((openP l).drop 1) 1))) none 0) :: rch g2 (((((openP (l)).drop 1).drop 1).drop 1).drop 1) (nextW ((((openP (l)).drop 1).drop 1).drop 1) (failW (nextW (((openP (l)).drop 1).drop 1) (lenW ((openP (l)).drop 1) (lenW (openP (l)) (openW (l)) 1) 1)) (if (headerR (nextP (((openP (l)).drop 1).drop 1))).isSome then 0 else 141))) :: blk g1 72 letterL (letterV (letter0) none 0) :: H) w5 := hK23
  refine VL.toOwn hK23 ?_
  refine VL.store (L := letterL) (qs := (headerV ((headerOf (openP (nextP (((openP (l)).drop 1).drop 1))))))) 0 2 9 rfl rfl rfl (.inl kd70) rfl rfl (headerV_len (headerOf_ok (openP (nextP (((openP (l)).drop 1).drop 1))))) (headerV_ok1 ((headerOf (openP (nextP (((openP (l)).drop 1).drop 1)))))) rfl rfl ?_
  refine VL.set0 ?_
  refine VL.fieldAddr rfl fo72_3 rfl ?_
  refine VL.store (L := letterL) (qs := [[.slice p19 (nextP ((((openP (l)).drop 1).drop 1).drop 1)).length c20]]) 0 11 1 rfl rfl rfl (.inr ⟨kd24, rfl⟩) rfl rfl rfl (by intro u hu; simp [cat] at hu; subst hu; rfl) rfl rfl ?_
  refine VL.set0 ?_
  refine VL.nn ?_
  refine VC.seq ?_
  refine VC.sr ?_
  refine VL.move rfl ?_
  refine VL.call Try.func126 rfl (by decide) rfl (fun w' hw => end_R (i := 1) rfl hw) (fun v => ?_)
  refine VL.fact fun e24 => ?_
  subst e24
  refine VL.set1 ?_
  refine VL.assign rfl ?_
  refine VL.nn ?_
  refine VC.sr ?_
  refine VL.move rfl ?_
  refine VL.neq rfl rfl ?_
  refine VL.case (fun h7_1 => ?_) (fun h7_1 => ?_)
  ·refine VL.nn ?_
   refine VC.yes rfl ?_
   refine VC.sr ?_
   refine VL.build0 (cs := cat (letterV (letter0) none 0)) built72 ?_
   refine VL.store (L := letterL) (qs := (letterV (letter0) none 0)) (ps' := (letterV (letter0) none 0)) 2 0 12 rfl rfl rfl (.inl kd72) rfl rfl rfl (letterV_ok1 letter0 none 0) rfl rfl ?_
   refine VL.set2 ?_
   refine VL.assign rfl ?_
   refine VL.nn ?_
   refine VC.ret ?_
   refine VX.then_ret ?_
   refine VX.ret_cell (cs := cat (letterV (letter0) none 0)) 2 rfl rfl rfl kd72 (fun _ h => h) rfl rfl (fun we hw => ?_)
   obtain ⟨e1, e2⟩ := why_none h7_1 (letter_why' l)
   exact ⟨none, 0, by rw [e1]; rfl, hw.drop.drop.drop.subA, by rw [e1]; exact Arr.none⟩
  ·refine VL.nn ?_
   refine VC.no rfl ?_
   refine VC.skip ?_
   refine VX.next ?_
   refine VC.sr ?_
   refine VL.loads (cs := cat (letterV (letterOf (openP l) (headerOf (openP (nextP (((openP l).drop 1).drop 1))))) p19 c20)) 0 0 12 rfl kd72 (fun _ h => h) rfl rfl rfl rfl ?_
   refine VL.store (L := letterL) (qs := (letterV (letterOf (openP l) (headerOf (openP (nextP (((openP l).drop 1).drop 1))))) p19 c20)) (ps' := (letterV (letterOf (openP l) (headerOf (openP (nextP (((openP l).drop 1).drop 1))))) p19 c20)) 2 0 12 rfl rfl rfl (.inl kd72) rfl rfl (letterV_len (⟨takeN_lt _ 1, takeN_lt _ 1, headerOf_ok _⟩ : Letter.ok _)) (letterV_ok1 (letterOf (openP l) (headerOf (openP (nextP (((openP l).drop 1).drop 1))))) p19 c20) rfl rfl ?_
   refine VL.set2 ?_
   refine VL.assign rfl ?_
   refine VL.nn ?_
   refine VC.ret ?_
   refine VX.ret_cell (cs := cat (letterV (letterOf (openP l) (headerOf (openP (nextP (((openP l).drop 1).drop 1))))) p19 c20)) 2 rfl rfl rfl (by rw [cat_size (letterV_len (⟨takeN_lt _ 1, takeN_lt _ 1, headerOf_ok _⟩ : Letter.ok _))]; exact kd72) (fun _ h => h) rfl rfl (fun we hw => ?_)
   obtain ⟨y, e1⟩ := why_some h7_1 (letter_why' l)
   obtain ⟨hd, e2, e3⟩ := letterR_of e1
   rw [e1, ← e3, ← headerR_of e2]
   exact ⟨_, _, rfl, hw.drop.drop.drop.subA, (hA21.nowA (s := ⟨w5, _⟩) Mono.byte hw.drop.drop.drop)⟩

end Go.Proofs.Ytcfecmoagfgnaaa

