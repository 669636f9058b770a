/- wire: bytes of bundles, headers, letters. -/
import Derived.Test.YtcfecmoagfgnaaaWr2
namespace Go.Proofs.Ytcfecmoagfgnaaa
open Go.Vc Go.Pl

theorem postO {S : List Snap} {H : List Chunk} {o o' : Option (List UInt8)} (e : o' = o) {v : Value} {w' : World} (h : ∃ p c, v = .tuple #[.slice p (o'.getD []).length c, .bool o'.isSome] ∧ Own S H w' ∧ Bytes (keys H) w' p (o'.getD []) c) : ∃ p c, v = .tuple #[.slice p (o.getD []).length c, .bool o.isSome] ∧ Own S H w' ∧ Bytes (keys H) w' p (o.getD []) c := by subst e; exact h

theorem putBundle_w {S : List Snap} {H : List Chunk} {w : World} (ho : Own S H w) {x : Bundle} (hx : x.ok) : Calls Try.prog 60 #[.agg (cat (bundleV x)).toArray] w (RetO S H (some (bundleB x))) := by
  have hx1 := hx.device
  have hx2 := hx.id
  refine enter (G := Own (⟨w, keys H⟩ :: S) H) ho.keep Try.func60 rfl Try.ntmps60 rfl ?_
  refine VC.seq ?_
  refine VC.region ?_
  refine VL.box (L := bundleL) (ps := (bundleV (x))) rfl rfl (bundleV_len hx) (fun g1 => ?_)
  refine VL.assign rfl ?_
  refine VL.assign rfl ?_
  refine VL.nil ?_
  refine VX.next ?_
  refine VC.seq ?_
  refine VC.region ?_
  refine VL.build (zs := [[.slice none 0 0], [.bool false]]) [] plan181 rfl trivial rfl ?_
  refine VL.box (L := [1, 1]) (ps := [[rowV none 0 0], [.bool false]]) rfl rfl rfl (fun g2 => ?_)
  refine VL.turn (fun w' hw => Own.newW hw) ?_
  refine VL.assign rfl ?_
  refine VL.nil ?_
  refine VX.next ?_
  refine VC.seq ?_
  refine VC.region ?_
  refine VL.move rfl ?_
  refine VL.fieldAddr rfl fo82_0 rfl ?_
  refine VL.load (v := .int .u8 (x.device)) 2 0 rfl kd5 (fun _ h => h) rfl rfl rfl ?_
  refine VL.conv (by rw [Try.underlying5]; rfl) Try.underlying22 rfl (inr_u64 (by omega)) ?_
  refine VL.call Try.func116 rfl (by decide) rfl (fun w' hw => num_w hw (by simp only [List.length_append, List.length_cons, List.length_nil, List.length_map]; omega) (x.device) (fits_small (by omega)) 1 (by decide) (by decide) (fits1 (by omega))) (fun v => ?_)
  refine VL.fact fun e5 => ?_
  subst e5
  refine VL.ex fun gp3 => VL.ex fun c4 => ?_
  refine VL.nil ?_
  refine VX.next ?_
  refine VC.seq ?_
  refine VC.region ?_
  refine VL.move rfl ?_
  refine VL.fieldAddr rfl fo82_1 rfl ?_
  refine VL.loads (cs := (x.agree).map bv) 2 1 1 rfl kd44 (fun _ h => h) rfl rfl rfl rfl ?_
  refine VL.call Try.func119 rfl (by decide) rfl (fun w' hw => key_w hw (by simp only [List.length_append, List.length_cons, List.length_nil, List.length_map]; omega) (l := x.agree) hx.agree) (fun v => ?_)
  refine VL.fact fun e8 => ?_
  subst e8
  refine VL.ex fun gp6 => VL.ex fun c7 => ?_
  refine VL.nil ?_
  refine VX.next ?_
  refine VC.seq ?_
  refine VC.region ?_
  refine VL.move rfl ?_
  refine VL.fieldAddr rfl fo82_2 rfl ?_
  refine VL.loads (cs := (x.signer).map bv) 2 2 1 rfl kd44 (fun _ h => h) rfl rfl rfl rfl ?_
  refine VL.call Try.func119 rfl (by decide) rfl (fun w' hw => key_w hw (by simp only [List.length_append, List.length_cons, List.length_nil, List.length_map]; omega) (l := x.signer) hx.signer) (fun v => ?_)
  refine VL.fact fun e11 => ?_
  subst e11
  refine VL.ex fun gp9 => VL.ex fun c10 => ?_
  refine VL.nil ?_
  refine VX.next ?_
  refine VC.seq ?_
  refine VC.region ?_
  refine VL.move rfl ?_
  refine VL.fieldAddr rfl fo82_3 rfl ?_
  refine VL.load (v := .int .u16 (x.id)) 2 3 rfl kd68 (fun _ h => h) rfl rfl rfl ?_
  refine VL.conv (by rw [Try.underlying68]; rfl) Try.underlying22 rfl (inr_u64 (by omega)) ?_
  refine VL.call Try.func116 rfl (by decide) rfl (fun w' hw => num_w hw (by simp only [List.length_append, List.length_cons, List.length_nil, List.length_map]; omega) (x.id) (fits_small (by omega)) 2 (by decide) (by decide) (fits2 (by omega))) (fun v => ?_)
  refine VL.fact fun e14 => ?_
  subst e14
  refine VL.ex fun gp12 => VL.ex fun c13 => ?_
  refine VL.nil ?_
  refine VX.next ?_
  refine VC.seq ?_
  refine VC.region ?_
  refine VL.move rfl ?_
  refine VL.fieldAddr rfl fo82_4 rfl ?_
  refine VL.loads (cs := (x.once).map bv) 2 4 1 rfl kd44 (fun _ h => h) rfl rfl rfl rfl ?_
  refine VL.call Try.func119 rfl (by decide) rfl (fun w' hw => key_w hw (by simp only [List.length_append, List.length_cons, List.length_nil, List.length_map]; omega) (l := x.once) hx.once) (fun v => ?_)
  refine VL.fact fun e17 => ?_
  subst e17
  refine VL.ex fun gp15 => VL.ex fun c16 => ?_
  refine VL.nil ?_
  refine VX.next ?_
  refine VC.seq ?_
  refine VC.region ?_
  refine VL.move rfl ?_
  refine VL.fieldAddr rfl fo82_5 rfl ?_
  refine VL.loads (cs := (x.sig).map bv) 2 5 1 rfl kd80 (fun _ h => h) rfl rfl rfl rfl ?_
  refine VL.call Try.func128 rfl (by decide) rfl (fun w' hw => sig_w hw (by simp only [List.length_append, List.length_cons, List.length_nil, List.length_map]; omega) (l := x.sig) hx.sig) (fun v => ?_)
  refine VL.fact fun e20 => ?_
  subst e20
  refine VL.ex fun gp18 => VL.ex fun c19 => ?_
  refine VL.nil ?_
  refine VX.next ?_
  refine VC.seq ?_
  refine VC.region ?_
  refine VL.move rfl ?_
  refine VL.call Try.func118 rfl (by decide) rfl (fun w' hw => done_O hw) (fun v => ?_)
  refine VL.at (fun w21 h1w => ?_)
  obtain ⟨p22, c23, rfl, hO25, hA24⟩ := h1w
  refine VL.toOwn hO25 ?_
  refine VL.extract rfl rfl ?_
  refine VL.extract rfl rfl ?_
  refine VL.assign rfl ?_
  refine VL.assign rfl ?_
  refine VL.nil ?_
  refine VX.next ?_
  refine VC.ret ?_
  refine VX.ret2 rfl rfl rfl (fun we hw => ?_)
  exact postO (joinO_some (bundleP_ok hx) rfl) ⟨p22, c23, rfl, hw.drop.sub (fun _ hs => by repeat (first | exact hs | apply List.mem_cons_of_mem)), (hA24.now (s := ⟨w21, _⟩) Mono.byte hw.drop (by repeat (first | exact List.mem_cons_self .. | apply List.mem_cons_of_mem)))⟩

theorem headerO_none {x : Header} (h : headerFit x = false) : (none : Option (List UInt8)) = headerO x := by unfold headerO; rw [h]; rfl
theorem headerO_is {x : Header} (hx : x.ok) (h : headerFit x = true) : joinO (headerP x) true = headerO x := by rw [← headerO_joinO hx, h]

theorem headerBytes_w {S : List Snap} {H : List Chunk} {w : World} (ho : Own S H w) {x : Header} (hx : x.ok) : Calls Try.prog 52 #[.agg (cat (headerV x)).toArray] w (RetO S H (headerO x)) := by
  have hx1 := hx.id
  have hx2 := hx.n
  have hx3 := hx.prev
  refine enter (G := Own (⟨w, keys H⟩ :: S) H) ho.keep Try.func52 rfl Try.ntmps52 rfl ?_
  refine VC.seq ?_
  refine VC.region ?_
  refine VL.box (L := headerL) (ps := (headerV (x))) rfl rfl (headerV_len hx) (fun g1 => ?_)
  refine VL.assign rfl ?_
  refine VL.assign rfl ?_
  refine VL.nil ?_
  refine VX.next ?_
  refine VC.seq ?_
  refine VC.seq ?_
  refine VC.region ?_
  refine VL.fieldAddr rfl fo70_1 rfl ?_
  refine VL.load (v := .bool x.first) 0 1 rfl kd4 (fun _ h => h) rfl rfl rfl ?_
  cases h1_1 : x.first
  · refine VL.not rfl ?_
    refine VL.move rfl ?_
    refine VL.go rfl rfl rfl ?_
    refine VL.fieldAddr rfl fo70_2 rfl ?_
    refine VL.go rfl rfl rfl ?_
    refine VL.loads (cs := (x.agree).map bv) 0 2 1 rfl kd44 (fun _ h => h) rfl rfl rfl rfl ?_
    refine VL.go rfl rfl rfl ?_
    refine VL.build0 (cs := (zeros 32).map bv) built44 ?_
    refine VL.go rfl rfl rfl ?_
    refine VL.neT guard44 rfl rfl (eqKey 9998 hx.agree rfl) (fun b h1_7 => ?_)
    cases b
    · have h1_7 := mt h1_7.2 (by decide)
      refine VL.go rfl rfl rfl ?_
      refine VL.move rfl ?_
      refine VL.pass rfl rfl rfl rfl rfl ?_
      refine VL.pass rfl rfl rfl rfl rfl ?_
      refine VL.pass rfl rfl rfl rfl rfl ?_
      refine VL.pass rfl rfl rfl rfl rfl ?_
      refine VL.go rfl rfl rfl ?_
      refine VL.pick_t rfl rfl ?_
      refine VL.go rfl rfl rfl ?_
      refine VL.move rfl ?_
      refine VL.pass rfl rfl rfl rfl rfl ?_
      refine VL.pass rfl rfl rfl rfl rfl ?_
      refine VL.pass rfl rfl rfl rfl rfl ?_
      refine VL.pass rfl rfl rfl rfl rfl ?_
      refine VL.go rfl rfl rfl ?_
      refine VL.pick_t rfl rfl ?_
      refine VL.go rfl rfl rfl ?_
      refine VL.move rfl ?_
      refine VL.pass rfl rfl rfl rfl rfl ?_
      refine VL.pass rfl rfl rfl rfl rfl ?_
      refine VL.pass rfl rfl rfl rfl rfl ?_
      refine VL.go rfl rfl rfl ?_
      refine VL.pick_t rfl rfl ?_
      refine VL.pick_t rfl rfl ?_
      refine VL.nil ?_
      refine VX.next ?_
      refine VC.yes rfl ?_
      refine VC.seq ?_
      refine VC.region ?_
      refine VL.assign rfl ?_
      refine VL.assign rfl ?_
      refine VL.nil ?_
      refine VX.next ?_
      refine VC.ret ?_
      refine VX.then_ret ?_
      refine VX.ret2 rfl rfl rfl (fun we hw => ?_)
      exact postO (headerO_none (by unfold headerFit; simp [h1_1, h1_7])) ⟨none, 0, rfl, hw.drop.sub (fun _ hs => by repeat (first | exact hs | apply List.mem_cons_of_mem)), Arr.none⟩
    · have h1_7 := h1_7.1 rfl
      refine VL.go rfl rfl rfl ?_
      refine VL.move rfl ?_
      refine VL.go rfl rfl rfl ?_
      refine VL.fieldAddr rfl fo70_3 rfl ?_
      refine VL.go rfl rfl rfl ?_
      refine VL.loads (cs := (x.signer).map bv) 0 3 1 rfl kd44 (fun _ h => h) rfl rfl rfl rfl ?_
      refine VL.go rfl rfl rfl ?_
      refine VL.build0 (cs := (zeros 32).map bv) built44 ?_
      refine VL.go rfl rfl rfl ?_
      refine VL.neT guard44 rfl rfl (eqKey 9998 hx.signer rfl) (fun b h1_12 => ?_)
      cases b
      · have h1_12 := mt h1_12.2 (by decide)
        refine VL.go rfl rfl rfl ?_
        refine VL.pick_f rfl rfl ?_
        refine VL.go rfl rfl rfl ?_
        refine VL.move rfl ?_
        refine VL.pass rfl rfl rfl rfl rfl ?_
        refine VL.pass rfl rfl rfl rfl rfl ?_
        refine VL.pass rfl rfl rfl rfl rfl ?_
        refine VL.pass rfl rfl rfl rfl rfl ?_
        refine VL.go rfl rfl rfl ?_
        refine VL.pick_t rfl rfl ?_
        refine VL.go rfl rfl rfl ?_
        refine VL.move rfl ?_
        refine VL.pass rfl rfl rfl rfl rfl ?_
        refine VL.pass rfl rfl rfl rfl rfl ?_
        refine VL.pass rfl rfl rfl rfl rfl ?_
        refine VL.go rfl rfl rfl ?_
        refine VL.pick_t rfl rfl ?_
        refine VL.pick_t rfl rfl ?_
        refine VL.nil ?_
        refine VX.next ?_
        refine VC.yes rfl ?_
        refine VC.seq ?_
        refine VC.region ?_
        refine VL.assign rfl ?_
        refine VL.assign rfl ?_
        refine VL.nil ?_
        refine VX.next ?_
        refine VC.ret ?_
        refine VX.then_ret ?_
        refine VX.ret2 rfl rfl rfl (fun we hw => ?_)
        exact postO (headerO_none (by unfold headerFit; simp [h1_1, h1_7, h1_12])) ⟨none, 0, rfl, hw.drop.sub (fun _ hs => by repeat (first | exact hs | apply List.mem_cons_of_mem)), Arr.none⟩
      · have h1_12 := h1_12.1 rfl
        refine VL.go rfl rfl rfl ?_
        refine VL.pick_f rfl rfl ?_
        refine VL.go rfl rfl rfl ?_
        refine VL.move rfl ?_
        refine VL.go rfl rfl rfl ?_
        refine VL.fieldAddr rfl fo70_4 rfl ?_
        refine VL.go rfl rfl rfl ?_
        refine VL.loads (cs := (x.base).map bv) 0 4 1 rfl kd44 (fun _ h => h) rfl rfl rfl rfl ?_
        refine VL.go rfl rfl rfl ?_
        refine VL.build0 (cs := (zeros 32).map bv) built44 ?_
        refine VL.go rfl rfl rfl ?_
        refine VL.neT guard44 rfl rfl (eqKey 9998 hx.base rfl) (fun b h1_18 => ?_)
        cases b
        · have h1_18 := mt h1_18.2 (by decide)
          refine VL.go rfl rfl rfl ?_
          refine VL.pick_f rfl rfl ?_
          refine VL.go rfl rfl rfl ?_
          refine VL.move rfl ?_
          refine VL.pass rfl rfl rfl rfl rfl ?_
          refine VL.pass rfl rfl rfl rfl rfl ?_
          refine VL.pass rfl rfl rfl rfl rfl ?_
          refine VL.go rfl rfl rfl ?_
          refine VL.pick_t rfl rfl ?_
          refine VL.pick_t rfl rfl ?_
          refine VL.nil ?_
          refine VX.next ?_
          refine VC.yes rfl ?_
          refine VC.seq ?_
          refine VC.region ?_
          refine VL.assign rfl ?_
          refine VL.assign rfl ?_
          refine VL.nil ?_
          refine VX.next ?_
          refine VC.ret ?_
          refine VX.then_ret ?_
          refine VX.ret2 rfl rfl rfl (fun we hw => ?_)
          exact postO (headerO_none (by unfold headerFit; simp [h1_1, h1_7, h1_12, h1_18])) ⟨none, 0, rfl, hw.drop.sub (fun _ hs => by repeat (first | exact hs | apply List.mem_cons_of_mem)), Arr.none⟩
        · have h1_18 := h1_18.1 rfl
          refine VL.go rfl rfl rfl ?_
          refine VL.pick_f rfl rfl ?_
          refine VL.go rfl rfl rfl ?_
          refine VL.move rfl ?_
          refine VL.go rfl rfl rfl ?_
          refine VL.fieldAddr rfl fo70_5 rfl ?_
          refine VL.go rfl rfl rfl ?_
          refine VL.load (v := .int .u16 (x.id)) 0 5 rfl kd68 (fun _ h => h) rfl rfl rfl ?_
          refine VL.go rfl rfl rfl ?_
          refine VL.neq rfl rfl ?_
          refine VL.case (fun h1_23 => ?_) (fun h1_23 => ?_)
          · have h1_23 : x.id ≠ 0 := by omega
            refine VL.go rfl rfl rfl ?_
            refine VL.pick_f rfl rfl ?_
            refine VL.pick_t rfl rfl ?_
            refine VL.nil ?_
            refine VX.next ?_
            refine VC.yes rfl ?_
            refine VC.seq ?_
            refine VC.region ?_
            refine VL.assign rfl ?_
            refine VL.assign rfl ?_
            refine VL.nil ?_
            refine VX.next ?_
            refine VC.ret ?_
            refine VX.then_ret ?_
            refine VX.ret2 rfl rfl rfl (fun we hw => ?_)
            exact postO (headerO_none (by unfold headerFit; simp [h1_1, h1_7, h1_12, h1_18, h1_23])) ⟨none, 0, rfl, hw.drop.sub (fun _ hs => by repeat (first | exact hs | apply List.mem_cons_of_mem)), Arr.none⟩
          · have h1_23 : x.id = 0 := by omega
            refine VL.go rfl rfl rfl ?_
            refine VL.pick_f rfl rfl ?_
            refine VL.pick_t rfl rfl ?_
            refine VL.nil ?_
            refine VX.next ?_
            refine VC.no rfl ?_
            refine VC.skip ?_
            refine VX.next ?_
            refine VC.seq ?_
            refine VC.region ?_
            refine VL.build (zs := [[.slice none 0 0], [.bool false]]) [] plan181 rfl trivial rfl ?_
            refine VL.box (L := [1, 1]) (ps := [[rowV none 0 0], [.bool false]]) rfl rfl rfl (fun g2 => ?_)
            refine VL.turn (fun w' hw => Own.newW hw) ?_
            refine VL.assign rfl ?_
            refine VL.nil ?_
            refine VX.next ?_
            refine VC.seq ?_
            refine VC.region ?_
            refine VL.assign rfl ?_
            refine VL.nil ?_
            refine VX.next ?_
            refine VC.seq ?_
            refine VC.seq ?_
            refine VC.region ?_
            refine VL.fieldAddr rfl fo70_1 rfl ?_
            refine VL.load (v := .bool x.first) 2 1 rfl kd4 (fun _ h => h) rfl rfl rfl ?_
            rw [h1_1]
            refine VL.nil ?_
            refine VX.next ?_
            refine VC.no rfl ?_
            refine VC.skip ?_
            refine VX.next ?_
            refine VC.seq ?_
            refine VC.region ?_
            refine VL.move rfl ?_
            refine VL.fieldAddr rfl fo70_0 rfl ?_
            refine VL.loads (cs := (x.session).map bv) 2 0 1 rfl kd44 (fun _ h => h) rfl rfl rfl rfl ?_
            refine VL.call Try.func119 rfl (by decide) rfl (fun w' hw => key_w hw (by simp only [List.length_append, List.length_cons, List.length_nil, List.length_map]; omega) (l := x.session) hx.session) (fun v => ?_)
            refine VL.fact fun e5 => ?_
            subst e5
            refine VL.ex fun gp3 => VL.ex fun c4 => ?_
            refine VL.nil ?_
            refine VX.next ?_
            refine VC.seq ?_
            refine VC.region ?_
            refine VL.move rfl ?_
            refine VL.move rfl ?_
            refine VL.call Try.func116 rfl (by decide) rfl (fun w' hw => num_w hw (by simp only [List.length_append, List.length_cons, List.length_nil, List.length_map]; omega) (0) (fits_small (by omega)) 1 (by decide) (by decide) (fits1 (by omega))) (fun v => ?_)
            refine VL.fact fun e8 => ?_
            subst e8
            refine VL.ex fun gp6 => VL.ex fun c7 => ?_
            refine VL.nil ?_
            refine VX.next ?_
            refine VC.seq ?_
            refine VC.region ?_
            refine VL.move rfl ?_
            refine VL.fieldAddr rfl fo70_2 rfl ?_
            refine VL.loads (cs := (x.agree).map bv) 2 2 1 rfl kd44 (fun _ h => h) rfl rfl rfl rfl ?_
            refine VL.call Try.func119 rfl (by decide) rfl (fun w' hw => key_w hw (by simp only [List.length_append, List.length_cons, List.length_nil, List.length_map]; omega) (l := x.agree) hx.agree) (fun v => ?_)
            refine VL.fact fun e11 => ?_
            subst e11
            refine VL.ex fun gp9 => VL.ex fun c10 => ?_
            refine VL.nil ?_
            refine VX.next ?_
            refine VC.seq ?_
            refine VC.region ?_
            refine VL.move rfl ?_
            refine VL.fieldAddr rfl fo70_3 rfl ?_
            refine VL.loads (cs := (x.signer).map bv) 2 3 1 rfl kd44 (fun _ h => h) rfl rfl rfl rfl ?_
            refine VL.call Try.func119 rfl (by decide) rfl (fun w' hw => key_w hw (by simp only [List.length_append, List.length_cons, List.length_nil, List.length_map]; omega) (l := x.signer) hx.signer) (fun v => ?_)
            refine VL.fact fun e14 => ?_
            subst e14
            refine VL.ex fun gp12 => VL.ex fun c13 => ?_
            refine VL.nil ?_
            refine VX.next ?_
            refine VC.seq ?_
            refine VC.region ?_
            refine VL.move rfl ?_
            refine VL.fieldAddr rfl fo70_4 rfl ?_
            refine VL.loads (cs := (x.base).map bv) 2 4 1 rfl kd44 (fun _ h => h) rfl rfl rfl rfl ?_
            refine VL.call Try.func119 rfl (by decide) rfl (fun w' hw => key_w hw (by simp only [List.length_append, List.length_cons, List.length_nil, List.length_map]; omega) (l := x.base) hx.base) (fun v => ?_)
            refine VL.fact fun e17 => ?_
            subst e17
            refine VL.ex fun gp15 => VL.ex fun c16 => ?_
            refine VL.nil ?_
            refine VX.next ?_
            refine VC.seq ?_
            refine VC.region ?_
            refine VL.move rfl ?_
            refine VL.fieldAddr rfl fo70_5 rfl ?_
            refine VL.load (v := .int .u16 (x.id)) 2 5 rfl kd68 (fun _ h => h) rfl rfl rfl ?_
            refine VL.conv (by rw [Try.underlying68]; rfl) Try.underlying22 rfl (inr_u64 (by omega)) ?_
            refine VL.call Try.func116 rfl (by decide) rfl (fun w' hw => num_w hw (by simp only [List.length_append, List.length_cons, List.length_nil, List.length_map]; omega) (x.id) (fits_small (by omega)) 2 (by decide) (by decide) (fits2 (by omega))) (fun v => ?_)
            refine VL.fact fun e20 => ?_
            subst e20
            refine VL.ex fun gp18 => VL.ex fun c19 => ?_
            refine VL.nil ?_
            refine VX.next ?_
            refine VC.seq ?_
            refine VC.region ?_
            refine VL.move rfl ?_
            refine VL.fieldAddr rfl fo70_6 rfl ?_
            refine VL.loads (cs := (x.ratchet).map bv) 2 6 1 rfl kd44 (fun _ h => h) rfl rfl rfl rfl ?_
            refine VL.call Try.func119 rfl (by decide) rfl (fun w' hw => key_w hw (by simp only [List.length_append, List.length_cons, List.length_nil, List.length_map]; omega) (l := x.ratchet) hx.ratchet) (fun v => ?_)
            refine VL.fact fun e23 => ?_
            subst e23
            refine VL.ex fun gp21 => VL.ex fun c22 => ?_
            refine VL.nil ?_
            refine VX.next ?_
            refine VC.seq ?_
            refine VC.region ?_
            refine VL.move rfl ?_
            refine VL.fieldAddr rfl fo70_7 rfl ?_
            refine VL.load (v := .int .u16 (x.n)) 2 7 rfl kd68 (fun _ h => h) rfl rfl rfl ?_
            refine VL.conv (by rw [Try.underlying68]; rfl) Try.underlying22 rfl (inr_u64 (by omega)) ?_
            refine VL.call Try.func116 rfl (by decide) rfl (fun w' hw => num_w hw (by simp only [List.length_append, List.length_cons, List.length_nil, List.length_map]; omega) (x.n) (fits_small (by omega)) 2 (by decide) (by decide) (fits2 (by omega))) (fun v => ?_)
            refine VL.fact fun e26 => ?_
            subst e26
            refine VL.ex fun gp24 => VL.ex fun c25 => ?_
            refine VL.nil ?_
            refine VX.next ?_
            refine VC.seq ?_
            refine VC.region ?_
            refine VL.move rfl ?_
            refine VL.fieldAddr rfl fo70_8 rfl ?_
            refine VL.load (v := .int .u16 (x.prev)) 2 8 rfl kd68 (fun _ h => h) rfl rfl rfl ?_
            refine VL.conv (by rw [Try.underlying68]; rfl) Try.underlying22 rfl (inr_u64 (by omega)) ?_
            refine VL.call Try.func116 rfl (by decide) rfl (fun w' hw => num_w hw (by simp only [List.length_append, List.length_cons, List.length_nil, List.length_map]; omega) (x.prev) (fits_small (by omega)) 2 (by decide) (by decide) (fits2 (by omega))) (fun v => ?_)
            refine VL.fact fun e29 => ?_
            subst e29
            refine VL.ex fun gp27 => VL.ex fun c28 => ?_
            refine VL.nil ?_
            refine VX.next ?_
            refine VC.seq ?_
            refine VC.region ?_
            refine VL.move rfl ?_
            refine VL.call Try.func118 rfl (by decide) rfl (fun w' hw => done_O hw) (fun v => ?_)
            refine VL.at (fun w30 h1w => ?_)
            obtain ⟨p31, c32, rfl, hO34, hA33⟩ := h1w
            refine VL.toOwn hO34 ?_
            refine VL.extract rfl rfl ?_
            refine VL.extract rfl rfl ?_
            refine VL.assign rfl ?_
            refine VL.assign rfl ?_
            refine VL.nil ?_
            refine VX.next ?_
            refine VC.ret ?_
            refine VX.ret2 rfl rfl rfl (fun we hw => ?_)
            exact postO ((by rw [← headerO_is hx (by unfold headerFit; simp [h1_1, h1_7, h1_12, h1_18, h1_23])]; unfold headerP; rw [h1_1]; rfl)) ⟨p31, c32, rfl, hw.drop.sub (fun _ hs => by repeat (first | exact hs | apply List.mem_cons_of_mem)), (hA33.now (s := ⟨w30, _⟩) Mono.byte hw.drop (by repeat (first | exact List.mem_cons_self .. | apply List.mem_cons_of_mem)))⟩
  · refine VL.not rfl ?_
    refine VL.move rfl ?_
    refine VL.pass rfl rfl rfl rfl rfl ?_
    refine VL.pass rfl rfl rfl rfl rfl ?_
    refine VL.pass rfl rfl rfl rfl rfl ?_
    refine VL.pass rfl rfl rfl rfl rfl ?_
    refine VL.pass rfl rfl rfl rfl rfl ?_
    refine VL.passu rfl rfl rfl rfl ?_
    refine VL.passu rfl rfl rfl rfl ?_
    refine VL.passu rfl rfl rfl rfl ?_
    refine VL.passu rfl rfl rfl rfl ?_
    refine VL.pass rfl rfl rfl rfl rfl ?_
    refine VL.pass rfl rfl rfl rfl rfl ?_
    refine VL.passu rfl rfl rfl rfl ?_
    refine VL.passu rfl rfl rfl rfl ?_
    refine VL.passu rfl rfl rfl rfl ?_
    refine VL.passu rfl rfl rfl rfl ?_
    refine VL.pass rfl rfl rfl rfl rfl ?_
    refine VL.pass rfl rfl rfl rfl rfl ?_
    refine VL.passu rfl rfl rfl rfl ?_
    refine VL.passu rfl rfl rfl rfl ?_
    refine VL.passu rfl rfl rfl rfl ?_
    refine VL.pass rfl rfl rfl rfl rfl ?_
    refine VL.pick_f rfl rfl ?_
    refine VL.nil ?_
    refine VX.next ?_
    refine VC.no rfl ?_
    refine VC.skip ?_
    refine VX.next ?_
    refine VC.seq ?_
    refine VC.region ?_
    refine VL.build (zs := [[.slice none 0 0], [.bool false]]) [] plan181 rfl trivial rfl ?_
    refine VL.box (L := [1, 1]) (ps := [[rowV none 0 0], [.bool false]]) rfl rfl rfl (fun g35 => ?_)
    refine VL.turn (fun w' hw => Own.newW hw) ?_
    refine VL.assign rfl ?_
    refine VL.nil ?_
    refine VX.next ?_
    refine VC.seq ?_
    refine VC.region ?_
    refine VL.assign rfl ?_
    refine VL.nil ?_
    refine VX.next ?_
    refine VC.seq ?_
    refine VC.seq ?_
    refine VC.region ?_
    refine VL.fieldAddr rfl fo70_1 rfl ?_
    refine VL.load (v := .bool x.first) 2 1 rfl kd4 (fun _ h => h) rfl rfl rfl ?_
    rw [h1_1]
    refine VL.nil ?_
    refine VX.next ?_
    refine VC.yes rfl ?_
    refine VC.region ?_
    refine VL.assign rfl ?_
    refine VL.nil ?_
    refine VX.next ?_
    refine VC.seq ?_
    refine VC.region ?_
    refine VL.move rfl ?_
    refine VL.fieldAddr rfl fo70_0 rfl ?_
    refine VL.loads (cs := (x.session).map bv) 2 0 1 rfl kd44 (fun _ h => h) rfl rfl rfl rfl ?_
    refine VL.call Try.func119 rfl (by decide) rfl (fun w' hw => key_w hw (by simp only [List.length_append, List.length_cons, List.length_nil, List.length_map]; omega) (l := x.session) hx.session) (fun v => ?_)
    refine VL.fact fun e38 => ?_
    subst e38
    refine VL.ex fun gp36 => VL.ex fun c37 => ?_
    refine VL.nil ?_
    refine VX.next ?_
    refine VC.seq ?_
    refine VC.region ?_
    refine VL.move rfl ?_
    refine VL.move rfl ?_
    refine VL.call Try.func116 rfl (by decide) rfl (fun w' hw => num_w hw (by simp only [List.length_append, List.length_cons, List.length_nil, List.length_map]; omega) (1) (fits_small (by omega)) 1 (by decide) (by decide) (fits1 (by omega))) (fun v => ?_)
    refine VL.fact fun e41 => ?_
    subst e41
    refine VL.ex fun gp39 => VL.ex fun c40 => ?_
    refine VL.nil ?_
    refine VX.next ?_
    refine VC.seq ?_
    refine VC.region ?_
    refine VL.move rfl ?_
    refine VL.fieldAddr rfl fo70_2 rfl ?_
    refine VL.loads (cs := (x.agree).map bv) 2 2 1 rfl kd44 (fun _ h => h) rfl rfl rfl rfl ?_
    refine VL.call Try.func119 rfl (by decide) rfl (fun w' hw => key_w hw (by simp only [List.length_append, List.length_cons, List.length_nil, List.length_map]; omega) (l := x.agree) hx.agree) (fun v => ?_)
    refine VL.fact fun e44 => ?_
    subst e44
    refine VL.ex fun gp42 => VL.ex fun c43 => ?_
    refine VL.nil ?_
    refine VX.next ?_
    refine VC.seq ?_
    refine VC.region ?_
    refine VL.move rfl ?_
    refine VL.fieldAddr rfl fo70_3 rfl ?_
    refine VL.loads (cs := (x.signer).map bv) 2 3 1 rfl kd44 (fun _ h => h) rfl rfl rfl rfl ?_
    refine VL.call Try.func119 rfl (by decide) rfl (fun w' hw => key_w hw (by simp only [List.length_append, List.length_cons, List.length_nil, List.length_map]; omega) (l := x.signer) hx.signer) (fun v => ?_)
    refine VL.fact fun e47 => ?_
    subst e47
    refine VL.ex fun gp45 => VL.ex fun c46 => ?_
    refine VL.nil ?_
    refine VX.next ?_
    refine VC.seq ?_
    refine VC.region ?_
    refine VL.move rfl ?_
    refine VL.fieldAddr rfl fo70_4 rfl ?_
    refine VL.loads (cs := (x.base).map bv) 2 4 1 rfl kd44 (fun _ h => h) rfl rfl rfl rfl ?_
    refine VL.call Try.func119 rfl (by decide) rfl (fun w' hw => key_w hw (by simp only [List.length_append, List.length_cons, List.length_nil, List.length_map]; omega) (l := x.base) hx.base) (fun v => ?_)
    refine VL.fact fun e50 => ?_
    subst e50
    refine VL.ex fun gp48 => VL.ex fun c49 => ?_
    refine VL.nil ?_
    refine VX.next ?_
    refine VC.seq ?_
    refine VC.region ?_
    refine VL.move rfl ?_
    refine VL.fieldAddr rfl fo70_5 rfl ?_
    refine VL.load (v := .int .u16 (x.id)) 2 5 rfl kd68 (fun _ h => h) rfl rfl rfl ?_
    refine VL.conv (by rw [Try.underlying68]; rfl) Try.underlying22 rfl (inr_u64 (by omega)) ?_
    refine VL.call Try.func116 rfl (by decide) rfl (fun w' hw => num_w hw (by simp only [List.length_append, List.length_cons, List.length_nil, List.length_map]; omega) (x.id) (fits_small (by omega)) 2 (by decide) (by decide) (fits2 (by omega))) (fun v => ?_)
    refine VL.fact fun e53 => ?_
    subst e53
    refine VL.ex fun gp51 => VL.ex fun c52 => ?_
    refine VL.nil ?_
    refine VX.next ?_
    refine VC.seq ?_
    refine VC.region ?_
    refine VL.move rfl ?_
    refine VL.fieldAddr rfl fo70_6 rfl ?_
    refine VL.loads (cs := (x.ratchet).map bv) 2 6 1 rfl kd44 (fun _ h => h) rfl rfl rfl rfl ?_
    refine VL.call Try.func119 rfl (by decide) rfl (fun w' hw => key_w hw (by simp only [List.length_append, List.length_cons, List.length_nil, List.length_map]; omega) (l := x.ratchet) hx.ratchet) (fun v => ?_)
    refine VL.fact fun e56 => ?_
    subst e56
    refine VL.ex fun gp54 => VL.ex fun c55 => ?_
    refine VL.nil ?_
    refine VX.next ?_
    refine VC.seq ?_
    refine VC.region ?_
    refine VL.move rfl ?_
    refine VL.fieldAddr rfl fo70_7 rfl ?_
    refine VL.load (v := .int .u16 (x.n)) 2 7 rfl kd68 (fun _ h => h) rfl rfl rfl ?_
    refine VL.conv (by rw [Try.underlying68]; rfl) Try.underlying22 rfl (inr_u64 (by omega)) ?_
    refine VL.call Try.func116 rfl (by decide) rfl (fun w' hw => num_w hw (by simp only [List.length_append, List.length_cons, List.length_nil, List.length_map]; omega) (x.n) (fits_small (by omega)) 2 (by decide) (by decide) (fits2 (by omega))) (fun v => ?_)
    refine VL.fact fun e59 => ?_
    subst e59
    refine VL.ex fun gp57 => VL.ex fun c58 => ?_
    refine VL.nil ?_
    refine VX.next ?_
    refine VC.seq ?_
    refine VC.region ?_
    refine VL.move rfl ?_
    refine VL.fieldAddr rfl fo70_8 rfl ?_
    refine VL.load (v := .int .u16 (x.prev)) 2 8 rfl kd68 (fun _ h => h) rfl rfl rfl ?_
    refine VL.conv (by rw [Try.underlying68]; rfl) Try.underlying22 rfl (inr_u64 (by omega)) ?_
    refine VL.call Try.func116 rfl (by decide) rfl (fun w' hw => num_w hw (by simp only [List.length_append, List.length_cons, List.length_nil, List.length_map]; omega) (x.prev) (fits_small (by omega)) 2 (by decide) (by decide) (fits2 (by omega))) (fun v => ?_)
    refine VL.fact fun e62 => ?_
    subst e62
    refine VL.ex fun gp60 => VL.ex fun c61 => ?_
    refine VL.nil ?_
    refine VX.next ?_
    refine VC.seq ?_
    refine VC.region ?_
    refine VL.move rfl ?_
    refine VL.call Try.func118 rfl (by decide) rfl (fun w' hw => done_O hw) (fun v => ?_)
    refine VL.at (fun w63 h1w => ?_)
    obtain ⟨p64, c65, rfl, hO67, hA66⟩ := h1w
    refine VL.toOwn hO67 ?_
    refine VL.extract rfl rfl ?_
    refine VL.extract rfl rfl ?_
    refine VL.assign rfl ?_
    refine VL.assign rfl ?_
    refine VL.nil ?_
    refine VX.next ?_
    refine VC.ret ?_
    refine VX.ret2 rfl rfl rfl (fun we hw => ?_)
    exact postO ((by rw [← headerO_is hx (by unfold headerFit; simp [h1_1])]; unfold headerP; rw [h1_1]; rfl)) ⟨p64, c65, rfl, hw.drop.sub (fun _ hs => by repeat (first | exact hs | apply List.mem_cons_of_mem)), (hA66.now (s := ⟨w63, _⟩) Mono.byte hw.drop (by repeat (first | exact List.mem_cons_self .. | apply List.mem_cons_of_mem)))⟩

theorem putLetter_w {S : List Snap} {H : List Chunk} {w : World} (ho : Own S H w) {x : Letter} (hx : x.ok) {p : Option Addr} {c : Nat} (hA : Bytes (keys H) w p x.body c) : Calls Try.prog 50 #[.agg (cat (letterV x p c)).toArray] w (RetO S H (letterO x)) := by
  have hx1 := hx.src
  have hx2 := hx.dst
  refine enter (G := Own (⟨w, keys H⟩ :: S) H) ho.keep Try.func50 rfl Try.ntmps50 rfl ?_
  refine VC.seq ?_
  refine VC.region ?_
  refine VL.box (L := letterL) (ps := (letterV (x) p c)) rfl rfl (letterV_len hx) (fun g1 => ?_)
  refine VL.assign rfl ?_
  refine VL.assign rfl ?_
  refine VL.nil ?_
  refine VX.next ?_
  refine VC.seq ?_
  refine VC.region ?_
  refine VL.build (zs := [[.slice none 0 0], [.bool false]]) [] plan181 rfl trivial rfl ?_
  refine VL.box (L := [1, 1]) (ps := [[rowV none 0 0], [.bool false]]) rfl rfl rfl (fun g2 => ?_)
  refine VL.turn (fun w' hw => Own.newW hw) ?_
  refine VL.assign rfl ?_
  refine VL.nil ?_
  refine VX.next ?_
  refine VC.seq ?_
  refine VC.region ?_
  refine VL.move rfl ?_
  refine VL.fieldAddr rfl fo72_0 rfl ?_
  refine VL.load (v := .int .u8 (x.src)) 2 0 rfl kd5 (fun _ h => h) rfl rfl rfl ?_
  refine VL.conv (by rw [Try.underlying5]; rfl) Try.underlying22 rfl (inr_u64 (by omega)) ?_
  refine VL.call Try.func116 rfl (by decide) rfl (fun w' hw => num_w hw (by simp only [List.length_append, List.length_cons, List.length_nil, List.length_map]; omega) (x.src) (fits_small (by omega)) 1 (by decide) (by decide) (fits1 (by omega))) (fun v => ?_)
  refine VL.fact fun e5 => ?_
  subst e5
  refine VL.ex fun gp3 => VL.ex fun c4 => ?_
  refine VL.nil ?_
  refine VX.next ?_
  refine VC.seq ?_
  refine VC.region ?_
  refine VL.move rfl ?_
  refine VL.fieldAddr rfl fo72_1 rfl ?_
  refine VL.load (v := .int .u8 (x.dst)) 2 1 rfl kd5 (fun _ h => h) rfl rfl rfl ?_
  refine VL.conv (by rw [Try.underlying5]; rfl) Try.underlying22 rfl (inr_u64 (by omega)) ?_
  refine VL.call Try.func116 rfl (by decide) rfl (fun w' hw => num_w hw (by simp only [List.length_append, List.length_cons, List.length_nil, List.length_map]; omega) (x.dst) (fits_small (by omega)) 1 (by decide) (by decide) (fits1 (by omega))) (fun v => ?_)
  refine VL.fact fun e8 => ?_
  subst e8
  refine VL.ex fun gp6 => VL.ex fun c7 => ?_
  refine VL.nil ?_
  refine VX.next ?_
  refine VC.seq ?_
  refine VC.region ?_
  refine VL.move rfl ?_
  refine VL.fieldAddr rfl fo72_2 rfl ?_
  refine VL.loads (cs := cat (headerV (x.header))) 2 2 9 rfl kd70 (fun _ h => h) rfl rfl rfl rfl ?_
  refine VL.call Try.func52 rfl (by decide) rfl (fun w' hw => headerBytes_w hw (x := x.header) hx.header) (fun v => ?_)
  refine VL.at (fun w9 h1w => ?_)
  obtain ⟨p10, c11, rfl, hO13, hA12⟩ := h1w
  refine VL.toOwn hO13 ?_
  refine VL.extract rfl rfl ?_
  refine VL.extract rfl rfl ?_
  refine VL.call Try.func117 rfl (by decide) rfl (fun w' hw => piece_w hw (by simp only [List.length_append, List.length_cons, List.length_nil, List.length_map]; omega) (hA12.now (s := ⟨w9, _⟩) Mono.byte hw (by repeat (first | exact List.mem_cons_self .. | apply List.mem_cons_of_mem))) (((headerO (x.header)).isSome))) (fun v => ?_)
  refine VL.fact fun e16 => ?_
  subst e16
  refine VL.ex fun gp14 => VL.ex fun c15 => ?_
  refine VL.nil ?_
  refine VX.next ?_
  refine VC.seq ?_
  refine VC.region ?_
  refine VL.move rfl ?_
  refine VL.fieldAddr rfl fo72_3 rfl ?_
  refine VL.load (v := .slice p (x.body).length c) 2 11 rfl kd24 (fun _ h => h) rfl rfl rfl ?_
  refine VL.call Try.func117 rfl (by decide) rfl (fun w' hw => piece_w hw (by simp only [List.length_append, List.length_cons, List.length_nil, List.length_map]; omega) (hA.now (s := ⟨w, _⟩) Mono.byte hw (by repeat (first | exact List.mem_cons_self .. | apply List.mem_cons_of_mem))) true) (fun v => ?_)
  refine VL.fact fun e19 => ?_
  subst e19
  refine VL.ex fun gp17 => VL.ex fun c18 => ?_
  refine VL.nil ?_
  refine VX.next ?_
  refine VC.seq ?_
  refine VC.region ?_
  refine VL.move rfl ?_
  refine VL.call Try.func118 rfl (by decide) rfl (fun w' hw => done_O hw) (fun v => ?_)
  refine VL.at (fun w20 h1w => ?_)
  obtain ⟨p21, c22, rfl, hO24, hA23⟩ := h1w
  refine VL.toOwn hO24 ?_
  refine VL.extract rfl rfl ?_
  refine VL.extract rfl rfl ?_
  refine VL.assign rfl ?_
  refine VL.assign rfl ?_
  refine VL.nil ?_
  refine VX.next ?_
  refine VC.ret ?_
  refine VX.ret2 rfl rfl rfl (fun we hw => ?_)
  exact postO ((by unfold letterO; congr 1; cases (headerO x.header).isSome <;> rfl)) ⟨p21, c22, rfl, hw.drop.sub (fun _ hs => by repeat (first | exact hs | apply List.mem_cons_of_mem)), (hA23.now (s := ⟨w20, _⟩) Mono.byte hw.drop (by repeat (first | exact List.mem_cons_self .. | apply List.mem_cons_of_mem)))⟩

end Go.Proofs.Ytcfecmoagfgnaaa
