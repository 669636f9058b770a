/- The laws on bundles and objects. -/
import Derived.Test.YtcfecmoagfgnaaaRef6
namespace Go.Proofs.Ytcfecmoagfgnaaa
open Go.Vc Go.Pl

theorem object_back {x : Object} (hx : x.ok) (h : (objectO x).isSome = true) : objectR ((objectO x).getD []) = some x := by
  obtain ⟨l, hl⟩ := Option.isSome_iff_exists.1 h
  rw [hl]
  exact objectR_iff.2 ⟨hx, hl⟩
theorem sameObjects_e {S : List Snap} {H : List Chunk} {w : World} (ho : Own S H w) {x y : Object} (hx : x.ok) {q : Option Addr} {d : Nat} (hV : Arr 65 vouchR (keys H) w q x.vouches d) {p : Option Addr} {c : Nat} (hU : Arr 65 vouchR (keys H) w p y.vouches c) (e : y = x) : Calls Try.prog 72 #[.agg (cat (objectV x q d)).toArray, .agg (cat (objectV y p c)).toArray] w (Ret fun v w' => v = .bool true ∧ Own S H w') :=
  calls_mono (sameObjects_g ho hx hV (e ▸ hx) hU) fun v w' ⟨b, h1, h2, h3⟩ => ⟨by rw [h1, h2.2 e], h3⟩

theorem wireBundles_w {S : List Snap} {H : List Chunk} {w : World} (ho : Own S H w) (hsol : ∀ c ∈ H, Solid c) {x : Bundle} (hx : x.ok) : Calls Try.prog 14 #[.agg (cat (bundleV x)).toArray] w (Ret fun v w' => v = .bool true ∧ Own S H w') := by
  refine enter (G := Own (⟨w, keys H⟩ :: S) H) ho.keep Try.func14 rfl Try.ntmps14 rfl ?_
  refine VC.seq ?_
  refine VC.region ?_
  refine VL.box (L := bundleL) (ps := (bundleV (x))) rfl rfl (bundleV_len hx) (fun g1 => ?_)
  refine VL.assign rfl ?_
  refine VL.nil ?_
  refine VX.next ?_
  refine VC.seq ?_
  refine VC.seq ?_
  refine VC.region ?_
  refine VL.call Try.func49 rfl (by decide) rfl (fun w' hw => alive_w hw) (fun v => ?_)
  refine VL.fact fun e2 => ?_
  subst e2
  refine VL.not rfl ?_
  refine VL.nil ?_
  refine VX.next ?_
  refine VC.no rfl ?_
  refine VC.skip ?_
  refine VX.next ?_
  refine VC.seq ?_
  refine VC.region ?_
  refine VL.loads (cs := cat (bundleV (x))) 0 0 6 rfl kd82 (fun _ h => h) rfl rfl rfl rfl ?_
  refine VL.call Try.func60 rfl (by decide) rfl (fun w' hw => putBundle_w hw (x := x) hx) (fun v => ?_)
  refine VL.at (fun w3 h1w => ?_)
  obtain ⟨p4, c5, rfl, hO7, hA6⟩ := h1w
  replace hA6 : Bytes _ w3 p4 (bundleB x) c5 := hA6
  refine VL.toOwn hO7 ?_
  refine VL.move rfl ?_
  refine VL.extract rfl rfl ?_
  refine VL.extract rfl rfl ?_
  refine VL.assign rfl ?_
  refine VL.assign rfl ?_
  refine VL.nil ?_
  refine VX.next ?_
  refine VC.seq ?_
  refine VC.region ?_
  refine VL.move rfl ?_
  refine VL.call Try.func61 rfl (by decide) rfl (fun w' hw => getBundle_w hw (hA6.now (s := ⟨w3, _⟩) Mono.byte hw (by repeat (first | exact List.mem_cons_self .. | apply List.mem_cons_of_mem)))) (fun v => ?_)
  refine VL.fact fun e8 => ?_
  subst e8
  refine VL.move rfl ?_
  refine VL.extract rfl rfl ?_
  refine VL.extract rfl rfl ?_
  refine VL.alloc (L := bundleL) (ps := (bundleV (bundle0))) zero82 rfl rfl (fun g9 => ?_)
  refine VL.store (L := bundleL) (qs := (bundleV (((bundleR ((bundleB x))).getD bundle0)))) (ps' := (bundleV (((bundleR ((bundleB x))).getD bundle0)))) 0 0 6 rfl rfl rfl (.inl kd82) rfl rfl (bundleV_len (bundleR_ok ((bundleB x)))) (bundleV_ok1 (((bundleR ((bundleB x))).getD bundle0))) rfl rfl ?_
  refine VL.turn (G' := Own _ (blk g9 82 bundleL (bundleV (((bundleR ((bundleB x))).getD bundle0))) :: blk g1 82 bundleL (bundleV (x)) :: H)) (fun _ h => h) ?_
  refine VL.assign rfl ?_
  refine VL.nil ?_
  refine VX.next ?_
  refine VC.seq ?_
  have hb : bundleR (bundleB x) = some x := bundleR_iff.2 ⟨hx, rfl⟩
  apply VC.anyTA 20 1024 (F := [eqF _, eqF _, eqF _, eqF _, bytesF (bundleB x), eqF _, eqF _, eqF _, eqF _, eqF _, eqF _, eqF _, eqF _, eqF _, eqF _, eqF _, eqF _, eqF _, bytesF ((bundleT x)), eqF _]) [⟨[], [4]⟩, ⟨[(19, 0)], []⟩, ⟨[(20, 1)], [3]⟩, ⟨[(20, 1)], [1]⟩, ⟨[(22, 3), (20, 1)], []⟩, ⟨[(21, 2), (23, 4), (20, 1)], []⟩, ⟨[(20, 1), (24, 5)], []⟩, ⟨[(25, 6)], []⟩, ⟨[(26, 7)], [6]⟩, ⟨[(27, 8), (26, 7)], []⟩, ⟨[(26, 7), (28, 9)], []⟩, ⟨[(29, 10)], []⟩, ⟨[(30, 11)], [5]⟩, ⟨[(30, 11)], [1]⟩, ⟨[(31, 12), (32, 13), (30, 11)], []⟩, ⟨[(30, 11), (33, 14)], []⟩, ⟨[(34, 15)], []⟩, ⟨[(35, 16)], [1]⟩, ⟨[(36, 17), (35, 16)], []⟩, ⟨[(35, 16)], [1]⟩] [(35, 16), (37, 18), (38, 19)] [0, 1, 2, 3, 5, 7, 8, 9, 10, 11, 12, 13, 14, 15, 16, 17, 18, 39, 40, 41] rfl (by kernel_rfl) (by kernel_rfl) rfl rfl (by kernel_rfl) (by kernel_rfl) (by kernel_rfl) rfl ?obs5 ?end5
  case obs5 =>
    refine Obs.cons ?_ ?_
    · refine obS (by kernel_rfl) rfl rfl (fun ph5 w5 hO5 => ?_)
      refine VL.move rfl ?_
      exact VL.finS hO5 rfl rfl
    refine Obs.cons ?_ ?_
    · refine obS (by kernel_rfl) rfl rfl (fun ph5 w5 hO5 => ?_)
      rintro _ rfl
      refine VL.move rfl ?_
      exact VL.finS hO5 rfl rfl
    refine Obs.cons ?_ ?_
    · refine obS (by kernel_rfl) rfl rfl (fun ph5 w5 hO5 => ?_)
      rintro _ rfl
      refine VL.go rfl rfl rfl ?_
      refine VL.move rfl ?_
      exact VL.finS hO5 rfl rfl
    refine Obs.cons ?_ ?_
    · refine ob (by kernel_rfl) rfl (by kernel_rfl) rfl (fun w5 hO5 => ?_)
      rintro _ rfl
      refine VL.go rfl rfl rfl ?_
      refine VL.loads (cs := cat (bundleV (x))) 1 0 6 rfl kd82 (fun _ e => e ▸ hO5) rfl rfl rfl rfl ?_
      exact VL.finS hO5 rfl rfl
    refine Obs.cons ?_ ?_
    · refine ob (by kernel_rfl) rfl (by kernel_rfl) rfl (fun w5 hO5 => ?_)
      rintro _ rfl _ rfl
      refine VL.go rfl rfl rfl ?_
      refine VL.toOwn hO5 ?_
      refine VL.call Try.func62 rfl (by decide) rfl (fun w' hw => refBundle_w hw (x := x) hx) (fun v => ?_)
      refine VL.at (fun w10 h1w => ?_)
      obtain ⟨p11, c12, rfl, hO14, hA13⟩ := h1w
      refine VL.toOwn hO14 ?_
      exact VL.finO rfl (fun _ h => h.sub (fun _ hs => by repeat (first | exact hs | apply List.mem_cons_of_mem))) (fun _ h => ⟨_, _, rfl, (hA13.now (s := ⟨w10, _⟩) Mono.byte h (by repeat (first | exact List.mem_cons_self .. | apply List.mem_cons_of_mem)))⟩)
    refine Obs.cons ?_ ?_
    · refine ob (by kernel_rfl) rfl (by kernel_rfl) rfl (fun w5 hO5 => ?_)
      rintro _ rfl _ ⟨p5_4, c5_4, rfl, hA5_4⟩ _ rfl
      refine VL.go rfl rfl rfl ?_
      refine VL.toOwn hO5 ?_
      refine VL.call Try.func27 rfl (by decide) rfl (fun w' hw => bytes_T hw (hA6.now (s := ⟨w3, _⟩) Mono.byte hw (by repeat (first | exact List.mem_cons_self .. | apply List.mem_cons_of_mem))) (hA5_4.now (s := ⟨w5, _⟩) Mono.byte hw (by repeat (first | exact List.mem_cons_self .. | apply List.mem_cons_of_mem))) rfl) (fun v => ?_)
      refine VL.fact fun e15 => ?_
      subst e15
      exact VL.finO rfl (fun _ h => h.sub (fun _ hs => by repeat (first | exact hs | apply List.mem_cons_of_mem))) (fun _ h => rfl)
    refine Obs.cons ?_ ?_
    · refine obS (by kernel_rfl) rfl rfl (fun ph5 w5 hO5 => ?_)
      rintro _ rfl _ rfl
      refine VL.pick_t rfl rfl ?_
      exact VL.finS hO5 rfl rfl
    refine Obs.cons ?_ ?_
    · refine obS (by kernel_rfl) rfl rfl (fun ph5 w5 hO5 => ?_)
      rintro _ rfl
      refine VL.move rfl ?_
      exact VL.finS hO5 rfl rfl
    refine Obs.cons ?_ ?_
    · refine obS (by kernel_rfl) rfl rfl (fun ph5 w5 hO5 => ?_)
      rintro _ rfl
      refine VL.go rfl rfl rfl ?_
      refine VL.move rfl ?_
      exact VL.finS hO5 rfl rfl
    refine Obs.cons ?_ ?_
    · refine obS (by kernel_rfl) rfl rfl (fun ph5 w5 hO5 => ?_)
      rintro _ rfl _ rfl
      refine VL.go rfl rfl rfl ?_
      refine VL.eql rfl rfl ?_
      refine VL.yes (err_0 hb) ?_
      exact VL.finS hO5 rfl rfl
    refine Obs.cons ?_ ?_
    · refine obS (by kernel_rfl) rfl rfl (fun ph5 w5 hO5 => ?_)
      rintro _ rfl _ rfl
      refine VL.pick_t rfl rfl ?_
      exact VL.finS hO5 rfl rfl
    refine Obs.cons ?_ ?_
    · refine obS (by kernel_rfl) rfl rfl (fun ph5 w5 hO5 => ?_)
      rintro _ rfl
      refine VL.move rfl ?_
      exact VL.finS hO5 rfl rfl
    refine Obs.cons ?_ ?_
    · refine ob (by kernel_rfl) rfl (by kernel_rfl) rfl (fun w5 hO5 => ?_)
      rintro _ rfl
      refine VL.go rfl rfl rfl ?_
      refine VL.loads (cs := cat (bundleV (((bundleR ((bundleB x))).getD bundle0)))) 0 0 6 rfl kd82 (fun _ e => e ▸ hO5) rfl rfl rfl rfl ?_
      exact VL.finS hO5 rfl rfl
    refine Obs.cons ?_ ?_
    · refine ob (by kernel_rfl) rfl (by kernel_rfl) rfl (fun w5 hO5 => ?_)
      rintro _ rfl
      refine VL.go rfl rfl rfl ?_
      refine VL.loads (cs := cat (bundleV (x))) 1 0 6 rfl kd82 (fun _ e => e ▸ hO5) rfl rfl rfl rfl ?_
      exact VL.finS hO5 rfl rfl
    refine Obs.cons ?_ ?_
    · refine obS (by kernel_rfl) rfl rfl (fun ph5 w5 hO5 => ?_)
      rintro _ rfl _ rfl _ rfl
      refine VL.go rfl rfl rfl ?_
      refine VL.eqT guard82 rfl rfl (eqBundle (bundleR_ok _) hx) (fun b h => ?_)
      obtain rfl : b = true := h.2 (back_is hb)
      exact VL.finS hO5 rfl rfl
    refine Obs.cons ?_ ?_
    · refine obS (by kernel_rfl) rfl rfl (fun ph5 w5 hO5 => ?_)
      rintro _ rfl _ rfl
      refine VL.pick_t rfl rfl ?_
      exact VL.finS hO5 rfl rfl
    refine Obs.cons ?_ ?_
    · refine obS (by kernel_rfl) rfl rfl (fun ph5 w5 hO5 => ?_)
      rintro _ rfl
      refine VL.move rfl ?_
      exact VL.finS hO5 rfl rfl
    refine Obs.cons ?_ ?_
    · refine ob (by kernel_rfl) rfl (by kernel_rfl) rfl (fun w5 hO5 => ?_)
      rintro _ rfl
      refine VL.go rfl rfl rfl ?_
      refine VL.loads (cs := cat (bundleV (x))) 1 0 6 rfl kd82 (fun _ e => e ▸ hO5) rfl rfl rfl rfl ?_
      exact VL.finS hO5 rfl rfl
    refine Obs.cons ?_ ?_
    · refine ob (by kernel_rfl) rfl (by kernel_rfl) rfl (fun w5 hO5 => ?_)
      rintro _ rfl _ rfl
      refine VL.go rfl rfl rfl ?_
      refine VL.toOwn hO5 ?_
      refine VL.call Try.func63 rfl (by decide) rfl (fun w' hw => bundleText_w hw hx ) (fun v => ?_)
      refine VL.at (fun w16 h1w => ?_)
      obtain ⟨p17, c18, rfl, hO20, hA19⟩ := h1w
      refine VL.toOwn hO20 ?_
      exact VL.finO rfl (fun _ h => h.sub (fun _ hs => by repeat (first | exact hs | apply List.mem_cons_of_mem))) (fun _ h => ⟨_, _, rfl, (hA19.now (s := ⟨w16, _⟩) Mono.byte h (by repeat (first | exact List.mem_cons_self .. | apply List.mem_cons_of_mem)))⟩)
    refine Obs.cons ?_ ?_
    · refine ob (by kernel_rfl) rfl (by kernel_rfl) rfl (fun w5 hO5 => ?_)
      rintro _ rfl
      refine VL.go rfl rfl rfl ?_
      refine VL.loads (cs := cat (bundleV (x))) 1 0 6 rfl kd82 (fun _ e => e ▸ hO5) rfl rfl rfl rfl ?_
      exact VL.finS hO5 rfl rfl
    exact Obs.nil
  case end5 =>
    intro w5 hO5
    rintro _ rfl _ ⟨p5_18, c5_18, rfl, hA5_18⟩ _ rfl
    refine VL.toOwn hO5 ?_
    refine VL.go rfl rfl rfl ?_
    refine VL.call Try.func64 rfl (by decide) rfl (fun w' hw => refBundleText_w hw (solid_cons (blk_solid _ _ _ _) (solid_cons (blk_solid _ _ _ _) hsol)) hx ) (fun v => ?_)
    refine VL.at (fun w21 h1w => ?_)
    obtain ⟨p22, c23, rfl, hO25, hA24⟩ := h1w
    refine VL.toOwn hO25 ?_
    refine VL.go rfl rfl rfl ?_
    refine VL.call Try.func27 rfl (by decide) rfl (fun w' hw => bytes_T hw (hA5_18.now (s := ⟨w5, _⟩) Mono.byte hw (by repeat (first | exact List.mem_cons_self .. | apply List.mem_cons_of_mem))) (hA24.now (s := ⟨w21, _⟩) Mono.byte hw (by repeat (first | exact List.mem_cons_self .. | apply List.mem_cons_of_mem))) rfl) (fun v => ?_)
    refine VL.fact fun e26 => ?_
    subst e26
    refine VL.pick_t rfl rfl ?_
    refine VL.assign rfl ?_
    refine VL.nil ?_
    refine VX.next ?_
    refine VC.ret ?_
    refine VX.ret1 rfl rfl (fun we hw => ?_)
    exact ⟨rfl, hw.drop.drop.sub (fun _ hs => by repeat (first | exact hs | apply List.mem_cons_of_mem))⟩

theorem wireObjects_w {S : List Snap} {H : List Chunk} {w : World} (ho : Own S H w) (hsol : ∀ c ∈ H, Solid c) {x : Object} (hx : x.ok) {q : Option Addr} {d : Nat} (hV : Arr 65 vouchR (keys H) w q x.vouches d) (s : Nat) (hs : s < 256) : Calls Try.prog 15 #[.agg (cat (objectV x q d)).toArray, .int .u8 (s : Int)] w (Ret fun v w' => v = .bool true ∧ Own S H w') := by
  refine enter (G := Own (⟨w, keys H⟩ :: S) H) ho.keep Try.func15 rfl Try.ntmps15 rfl ?_
  refine VC.seq ?_
  refine VC.region ?_
  refine VL.box (L := objectL) (ps := (objectV (x) q d)) rfl rfl (objectV_len hx) (fun g1 => ?_)
  refine VL.assign rfl ?_
  refine VL.nil ?_
  refine VX.next ?_
  refine VC.seq ?_
  refine VC.seq ?_
  refine VC.region ?_
  refine VL.call Try.func49 rfl (by decide) rfl (fun w' hw => alive_w hw) (fun v => ?_)
  refine VL.fact fun e2 => ?_
  subst e2
  refine VL.not rfl ?_
  refine VL.nil ?_
  refine VX.next ?_
  refine VC.no rfl ?_
  refine VC.skip ?_
  refine VX.next ?_
  refine VC.seq ?_
  refine VC.region ?_
  refine VL.loads (cs := cat (objectV (x) q d)) 0 0 7 rfl kd85 (fun _ h => h) rfl rfl rfl rfl ?_
  refine VL.call Try.func65 rfl (by decide) rfl (fun w' hw => putObject_w hw (x := x) hx (hV.now (s := ⟨w, _⟩) Mono_vouch hw (by repeat (first | exact List.mem_cons_self .. | apply List.mem_cons_of_mem)))) (fun v => ?_)
  refine VL.at (fun w3 h1w => ?_)
  obtain ⟨p4, c5, rfl, hO7, hA6⟩ := h1w
  refine VL.toOwn hO7 ?_
  refine VL.move rfl ?_
  refine VL.extract rfl rfl ?_
  refine VL.extract rfl rfl ?_
  refine VL.assign rfl ?_
  refine VL.assign rfl ?_
  refine VL.nil ?_
  refine VX.next ?_
  refine VC.seq ?_
  refine VC.region ?_
  refine VL.loads (cs := cat (objectV (x) q d)) 0 0 7 rfl kd85 (fun _ h => h) rfl rfl rfl rfl ?_
  refine VL.call Try.func66 rfl (by decide) rfl (fun w' hw => refObject_w hw (x := x) hx (hV.now (s := ⟨w, _⟩) Mono_vouch hw (by repeat (first | exact List.mem_cons_self .. | apply List.mem_cons_of_mem)))) (fun v => ?_)
  refine VL.at (fun w8 h1w => ?_)
  obtain ⟨p9, c10, rfl, hO12, hA11⟩ := h1w
  refine VL.toOwn hO12 ?_
  refine VL.move rfl ?_
  refine VL.extract rfl rfl ?_
  refine VL.extract rfl rfl ?_
  refine VL.assign rfl ?_
  refine VL.assign rfl ?_
  refine VL.nil ?_
  refine VX.next ?_
  refine VC.seq ?_
  refine VC.seq ?_
  apply VC.anyTA 23 1027 (F := [eqF _, eqF _, eqF _, eqF _, eqF _, eqF _, eqF _, eqF _, eqF _, eqF _, eqF _, bytesF ((objectT x)), eqF _, bytesF ((objectT x)), eqF _, eqF _, eqF _, eqF _, eqF _, eqF _, bytesF ((vouchT x (s))), eqF _, eqF _]) [⟨[], [6]⟩, ⟨[], [8]⟩, ⟨[(23, 0), (24, 1)], []⟩, ⟨[(25, 2)], []⟩, ⟨[(26, 3)], [5]⟩, ⟨[(26, 3)], [7]⟩, ⟨[(27, 4), (28, 5), (26, 3)], []⟩, ⟨[(29, 6), (26, 3)], []⟩, ⟨[(26, 3), (30, 7)], []⟩, ⟨[(31, 8)], []⟩, ⟨[(32, 9)], [2]⟩, ⟨[(33, 10), (32, 9)], []⟩, ⟨[(32, 9)], [2]⟩, ⟨[(35, 12), (32, 9)], []⟩, ⟨[(34, 11), (36, 13), (32, 9)], []⟩, ⟨[(37, 14), (32, 9)], []⟩, ⟨[(32, 9), (38, 15)], []⟩, ⟨[(39, 16)], []⟩, ⟨[(40, 17)], [2]⟩, ⟨[(40, 17)], [1]⟩, ⟨[(41, 18), (42, 19), (40, 17)], []⟩, ⟨[(40, 17)], [2]⟩, ⟨[(40, 17)], [1]⟩] [(40, 17), (43, 20), (44, 21), (45, 22)] [0, 2, 4, 5, 6, 9, 10, 11, 12, 13, 14, 15, 16, 17, 18, 19, 20, 21, 22, 46, 47, 48, 49, 50, 51, 52, 53, 54, 55, 56, 57, 58, 59, 60, 61, 62, 63, 64, 65] rfl (by kernel_rfl) (by kernel_rfl) rfl rfl (by kernel_rfl) (by kernel_rfl) (by kernel_rfl) rfl ?obs5 ?end5
  case obs5 =>
    refine Obs.cons ?_ ?_
    · refine obS (by kernel_rfl) rfl rfl (fun ph5 w5 hO5 => ?_)
      refine VL.move rfl ?_
      exact VL.finS hO5 rfl rfl
    refine Obs.cons ?_ ?_
    · refine obS (by kernel_rfl) rfl rfl (fun ph5 w5 hO5 => ?_)
      refine VL.move rfl ?_
      exact VL.finS hO5 rfl rfl
    refine Obs.cons ?_ ?_
    · refine obS (by kernel_rfl) rfl rfl (fun ph5 w5 hO5 => ?_)
      rintro _ rfl _ rfl
      refine VL.neb Try.underlying4 rfl rfl ?_
      refine VL.sets (show _ = false by simp) ?_
      exact VL.finS hO5 rfl rfl
    refine Obs.cons ?_ ?_
    · refine obS (by kernel_rfl) rfl rfl (fun ph5 w5 hO5 => ?_)
      rintro _ rfl
      refine VL.move rfl ?_
      exact VL.finS hO5 rfl rfl
    refine Obs.cons ?_ ?_
    · refine obS (by kernel_rfl) rfl rfl (fun ph5 w5 hO5 => ?_)
      rintro _ rfl
      refine VL.go rfl rfl rfl ?_
      refine VL.move rfl ?_
      exact VL.finS hO5 rfl rfl
    refine Obs.cons ?_ ?_
    · refine obS (by kernel_rfl) rfl rfl (fun ph5 w5 hO5 => ?_)
      rintro _ rfl
      refine VL.go rfl rfl rfl ?_
      refine VL.move rfl ?_
      exact VL.finS hO5 rfl rfl
    refine Obs.cons ?_ ?_
    · refine ob (by kernel_rfl) rfl (by kernel_rfl) rfl (fun w5 hO5 => ?_)
      rintro _ rfl _ rfl _ rfl
      refine VL.go rfl rfl rfl ?_
      refine VL.toOwn hO5 ?_
      refine VL.call Try.func27 rfl (by decide) rfl (fun w' hw => bytes_T hw (hA6.now (s := ⟨w3, _⟩) Mono.byte hw (by repeat (first | exact List.mem_cons_self .. | apply List.mem_cons_of_mem))) (hA11.now (s := ⟨w8, _⟩) Mono.byte hw (by repeat (first | exact List.mem_cons_self .. | apply List.mem_cons_of_mem))) rfl) (fun v => ?_)
      refine VL.fact fun e13 => ?_
      subst e13
      exact VL.finO rfl (fun _ h => h.sub (fun _ hs => by repeat (first | exact hs | apply List.mem_cons_of_mem))) (fun _ h => rfl)
    refine Obs.cons ?_ ?_
    · refine obS (by kernel_rfl) rfl rfl (fun ph5 w5 hO5 => ?_)
      rintro _ rfl _ rfl
      refine VL.go rfl rfl rfl ?_
      refine VL.not rfl ?_
      exact VL.finS hO5 rfl rfl
    refine Obs.cons ?_ ?_
    · refine obS (by kernel_rfl) rfl rfl (fun ph5 w5 hO5 => ?_)
      rintro _ rfl _ rfl
      refine VL.pick_f rfl rfl ?_
      exact VL.finS hO5 rfl rfl
    refine Obs.cons ?_ ?_
    · refine obS (by kernel_rfl) rfl rfl (fun ph5 w5 hO5 => ?_)
      rintro _ rfl
      refine VL.move rfl ?_
      exact VL.finS hO5 rfl rfl
    refine Obs.cons ?_ ?_
    · refine ob (by kernel_rfl) rfl (by kernel_rfl) rfl (fun w5 hO5 => ?_)
      rintro _ rfl
      refine VL.go rfl rfl rfl ?_
      refine VL.loads (cs := cat (objectV (x) q d)) 0 0 7 rfl kd85 (fun _ e => e ▸ hO5) rfl rfl rfl rfl ?_
      exact VL.finS hO5 rfl rfl
    refine Obs.cons ?_ ?_
    · refine ob (by kernel_rfl) rfl (by kernel_rfl) rfl (fun w5 hO5 => ?_)
      rintro _ rfl _ rfl
      refine VL.go rfl rfl rfl ?_
      refine VL.toOwn hO5 ?_
      refine VL.call Try.func67 rfl (by decide) rfl (fun w' hw => objectText_w hw hx (q) (d)) (fun v => ?_)
      refine VL.at (fun w14 h1w => ?_)
      obtain ⟨p15, c16, rfl, hO18, hA17⟩ := h1w
      refine VL.toOwn hO18 ?_
      exact VL.finO rfl (fun _ h => h.sub (fun _ hs => by repeat (first | exact hs | apply List.mem_cons_of_mem))) (fun _ h => ⟨_, _, rfl, (hA17.now (s := ⟨w14, _⟩) Mono.byte h (by repeat (first | exact List.mem_cons_self .. | apply List.mem_cons_of_mem)))⟩)
    refine Obs.cons ?_ ?_
    · refine ob (by kernel_rfl) rfl (by kernel_rfl) rfl (fun w5 hO5 => ?_)
      rintro _ rfl
      refine VL.go rfl rfl rfl ?_
      refine VL.loads (cs := cat (objectV (x) q d)) 0 0 7 rfl kd85 (fun _ e => e ▸ hO5) rfl rfl rfl rfl ?_
      exact VL.finS hO5 rfl rfl
    refine Obs.cons ?_ ?_
    · refine ob (by kernel_rfl) rfl (by kernel_rfl) rfl (fun w5 hO5 => ?_)
      rintro _ rfl _ rfl
      refine VL.go rfl rfl rfl ?_
      refine VL.toOwn hO5 ?_
      refine VL.call Try.func68 rfl (by decide) rfl (fun w' hw => refObjectText_w hw (solid_cons (blk_solid _ _ _ _) hsol) hx (q) (d)) (fun v => ?_)
      refine VL.at (fun w19 h1w => ?_)
      obtain ⟨p20, c21, rfl, hO23, hA22⟩ := h1w
      refine VL.toOwn hO23 ?_
      exact VL.finO rfl (fun _ h => h.sub (fun _ hs => by repeat (first | exact hs | apply List.mem_cons_of_mem))) (fun _ h => ⟨_, _, rfl, (hA22.now (s := ⟨w19, _⟩) Mono.byte h (by repeat (first | exact List.mem_cons_self .. | apply List.mem_cons_of_mem)))⟩)
    refine Obs.cons ?_ ?_
    · refine ob (by kernel_rfl) rfl (by kernel_rfl) rfl (fun w5 hO5 => ?_)
      rintro _ ⟨p5_11, c5_11, rfl, hA5_11⟩ _ ⟨p5_13, c5_13, rfl, hA5_13⟩ _ rfl
      refine VL.go rfl rfl rfl ?_
      refine VL.toOwn hO5 ?_
      refine VL.call Try.func27 rfl (by decide) rfl (fun w' hw => bytes_T hw (hA5_11.now (s := ⟨w5, _⟩) Mono.byte hw (by repeat (first | exact List.mem_cons_self .. | apply List.mem_cons_of_mem))) (hA5_13.now (s := ⟨w5, _⟩) Mono.byte hw (by repeat (first | exact List.mem_cons_self .. | apply List.mem_cons_of_mem))) rfl) (fun v => ?_)
      refine VL.fact fun e24 => ?_
      subst e24
      exact VL.finO rfl (fun _ h => h.sub (fun _ hs => by repeat (first | exact hs | apply List.mem_cons_of_mem))) (fun _ h => rfl)
    refine Obs.cons ?_ ?_
    · refine obS (by kernel_rfl) rfl rfl (fun ph5 w5 hO5 => ?_)
      rintro _ rfl _ rfl
      refine VL.go rfl rfl rfl ?_
      refine VL.not rfl ?_
      exact VL.finS hO5 rfl rfl
    refine Obs.cons ?_ ?_
    · refine obS (by kernel_rfl) rfl rfl (fun ph5 w5 hO5 => ?_)
      rintro _ rfl _ rfl
      refine VL.pick_f rfl rfl ?_
      exact VL.finS hO5 rfl rfl
    refine Obs.cons ?_ ?_
    · refine obS (by kernel_rfl) rfl rfl (fun ph5 w5 hO5 => ?_)
      rintro _ rfl
      refine VL.move rfl ?_
      exact VL.finS hO5 rfl rfl
    refine Obs.cons ?_ ?_
    · refine ob (by kernel_rfl) rfl (by kernel_rfl) rfl (fun w5 hO5 => ?_)
      rintro _ rfl
      refine VL.go rfl rfl rfl ?_
      refine VL.loads (cs := cat (objectV (x) q d)) 0 0 7 rfl kd85 (fun _ e => e ▸ hO5) rfl rfl rfl rfl ?_
      exact VL.finS hO5 rfl rfl
    refine Obs.cons ?_ ?_
    · refine obS (by kernel_rfl) rfl rfl (fun ph5 w5 hO5 => ?_)
      rintro _ rfl
      refine VL.go rfl rfl rfl ?_
      refine VL.move rfl ?_
      exact VL.finS hO5 rfl rfl
    refine Obs.cons ?_ ?_
    · refine ob (by kernel_rfl) rfl (by kernel_rfl) rfl (fun w5 hO5 => ?_)
      rintro _ rfl _ rfl _ rfl
      refine VL.go rfl rfl rfl ?_
      refine VL.toOwn hO5 ?_
      refine VL.call Try.func69 rfl (by decide) rfl (fun w' hw => vouchText_w hw hx (q) (d) (s) hs) (fun v => ?_)
      refine VL.at (fun w25 h1w => ?_)
      obtain ⟨p26, c27, rfl, hO29, hA28⟩ := h1w
      refine VL.toOwn hO29 ?_
      exact VL.finO rfl (fun _ h => h.sub (fun _ hs => by repeat (first | exact hs | apply List.mem_cons_of_mem))) (fun _ h => ⟨_, _, rfl, (hA28.now (s := ⟨w25, _⟩) Mono.byte h (by repeat (first | exact List.mem_cons_self .. | apply List.mem_cons_of_mem)))⟩)
    refine Obs.cons ?_ ?_
    · refine ob (by kernel_rfl) rfl (by kernel_rfl) rfl (fun w5 hO5 => ?_)
      rintro _ rfl
      refine VL.go rfl rfl rfl ?_
      refine VL.loads (cs := cat (objectV (x) q d)) 0 0 7 rfl kd85 (fun _ e => e ▸ hO5) rfl rfl rfl rfl ?_
      exact VL.finS hO5 rfl rfl
    refine Obs.cons ?_ ?_
    · refine obS (by kernel_rfl) rfl rfl (fun ph5 w5 hO5 => ?_)
      rintro _ rfl
      refine VL.go rfl rfl rfl ?_
      refine VL.move rfl ?_
      exact VL.finS hO5 rfl rfl
    exact Obs.nil
  case end5 =>
    intro w5 hO5
    rintro _ rfl _ ⟨p5_20, c5_20, rfl, hA5_20⟩ _ rfl _ rfl
    refine VL.toOwn hO5 ?_
    refine VL.go rfl rfl rfl ?_
    refine VL.call Try.func70 rfl (by decide) rfl (fun w' hw => refVouchText_w hw (solid_cons (blk_solid _ _ _ _) hsol) hx (q) (d) (s) hs) (fun v => ?_)
    refine VL.at (fun w30 h1w => ?_)
    obtain ⟨p31, c32, rfl, hO34, hA33⟩ := h1w
    refine VL.toOwn hO34 ?_
    refine VL.go rfl rfl rfl ?_
    refine VL.call Try.func27 rfl (by decide) rfl (fun w' hw => bytes_T hw (hA5_20.now (s := ⟨w5, _⟩) Mono.byte hw (by repeat (first | exact List.mem_cons_self .. | apply List.mem_cons_of_mem))) (hA33.now (s := ⟨w30, _⟩) Mono.byte hw (by repeat (first | exact List.mem_cons_self .. | apply List.mem_cons_of_mem))) rfl) (fun v => ?_)
    refine VL.fact fun e35 => ?_
    subst e35
    refine VL.go rfl rfl rfl ?_
    refine VL.not rfl ?_
    refine VL.pick_f rfl rfl ?_
    refine VL.nil ?_
    refine VX.next ?_
    refine VC.no rfl ?_
    refine VC.skip ?_
    refine VX.next ?_
    refine VC.seq ?_
    refine VC.region ?_
    refine VL.move rfl ?_
    refine VL.call Try.func71 rfl (by decide) rfl (fun w' hw => getObject_w hw (hA6.now (s := ⟨w3, _⟩) Mono.byte hw (by repeat (first | exact List.mem_cons_self .. | apply List.mem_cons_of_mem)))) (fun v => ?_)
    refine VL.at (fun w36 h1w => ?_)
    obtain ⟨p38, c39, rfl, hO37, hA40⟩ := h1w
    refine VL.toOwn hO37 ?_
    refine VL.move rfl ?_
    refine VL.extract rfl rfl ?_
    refine VL.extract rfl rfl ?_
    refine VL.alloc (L := objectL) (ps := (objectV (object0) none 0)) zero85 rfl rfl (fun g41 => ?_)
    refine VL.store (L := objectL) (qs := (objectV (((objectR (((objectO x).getD []))).getD object0)) p38 c39)) (ps' := (objectV (((objectR (((objectO x).getD []))).getD object0)) p38 c39)) 0 0 7 rfl rfl rfl (.inl kd85) rfl rfl (objectV_len (objectR_ok (((objectO x).getD [])))) (objectV_ok1 (((objectR (((objectO x).getD []))).getD object0)) p38 c39) rfl rfl ?_
    refine VL.turn (G' := Own _ (blk g41 85 objectL (objectV (((objectR (((objectO x).getD []))).getD object0)) p38 c39) :: blk g1 85 objectL (objectV (x) q d) :: H)) (fun _ h => h) ?_
    refine VL.assign rfl ?_
    refine VL.nil ?_
    refine VX.next ?_
    refine VC.seq ?_
    refine VC.region ?_
    refine VL.move rfl ?_
    cases hs2 : (objectO x).isSome
    · refine VL.not rfl ?_
      refine VL.move rfl ?_
      refine VL.pass rfl rfl rfl rfl rfl ?_
      refine VL.pass rfl rfl rfl rfl rfl ?_
      refine VL.pass rfl rfl rfl rfl rfl ?_
      refine VL.passu rfl rfl rfl rfl ?_
      refine VL.passu rfl rfl rfl rfl ?_
      refine VL.passu rfl rfl rfl rfl ?_
      refine VL.pass rfl rfl rfl rfl rfl ?_
      refine VL.pick_t rfl rfl ?_
      refine VL.assign rfl ?_
      refine VL.nil ?_
      refine VX.next ?_
      refine VC.ret ?_
      refine VX.ret1 rfl rfl (fun we hw => ?_)
      exact ⟨rfl, hw.drop.drop.sub (fun _ hs => by repeat (first | exact hs | apply List.mem_cons_of_mem))⟩
    · have hb := object_back hx hs2
      refine VL.not rfl ?_
      refine VL.move rfl ?_
      refine VL.go rfl rfl rfl ?_
      refine VL.move rfl ?_
      refine VL.go rfl rfl rfl ?_
      refine VL.eql rfl rfl ?_
      refine VL.yes (err_0 hb) ?_
      refine VL.go rfl rfl rfl ?_
      refine VL.move rfl ?_
      refine VL.go rfl rfl rfl ?_
      refine VL.loads (cs := cat (objectV (x) q d)) 1 0 7 rfl kd85 (fun _ h => h) rfl rfl rfl rfl ?_
      refine VL.go rfl rfl rfl ?_
      refine VL.loads (cs := cat (objectV (((objectR (((objectO x).getD []))).getD object0)) p38 c39)) 0 0 7 rfl kd85 (fun _ h => h) rfl rfl rfl rfl ?_
      refine VL.go rfl rfl rfl ?_
      refine VL.call Try.func72 rfl (by decide) rfl (fun w' hw => sameObjects_e hw hx (hV.now (s := ⟨w, _⟩) Mono_vouch hw (by repeat (first | exact List.mem_cons_self .. | apply List.mem_cons_of_mem))) (hA40.now (s := ⟨w36, _⟩) Mono_vouch hw (by repeat (first | exact List.mem_cons_self .. | apply List.mem_cons_of_mem))) (back_is hb)) (fun v => ?_)
      refine VL.fact fun e42 => ?_
      subst e42
      refine VL.go rfl rfl rfl ?_
      refine VL.pick_t rfl rfl ?_
      refine VL.pick_f rfl rfl ?_
      refine VL.assign rfl ?_
      refine VL.nil ?_
      refine VX.next ?_
      refine VC.ret ?_
      refine VX.ret1 rfl rfl (fun we hw => ?_)
      exact ⟨rfl, hw.drop.drop.sub (fun _ hs => by repeat (first | exact hs | apply List.mem_cons_of_mem))⟩

end Go.Proofs.Ytcfecmoagfgnaaa
