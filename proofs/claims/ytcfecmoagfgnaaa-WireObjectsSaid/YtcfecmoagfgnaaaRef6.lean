/- The laws on bundles and objects. -/
import Derived.Test.YtcfecmoagfgnaaaVcMark
namespace Go.Proofs.Ytcfecmoagfgnaaa
open Go.Vc Go.Pl

theorem postS {S : List Snap} {H : List Chunk} {l l' : List UInt8} (e : l' = l) {v : Value} {w' : World} (h : ∃ p c, v = .slice p l'.length c ∧ Own S H w' ∧ Bytes (keys H) w' p l' c) : ∃ p c, v = .slice p l.length c ∧ Own S H w' ∧ Bytes (keys H) w' p l c := by subst e; exact h
theorem solid_cons {c : Chunk} {H : List Chunk} (h1 : Solid c) (h : ∀ c ∈ H, Solid c) : ∀ c' ∈ c :: H, Solid c' := fun c' hc => by
  rcases List.mem_cons.1 hc with rfl | hc
  · exact h1
  · exact h c' hc
def bundleTP (x : Bundle) : List (List UInt8) := [[111, 110, 99, 101], be 1 x.device, x.agree, x.signer, be 2 x.id, x.once]
def bundleT (x : Bundle) : List UInt8 := joinB (bundleTP x)
theorem bundleTP_ok {x : Bundle} (h : x.ok) : joinOk (bundleTP x) := by
  refine ⟨by simp [bundleTP], fun p hp => ?_⟩
  simp only [bundleTP, List.mem_cons, List.not_mem_nil, or_false] at hp
  rcases hp with rfl | rfl | rfl | rfl | rfl | rfl <;> simp [be_length, h.agree, h.signer, h.once]
def objectTP (x : Object) : List (List UInt8) := [[107, 101, 121], be 1 x.server, be 1 x.n, x.key, be 4 x.since, be 4 x.till]
def objectT (x : Object) : List UInt8 := joinB (objectTP x)
theorem objectTP_ok {x : Object} (h : x.ok) : joinOk (objectTP x) := by
  refine ⟨by simp [objectTP], fun p hp => ?_⟩
  simp only [objectTP, List.mem_cons, List.not_mem_nil, or_false] at hp
  rcases hp with rfl | rfl | rfl | rfl | rfl | rfl <;> simp [be_length, h.key]
theorem objectT_length {x : Object} (h : x.ok) : (objectT x).length ≤ 4096 := by
  simp [objectT, objectTP, joinB, body, be_length, h.key]
def vouchTP (x : Object) (s : Nat) : List (List UInt8) := [[118, 111, 117, 99, 104], be 1 s, objectT x]
def vouchT (x : Object) (s : Nat) : List UInt8 := joinB (vouchTP x s)
theorem vouchTP_ok {x : Object} (h : x.ok) (s : Nat) : joinOk (vouchTP x s) := by
  refine ⟨by simp [vouchTP], fun p hp => ?_⟩
  simp only [vouchTP, List.mem_cons, List.not_mem_nil, or_false] at hp
  rcases hp with rfl | rfl | rfl
  · simp
  · simp [be_length]
  · exact objectT_length h

theorem bundleText_w {S : List Snap} {H : List Chunk} {w : World} (ho : Own S H w) {x : Bundle} (hx : x.ok) : Calls Try.prog 63 #[.agg (cat (bundleV x)).toArray] w (Ret fun v w' => ∃ p c, v = .slice p (bundleT x).length c ∧ Own S H w' ∧ Bytes (keys H) w' p (bundleT x) c) := by
  have hx1 := hx.device
  have hx2 := hx.id
  refine enter (G := Own (⟨w, keys H⟩ :: S) H) ho.keep Try.func63 rfl Try.ntmps63 rfl ?_
  refine VC.seq ?_
  refine VC.region ?_
  refine VL.box (L := bundleL) (ps := (bundleV (x))) rfl rfl (bundleV_len hx) (fun g1 => ?_)
  refine VL.assign rfl ?_
  refine VL.nil ?_
  refine VX.next ?_
  refine VC.seq ?_
  refine VC.region ?_
  refine VL.lit el24 rfl rfl rfl (by simp [Value.cells]) (ok1_bytes ([111, 110, 99, 101] : List UInt8)) (fun g2 => ?_)
  refine VL.constBytes (l := ([111, 110, 99, 101] : List UInt8)) Try.underlying24 Try.underlying5 rfl rfl rfl (fun w3 hO4 hA5 => ?_)
  refine VL.litB [([111, 110, 99, 101] : List UInt8)] el31 rfl rfl rfl (by simp [Value.cells]) (by intro u hu; simp [Value.cells] at hu; rcases hu with rfl <;> rfl) rfl (fun _ w' hw => ⟨⟨_, _, rfl, (hA5.now (s := ⟨w3, _⟩) Mono.byte hw (by repeat (first | exact List.mem_cons_self .. | apply List.mem_cons_of_mem)))⟩, trivial⟩) (fun v => ?_)
  refine VL.ex fun g6 => VL.fact fun e7 => ?_
  subst e7
  refine VL.build (zs := [[.slice none 0 0], [.bool false]]) [(0, [rowV (some g6) 1 1])] plan181 rfl ⟨⟨rfl, ⟨_, rfl, rfl⟩, rfl⟩, trivial⟩ rfl ?_
  refine VL.box (L := [1, 1]) (ps := [[rowV (some g6) 1 1], [.bool false]]) rfl rfl rfl (fun g8 => ?_)
  refine VL.turn (G' := Own _ (wblk g8 (some g6) 1 ([([111, 110, 99, 101] : List UInt8)]).length false :: brow (some g6) 1 ([([111, 110, 99, 101] : List UInt8)]) :: blk g1 82 bundleL (bundleV (x)) :: H)) (fun _ h => h) ?_
  refine VL.assign rfl ?_
  refine VL.nil ?_
  refine VX.next ?_
  refine VC.seq ?_
  refine VC.region ?_
  refine VL.move rfl ?_
  refine VL.fieldAddr rfl fo82_0 rfl ?_
  refine VL.load (v := .int .u8 (x.device)) 2 0 rfl kd5 (fun _ h => h) rfl rfl rfl ?_
  refine VL.conv (by rw [Try.underlying5]; rfl) Try.underlying22 rfl (inr_u64 (by omega)) ?_
  refine VL.call Try.func116 rfl (by decide) rfl (fun w' hw => num_w hw (by simp only [List.length_append, List.length_cons, List.length_nil, List.length_map]; omega) (x.device) (fits_small (by omega)) 1 (by decide) (by decide) (fits1 (by omega))) (fun v => ?_)
  refine VL.fact fun e11 => ?_
  subst e11
  refine VL.ex fun gp9 => VL.ex fun c10 => ?_
  refine VL.nil ?_
  refine VX.next ?_
  refine VC.seq ?_
  refine VC.region ?_
  refine VL.move rfl ?_
  refine VL.fieldAddr rfl fo82_1 rfl ?_
  refine VL.loads (cs := (x.agree).map bv) 2 1 1 rfl kd44 (fun _ h => h) rfl rfl rfl rfl ?_
  refine VL.call Try.func119 rfl (by decide) rfl (fun w' hw => key_w hw (by simp only [List.length_append, List.length_cons, List.length_nil, List.length_map]; omega) (l := x.agree) hx.agree) (fun v => ?_)
  refine VL.fact fun e14 => ?_
  subst e14
  refine VL.ex fun gp12 => VL.ex fun c13 => ?_
  refine VL.nil ?_
  refine VX.next ?_
  refine VC.seq ?_
  refine VC.region ?_
  refine VL.move rfl ?_
  refine VL.fieldAddr rfl fo82_2 rfl ?_
  refine VL.loads (cs := (x.signer).map bv) 2 2 1 rfl kd44 (fun _ h => h) rfl rfl rfl rfl ?_
  refine VL.call Try.func119 rfl (by decide) rfl (fun w' hw => key_w hw (by simp only [List.length_append, List.length_cons, List.length_nil, List.length_map]; omega) (l := x.signer) hx.signer) (fun v => ?_)
  refine VL.fact fun e17 => ?_
  subst e17
  refine VL.ex fun gp15 => VL.ex fun c16 => ?_
  refine VL.nil ?_
  refine VX.next ?_
  refine VC.seq ?_
  refine VC.region ?_
  refine VL.move rfl ?_
  refine VL.fieldAddr rfl fo82_3 rfl ?_
  refine VL.load (v := .int .u16 (x.id)) 2 3 rfl kd68 (fun _ h => h) rfl rfl rfl ?_
  refine VL.conv (by rw [Try.underlying68]; rfl) Try.underlying22 rfl (inr_u64 (by omega)) ?_
  refine VL.call Try.func116 rfl (by decide) rfl (fun w' hw => num_w hw (by simp only [List.length_append, List.length_cons, List.length_nil, List.length_map]; omega) (x.id) (fits_small (by omega)) 2 (by decide) (by decide) (fits2 (by omega))) (fun v => ?_)
  refine VL.fact fun e20 => ?_
  subst e20
  refine VL.ex fun gp18 => VL.ex fun c19 => ?_
  refine VL.nil ?_
  refine VX.next ?_
  refine VC.seq ?_
  refine VC.region ?_
  refine VL.move rfl ?_
  refine VL.fieldAddr rfl fo82_4 rfl ?_
  refine VL.loads (cs := (x.once).map bv) 2 4 1 rfl kd44 (fun _ h => h) rfl rfl rfl rfl ?_
  refine VL.call Try.func119 rfl (by decide) rfl (fun w' hw => key_w hw (by simp only [List.length_append, List.length_cons, List.length_nil, List.length_map]; omega) (l := x.once) hx.once) (fun v => ?_)
  refine VL.fact fun e23 => ?_
  subst e23
  refine VL.ex fun gp21 => VL.ex fun c22 => ?_
  refine VL.nil ?_
  refine VX.next ?_
  refine VC.seq ?_
  refine VC.region ?_
  refine VL.move rfl ?_
  refine VL.call Try.func118 rfl (by decide) rfl (fun w' hw => done_O hw) (fun v => ?_)
  refine VL.at (fun w24 h1w => ?_)
  obtain ⟨p25, c26, rfl, hO28, hA27⟩ := h1w
  refine VL.toOwn hO28 ?_
  refine VL.move rfl ?_
  refine VL.extract rfl rfl ?_
  refine VL.extract rfl rfl ?_
  refine VL.assign rfl ?_
  refine VL.assign rfl ?_
  refine VL.nil ?_
  refine VX.next ?_
  refine VC.seq ?_
  refine VC.region ?_
  refine VL.move rfl ?_
  refine VL.assign rfl ?_
  refine VL.nil ?_
  refine VX.next ?_
  refine VC.ret ?_
  refine VX.ret1 rfl rfl (fun we hw => ?_)
  exact postS (show ((joinO (((((([([111, 110, 99, 101] : List UInt8)] ++ [be 1 (x.device)]) ++ [x.agree]) ++ [x.signer]) ++ [be 2 (x.id)]) ++ [x.once])) (!false)).getD []) = _ from (congrArg (fun o : Option (List UInt8) => o.getD []) (joinO_some (ps := bundleTP x) (ok := true) (bundleTP_ok hx) rfl))) ⟨p25, c26, rfl, hw.drop.sub (fun _ hs => by repeat (first | exact hs | apply List.mem_cons_of_mem)), (hA27.now (s := ⟨w24, _⟩) Mono.byte hw.drop (by repeat (first | exact List.mem_cons_self .. | apply List.mem_cons_of_mem)))⟩

theorem refBundleText_w {S : List Snap} {H : List Chunk} {w : World} (ho : Own S H w) (hsol : ∀ c ∈ H, Solid c) {x : Bundle} (hx : x.ok) : Calls Try.prog 64 #[.agg (cat (bundleV x)).toArray] w (Ret fun v w' => ∃ p c, v = .slice p (bundleT x).length c ∧ Own S H w' ∧ Bytes (keys H) w' p (bundleT x) c) := by
  have hx1 := hx.device
  have hx2 := hx.id
  refine enter (G := Own (⟨w, keys H⟩ :: S) H) ho.keep Try.func64 rfl Try.ntmps64 rfl ?_
  refine VC.seq ?_
  refine VC.region ?_
  refine VL.box (L := bundleL) (ps := (bundleV (x))) rfl rfl (bundleV_len hx) (fun g1 => ?_)
  refine VL.assign rfl ?_
  refine VL.nil ?_
  refine VX.next ?_
  refine VC.seq ?_
  refine VC.letCells 0 rfl (fun w2 hO4 hF3 => ?_)
  apply VC.anyTM 15 1018 (F := [freshF _ ([111, 110, 99, 101] : List UInt8), bytesF (([111, 110, 99, 101] : List UInt8)), eqF _, eqF _, capF (be 1 (x.device)) 1, eqF _, eqF _, eqF _, eqF _, eqF _, eqF _, eqF _, bytesF (be 2 (x.id)), eqF _, eqF _]) [⟨[], []⟩, ⟨[(3, 0)], []⟩, ⟨[], [1]⟩, ⟨[(5, 2)], []⟩, ⟨[(6, 3)], []⟩, ⟨[], [1]⟩, ⟨[(8, 5)], []⟩, ⟨[], [1]⟩, ⟨[(10, 7)], []⟩, ⟨[], [1]⟩, ⟨[(12, 9)], []⟩, ⟨[(13, 10)], []⟩, ⟨[(14, 11)], []⟩, ⟨[], [1]⟩, ⟨[(16, 13)], []⟩] [(4, 1), (7, 4), (9, 6), (11, 8), (15, 12), (17, 14)] [0, 2, 18, 19] rfl (by kernel_rfl) (by kernel_rfl) rfl rfl (by kernel_rfl) (by kernel_rfl) rfl ?obs1 ?last1 ?end1
  case obs1 =>
    refine Obs.cons ?_ ?_
    · refine obM (by kernel_rfl) rfl (by kernel_rfl) rfl (fun w1 hO1 => ?_)
      refine VL.toOwn hO1 ?_
      refine VL.lit el24 rfl rfl rfl (by simp [Value.cells]) (ok1_bytes ([111, 110, 99, 101] : List UInt8)) (fun g5 => ?_)
      refine VL.letFresh ([111, 110, 99, 101] : List UInt8) rfl rfl (fun w6 hO7 hA8 hN => ?_)
      exact VL.finOM rfl (fun _ h => h.sub (fun _ hs => by repeat (first | exact hs | apply List.mem_cons_of_mem))) (fun _ h => ⟨g5, _, rfl, hA8.now (s := ⟨w6, _⟩) Mono.byte h (by repeat (first | exact List.mem_cons_self .. | apply List.mem_cons_of_mem)), fun s hs => hN s (List.mem_cons_of_mem _ hs)⟩)
    refine Obs.cons ?_ ?_
    · exact obMark (by kernel_rfl) rfl rfl (by decide) hsol Try.underlying24 Try.underlying5 rfl
    refine Obs.cons ?_ ?_
    · refine obSM (by kernel_rfl) rfl rfl (fun ph1 w1 hO1 => ?_)
      refine VL.fieldAddr rfl fo82_0 rfl ?_
      exact VL.finSM hO1 rfl rfl
    refine Obs.cons ?_ ?_
    · refine obSM (by kernel_rfl) rfl rfl (fun ph1 w1 hO1 => ?_)
      rintro _ rfl
      refine VL.loadF (s := ⟨w2, _⟩) (v := .int .u8 (x.device)) 0 rfl kd5 hF3 (fun _ e => e ▸ Still.ok hO1 (by repeat (first | exact List.mem_cons_self .. | apply List.mem_cons_of_mem))) rfl rfl ?_
      exact VL.finSM hO1 rfl rfl
    refine Obs.cons ?_ ?_
    · refine obM (by kernel_rfl) rfl (by kernel_rfl) rfl (fun w1 hO1 => ?_)
      rintro _ rfl
      refine VL.toOwn hO1 ?_
      refine VL.litByte (m := x.device) el24 rfl (by have hm := hx.device; omega) (fun g9 w10 hO11 hA12 => ?_)
      exact VL.finOM rfl (fun _ h => h.sub (fun _ hs => by repeat (first | exact hs | apply List.mem_cons_of_mem))) (fun _ h => ⟨_, rfl, (hA12.now (s := ⟨w10, _⟩) Mono.byte h (by repeat (first | exact List.mem_cons_self .. | apply List.mem_cons_of_mem)))⟩)
    refine Obs.cons ?_ ?_
    · refine obSM (by kernel_rfl) rfl rfl (fun ph1 w1 hO1 => ?_)
      refine VL.fieldAddr rfl fo82_1 rfl ?_
      exact VL.finSM hO1 rfl rfl
    refine Obs.cons ?_ ?_
    · refine obSM (by kernel_rfl) rfl rfl (fun ph1 w1 hO1 => ?_)
      rintro _ rfl
      refine VL.sliceArrAt Try.underlying44 (by kernel_rfl) rfl ?_
      refine VL.newv (v' := .slice (some ⟨g1, 1, none⟩) (x.agree).length 32) (by rw [hx.agree]) ?_
      exact VL.finSM hO1 rfl rfl
    refine Obs.cons ?_ ?_
    · refine obSM (by kernel_rfl) rfl rfl (fun ph1 w1 hO1 => ?_)
      refine VL.fieldAddr rfl fo82_2 rfl ?_
      exact VL.finSM hO1 rfl rfl
    refine Obs.cons ?_ ?_
    · refine obSM (by kernel_rfl) rfl rfl (fun ph1 w1 hO1 => ?_)
      rintro _ rfl
      refine VL.sliceArrAt Try.underlying44 (by kernel_rfl) rfl ?_
      refine VL.newv (v' := .slice (some ⟨g1, 33, none⟩) (x.signer).length 32) (by rw [hx.signer]) ?_
      exact VL.finSM hO1 rfl rfl
    refine Obs.cons ?_ ?_
    · refine obSM (by kernel_rfl) rfl rfl (fun ph1 w1 hO1 => ?_)
      refine VL.fieldAddr rfl fo82_3 rfl ?_
      exact VL.finSM hO1 rfl rfl
    refine Obs.cons ?_ ?_
    · refine obSM (by kernel_rfl) rfl rfl (fun ph1 w1 hO1 => ?_)
      rintro _ rfl
      refine VL.loadF (s := ⟨w2, _⟩) (v := .int .u16 (x.id)) 3 rfl kd68 hF3 (fun _ e => e ▸ Still.ok hO1 (by repeat (first | exact List.mem_cons_self .. | apply List.mem_cons_of_mem))) rfl rfl ?_
      exact VL.finSM hO1 rfl rfl
    refine Obs.cons ?_ ?_
    · refine obSM (by kernel_rfl) rfl rfl (fun ph1 w1 hO1 => ?_)
      rintro _ rfl
      refine VL.conv (by rw [Try.underlying68]; rfl) Try.underlying3 rfl (by simp only [InR]; omega) ?_
      exact VL.finSM hO1 rfl rfl
    refine Obs.cons ?_ ?_
    · refine obM (by kernel_rfl) rfl (by kernel_rfl) rfl (fun w1 hO1 => ?_)
      rintro _ rfl
      refine VL.toOwn hO1 ?_
      refine VL.call Try.func108 rfl (by decide) rfl (fun w' hw => num_S hw (x.id) 2 (by omega) (by decide) (by decide) (fits2 (by omega))) (fun v => ?_)
      refine VL.at (fun w13 h1w => ?_)
      obtain ⟨p14, c15, rfl, hO17, hA16⟩ := h1w
      refine VL.toOwn hO17 ?_
      exact VL.finOM rfl (fun _ h => h.sub (fun _ hs => by repeat (first | exact hs | apply List.mem_cons_of_mem))) (fun _ h => ⟨_, _, rfl, (hA16.now (s := ⟨w13, _⟩) Mono.byte h (by repeat (first | exact List.mem_cons_self .. | apply List.mem_cons_of_mem)))⟩)
    refine Obs.cons ?_ ?_
    · refine obSM (by kernel_rfl) rfl rfl (fun ph1 w1 hO1 => ?_)
      refine VL.fieldAddr rfl fo82_4 rfl ?_
      exact VL.finSM hO1 rfl rfl
    refine Obs.cons ?_ ?_
    · refine obSM (by kernel_rfl) rfl rfl (fun ph1 w1 hO1 => ?_)
      rintro _ rfl
      refine VL.sliceArrAt Try.underlying44 (by kernel_rfl) rfl ?_
      refine VL.newv (v' := .slice (some ⟨g1, 66, none⟩) (x.once).length 32) (by rw [hx.once]) ?_
      exact VL.finSM hO1 rfl rfl
    exact Obs.nil
  case last1 => exact ⟨freshF_lasts _ _, bytesF_lasts _, eqF_lasts _, eqF_lasts _, capF_lasts _ _, eqF_lasts _, eqF_lasts _, eqF_lasts _, eqF_lasts _, eqF_lasts _, eqF_lasts _, eqF_lasts _, bytesF_lasts _, eqF_lasts _, eqF_lasts _, trivial⟩
  case end1 =>
    intro w1 hO1
    rintro _ ⟨p1_1, c1_1, rfl, hA1_1⟩ _ ⟨p1_4, rfl, hA1_4⟩ _ rfl _ rfl _ ⟨p1_12, c1_12, rfl, hA1_12⟩ _ rfl
    refine VL.toOwn hO1 ?_
    refine VL.lit el31 rfl rfl rfl (by simp [Value.cells]) (by intro u hu; simp [Value.cells] at hu; rcases hu with rfl | rfl | rfl | rfl | rfl | rfl <;> rfl) (fun g18 => ?_)
    refine VL.letRowS [([111, 110, 99, 101] : List UInt8), be 1 (x.device), x.agree, x.signer, be 2 (x.id), x.once] rfl (fun w' hw => ⟨⟨_, _, rfl, (hA1_1.now (s := ⟨w1, _⟩) Mono.byte hw (by repeat (first | exact List.mem_cons_self .. | apply List.mem_cons_of_mem)))⟩, ⟨⟨_, _, rfl, (hA1_4.now (s := ⟨w1, _⟩) Mono.byte hw (by repeat (first | exact List.mem_cons_self .. | apply List.mem_cons_of_mem)))⟩, ⟨⟨_, _, rfl, ((hF3.bytes 1 1 rfl rfl hx.agree rfl).now (s := ⟨w2, _⟩) Mono.byte hw (by repeat (first | exact List.mem_cons_self .. | apply List.mem_cons_of_mem)))⟩, ⟨⟨_, _, rfl, ((hF3.bytes 2 33 rfl rfl hx.signer rfl).now (s := ⟨w2, _⟩) Mono.byte hw (by repeat (first | exact List.mem_cons_self .. | apply List.mem_cons_of_mem)))⟩, ⟨⟨_, _, rfl, (hA1_12.now (s := ⟨w1, _⟩) Mono.byte hw (by repeat (first | exact List.mem_cons_self .. | apply List.mem_cons_of_mem)))⟩, ⟨⟨_, _, rfl, ((hF3.bytes 4 66 rfl rfl hx.once rfl).now (s := ⟨w2, _⟩) Mono.byte hw (by repeat (first | exact List.mem_cons_self .. | apply List.mem_cons_of_mem)))⟩, trivial⟩⟩⟩⟩⟩⟩) (fun w19 hO20 hA21 => ?_)
    refine VL.call Try.func120 rfl (by decide) rfl (fun w' hw => all_S (ls := [([111, 110, 99, 101] : List UInt8), be 1 (x.device), x.agree, x.signer, be 2 (x.id), x.once]) hw (hA21.now (s := ⟨w19, _⟩) (Mono.slice Mono.byte) hw (by repeat (first | exact List.mem_cons_self .. | apply List.mem_cons_of_mem))) (bundleTP_ok hx)) (fun v => ?_)
    refine VL.at (fun w22 h1w => ?_)
    obtain ⟨p23, c24, rfl, hO26, hA25⟩ := h1w
    refine VL.toOwn hO26 ?_
    refine VL.assign rfl ?_
    refine VL.nil ?_
    refine VX.next ?_
    refine VC.ret ?_
    refine VX.ret1 rfl rfl (fun we hw => ?_)
    exact postS (show (joinB [([111, 110, 99, 101] : List UInt8), be 1 (x.device), x.agree, x.signer, be 2 (x.id), x.once]) = _ from rfl) ⟨p23, c24, rfl, hw.sub (fun _ hs => by repeat (first | exact hs | apply List.mem_cons_of_mem)), (hA25.now (s := ⟨w22, _⟩) Mono.byte hw (by repeat (first | exact List.mem_cons_self .. | apply List.mem_cons_of_mem)))⟩

theorem objectText_w {S : List Snap} {H : List Chunk} {w : World} (ho : Own S H w) {x : Object} (hx : x.ok) (q : Option Addr) (d : Nat) : Calls Try.prog 67 #[.agg (cat (objectV x q d)).toArray] w (Ret fun v w' => ∃ p c, v = .slice p (objectT x).length c ∧ Own S H w' ∧ Bytes (keys H) w' p (objectT x) c) := by
  have hx1 := hx.server
  have hx2 := hx.n
  have hx3 := hx.since
  have hx4 := hx.till
  refine enter (G := Own (⟨w, keys H⟩ :: S) H) ho.keep Try.func67 rfl Try.ntmps67 rfl ?_
  refine VC.seq ?_
  refine VC.region ?_
  refine VL.box (L := objectL) (ps := (objectV (x) q d)) rfl rfl (objectV_len hx) (fun g1 => ?_)
  refine VL.assign rfl ?_
  refine VL.nil ?_
  refine VX.next ?_
  refine VC.seq ?_
  refine VC.region ?_
  refine VL.lit el24 rfl rfl rfl (by simp [Value.cells]) (ok1_bytes ([107, 101, 121] : List UInt8)) (fun g2 => ?_)
  refine VL.constBytes (l := ([107, 101, 121] : List UInt8)) Try.underlying24 Try.underlying5 rfl rfl rfl (fun w3 hO4 hA5 => ?_)
  refine VL.litB [([107, 101, 121] : List UInt8)] el31 rfl rfl rfl (by simp [Value.cells]) (by intro u hu; simp [Value.cells] at hu; rcases hu with rfl <;> rfl) rfl (fun _ w' hw => ⟨⟨_, _, rfl, (hA5.now (s := ⟨w3, _⟩) Mono.byte hw (by repeat (first | exact List.mem_cons_self .. | apply List.mem_cons_of_mem)))⟩, trivial⟩) (fun v => ?_)
  refine VL.ex fun g6 => VL.fact fun e7 => ?_
  subst e7
  refine VL.build (zs := [[.slice none 0 0], [.bool false]]) [(0, [rowV (some g6) 1 1])] plan181 rfl ⟨⟨rfl, ⟨_, rfl, rfl⟩, rfl⟩, trivial⟩ rfl ?_
  refine VL.box (L := [1, 1]) (ps := [[rowV (some g6) 1 1], [.bool false]]) rfl rfl rfl (fun g8 => ?_)
  refine VL.turn (G' := Own _ (wblk g8 (some g6) 1 ([([107, 101, 121] : List UInt8)]).length false :: brow (some g6) 1 ([([107, 101, 121] : List UInt8)]) :: blk g1 85 objectL (objectV (x) q d) :: H)) (fun _ h => h) ?_
  refine VL.assign rfl ?_
  refine VL.nil ?_
  refine VX.next ?_
  refine VC.seq ?_
  refine VC.region ?_
  refine VL.move rfl ?_
  refine VL.fieldAddr rfl fo85_0 rfl ?_
  refine VL.load (v := .int .u8 (x.server)) 2 0 rfl kd5 (fun _ h => h) rfl rfl rfl ?_
  refine VL.conv (by rw [Try.underlying5]; rfl) Try.underlying22 rfl (inr_u64 (by omega)) ?_
  refine VL.call Try.func116 rfl (by decide) rfl (fun w' hw => num_w hw (by simp only [List.length_append, List.length_cons, List.length_nil, List.length_map]; omega) (x.server) (fits_small (by omega)) 1 (by decide) (by decide) (fits1 (by omega))) (fun v => ?_)
  refine VL.fact fun e11 => ?_
  subst e11
  refine VL.ex fun gp9 => VL.ex fun c10 => ?_
  refine VL.nil ?_
  refine VX.next ?_
  refine VC.seq ?_
  refine VC.region ?_
  refine VL.move rfl ?_
  refine VL.fieldAddr rfl fo85_1 rfl ?_
  refine VL.load (v := .int .u8 (x.n)) 2 1 rfl kd5 (fun _ h => h) rfl rfl rfl ?_
  refine VL.conv (by rw [Try.underlying5]; rfl) Try.underlying22 rfl (inr_u64 (by omega)) ?_
  refine VL.call Try.func116 rfl (by decide) rfl (fun w' hw => num_w hw (by simp only [List.length_append, List.length_cons, List.length_nil, List.length_map]; omega) (x.n) (fits_small (by omega)) 1 (by decide) (by decide) (fits1 (by omega))) (fun v => ?_)
  refine VL.fact fun e14 => ?_
  subst e14
  refine VL.ex fun gp12 => VL.ex fun c13 => ?_
  refine VL.nil ?_
  refine VX.next ?_
  refine VC.seq ?_
  refine VC.region ?_
  refine VL.move rfl ?_
  refine VL.fieldAddr rfl fo85_2 rfl ?_
  refine VL.loads (cs := (x.key).map bv) 2 2 1 rfl kd44 (fun _ h => h) rfl rfl rfl rfl ?_
  refine VL.call Try.func119 rfl (by decide) rfl (fun w' hw => key_w hw (by simp only [List.length_append, List.length_cons, List.length_nil, List.length_map]; omega) (l := x.key) hx.key) (fun v => ?_)
  refine VL.fact fun e17 => ?_
  subst e17
  refine VL.ex fun gp15 => VL.ex fun c16 => ?_
  refine VL.nil ?_
  refine VX.next ?_
  refine VC.seq ?_
  refine VC.region ?_
  refine VL.move rfl ?_
  refine VL.fieldAddr rfl fo85_3 rfl ?_
  refine VL.load (v := .int .u32 (x.since)) 2 3 rfl kd48 (fun _ h => h) rfl rfl rfl ?_
  refine VL.conv (by rw [Try.underlying48]; rfl) Try.underlying22 rfl (inr_u64 (by omega)) ?_
  refine VL.call Try.func116 rfl (by decide) rfl (fun w' hw => num_w hw (by simp only [List.length_append, List.length_cons, List.length_nil, List.length_map]; omega) (x.since) (fits_small (by omega)) 4 (by decide) (by decide) (fits4 (by omega))) (fun v => ?_)
  refine VL.fact fun e20 => ?_
  subst e20
  refine VL.ex fun gp18 => VL.ex fun c19 => ?_
  refine VL.nil ?_
  refine VX.next ?_
  refine VC.seq ?_
  refine VC.region ?_
  refine VL.move rfl ?_
  refine VL.fieldAddr rfl fo85_4 rfl ?_
  refine VL.load (v := .int .u32 (x.till)) 2 4 rfl kd48 (fun _ h => h) rfl rfl rfl ?_
  refine VL.conv (by rw [Try.underlying48]; rfl) Try.underlying22 rfl (inr_u64 (by omega)) ?_
  refine VL.call Try.func116 rfl (by decide) rfl (fun w' hw => num_w hw (by simp only [List.length_append, List.length_cons, List.length_nil, List.length_map]; omega) (x.till) (fits_small (by omega)) 4 (by decide) (by decide) (fits4 (by omega))) (fun v => ?_)
  refine VL.fact fun e23 => ?_
  subst e23
  refine VL.ex fun gp21 => VL.ex fun c22 => ?_
  refine VL.nil ?_
  refine VX.next ?_
  refine VC.seq ?_
  refine VC.region ?_
  refine VL.move rfl ?_
  refine VL.call Try.func118 rfl (by decide) rfl (fun w' hw => done_O hw) (fun v => ?_)
  refine VL.at (fun w24 h1w => ?_)
  obtain ⟨p25, c26, rfl, hO28, hA27⟩ := h1w
  refine VL.toOwn hO28 ?_
  refine VL.move rfl ?_
  refine VL.extract rfl rfl ?_
  refine VL.extract rfl rfl ?_
  refine VL.assign rfl ?_
  refine VL.assign rfl ?_
  refine VL.nil ?_
  refine VX.next ?_
  refine VC.seq ?_
  refine VC.region ?_
  refine VL.move rfl ?_
  refine VL.assign rfl ?_
  refine VL.nil ?_
  refine VX.next ?_
  refine VC.ret ?_
  refine VX.ret1 rfl rfl (fun we hw => ?_)
  exact postS (show ((joinO (((((([([107, 101, 121] : List UInt8)] ++ [be 1 (x.server)]) ++ [be 1 (x.n)]) ++ [x.key]) ++ [be 4 (x.since)]) ++ [be 4 (x.till)])) (!false)).getD []) = _ from (congrArg (fun o : Option (List UInt8) => o.getD []) (joinO_some (ps := objectTP x) (ok := true) (objectTP_ok hx) rfl))) ⟨p25, c26, rfl, hw.drop.sub (fun _ hs => by repeat (first | exact hs | apply List.mem_cons_of_mem)), (hA27.now (s := ⟨w24, _⟩) Mono.byte hw.drop (by repeat (first | exact List.mem_cons_self .. | apply List.mem_cons_of_mem)))⟩

theorem refObjectText_w {S : List Snap} {H : List Chunk} {w : World} (ho : Own S H w) (hsol : ∀ c ∈ H, Solid c) {x : Object} (hx : x.ok) (q : Option Addr) (d : Nat) : Calls Try.prog 68 #[.agg (cat (objectV x q d)).toArray] w (Ret fun v w' => ∃ p c, v = .slice p (objectT x).length c ∧ Own S H w' ∧ Bytes (keys H) w' p (objectT x) c) := by
  have hx1 := hx.server
  have hx2 := hx.n
  have hx3 := hx.since
  have hx4 := hx.till
  refine enter (G := Own (⟨w, keys H⟩ :: S) H) ho.keep Try.func68 rfl Try.ntmps68 rfl ?_
  refine VC.seq ?_
  refine VC.region ?_
  refine VL.box (L := objectL) (ps := (objectV (x) q d)) rfl rfl (objectV_len hx) (fun g1 => ?_)
  refine VL.assign rfl ?_
  refine VL.nil ?_
  refine VX.next ?_
  refine VC.seq ?_
  refine VC.letCells 0 rfl (fun w2 hO4 hF3 => ?_)
  apply VC.anyTM 18 1021 (F := [freshF _ ([107, 101, 121] : List UInt8), bytesF (([107, 101, 121] : List UInt8)), eqF _, eqF _, capF (be 1 (x.server)) 1, eqF _, eqF _, capF (be 1 (x.n)) 1, eqF _, eqF _, eqF _, eqF _, eqF _, bytesF (be 4 (x.since)), eqF _, eqF _, eqF _, bytesF (be 4 (x.till))]) [⟨[], []⟩, ⟨[(3, 0)], []⟩, ⟨[], [1]⟩, ⟨[(5, 2)], []⟩, ⟨[(6, 3)], []⟩, ⟨[], [1]⟩, ⟨[(8, 5)], []⟩, ⟨[(9, 6)], []⟩, ⟨[], [1]⟩, ⟨[(11, 8)], []⟩, ⟨[], [1]⟩, ⟨[(13, 10)], []⟩, ⟨[(14, 11)], []⟩, ⟨[(15, 12)], []⟩, ⟨[], [1]⟩, ⟨[(17, 14)], []⟩, ⟨[(18, 15)], []⟩, ⟨[(19, 16)], []⟩] [(4, 1), (7, 4), (10, 7), (12, 9), (16, 13), (20, 17)] [0, 2, 21, 22] rfl (by kernel_rfl) (by kernel_rfl) rfl rfl (by kernel_rfl) (by kernel_rfl) rfl ?obs1 ?last1 ?end1
  case obs1 =>
    refine Obs.cons ?_ ?_
    · refine obM (by kernel_rfl) rfl (by kernel_rfl) rfl (fun w1 hO1 => ?_)
      refine VL.toOwn hO1 ?_
      refine VL.lit el24 rfl rfl rfl (by simp [Value.cells]) (ok1_bytes ([107, 101, 121] : List UInt8)) (fun g5 => ?_)
      refine VL.letFresh ([107, 101, 121] : List UInt8) rfl rfl (fun w6 hO7 hA8 hN => ?_)
      exact VL.finOM rfl (fun _ h => h.sub (fun _ hs => by repeat (first | exact hs | apply List.mem_cons_of_mem))) (fun _ h => ⟨g5, _, rfl, hA8.now (s := ⟨w6, _⟩) Mono.byte h (by repeat (first | exact List.mem_cons_self .. | apply List.mem_cons_of_mem)), fun s hs => hN s (List.mem_cons_of_mem _ hs)⟩)
    refine Obs.cons ?_ ?_
    · exact obMark (by kernel_rfl) rfl rfl (by decide) hsol Try.underlying24 Try.underlying5 rfl
    refine Obs.cons ?_ ?_
    · refine obSM (by kernel_rfl) rfl rfl (fun ph1 w1 hO1 => ?_)
      refine VL.fieldAddr rfl fo85_0 rfl ?_
      exact VL.finSM hO1 rfl rfl
    refine Obs.cons ?_ ?_
    · refine obSM (by kernel_rfl) rfl rfl (fun ph1 w1 hO1 => ?_)
      rintro _ rfl
      refine VL.loadF (s := ⟨w2, _⟩) (v := .int .u8 (x.server)) 0 rfl kd5 hF3 (fun _ e => e ▸ Still.ok hO1 (by repeat (first | exact List.mem_cons_self .. | apply List.mem_cons_of_mem))) rfl rfl ?_
      exact VL.finSM hO1 rfl rfl
    refine Obs.cons ?_ ?_
    · refine obM (by kernel_rfl) rfl (by kernel_rfl) rfl (fun w1 hO1 => ?_)
      rintro _ rfl
      refine VL.toOwn hO1 ?_
      refine VL.litByte (m := x.server) el24 rfl (by have hm := hx.server; omega) (fun g9 w10 hO11 hA12 => ?_)
      exact VL.finOM rfl (fun _ h => h.sub (fun _ hs => by repeat (first | exact hs | apply List.mem_cons_of_mem))) (fun _ h => ⟨_, rfl, (hA12.now (s := ⟨w10, _⟩) Mono.byte h (by repeat (first | exact List.mem_cons_self .. | apply List.mem_cons_of_mem)))⟩)
    refine Obs.cons ?_ ?_
    · refine obSM (by kernel_rfl) rfl rfl (fun ph1 w1 hO1 => ?_)
      refine VL.fieldAddr rfl fo85_1 rfl ?_
      exact VL.finSM hO1 rfl rfl
    refine Obs.cons ?_ ?_
    · refine obSM (by kernel_rfl) rfl rfl (fun ph1 w1 hO1 => ?_)
      rintro _ rfl
      refine VL.loadF (s := ⟨w2, _⟩) (v := .int .u8 (x.n)) 1 rfl kd5 hF3 (fun _ e => e ▸ Still.ok hO1 (by repeat (first | exact List.mem_cons_self .. | apply List.mem_cons_of_mem))) rfl rfl ?_
      exact VL.finSM hO1 rfl rfl
    refine Obs.cons ?_ ?_
    · refine obM (by kernel_rfl) rfl (by kernel_rfl) rfl (fun w1 hO1 => ?_)
      rintro _ rfl
      refine VL.toOwn hO1 ?_
      refine VL.litByte (m := x.n) el24 rfl (by have hm := hx.n; omega) (fun g13 w14 hO15 hA16 => ?_)
      exact VL.finOM rfl (fun _ h => h.sub (fun _ hs => by repeat (first | exact hs | apply List.mem_cons_of_mem))) (fun _ h => ⟨_, rfl, (hA16.now (s := ⟨w14, _⟩) Mono.byte h (by repeat (first | exact List.mem_cons_self .. | apply List.mem_cons_of_mem)))⟩)
    refine Obs.cons ?_ ?_
    · refine obSM (by kernel_rfl) rfl rfl (fun ph1 w1 hO1 => ?_)
      refine VL.fieldAddr rfl fo85_2 rfl ?_
      exact VL.finSM hO1 rfl rfl
    refine Obs.cons ?_ ?_
    · refine obSM (by kernel_rfl) rfl rfl (fun ph1 w1 hO1 => ?_)
      rintro _ rfl
      refine VL.sliceArrAt Try.underlying44 (by kernel_rfl) rfl ?_
      refine VL.newv (v' := .slice (some ⟨g1, 2, none⟩) (x.key).length 32) (by rw [hx.key]) ?_
      exact VL.finSM hO1 rfl rfl
    refine Obs.cons ?_ ?_
    · refine obSM (by kernel_rfl) rfl rfl (fun ph1 w1 hO1 => ?_)
      refine VL.fieldAddr rfl fo85_3 rfl ?_
      exact VL.finSM hO1 rfl rfl
    refine Obs.cons ?_ ?_
    · refine obSM (by kernel_rfl) rfl rfl (fun ph1 w1 hO1 => ?_)
      rintro _ rfl
      refine VL.loadF (s := ⟨w2, _⟩) (v := .int .u32 (x.since)) 3 rfl kd48 hF3 (fun _ e => e ▸ Still.ok hO1 (by repeat (first | exact List.mem_cons_self .. | apply List.mem_cons_of_mem))) rfl rfl ?_
      exact VL.finSM hO1 rfl rfl
    refine Obs.cons ?_ ?_
    · refine obSM (by kernel_rfl) rfl rfl (fun ph1 w1 hO1 => ?_)
      rintro _ rfl
      refine VL.conv (by rw [Try.underlying48]; rfl) Try.underlying3 rfl (by simp only [InR]; omega) ?_
      exact VL.finSM hO1 rfl rfl
    refine Obs.cons ?_ ?_
    · refine obM (by kernel_rfl) rfl (by kernel_rfl) rfl (fun w1 hO1 => ?_)
      rintro _ rfl
      refine VL.toOwn hO1 ?_
      refine VL.call Try.func108 rfl (by decide) rfl (fun w' hw => num_S hw (x.since) 4 (by omega) (by decide) (by decide) (fits4 (by omega))) (fun v => ?_)
      refine VL.at (fun w17 h1w => ?_)
      obtain ⟨p18, c19, rfl, hO21, hA20⟩ := h1w
      refine VL.toOwn hO21 ?_
      exact VL.finOM rfl (fun _ h => h.sub (fun _ hs => by repeat (first | exact hs | apply List.mem_cons_of_mem))) (fun _ h => ⟨_, _, rfl, (hA20.now (s := ⟨w17, _⟩) Mono.byte h (by repeat (first | exact List.mem_cons_self .. | apply List.mem_cons_of_mem)))⟩)
    refine Obs.cons ?_ ?_
    · refine obSM (by kernel_rfl) rfl rfl (fun ph1 w1 hO1 => ?_)
      refine VL.fieldAddr rfl fo85_4 rfl ?_
      exact VL.finSM hO1 rfl rfl
    refine Obs.cons ?_ ?_
    · refine obSM (by kernel_rfl) rfl rfl (fun ph1 w1 hO1 => ?_)
      rintro _ rfl
      refine VL.loadF (s := ⟨w2, _⟩) (v := .int .u32 (x.till)) 4 rfl kd48 hF3 (fun _ e => e ▸ Still.ok hO1 (by repeat (first | exact List.mem_cons_self .. | apply List.mem_cons_of_mem))) rfl rfl ?_
      exact VL.finSM hO1 rfl rfl
    refine Obs.cons ?_ ?_
    · refine obSM (by kernel_rfl) rfl rfl (fun ph1 w1 hO1 => ?_)
      rintro _ rfl
      refine VL.conv (by rw [Try.underlying48]; rfl) Try.underlying3 rfl (by simp only [InR]; omega) ?_
      exact VL.finSM hO1 rfl rfl
    refine Obs.cons ?_ ?_
    · refine obM (by kernel_rfl) rfl (by kernel_rfl) rfl (fun w1 hO1 => ?_)
      rintro _ rfl
      refine VL.toOwn hO1 ?_
      refine VL.call Try.func108 rfl (by decide) rfl (fun w' hw => num_S hw (x.till) 4 (by omega) (by decide) (by decide) (fits4 (by omega))) (fun v => ?_)
      refine VL.at (fun w22 h1w => ?_)
      obtain ⟨p23, c24, rfl, hO26, hA25⟩ := h1w
      refine VL.toOwn hO26 ?_
      exact VL.finOM rfl (fun _ h => h.sub (fun _ hs => by repeat (first | exact hs | apply List.mem_cons_of_mem))) (fun _ h => ⟨_, _, rfl, (hA25.now (s := ⟨w22, _⟩) Mono.byte h (by repeat (first | exact List.mem_cons_self .. | apply List.mem_cons_of_mem)))⟩)
    exact Obs.nil
  case last1 => exact ⟨freshF_lasts _ _, bytesF_lasts _, eqF_lasts _, eqF_lasts _, capF_lasts _ _, eqF_lasts _, eqF_lasts _, capF_lasts _ _, eqF_lasts _, eqF_lasts _, eqF_lasts _, eqF_lasts _, eqF_lasts _, bytesF_lasts _, eqF_lasts _, eqF_lasts _, eqF_lasts _, bytesF_lasts _, trivial⟩
  case end1 =>
    intro w1 hO1
    rintro _ ⟨p1_1, c1_1, rfl, hA1_1⟩ _ ⟨p1_4, rfl, hA1_4⟩ _ ⟨p1_7, rfl, hA1_7⟩ _ rfl _ ⟨p1_13, c1_13, rfl, hA1_13⟩ _ ⟨p1_17, c1_17, rfl, hA1_17⟩
    refine VL.toOwn hO1 ?_
    refine VL.lit el31 rfl rfl rfl (by simp [Value.cells]) (by intro u hu; simp [Value.cells] at hu; rcases hu with rfl | rfl | rfl | rfl | rfl | rfl <;> rfl) (fun g27 => ?_)
    refine VL.letRowS [([107, 101, 121] : List UInt8), be 1 (x.server), be 1 (x.n), x.key, be 4 (x.since), be 4 (x.till)] rfl (fun w' hw => ⟨⟨_, _, rfl, (hA1_1.now (s := ⟨w1, _⟩) Mono.byte hw (by repeat (first | exact List.mem_cons_self .. | apply List.mem_cons_of_mem)))⟩, ⟨⟨_, _, rfl, (hA1_4.now (s := ⟨w1, _⟩) Mono.byte hw (by repeat (first | exact List.mem_cons_self .. | apply List.mem_cons_of_mem)))⟩, ⟨⟨_, _, rfl, (hA1_7.now (s := ⟨w1, _⟩) Mono.byte hw (by repeat (first | exact List.mem_cons_self .. | apply List.mem_cons_of_mem)))⟩, ⟨⟨_, _, rfl, ((hF3.bytes 2 2 rfl rfl hx.key rfl).now (s := ⟨w2, _⟩) Mono.byte hw (by repeat (first | exact List.mem_cons_self .. | apply List.mem_cons_of_mem)))⟩, ⟨⟨_, _, rfl, (hA1_13.now (s := ⟨w1, _⟩) Mono.byte hw (by repeat (first | exact List.mem_cons_self .. | apply List.mem_cons_of_mem)))⟩, ⟨⟨_, _, rfl, (hA1_17.now (s := ⟨w1, _⟩) Mono.byte hw (by repeat (first | exact List.mem_cons_self .. | apply List.mem_cons_of_mem)))⟩, trivial⟩⟩⟩⟩⟩⟩) (fun w28 hO29 hA30 => ?_)
    refine VL.call Try.func120 rfl (by decide) rfl (fun w' hw => all_S (ls := [([107, 101, 121] : List UInt8), be 1 (x.server), be 1 (x.n), x.key, be 4 (x.since), be 4 (x.till)]) hw (hA30.now (s := ⟨w28, _⟩) (Mono.slice Mono.byte) hw (by repeat (first | exact List.mem_cons_self .. | apply List.mem_cons_of_mem))) (objectTP_ok hx)) (fun v => ?_)
    refine VL.at (fun w31 h1w => ?_)
    obtain ⟨p32, c33, rfl, hO35, hA34⟩ := h1w
    refine VL.toOwn hO35 ?_
    refine VL.assign rfl ?_
    refine VL.nil ?_
    refine VX.next ?_
    refine VC.ret ?_
    refine VX.ret1 rfl rfl (fun we hw => ?_)
    exact postS (show (joinB [([107, 101, 121] : List UInt8), be 1 (x.server), be 1 (x.n), x.key, be 4 (x.since), be 4 (x.till)]) = _ from rfl) ⟨p32, c33, rfl, hw.sub (fun _ hs => by repeat (first | exact hs | apply List.mem_cons_of_mem)), (hA34.now (s := ⟨w31, _⟩) Mono.byte hw (by repeat (first | exact List.mem_cons_self .. | apply List.mem_cons_of_mem)))⟩

theorem vouchText_w {S : List Snap} {H : List Chunk} {w : World} (ho : Own S H w) {x : Object} (hx : x.ok) (q : Option Addr) (d : Nat) (s : Nat) (hs : s < 256) : Calls Try.prog 69 #[.agg (cat (objectV x q d)).toArray, .int .u8 (s : Int)] w (Ret fun v w' => ∃ p c, v = .slice p (vouchT x s).length c ∧ Own S H w' ∧ Bytes (keys H) w' p (vouchT x s) c) := by
  refine enter (G := Own (⟨w, keys H⟩ :: S) H) ho.keep Try.func69 rfl Try.ntmps69 rfl ?_
  refine VC.seq ?_
  refine VC.region ?_
  refine VL.box (L := objectL) (ps := (objectV (x) q d)) rfl rfl (objectV_len hx) (fun g1 => ?_)
  refine VL.assign rfl ?_
  refine VL.nil ?_
  refine VX.next ?_
  refine VC.seq ?_
  refine VC.region ?_
  refine VL.lit el24 rfl rfl rfl (by simp [Value.cells]) (ok1_bytes ([118, 111, 117, 99, 104] : List UInt8)) (fun g2 => ?_)
  refine VL.constBytes (l := ([118, 111, 117, 99, 104] : List UInt8)) Try.underlying24 Try.underlying5 rfl rfl rfl (fun w3 hO4 hA5 => ?_)
  refine VL.move rfl ?_
  refine VL.litByte (m := s) el24 rfl (by have hm := hs; omega) (fun g6 w7 hO8 hA9 => ?_)
  refine VL.loads (cs := cat (objectV (x) q d)) 0 0 7 rfl kd85 (fun _ h => h) rfl rfl rfl rfl ?_
  refine VL.call Try.func67 rfl (by decide) rfl (fun w' hw => objectText_w hw hx (q) (d)) (fun v => ?_)
  refine VL.at (fun w10 h1w => ?_)
  obtain ⟨p11, c12, rfl, hO14, hA13⟩ := h1w
  refine VL.toOwn hO14 ?_
  refine VL.litB [([118, 111, 117, 99, 104] : List UInt8), be 1 (s), (objectT x)] el31 rfl rfl rfl (by simp [Value.cells]) (by intro u hu; simp [Value.cells] at hu; rcases hu with rfl | rfl | rfl <;> rfl) rfl (fun _ w' hw => ⟨⟨_, _, rfl, (hA5.now (s := ⟨w3, _⟩) Mono.byte hw (by repeat (first | exact List.mem_cons_self .. | apply List.mem_cons_of_mem)))⟩, ⟨⟨_, _, rfl, (hA9.now (s := ⟨w7, _⟩) Mono.byte hw (by repeat (first | exact List.mem_cons_self .. | apply List.mem_cons_of_mem)))⟩, ⟨⟨_, _, rfl, (hA13.now (s := ⟨w10, _⟩) Mono.byte hw (by repeat (first | exact List.mem_cons_self .. | apply List.mem_cons_of_mem)))⟩, trivial⟩⟩⟩) (fun v => ?_)
  refine VL.ex fun g15 => VL.fact fun e16 => ?_
  subst e16
  refine VL.build (zs := [[.slice none 0 0], [.bool false]]) [(0, [rowV (some g15) 3 3])] plan181 rfl ⟨⟨rfl, ⟨_, rfl, rfl⟩, rfl⟩, trivial⟩ rfl ?_
  refine VL.box (L := [1, 1]) (ps := [[rowV (some g15) 3 3], [.bool false]]) rfl rfl rfl (fun g17 => ?_)
  refine VL.turn (G' := Own _ (wblk g17 (some g15) 3 ([([118, 111, 117, 99, 104] : List UInt8), be 1 (s), (objectT x)]).length false :: brow (some g15) 3 ([([118, 111, 117, 99, 104] : List UInt8), be 1 (s), (objectT x)]) :: blk g1 85 objectL (objectV (x) q d) :: H)) (fun _ h => h) ?_
  refine VL.assign rfl ?_
  refine VL.nil ?_
  refine VX.next ?_
  refine VC.seq ?_
  refine VC.region ?_
  refine VL.move rfl ?_
  refine VL.call Try.func118 rfl (by decide) rfl (fun w' hw => done_O hw) (fun v => ?_)
  refine VL.at (fun w18 h1w => ?_)
  obtain ⟨p19, c20, rfl, hO22, hA21⟩ := h1w
  refine VL.toOwn hO22 ?_
  refine VL.move rfl ?_
  refine VL.extract rfl rfl ?_
  refine VL.extract rfl rfl ?_
  refine VL.assign rfl ?_
  refine VL.assign rfl ?_
  refine VL.nil ?_
  refine VX.next ?_
  refine VC.seq ?_
  refine VC.region ?_
  refine VL.move rfl ?_
  refine VL.assign rfl ?_
  refine VL.nil ?_
  refine VX.next ?_
  refine VC.ret ?_
  refine VX.ret1 rfl rfl (fun we hw => ?_)
  exact postS (show ((joinO ([([118, 111, 117, 99, 104] : List UInt8), be 1 (s), (objectT x)]) (!false)).getD []) = _ from (congrArg (fun o : Option (List UInt8) => o.getD []) (joinO_some (ps := vouchTP x s) (ok := true) (vouchTP_ok hx s) rfl))) ⟨p19, c20, rfl, hw.drop.sub (fun _ hs => by repeat (first | exact hs | apply List.mem_cons_of_mem)), (hA21.now (s := ⟨w18, _⟩) Mono.byte hw.drop (by repeat (first | exact List.mem_cons_self .. | apply List.mem_cons_of_mem)))⟩

theorem refVouchText_w {S : List Snap} {H : List Chunk} {w : World} (ho : Own S H w) (hsol : ∀ c ∈ H, Solid c) {x : Object} (hx : x.ok) (q : Option Addr) (d : Nat) (s : Nat) (hs : s < 256) : Calls Try.prog 70 #[.agg (cat (objectV x q d)).toArray, .int .u8 (s : Int)] w (Ret fun v w' => ∃ p c, v = .slice p (vouchT x s).length c ∧ Own S H w' ∧ Bytes (keys H) w' p (vouchT x s) c) := by
  refine enter (G := Own (⟨w, keys H⟩ :: S) H) ho.keep Try.func70 rfl Try.ntmps70 rfl ?_
  refine VC.seq ?_
  refine VC.region ?_
  refine VL.box (L := objectL) (ps := (objectV (x) q d)) rfl rfl (objectV_len hx) (fun g1 => ?_)
  refine VL.assign rfl ?_
  refine VL.nil ?_
  refine VX.next ?_
  refine VC.seq ?_
  refine VC.region ?_
  refine VL.lit el24 rfl rfl rfl (by simp [Value.cells]) (ok1_bytes ([118, 111, 117, 99, 104] : List UInt8)) (fun g2 => ?_)
  refine VL.constBytes (l := ([118, 111, 117, 99, 104] : List UInt8)) Try.underlying24 Try.underlying5 rfl rfl rfl (fun w3 hO4 hA5 => ?_)
  refine VL.move rfl ?_
  refine VL.litByte (m := s) el24 rfl (by have hm := hs; omega) (fun g6 w7 hO8 hA9 => ?_)
  refine VL.loads (cs := cat (objectV (x) q d)) 0 0 7 rfl kd85 (fun _ h => h) rfl rfl rfl rfl ?_
  refine VL.call Try.func68 rfl (by decide) rfl (fun w' hw => refObjectText_w hw (solid_cons (blk_solid _ _ _ _) hsol) hx (q) (d)) (fun v => ?_)
  refine VL.at (fun w10 h1w => ?_)
  obtain ⟨p11, c12, rfl, hO14, hA13⟩ := h1w
  refine VL.toOwn hO14 ?_
  refine VL.lit el31 rfl rfl rfl (by simp [Value.cells]) (by intro u hu; simp [Value.cells] at hu; rcases hu with rfl | rfl | rfl <;> rfl) (fun g15 => ?_)
  refine VL.letRowS [([118, 111, 117, 99, 104] : List UInt8), be 1 (s), (objectT x)] rfl (fun w' hw => ⟨⟨_, _, rfl, (hA5.now (s := ⟨w3, _⟩) Mono.byte hw (by repeat (first | exact List.mem_cons_self .. | apply List.mem_cons_of_mem)))⟩, ⟨⟨_, _, rfl, (hA9.now (s := ⟨w7, _⟩) Mono.byte hw (by repeat (first | exact List.mem_cons_self .. | apply List.mem_cons_of_mem)))⟩, ⟨⟨_, _, rfl, (hA13.now (s := ⟨w10, _⟩) Mono.byte hw (by repeat (first | exact List.mem_cons_self .. | apply List.mem_cons_of_mem)))⟩, trivial⟩⟩⟩) (fun w16 hO17 hA18 => ?_)
  refine VL.call Try.func120 rfl (by decide) rfl (fun w' hw => all_S (ls := [([118, 111, 117, 99, 104] : List UInt8), be 1 (s), (objectT x)]) hw (hA18.now (s := ⟨w16, _⟩) (Mono.slice Mono.byte) hw (by repeat (first | exact List.mem_cons_self .. | apply List.mem_cons_of_mem))) (vouchTP_ok hx s)) (fun v => ?_)
  refine VL.at (fun w19 h1w => ?_)
  obtain ⟨p20, c21, rfl, hO23, hA22⟩ := h1w
  refine VL.toOwn hO23 ?_
  refine VL.assign rfl ?_
  refine VL.nil ?_
  refine VX.next ?_
  refine VC.ret ?_
  refine VX.ret1 rfl rfl (fun we hw => ?_)
  exact postS (show (joinB [([118, 111, 117, 99, 104] : List UInt8), be 1 (s), (objectT x)]) = _ from rfl) ⟨p20, c21, rfl, hw.drop.sub (fun _ hs => by repeat (first | exact hs | apply List.mem_cons_of_mem)), (hA22.now (s := ⟨w19, _⟩) Mono.byte hw.drop (by repeat (first | exact List.mem_cons_self .. | apply List.mem_cons_of_mem)))⟩

end Go.Proofs.Ytcfecmoagfgnaaa
