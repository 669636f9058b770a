/- wire: bytes of objects. -/
import Derived.Test.YtcfecmoagfgnaaaGet1
namespace Go.Proofs.Ytcfecmoagfgnaaa
open Go.Vc Go.Pl

theorem vouchB_is (v : Vouch) : be 1 v.notary ++ v.sig = vouchB v := by rw [be_one]; rfl
theorem vouch_next {vs : List Vouch} {i : Nat} (h : i < vs.length) : (vs.take i).map vouchB ++ [be 1 (vs[i]'h).notary ++ (vs[i]'h).sig] = (vs.take (i + 1)).map vouchB := by
  rw [List.take_succ_eq_append_getElem h, List.map_append, vouchB_is]; rfl

theorem putObject_w {S : List Snap} {H : List Chunk} {w : World} (ho : Own S H w) {x : Object} (hx : x.ok) {q : Option Addr} {d : Nat} (hV : Arr 65 vouchR (keys H) w q x.vouches d) : Calls Try.prog 65 #[.agg (cat (objectV x q d)).toArray] w (RetO S H (objectO x)) := by
  have hx1 := hx.server
  have hx2 := hx.n
  have hx3 := hx.since
  have hx4 := hx.till
  refine enter (G := Own (⟨w, keys H⟩ :: S) H) ho.keep Try.func65 rfl Try.ntmps65 rfl ?_
  refine VC.seq ?_
  refine VC.region ?_
  refine VL.box (L := objectL) (ps := (objectV (x) q d)) rfl rfl (objectV_len hx) (fun g1 => ?_)
  refine VL.assign rfl ?_
  refine VL.assign rfl ?_
  refine VL.nil ?_
  refine VX.next ?_
  refine VC.seq ?_
  refine VC.region ?_
  refine VL.fieldAddr rfl fo85_6 rfl ?_
  refine VL.load (v := .slice q (x.vouches).length d) 0 6 rfl kd83 (fun _ h => h) rfl rfl rfl ?_
  refine VL.len Try.underlying83 rfl rfl ?_
  refine VL.gtr rfl rfl ?_
  refine VL.case (fun h1_3 => ?_) (fun h1_3 => ?_)
  · refine VL.build (zs := [[.slice none 0 0], [.bool false]]) [(1, [.bool true])] plan181 rfl ⟨⟨rfl, ⟨_, rfl, rfl⟩, rfl⟩, trivial⟩ rfl ?_
    refine VL.box (L := [1, 1]) (ps := [[rowV none 0 0], [.bool true]]) rfl rfl rfl (fun g2 => ?_)
    refine VL.turn (fun w' hw => Own.newW hw) ?_
    refine VL.assign rfl ?_
    refine VL.nil ?_
    refine VX.next ?_
    refine VC.seq ?_
    refine VC.seq ?_
    refine VC.region ?_
    refine VL.move rfl ?_
    refine VL.nilCheck rfl ?_
    refine VL.fieldAddr rfl fo181_1 rfl ?_
    refine VL.load (v := .bool true) 0 1 rfl kd4 (fun _ h => h) rfl rfl rfl ?_
    refine VL.nil ?_
    refine VX.next ?_
    refine VC.yes rfl ?_
    refine VC.seq ?_
    refine VC.region ?_
    refine VL.assign rfl ?_
    refine VL.assign rfl ?_
    refine VL.nil ?_
    refine VX.next ?_
    refine VC.ret ?_
    refine VX.then_ret ?_
    refine VX.ret2 rfl rfl rfl (fun we hw => ?_)
    exact postO ((show (none : Option (List UInt8)) = objectO x from (if_neg (by omega)).symm)) ⟨none, 0, rfl, hw.drop.drop.drop.sub (fun _ hs => by repeat (first | exact hs | apply List.mem_cons_of_mem)), Arr.none⟩
  · refine VL.build (zs := [[.slice none 0 0], [.bool false]]) [(1, [.bool false])] plan181 rfl ⟨⟨rfl, ⟨_, rfl, rfl⟩, rfl⟩, trivial⟩ rfl ?_
    refine VL.box (L := [1, 1]) (ps := [[rowV none 0 0], [.bool false]]) rfl rfl rfl (fun g3 => ?_)
    refine VL.turn (fun w' hw => Own.newW hw) ?_
    refine VL.assign rfl ?_
    refine VL.nil ?_
    refine VX.next ?_
    refine VC.seq ?_
    refine VC.seq ?_
    refine VC.region ?_
    refine VL.move rfl ?_
    refine VL.nilCheck rfl ?_
    refine VL.fieldAddr rfl fo181_1 rfl ?_
    refine VL.load (v := .bool false) 0 1 rfl kd4 (fun _ h => h) rfl rfl rfl ?_
    refine VL.nil ?_
    refine VX.next ?_
    refine VC.no rfl ?_
    refine VC.skip ?_
    refine VX.next ?_
    refine VC.seq ?_
    refine VC.region ?_
    refine VL.move rfl ?_
    refine VL.fieldAddr rfl fo85_0 rfl ?_
    refine VL.load (v := .int .u8 (x.server)) 2 0 rfl kd5 (fun _ h => h) rfl rfl rfl ?_
    refine VL.conv (by rw [Try.underlying5]; rfl) Try.underlying22 rfl (inr_u64 (by omega)) ?_
    refine VL.call Try.func116 rfl (by decide) rfl (fun w' hw => num_w hw (by simp only [List.length_append, List.length_cons, List.length_nil, List.length_map]; omega) (x.server) (fits_small (by omega)) 1 (by decide) (by decide) (fits1 (by omega))) (fun v => ?_)
    refine VL.fact fun e6 => ?_
    subst e6
    refine VL.ex fun gp4 => VL.ex fun c5 => ?_
    refine VL.nil ?_
    refine VX.next ?_
    refine VC.seq ?_
    refine VC.region ?_
    refine VL.move rfl ?_
    refine VL.fieldAddr rfl fo85_1 rfl ?_
    refine VL.load (v := .int .u8 (x.n)) 2 1 rfl kd5 (fun _ h => h) rfl rfl rfl ?_
    refine VL.conv (by rw [Try.underlying5]; rfl) Try.underlying22 rfl (inr_u64 (by omega)) ?_
    refine VL.call Try.func116 rfl (by decide) rfl (fun w' hw => num_w hw (by simp only [List.length_append, List.length_cons, List.length_nil, List.length_map]; omega) (x.n) (fits_small (by omega)) 1 (by decide) (by decide) (fits1 (by omega))) (fun v => ?_)
    refine VL.fact fun e9 => ?_
    subst e9
    refine VL.ex fun gp7 => VL.ex fun c8 => ?_
    refine VL.nil ?_
    refine VX.next ?_
    refine VC.seq ?_
    refine VC.region ?_
    refine VL.move rfl ?_
    refine VL.fieldAddr rfl fo85_2 rfl ?_
    refine VL.loads (cs := (x.key).map bv) 2 2 1 rfl kd44 (fun _ h => h) rfl rfl rfl rfl ?_
    refine VL.call Try.func119 rfl (by decide) rfl (fun w' hw => key_w hw (by simp only [List.length_append, List.length_cons, List.length_nil, List.length_map]; omega) (l := x.key) hx.key) (fun v => ?_)
    refine VL.fact fun e12 => ?_
    subst e12
    refine VL.ex fun gp10 => VL.ex fun c11 => ?_
    refine VL.nil ?_
    refine VX.next ?_
    refine VC.seq ?_
    refine VC.region ?_
    refine VL.move rfl ?_
    refine VL.fieldAddr rfl fo85_3 rfl ?_
    refine VL.load (v := .int .u32 (x.since)) 2 3 rfl kd48 (fun _ h => h) rfl rfl rfl ?_
    refine VL.conv (by rw [Try.underlying48]; rfl) Try.underlying22 rfl (inr_u64 (by omega)) ?_
    refine VL.call Try.func116 rfl (by decide) rfl (fun w' hw => num_w hw (by simp only [List.length_append, List.length_cons, List.length_nil, List.length_map]; omega) (x.since) (fits_small (by omega)) 4 (by decide) (by decide) (fits4 (by omega))) (fun v => ?_)
    refine VL.fact fun e15 => ?_
    subst e15
    refine VL.ex fun gp13 => VL.ex fun c14 => ?_
    refine VL.nil ?_
    refine VX.next ?_
    refine VC.seq ?_
    refine VC.region ?_
    refine VL.move rfl ?_
    refine VL.fieldAddr rfl fo85_4 rfl ?_
    refine VL.load (v := .int .u32 (x.till)) 2 4 rfl kd48 (fun _ h => h) rfl rfl rfl ?_
    refine VL.conv (by rw [Try.underlying48]; rfl) Try.underlying22 rfl (inr_u64 (by omega)) ?_
    refine VL.call Try.func116 rfl (by decide) rfl (fun w' hw => num_w hw (by simp only [List.length_append, List.length_cons, List.length_nil, List.length_map]; omega) (x.till) (fits_small (by omega)) 4 (by decide) (by decide) (fits4 (by omega))) (fun v => ?_)
    refine VL.fact fun e18 => ?_
    subst e18
    refine VL.ex fun gp16 => VL.ex fun c17 => ?_
    refine VL.nil ?_
    refine VX.next ?_
    refine VC.seq ?_
    refine VC.region ?_
    refine VL.move rfl ?_
    refine VL.fieldAddr rfl fo85_5 rfl ?_
    refine VL.loads (cs := (x.sig).map bv) 2 5 1 rfl kd80 (fun _ h => h) rfl rfl rfl rfl ?_
    refine VL.call Try.func128 rfl (by decide) rfl (fun w' hw => sig_w hw (by simp only [List.length_append, List.length_cons, List.length_nil, List.length_map]; omega) (l := x.sig) hx.sig) (fun v => ?_)
    refine VL.fact fun e21 => ?_
    subst e21
    refine VL.ex fun gp19 => VL.ex fun c20 => ?_
    refine VL.nil ?_
    refine VX.next ?_
    refine VC.seq ?_
    refine VC.seq ?_
    refine VC.region ?_
    refine VL.fieldAddr rfl fo85_6 rfl ?_
    refine VL.load (v := .slice q (x.vouches).length d) 2 6 rfl kd83 (fun _ h => h) rfl rfl rfl ?_
    refine VL.len Try.underlying83 rfl rfl ?_
    refine VL.move rfl ?_
    refine VL.nil ?_
    refine VX.next ?_
    refine VC.block ?_
    refine VC.loop (X := Nat × Option Nat × Nat) (fun (i, gp, c) => [(4, .pointer (some ⟨g3, 0, none⟩)), (46, .slice q x.vouches.length d), (47, .int .i64 x.vouches.length), (48, .int .i64 (i : Int))]) (fun (i, gp, c) w' => i ≤ x.vouches.length ∧ Own (⟨w, keys H⟩ :: S) (wblk g3 gp c ((objectP0 x ++ (x.vouches.take i).map vouchB)).length false :: brow gp c ((objectP0 x ++ (x.vouches.take i).map vouchB)) :: blk g1 85 objectL (objectV (x) q d) :: H) w') (fun (i, _) => x.vouches.length - i) (0, gp19, c20) ⟨rfl, rfl, rfl, rfl, trivial⟩ (fun w' h => ⟨Nat.zero_le _, h⟩) (fun (i, gp, c) => VC.fact fun hi => ?_)
    · have hpl : (objectP0 x).length = 6 := rfl
      have htk : (List.take i x.vouches).length ≤ i := List.length_take_le _ _
      refine VC.seq ?_
      refine VC.region ?_
      refine VL.lss rfl rfl ?_
      refine VL.case (fun h11 => ?_) (fun h11 => ?_)
      · have hlt : i < x.vouches.length := by omega
        refine VL.nil ?_
        refine VX.next ?_
        refine VC.seq ?_
        refine VC.yes rfl ?_
        refine VC.skip ?_
        refine VX.next ?_
        refine VC.seq ?_
        refine VC.block ?_
        refine VC.seq ?_
        refine VC.region ?_
        refine VL.index (xs := x.vouches) rfl rfl Try.underlying83 sz83 hV (by omega) (by have hi := hlt; omega) ?_
        refine VL.elems (s := ⟨w, _⟩) (m := 65) (i) 0 rfl kd202 (fun _ h => h) (by repeat (first | exact List.mem_cons_self .. | apply List.mem_cons_of_mem)) hV (List.getElem?_eq_getElem hlt) (by simp) (by decide) (fun vs hl hr => ?_)
        obtain ⟨hy23, rfl⟩ := hr
        refine VL.newv (v' := .agg (cat (vouchV (x.vouches[i]'hlt))).toArray) (by rw [List.drop_zero, List.take_of_length_le (by rw [hl]; decide)]) ?_
        refine VL.alloc (L := vouchL) (ps := (vouchV (vouch0))) zero202 rfl rfl (fun g24 => ?_)
        refine VL.store (L := vouchL) (qs := (vouchV ((x.vouches[i]'hlt)))) (ps' := (vouchV ((x.vouches[i]'hlt)))) 0 0 2 rfl rfl rfl (.inl kd202) rfl rfl (vouchV_len hy23) (vouchV_ok1 ((x.vouches[i]'hlt))) rfl rfl ?_
        refine VL.turn (G' := Own _ (blk g24 202 vouchL (vouchV ((x.vouches[i]'hlt))) :: wblk g3 gp c ((objectP0 x ++ (x.vouches.take i).map vouchB)).length false :: brow gp c ((objectP0 x ++ (x.vouches.take i).map vouchB)) :: blk g1 85 objectL (objectV (x) q d) :: H)) (fun _ h => h) ?_
        refine VL.nil ?_
        refine VX.next ?_
        refine VC.letCells 0 rfl (fun w25 hO27 hF26 => ?_)
        apply VC.anyTA 7 1008 (F := [eqF _, eqF _, eqF _, capF (be 1 ((x.vouches[i]'hlt).notary)) 1, eqF _, eqF _, bytesF ((be 1 ((x.vouches[i]'hlt).notary) ++ (x.vouches[i]'hlt).sig))]) [⟨[], [4]⟩, ⟨[], [6]⟩, ⟨[(53, 1)], []⟩, ⟨[(54, 2)], []⟩, ⟨[], [6]⟩, ⟨[(56, 4)], []⟩, ⟨[(55, 3), (57, 5)], []⟩] [(52, 0), (58, 6)] [0, 1, 2, 3, 4, 6, 7, 8, 9, 10, 11, 12, 13, 14, 15, 16, 17, 18, 19, 20, 22, 23, 24, 25, 27, 28, 29, 31, 32, 33, 34, 36, 37, 38, 39, 41, 42, 43, 45, 46, 47, 48, 49, 50, 51, 60, 61, 62, 63, 64] rfl (by kernel_rfl) (by kernel_rfl) rfl rfl (by kernel_rfl) (by kernel_rfl) (by kernel_rfl) rfl ?obs13 ?end13
        case obs13 =>
          refine Obs.cons ?_ ?_
          · refine obS (by kernel_rfl) rfl rfl (fun ph13 w13 hO13 => ?_)
            refine VL.move rfl ?_
            exact VL.finS hO13 rfl rfl
          refine Obs.cons ?_ ?_
          · refine obS (by kernel_rfl) rfl rfl (fun ph13 w13 hO13 => ?_)
            refine VL.fieldAddr rfl fo202_0 rfl ?_
            exact VL.finS hO13 rfl rfl
          refine Obs.cons ?_ ?_
          · refine obS (by kernel_rfl) rfl rfl (fun ph13 w13 hO13 => ?_)
            rintro _ rfl
            refine VL.loadF (s := ⟨w25, _⟩) (v := .int .u8 ((x.vouches[i]'hlt).notary)) 0 rfl kd5 hF26 (fun _ e => e ▸ Still.ok hO13 (by repeat (first | exact List.mem_cons_self .. | apply List.mem_cons_of_mem))) rfl rfl ?_
            exact VL.finS hO13 rfl rfl
          refine Obs.cons ?_ ?_
          · refine ob (by kernel_rfl) rfl (by kernel_rfl) rfl (fun w13 hO13 => ?_)
            rintro _ rfl
            refine VL.toOwn hO13 ?_
            refine VL.litByte (m := (x.vouches[i]'hlt).notary) el24 rfl (by have hm := hy23.notary; omega) (fun g28 w29 hO30 hA31 => ?_)
            exact VL.finO rfl (fun _ h => h.sub (fun _ hs => by repeat (first | exact hs | apply List.mem_cons_of_mem))) (fun _ h => ⟨_, rfl, (hA31.now (s := ⟨w29, _⟩) Mono.byte h (by repeat (first | exact List.mem_cons_self .. | apply List.mem_cons_of_mem)))⟩)
          refine Obs.cons ?_ ?_
          · refine obS (by kernel_rfl) rfl rfl (fun ph13 w13 hO13 => ?_)
            refine VL.fieldAddr rfl fo202_1 rfl ?_
            exact VL.finS hO13 rfl rfl
          refine Obs.cons ?_ ?_
          · refine obS (by kernel_rfl) rfl rfl (fun ph13 w13 hO13 => ?_)
            rintro _ rfl
            refine VL.sliceArrAt Try.underlying80 (by kernel_rfl) rfl ?_
            refine VL.newv (v' := .slice (some ⟨g24, 1, none⟩) ((x.vouches[i]'hlt).sig).length 64) (by rw [hy23.sig]) ?_
            exact VL.finS hO13 rfl rfl
          refine Obs.cons ?_ ?_
          · refine ob (by kernel_rfl) rfl (by kernel_rfl) rfl (fun w13 hO13 => ?_)
            rintro _ ⟨p13_3, rfl, hA13_3⟩ _ rfl
            refine VL.toOwn hO13 ?_
            refine VL.appendFull el24 rfl rfl rfl (by simp only [be_length]; omega) (by have hl := hy23.sig; omega) (by simp only [be_length]; have hl := hy23.sig; omega) (by simp only [be_length]; have hl := hy23.sig; omega) (fun _ hw => (hA13_3.now (s := ⟨w13, _⟩) Mono.byte hw (by repeat (first | exact List.mem_cons_self .. | apply List.mem_cons_of_mem)))) (fun _ hw => ((hF26.bytes 1 1 rfl rfl hy23.sig rfl).now (s := ⟨w25, _⟩) Mono.byte hw (by repeat (first | exact List.mem_cons_self .. | apply List.mem_cons_of_mem)))) (fun g32 c36 w33 hO34 hA35 => ?_)
            exact VL.finO rfl (fun _ h => h.sub (fun _ hs => by repeat (first | exact hs | apply List.mem_cons_of_mem))) (fun _ h => ⟨_, _, rfl, (hA35.now (s := ⟨w33, _⟩) Mono.byte h (by repeat (first | exact List.mem_cons_self .. | apply List.mem_cons_of_mem)))⟩)
          exact Obs.nil
        case end13 =>
          intro w13 hO13
          rintro _ rfl _ ⟨p13_6, c13_6, rfl, hA13_6⟩
          refine VL.toOwn hO13 ?_
          refine VL.call Try.func117 rfl (by decide) rfl (fun w' hw => piece_w hw (by simp only [List.length_append, List.length_cons, List.length_nil, List.length_map]; omega) (hA13_6.now (s := ⟨w13, _⟩) Mono.byte hw (by repeat (first | exact List.mem_cons_self .. | apply List.mem_cons_of_mem))) true) (fun v => ?_)
          refine VL.fact fun e39 => ?_
          subst e39
          refine VL.ex fun gp37 => VL.ex fun c38 => ?_
          refine VL.nil ?_
          refine VX.block_normal ?_
          refine VX.next ?_
          refine VC.region ?_
          refine VL.add rfl rfl (by simp only [InR]; omega) ?_
          refine VL.move rfl ?_
          refine VL.nil ?_
          refine VX.round (i + 1, gp37, c38) ⟨rfl, rfl, rfl, rfl, trivial⟩ (fun w' h => ⟨by omega, ?_⟩) (by show x.vouches.length - (i + 1) < x.vouches.length - i; omega)
          rw [← vouch_next hlt, ← List.append_assoc]
          exact h.sub (fun _ hs => by repeat (first | exact hs | apply List.mem_cons_of_mem))
      · obtain rfl : i = x.vouches.length := by omega
        refine VL.nil ?_
        refine VX.next ?_
        refine VC.seq ?_
        refine VC.no rfl ?_
        refine VC.exit ?_
        refine VX.then_exit ?_
        refine VX.then_exit ?_
        refine VX.block_here ?_
        refine VX.next ?_
        refine VC.seq ?_
        refine VC.region ?_
        refine VL.move rfl ?_
        refine VL.call Try.func118 rfl (by decide) rfl (fun w' hw => done_O hw) (fun v => ?_)
        refine VL.at (fun w40 h1w => ?_)
        obtain ⟨p41, c42, rfl, hO44, hA43⟩ := h1w
        refine VL.toOwn hO44 ?_
        refine VL.extract rfl rfl ?_
        refine VL.extract rfl rfl ?_
        refine VL.assign rfl ?_
        refine VL.assign rfl ?_
        refine VL.nil ?_
        refine VX.next ?_
        refine VC.ret ?_
        refine VX.ret2 rfl rfl rfl (fun we hw => ?_)
        exact postO ((show joinO (objectP0 x ++ (x.vouches.take x.vouches.length).map vouchB) (!false) = objectO x from by rw [List.take_length]; unfold objectO; rw [if_pos (by omega)]; exact joinO_some (objectP_ok hx (by omega)) rfl)) ⟨p41, c42, rfl, hw.drop.sub (fun _ hs => by repeat (first | exact hs | apply List.mem_cons_of_mem)), (hA43.now (s := ⟨w40, _⟩) Mono.byte hw.drop (by repeat (first | exact List.mem_cons_self .. | apply List.mem_cons_of_mem)))⟩

theorem letter0_iff (x : Letter) : x = letter0 ↔ x.src = 0 ∧ x.dst = 0 ∧ x.header = header0 ∧ x.body.length = 0 := by
  constructor
  · rintro rfl; exact ⟨rfl, rfl, rfl, rfl⟩
  · obtain ⟨a, b, c, d⟩ := x
    rintro ⟨h1, h2, h3, h4⟩
    simp only at h1 h2 h3 h4
    subst h1 h2 h3
    rw [List.eq_nil_of_length_eq_zero h4]; rfl
theorem object0_iff (x : Object) : x = object0 ↔ x.server = 0 ∧ x.n = 0 ∧ x.key = zeros 32 ∧ x.since = 0 ∧ x.till = 0 ∧ x.sig = zeros 64 ∧ x.vouches.length = 0 := by
  constructor
  · rintro rfl; exact ⟨rfl, rfl, rfl, rfl, rfl, rfl, rfl⟩
  · obtain ⟨a, b, c, d, e, f, g⟩ := x
    rintro ⟨h1, h2, h3, h4, h5, h6, h7⟩
    simp only at h1 h2 h3 h4 h5 h6 h7
    subst h1 h2 h3 h4 h5 h6
    rw [List.eq_nil_of_length_eq_zero h7]; rfl

theorem emptyLetter_w {S : List Snap} {H : List Chunk} {w : World} (ho : Own S H w) {x : Letter} (hx : x.ok) {p : Option Addr} {c : Nat} : Calls Try.prog 138 #[.agg (cat (letterV x p c)).toArray] w (Ret fun v w' => ∃ b : Bool, v = .bool b ∧ (b = true ↔ x = letter0) ∧ Own S H w') := by
  refine enter (G := Own (⟨w, keys H⟩ :: S) H) ho.keep Try.func138 rfl Try.ntmps138 rfl ?_
  refine VC.seq ?_
  refine VC.region ?_
  refine VL.box (L := letterL) (ps := (letterV (x) p c)) rfl rfl (letterV_len hx) (fun g1 => ?_)
  refine VL.assign rfl ?_
  refine VL.nil ?_
  refine VX.next ?_
  refine VC.seq ?_
  refine VC.region ?_
  refine VL.fieldAddr rfl fo72_0 rfl ?_
  refine VL.load (v := .int .u8 (x.src)) 0 0 rfl kd5 (fun _ h => h) rfl rfl rfl ?_
  refine VL.eql rfl rfl ?_
  refine VL.case (fun h1_2 => ?_) (fun h1_2 => ?_)
  · have h1_2 : x.src = 0 := by omega
    refine VL.move rfl ?_
    refine VL.go rfl rfl rfl ?_
    refine VL.fieldAddr rfl fo72_1 rfl ?_
    refine VL.go rfl rfl rfl ?_
    refine VL.load (v := .int .u8 (x.dst)) 0 1 rfl kd5 (fun _ h => h) rfl rfl rfl ?_
    refine VL.go rfl rfl rfl ?_
    refine VL.eql rfl rfl ?_
    refine VL.case (fun h1_6 => ?_) (fun h1_6 => ?_)
    · have h1_6 : x.dst = 0 := by omega
      refine VL.pick_t rfl rfl ?_
      refine VL.move rfl ?_
      refine VL.go rfl rfl rfl ?_
      refine VL.fieldAddr rfl fo72_2 rfl ?_
      refine VL.go rfl rfl rfl ?_
      refine VL.loads (cs := cat (headerV (x.header))) 0 2 9 rfl kd70 (fun _ h => h) rfl rfl rfl rfl ?_
      refine VL.go rfl rfl rfl ?_
      refine VL.build0 (cs := cat (headerV (header0))) built70 ?_
      refine VL.go rfl rfl rfl ?_
      refine VL.eqT guard70 rfl rfl (eqHeader hx.header header0_ok) (fun b h1_12 => ?_)
      cases b
      · have h1_12 := mt h1_12.2 (by decide)
        refine VL.pick_t rfl rfl ?_
        refine VL.move rfl ?_
        refine VL.pass rfl rfl rfl rfl rfl ?_
        refine VL.pass rfl rfl rfl rfl rfl ?_
        refine VL.pass rfl rfl rfl rfl rfl ?_
        refine VL.pass rfl rfl rfl rfl rfl ?_
        refine VL.pick_f rfl rfl ?_
        refine VL.assign rfl ?_
        refine VL.nil ?_
        refine VX.next ?_
        refine VC.ret ?_
        refine VX.ret1 rfl rfl (fun we hw => ?_)
        refine ⟨false, rfl, ?_, hw.drop.sub (fun _ hs => by repeat (first | exact hs | apply List.mem_cons_of_mem))⟩
        rw [letter0_iff]
        simp [h1_2, h1_6, h1_12]
      · have h1_12 := h1_12.1 rfl
        refine VL.pick_t rfl rfl ?_
        refine VL.move rfl ?_
        refine VL.go rfl rfl rfl ?_
        refine VL.fieldAddr rfl fo72_3 rfl ?_
        refine VL.go rfl rfl rfl ?_
        refine VL.load (v := .slice p (x.body).length c) 0 11 rfl kd24 (fun _ h => h) rfl rfl rfl ?_
        refine VL.go rfl rfl rfl ?_
        refine VL.len Try.underlying24 rfl rfl ?_
        refine VL.go rfl rfl rfl ?_
        refine VL.eql rfl rfl ?_
        refine VL.case (fun h1_18 => ?_) (fun h1_18 => ?_)
        · have h1_18 : x.body.length = 0 := by omega
          refine VL.pick_t rfl rfl ?_
          refine VL.assign rfl ?_
          refine VL.nil ?_
          refine VX.next ?_
          refine VC.ret ?_
          refine VX.ret1 rfl rfl (fun we hw => ?_)
          refine ⟨true, rfl, ?_, hw.drop.sub (fun _ hs => by repeat (first | exact hs | apply List.mem_cons_of_mem))⟩
          rw [letter0_iff]
          simp [h1_2, h1_6, h1_12, h1_18]
        · have h1_18 : ¬ x.body.length = 0 := by omega
          refine VL.pick_t rfl rfl ?_
          refine VL.assign rfl ?_
          refine VL.nil ?_
          refine VX.next ?_
          refine VC.ret ?_
          refine VX.ret1 rfl rfl (fun we hw => ?_)
          refine ⟨false, rfl, ?_, hw.drop.sub (fun _ hs => by repeat (first | exact hs | apply List.mem_cons_of_mem))⟩
          rw [letter0_iff]
          simp [h1_2, h1_6, h1_12, h1_18]
    · have h1_6 : ¬ x.dst = 0 := by omega
      refine VL.pick_t rfl rfl ?_
      refine VL.move rfl ?_
      refine VL.pass rfl rfl rfl rfl rfl ?_
      refine VL.pass rfl rfl rfl rfl rfl ?_
      refine VL.pass rfl rfl rfl rfl rfl ?_
      refine VL.pass rfl rfl rfl rfl rfl ?_
      refine VL.pick_f rfl rfl ?_
      refine VL.move rfl ?_
      refine VL.pass rfl rfl rfl rfl rfl ?_
      refine VL.pass rfl rfl rfl rfl rfl ?_
      refine VL.pass rfl rfl rfl rfl rfl ?_
      refine VL.pass rfl rfl rfl rfl rfl ?_
      refine VL.pick_f rfl rfl ?_
      refine VL.assign rfl ?_
      refine VL.nil ?_
      refine VX.next ?_
      refine VC.ret ?_
      refine VX.ret1 rfl rfl (fun we hw => ?_)
      refine ⟨false, rfl, ?_, hw.drop.sub (fun _ hs => by repeat (first | exact hs | apply List.mem_cons_of_mem))⟩
      rw [letter0_iff]
      simp [h1_2, h1_6]
  · have h1_2 : ¬ x.src = 0 := by omega
    refine VL.move rfl ?_
    refine VL.pass rfl rfl rfl rfl rfl ?_
    refine VL.pass rfl rfl rfl rfl rfl ?_
    refine VL.pass rfl rfl rfl rfl rfl ?_
    refine VL.pick_f rfl rfl ?_
    refine VL.move rfl ?_
    refine VL.pass rfl rfl rfl rfl rfl ?_
    refine VL.pass rfl rfl rfl rfl rfl ?_
    refine VL.pass rfl rfl rfl rfl rfl ?_
    refine VL.pass rfl rfl rfl rfl rfl ?_
    refine VL.pick_f rfl rfl ?_
    refine VL.move rfl ?_
    refine VL.pass rfl rfl rfl rfl rfl ?_
    refine VL.pass rfl rfl rfl rfl rfl ?_
    refine VL.pass rfl rfl rfl rfl rfl ?_
    refine VL.pass rfl rfl rfl rfl rfl ?_
    refine VL.pick_f rfl rfl ?_
    refine VL.assign rfl ?_
    refine VL.nil ?_
    refine VX.next ?_
    refine VC.ret ?_
    refine VX.ret1 rfl rfl (fun we hw => ?_)
    refine ⟨false, rfl, ?_, hw.drop.sub (fun _ hs => by repeat (first | exact hs | apply List.mem_cons_of_mem))⟩
    rw [letter0_iff]
    simp [h1_2]

theorem emptyObject_w {S : List Snap} {H : List Chunk} {w : World} (ho : Own S H w) {x : Object} (hx : x.ok) {q : Option Addr} {d : Nat} : Calls Try.prog 163 #[.agg (cat (objectV x q d)).toArray] w (Ret fun v w' => ∃ b : Bool, v = .bool b ∧ (b = true ↔ x = object0) ∧ Own S H w') := by
  refine enter (G := Own (⟨w, keys H⟩ :: S) H) ho.keep Try.func163 rfl Try.ntmps163 rfl ?_
  refine VC.seq ?_
  refine VC.region ?_
  refine VL.box (L := objectL) (ps := (objectV (x) q d)) rfl rfl (objectV_len hx) (fun g1 => ?_)
  refine VL.assign rfl ?_
  refine VL.nil ?_
  refine VX.next ?_
  refine VC.seq ?_
  refine VC.region ?_
  refine VL.fieldAddr rfl fo85_0 rfl ?_
  refine VL.load (v := .int .u8 (x.server)) 0 0 rfl kd5 (fun _ h => h) rfl rfl rfl ?_
  refine VL.eql rfl rfl ?_
  refine VL.case (fun h1_2 => ?_) (fun h1_2 => ?_)
  · have h1_2 : x.server = 0 := by omega
    refine VL.move rfl ?_
    refine VL.go rfl rfl rfl ?_
    refine VL.fieldAddr rfl fo85_1 rfl ?_
    refine VL.go rfl rfl rfl ?_
    refine VL.load (v := .int .u8 (x.n)) 0 1 rfl kd5 (fun _ h => h) rfl rfl rfl ?_
    refine VL.go rfl rfl rfl ?_
    refine VL.eql rfl rfl ?_
    refine VL.case (fun h1_6 => ?_) (fun h1_6 => ?_)
    · have h1_6 : x.n = 0 := by omega
      refine VL.pick_t rfl rfl ?_
      refine VL.move rfl ?_
      refine VL.go rfl rfl rfl ?_
      refine VL.fieldAddr rfl fo85_2 rfl ?_
      refine VL.go rfl rfl rfl ?_
      refine VL.loads (cs := (x.key).map bv) 0 2 1 rfl kd44 (fun _ h => h) rfl rfl rfl rfl ?_
      refine VL.go rfl rfl rfl ?_
      refine VL.build0 (cs := (zeros 32).map bv) built44 ?_
      refine VL.go rfl rfl rfl ?_
      refine VL.eqT guard44 rfl rfl (eqKey 9998 hx.key rfl) (fun b h1_12 => ?_)
      cases b
      · have h1_12 := mt h1_12.2 (by decide)
        refine VL.pick_t rfl rfl ?_
        refine VL.move rfl ?_
        refine VL.pass rfl rfl rfl rfl rfl ?_
        refine VL.pass rfl rfl rfl rfl rfl ?_
        refine VL.pass rfl rfl rfl rfl rfl ?_
        refine VL.pick_f rfl rfl ?_
        refine VL.move rfl ?_
        refine VL.pass rfl rfl rfl rfl rfl ?_
        refine VL.pass rfl rfl rfl rfl rfl ?_
        refine VL.pass rfl rfl rfl rfl rfl ?_
        refine VL.pick_f rfl rfl ?_
        refine VL.move rfl ?_
        refine VL.pass rfl rfl rfl rfl rfl ?_
        refine VL.pass rfl rfl rfl rfl rfl ?_
        refine VL.pass rfl rfl rfl rfl rfl ?_
        refine VL.pass rfl rfl rfl rfl rfl ?_
        refine VL.pick_f rfl rfl ?_
        refine VL.move rfl ?_
        refine VL.pass rfl rfl rfl rfl rfl ?_
        refine VL.pass rfl rfl rfl rfl rfl ?_
        refine VL.pass rfl rfl rfl rfl rfl ?_
        refine VL.pass rfl rfl rfl rfl rfl ?_
        refine VL.pick_f rfl rfl ?_
        refine VL.assign rfl ?_
        refine VL.nil ?_
        refine VX.next ?_
        refine VC.ret ?_
        refine VX.ret1 rfl rfl (fun we hw => ?_)
        refine ⟨false, rfl, ?_, hw.drop.sub (fun _ hs => by repeat (first | exact hs | apply List.mem_cons_of_mem))⟩
        rw [object0_iff]
        simp [h1_2, h1_6, h1_12]
      · have h1_12 := h1_12.1 rfl
        refine VL.pick_t rfl rfl ?_
        refine VL.move rfl ?_
        refine VL.go rfl rfl rfl ?_
        refine VL.fieldAddr rfl fo85_3 rfl ?_
        refine VL.go rfl rfl rfl ?_
        refine VL.load (v := .int .u32 (x.since)) 0 3 rfl kd48 (fun _ h => h) rfl rfl rfl ?_
        refine VL.go rfl rfl rfl ?_
        refine VL.eql rfl rfl ?_
        refine VL.case (fun h1_17 => ?_) (fun h1_17 => ?_)
        · have h1_17 : x.since = 0 := by omega
          refine VL.pick_t rfl rfl ?_
          refine VL.move rfl ?_
          refine VL.go rfl rfl rfl ?_
          refine VL.fieldAddr rfl fo85_4 rfl ?_
          refine VL.go rfl rfl rfl ?_
          refine VL.load (v := .int .u32 (x.till)) 0 4 rfl kd48 (fun _ h => h) rfl rfl rfl ?_
          refine VL.go rfl rfl rfl ?_
          refine VL.eql rfl rfl ?_
          refine VL.case (fun h1_22 => ?_) (fun h1_22 => ?_)
          · have h1_22 : x.till = 0 := by omega
            refine VL.pick_t rfl rfl ?_
            refine VL.move rfl ?_
            refine VL.go rfl rfl rfl ?_
            refine VL.fieldAddr rfl fo85_5 rfl ?_
            refine VL.go rfl rfl rfl ?_
            refine VL.loads (cs := (x.sig).map bv) 0 5 1 rfl kd80 (fun _ h => h) rfl rfl rfl rfl ?_
            refine VL.go rfl rfl rfl ?_
            refine VL.build0 (cs := (zeros 64).map bv) built80 ?_
            refine VL.go rfl rfl rfl ?_
            refine VL.eqT guard80 rfl rfl (eqSig 9998 hx.sig rfl) (fun b h1_28 => ?_)
            cases b
            · have h1_28 := mt h1_28.2 (by decide)
              refine VL.pick_t rfl rfl ?_
              refine VL.move rfl ?_
              refine VL.pass rfl rfl rfl rfl rfl ?_
              refine VL.pass rfl rfl rfl rfl rfl ?_
              refine VL.pass rfl rfl rfl rfl rfl ?_
              refine VL.pass rfl rfl rfl rfl rfl ?_
              refine VL.pick_f rfl rfl ?_
              refine VL.assign rfl ?_
              refine VL.nil ?_
              refine VX.next ?_
              refine VC.ret ?_
              refine VX.ret1 rfl rfl (fun we hw => ?_)
              refine ⟨false, rfl, ?_, hw.drop.sub (fun _ hs => by repeat (first | exact hs | apply List.mem_cons_of_mem))⟩
              rw [object0_iff]
              simp [h1_2, h1_6, h1_12, h1_17, h1_22, h1_28]
            · have h1_28 := h1_28.1 rfl
              refine VL.pick_t rfl rfl ?_
              refine VL.move rfl ?_
              refine VL.go rfl rfl rfl ?_
              refine VL.fieldAddr rfl fo85_6 rfl ?_
              refine VL.go rfl rfl rfl ?_
              refine VL.load (v := .slice q (x.vouches).length d) 0 6 rfl kd83 (fun _ h => h) rfl rfl rfl ?_
              refine VL.go rfl rfl rfl ?_
              refine VL.len Try.underlying83 rfl rfl ?_
              refine VL.go rfl rfl rfl ?_
              refine VL.eql rfl rfl ?_
              refine VL.case (fun h1_34 => ?_) (fun h1_34 => ?_)
              · have h1_34 : x.vouches.length = 0 := by omega
                refine VL.pick_t rfl rfl ?_
                refine VL.assign rfl ?_
                refine VL.nil ?_
                refine VX.next ?_
                refine VC.ret ?_
                refine VX.ret1 rfl rfl (fun we hw => ?_)
                refine ⟨true, rfl, ?_, hw.drop.sub (fun _ hs => by repeat (first | exact hs | apply List.mem_cons_of_mem))⟩
                rw [object0_iff]
                simp [h1_2, h1_6, h1_12, h1_17, h1_22, h1_28, h1_34]
              · have h1_34 : ¬ x.vouches.length = 0 := by omega
                refine VL.pick_t rfl rfl ?_
                refine VL.assign rfl ?_
                refine VL.nil ?_
                refine VX.next ?_
                refine VC.ret ?_
                refine VX.ret1 rfl rfl (fun we hw => ?_)
                refine ⟨false, rfl, ?_, hw.drop.sub (fun _ hs => by repeat (first | exact hs | apply List.mem_cons_of_mem))⟩
                rw [object0_iff]
                simp [h1_2, h1_6, h1_12, h1_17, h1_22, h1_28, h1_34]
          · have h1_22 : ¬ x.till = 0 := by omega
            refine VL.pick_t rfl rfl ?_
            refine VL.move rfl ?_
            refine VL.pass rfl rfl rfl rfl rfl ?_
            refine VL.pass rfl rfl rfl rfl rfl ?_
            refine VL.pass rfl rfl rfl rfl rfl ?_
            refine VL.pass rfl rfl rfl rfl rfl ?_
            refine VL.pick_f rfl rfl ?_
            refine VL.move rfl ?_
            refine VL.pass rfl rfl rfl rfl rfl ?_
            refine VL.pass rfl rfl rfl rfl rfl ?_
            refine VL.pass rfl rfl rfl rfl rfl ?_
            refine VL.pass rfl rfl rfl rfl rfl ?_
            refine VL.pick_f rfl rfl ?_
            refine VL.assign rfl ?_
            refine VL.nil ?_
            refine VX.next ?_
            refine VC.ret ?_
            refine VX.ret1 rfl rfl (fun we hw => ?_)
            refine ⟨false, rfl, ?_, hw.drop.sub (fun _ hs => by repeat (first | exact hs | apply List.mem_cons_of_mem))⟩
            rw [object0_iff]
            simp [h1_2, h1_6, h1_12, h1_17, h1_22]
        · have h1_17 : ¬ x.since = 0 := by omega
          refine VL.pick_t rfl rfl ?_
          refine VL.move rfl ?_
          refine VL.pass rfl rfl rfl rfl rfl ?_
          refine VL.pass rfl rfl rfl rfl rfl ?_
          refine VL.pass rfl rfl rfl rfl rfl ?_
          refine VL.pick_f rfl rfl ?_
          refine VL.move rfl ?_
          refine VL.pass rfl rfl rfl rfl rfl ?_
          refine VL.pass rfl rfl rfl rfl rfl ?_
          refine VL.pass rfl rfl rfl rfl rfl ?_
          refine VL.pass rfl rfl rfl rfl rfl ?_
          refine VL.pick_f rfl rfl ?_
          refine VL.move rfl ?_
          refine VL.pass rfl rfl rfl rfl rfl ?_
          refine VL.pass rfl rfl rfl rfl rfl ?_
          refine VL.pass rfl rfl rfl rfl rfl ?_
          refine VL.pass rfl rfl rfl rfl rfl ?_
          refine VL.pick_f rfl rfl ?_
          refine VL.assign rfl ?_
          refine VL.nil ?_
          refine VX.next ?_
          refine VC.ret ?_
          refine VX.ret1 rfl rfl (fun we hw => ?_)
          refine ⟨false, rfl, ?_, hw.drop.sub (fun _ hs => by repeat (first | exact hs | apply List.mem_cons_of_mem))⟩
          rw [object0_iff]
          simp [h1_2, h1_6, h1_12, h1_17]
    · have h1_6 : ¬ x.n = 0 := by omega
      refine VL.pick_t rfl rfl ?_
      refine VL.move rfl ?_
      refine VL.pass rfl rfl rfl rfl rfl ?_
      refine VL.pass rfl rfl rfl rfl rfl ?_
      refine VL.pass rfl rfl rfl rfl rfl ?_
      refine VL.pass rfl rfl rfl rfl rfl ?_
      refine VL.pick_f rfl rfl ?_
      refine VL.move rfl ?_
      refine VL.pass rfl rfl rfl rfl rfl ?_
      refine VL.pass rfl rfl rfl rfl rfl ?_
      refine VL.pass rfl rfl rfl rfl rfl ?_
      refine VL.pick_f rfl rfl ?_
      refine VL.move rfl ?_
      refine VL.pass rfl rfl rfl rfl rfl ?_
      refine VL.pass rfl rfl rfl rfl rfl ?_
      refine VL.pass rfl rfl rfl rfl rfl ?_
      refine VL.pick_f rfl rfl ?_
      refine VL.move rfl ?_
      refine VL.pass rfl rfl rfl rfl rfl ?_
      refine VL.pass rfl rfl rfl rfl rfl ?_
      refine VL.pass rfl rfl rfl rfl rfl ?_
      refine VL.pass rfl rfl rfl rfl rfl ?_
      refine VL.pick_f rfl rfl ?_
      refine VL.move rfl ?_
      refine VL.pass rfl rfl rfl rfl rfl ?_
      refine VL.pass rfl rfl rfl rfl rfl ?_
      refine VL.pass rfl rfl rfl rfl rfl ?_
      refine VL.pass rfl rfl rfl rfl rfl ?_
      refine VL.pick_f rfl rfl ?_
      refine VL.assign rfl ?_
      refine VL.nil ?_
      refine VX.next ?_
      refine VC.ret ?_
      refine VX.ret1 rfl rfl (fun we hw => ?_)
      refine ⟨false, rfl, ?_, hw.drop.sub (fun _ hs => by repeat (first | exact hs | apply List.mem_cons_of_mem))⟩
      rw [object0_iff]
      simp [h1_2, h1_6]
  · have h1_2 : ¬ x.server = 0 := by omega
    refine VL.move rfl ?_
    refine VL.pass rfl rfl rfl rfl rfl ?_
    refine VL.pass rfl rfl rfl rfl rfl ?_
    refine VL.pass rfl rfl rfl rfl rfl ?_
    refine VL.pick_f rfl rfl ?_
    refine VL.move rfl ?_
    refine VL.pass rfl rfl rfl rfl rfl ?_
    refine VL.pass rfl rfl rfl rfl rfl ?_
    refine VL.pass rfl rfl rfl rfl rfl ?_
    refine VL.pass rfl rfl rfl rfl rfl ?_
    refine VL.pick_f rfl rfl ?_
    refine VL.move rfl ?_
    refine VL.pass rfl rfl rfl rfl rfl ?_
    refine VL.pass rfl rfl rfl rfl rfl ?_
    refine VL.pass rfl rfl rfl rfl rfl ?_
    refine VL.pick_f rfl rfl ?_
    refine VL.move rfl ?_
    refine VL.pass rfl rfl rfl rfl rfl ?_
    refine VL.pass rfl rfl rfl rfl rfl ?_
    refine VL.pass rfl rfl rfl rfl rfl ?_
    refine VL.pick_f rfl rfl ?_
    refine VL.move rfl ?_
    refine VL.pass rfl rfl rfl rfl rfl ?_
    refine VL.pass rfl rfl rfl rfl rfl ?_
    refine VL.pass rfl rfl rfl rfl rfl ?_
    refine VL.pass rfl rfl rfl rfl rfl ?_
    refine VL.pick_f rfl rfl ?_
    refine VL.move rfl ?_
    refine VL.pass rfl rfl rfl rfl rfl ?_
    refine VL.pass rfl rfl rfl rfl rfl ?_
    refine VL.pass rfl rfl rfl rfl rfl ?_
    refine VL.pass rfl rfl rfl rfl rfl ?_
    refine VL.pick_f rfl rfl ?_
    refine VL.assign rfl ?_
    refine VL.nil ?_
    refine VX.next ?_
    refine VC.ret ?_
    refine VX.ret1 rfl rfl (fun we hw => ?_)
    refine ⟨false, rfl, ?_, hw.drop.sub (fun _ hs => by repeat (first | exact hs | apply List.mem_cons_of_mem))⟩
    rw [object0_iff]
    simp [h1_2]

end Go.Proofs.Ytcfecmoagfgnaaa
