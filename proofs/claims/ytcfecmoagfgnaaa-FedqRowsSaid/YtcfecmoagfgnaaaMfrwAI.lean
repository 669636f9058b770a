/- The statement FedqRows is proved, for every input: part 9 of 21 of the texts that it needs. -/
import Derived.Test.YtcfecmoagfgnaaaMfrwAH
/- wire: bytes of objects. -/
namespace Go.Proofs.Ytcfecmoagfgnaaa
open Go.Vc Go.Pl

theorem vouchB_is (v : Vouch) : be 1 v.notary ++ v.sig = vouchB v := by rw [be_one]; rfl
theorem vouch_next {vs : List Vouch} {i : Nat} (h : i < vs.length) : (vs.take i).map vouchB ++ [be 1 (vs[i]'h).notary ++ (vs[i]'h).sig] = (vs.take (i + 1)).map vouchB := by
 rw [List.take_succ_eq_append_getElem h, List.map_append, vouchB_is]; rfl

theorem putObject_w {S : List Snap} {H : List Chunk} {w : World} (ho : Own S H w) {x : Object} (hx : x.ok) {q : Option Addr} {d : Nat} (hV : Arr 65 vouchR (keys H) w q x.vouches d) : Calls Try.prog 65 #[.agg (cat (objectV x q d)).toArray] w (RetO S H (objectO x)) := by
 have hx1 := hx.server
 have hx2 := hx.n
 have hx3 := hx.since
 have hx4 := hx.till
 refine enter (G := Own (⟨w, keys H⟩ :: S) H) ho.keep Try.func65 rfl Try.ntmps65 rfl ?_
 refine VC.sr ?_
 refine VL.box (L := objectL) (ps := (objectV (x) q d)) rfl rfl (objectV_len hx) (fun g1 => ?_)
 refine VL.assign rfl ?_
 refine VL.assign rfl ?_
 refine VL.nn ?_
 refine VC.sr ?_
 refine VL.fieldAddr rfl fo85_6 rfl ?_
 refine VL.load (v := .slice q (x.vouches).length d) 0 6 rfl kd83 (fun _ h => h) rfl rfl rfl ?_
 refine VL.len Try.underlying83 rfl rfl ?_
 refine VL.gtr rfl rfl ?_
 refine VL.case (fun h1_3 => ?_) (fun h1_3 => ?_)
 ·refine VL.build (zs := [[.slice none 0 0], [.bool false]]) [(1, [.bool true])] plan181 rfl ⟨⟨rfl, ⟨_, rfl, rfl⟩, rfl⟩, trivial⟩ rfl ?_
  refine VL.box (L := [1, 1]) (ps := [[rowV none 0 0], [.bool true]]) rfl rfl rfl (fun g2 => ?_)
  refine VL.turn (fun w' hw => Own.newW hw) ?_
  refine VL.assign rfl ?_
  refine VL.nn ?_
  refine VC.seq ?_
  refine VC.sr ?_
  refine VL.move rfl ?_
  refine VL.nilCheck rfl ?_
  refine VL.fieldAddr rfl fo181_1 rfl ?_
  refine VL.load (v := .bool true) 0 1 rfl kd4 (fun _ h => h) rfl rfl rfl ?_
  refine VL.nn ?_
  refine VC.yes rfl ?_
  refine VC.sr ?_
  refine VL.assign rfl ?_
  refine VL.assign rfl ?_
  refine VL.nn ?_
  refine VC.ret ?_
  refine VX.then_ret ?_
  refine VX.ret2 rfl rfl rfl (fun we hw => ?_)
  exact postO ((show (none : Option (List UInt8)) = objectO x from (if_neg (by omega)).symm)) ⟨none, 0, rfl, hw.drop.drop.drop.subA, Arr.none⟩
 ·refine VL.build (zs := [[.slice none 0 0], [.bool false]]) [(1, [.bool false])] plan181 rfl ⟨⟨rfl, ⟨_, rfl, rfl⟩, rfl⟩, trivial⟩ rfl ?_
  refine VL.box (L := [1, 1]) (ps := [[rowV none 0 0], [.bool false]]) rfl rfl rfl (fun g3 => ?_)
  refine VL.turn (fun w' hw => Own.newW hw) ?_
  refine VL.assign rfl ?_
  refine VL.nn ?_
  refine VC.seq ?_
  refine VC.sr ?_
  refine VL.move rfl ?_
  refine VL.nilCheck rfl ?_
  refine VL.fieldAddr rfl fo181_1 rfl ?_
  refine VL.load (v := .bool false) 0 1 rfl kd4 (fun _ h => h) rfl rfl rfl ?_
  refine VL.nn ?_
  refine VC.no rfl ?_
  refine VC.skip ?_
  refine VX.next ?_
  refine VC.sr ?_
  refine VL.move rfl ?_
  refine VL.fieldAddr rfl fo85_0 rfl ?_
  refine VL.load (v := .int .u8 (x.server)) 2 0 rfl kd5 (fun _ h => h) rfl rfl rfl ?_
  refine VL.conv (by rw [Try.underlying5]; rfl) Try.underlying22 rfl (inr_u64 (by omega)) ?_
  refine VL.call Try.func116 rfl (by decide) rfl (fun w' hw => num_w hw (by simp only [List.length_append, List.length_cons, List.length_nil, List.length_map]; omega) (x.server) (fits_small (by omega)) 1 (by decide) (by decide) (fits1 (by omega))) (fun v => ?_)
  refine VL.fact fun e6 => ?_
  subst e6
  refine VL.ex fun gp4 => VL.ex fun c5 => ?_
  refine VL.nn ?_
  refine VC.sr ?_
  refine VL.move rfl ?_
  refine VL.fieldAddr rfl fo85_1 rfl ?_
  refine VL.load (v := .int .u8 (x.n)) 2 1 rfl kd5 (fun _ h => h) rfl rfl rfl ?_
  refine VL.conv (by rw [Try.underlying5]; rfl) Try.underlying22 rfl (inr_u64 (by omega)) ?_
  refine VL.call Try.func116 rfl (by decide) rfl (fun w' hw => num_w hw (by simp only [List.length_append, List.length_cons, List.length_nil, List.length_map]; omega) (x.n) (fits_small (by omega)) 1 (by decide) (by decide) (fits1 (by omega))) (fun v => ?_)
  refine VL.fact fun e9 => ?_
  subst e9
  refine VL.ex fun gp7 => VL.ex fun c8 => ?_
  refine VL.nn ?_
  refine VC.sr ?_
  refine VL.move rfl ?_
  refine VL.fieldAddr rfl fo85_2 rfl ?_
  refine VL.loads (cs := (x.key).map bv) 2 2 1 rfl kd44 (fun _ h => h) rfl rfl rfl rfl ?_
  refine VL.call Try.func119 rfl (by decide) rfl (fun w' hw => key_w hw (by simp only [List.length_append, List.length_cons, List.length_nil, List.length_map]; omega) (l := x.key) hx.key) (fun v => ?_)
  refine VL.fact fun e12 => ?_
  subst e12
  refine VL.ex fun gp10 => VL.ex fun c11 => ?_
  refine VL.nn ?_
  refine VC.sr ?_
  refine VL.move rfl ?_
  refine VL.fieldAddr rfl fo85_3 rfl ?_
  refine VL.load (v := .int .u32 (x.since)) 2 3 rfl kd48 (fun _ h => h) rfl rfl rfl ?_
  refine VL.conv (by rw [Try.underlying48]; rfl) Try.underlying22 rfl (inr_u64 (by omega)) ?_
  refine VL.call Try.func116 rfl (by decide) rfl (fun w' hw => num_w hw (by simp only [List.length_append, List.length_cons, List.length_nil, List.length_map]; omega) (x.since) (fits_small (by omega)) 4 (by decide) (by decide) (fits4 (by omega))) (fun v => ?_)
  refine VL.fact fun e15 => ?_
  subst e15
  refine VL.ex fun gp13 => VL.ex fun c14 => ?_
  refine VL.nn ?_
  refine VC.sr ?_
  refine VL.move rfl ?_
  refine VL.fieldAddr rfl fo85_4 rfl ?_
  refine VL.load (v := .int .u32 (x.till)) 2 4 rfl kd48 (fun _ h => h) rfl rfl rfl ?_
  refine VL.conv (by rw [Try.underlying48]; rfl) Try.underlying22 rfl (inr_u64 (by omega)) ?_
  refine VL.call Try.func116 rfl (by decide) rfl (fun w' hw => num_w hw (by simp only [List.length_append, List.length_cons, List.length_nil, List.length_map]; omega) (x.till) (fits_small (by omega)) 4 (by decide) (by decide) (fits4 (by omega))) (fun v => ?_)
  refine VL.fact fun e18 => ?_
  subst e18
  refine VL.ex fun gp16 => VL.ex fun c17 => ?_
  refine VL.nn ?_
  refine VC.sr ?_
  refine VL.move rfl ?_
  refine VL.fieldAddr rfl fo85_5 rfl ?_
  refine VL.loads (cs := (x.sig).map bv) 2 5 1 rfl kd80 (fun _ h => h) rfl rfl rfl rfl ?_
  refine VL.call Try.func128 rfl (by decide) rfl (fun w' hw => sig_w hw (by simp only [List.length_append, List.length_cons, List.length_nil, List.length_map]; omega) (l := x.sig) hx.sig) (fun v => ?_)
  refine VL.fact fun e21 => ?_
  subst e21
  refine VL.ex fun gp19 => VL.ex fun c20 => ?_
  refine VL.nn ?_
  refine VC.seq ?_
  refine VC.sr ?_
  refine VL.fieldAddr rfl fo85_6 rfl ?_
  refine VL.load (v := .slice q (x.vouches).length d) 2 6 rfl kd83 (fun _ h => h) rfl rfl rfl ?_
  refine VL.len Try.underlying83 rfl rfl ?_
  refine VL.move rfl ?_
  refine VL.nn ?_
  refine VC.block ?_
  refine VC.loop (X := Nat × Option Nat × Nat) (fun (i, gp, c) => [(4, .pointer (some ⟨g3, 0, none⟩)), (46, .slice q x.vouches.length d), (47, .int .i64 x.vouches.length), (48, .int .i64 (i : Int))]) (fun (i, gp, c) w' => i ≤ x.vouches.length ∧ Own (⟨w, keys H⟩ :: S) (wblk g3 gp c ((objectP0 x ++ (x.vouches.take i).map vouchB)).length false :: brow gp c ((objectP0 x ++ (x.vouches.take i).map vouchB)) :: blk g1 85 objectL (objectV (x) q d) :: H) w') (fun (i, _) => x.vouches.length - i) (0, gp19, c20) ⟨rfl, rfl, rfl, rfl, trivial⟩ (fun w' h => ⟨Nat.zero_le _, h⟩) (fun (i, gp, c) => VC.fact fun hi => ?_)
  ·have hpl : (objectP0 x).length = 6 := rfl
   have htk : (List.take i x.vouches).length ≤ i := List.length_take_le _ _
   refine VC.sr ?_
   refine VL.lss rfl rfl ?_
   refine VL.case (fun h11 => ?_) (fun h11 => ?_)
   ·have hlt : i < x.vouches.length := by omega
    refine VL.nn ?_
    refine VC.seq ?_
    refine VC.yes rfl ?_
    refine VC.skip ?_
    refine VX.next ?_
    refine VC.seq ?_
    refine VC.block ?_
    refine VC.sr ?_
    refine VL.index (xs := x.vouches) rfl rfl Try.underlying83 sz83 hV (by omega) (by have hi := hlt; omega) ?_
    refine VL.elems (s := ⟨w, _⟩) (m := 65) (i) 0 rfl kd202 (fun _ h => h) (by repeat (first | exact List.mem_cons_self .. | apply List.mem_cons_of_mem)) hV (List.getElem?_eq_getElem hlt) (by simp) (by decide) (fun vs hl hr => ?_)
    obtain ⟨hy23, rfl⟩ := hr
    refine VL.newv (v' := .agg (cat (vouchV (x.vouches[i]'hlt))).toArray) (by rw [List.drop_zero, List.take_of_length_le (by rw [hl]; decide)]) ?_
    refine VL.alloc (L := vouchL) (ps := (vouchV (vouch0))) zero202 rfl rfl (fun g24 => ?_)
    refine VL.store (L := vouchL) (qs := (vouchV ((x.vouches[i]'hlt)))) (ps' := (vouchV ((x.vouches[i]'hlt)))) 0 0 2 rfl rfl rfl (.inl kd202) rfl rfl (vouchV_len hy23) (vouchV_ok1 ((x.vouches[i]'hlt))) rfl rfl ?_
    refine VL.set0 ?_
    refine VL.nn ?_
    refine VC.letCells 0 rfl (fun w25 hO27 hF26 => ?_)
    apply VC.anyTA 7 1008 (F := [eqF _, eqF _, eqF _, capF (be 1 ((x.vouches[i]'hlt).notary)) 1, eqF _, eqF _, bytesF ((be 1 ((x.vouches[i]'hlt).notary) ++ (x.vouches[i]'hlt).sig))]) [⟨[], [4]⟩, ⟨[], [6]⟩, ⟨[(53, 1)], []⟩, ⟨[(54, 2)], []⟩, ⟨[], [6]⟩, ⟨[(56, 4)], []⟩, ⟨[(55, 3), (57, 5)], []⟩] [(52, 0), (58, 6)] [0, 1, 2, 3, 4, 6, 7, 8, 9, 10, 11, 12, 13, 14, 15, 16, 17, 18, 19, 20, 22, 23, 24, 25, 27, 28, 29, 31, 32, 33, 34, 36, 37, 38, 39, 41, 42, 43, 45, 46, 47, 48, 49, 50, 51, 60, 61, 62, 63, 64] rfl (by kernel_rfl) (by kernel_rfl) rfl rfl (by kernel_rfl) (by kernel_rfl) (by kernel_rfl) rfl ?obs13 ?end13
    case obs13 =>
     refine Obs.cons ?_ ?_
     ·refine obS (by kernel_rfl) rfl rfl (fun ph13 w13 hO13 => ?_)
      refine VL.move rfl ?_
      exact VL.finS hO13 rfl rfl
     refine Obs.cons ?_ ?_
     ·refine obS (by kernel_rfl) rfl rfl (fun ph13 w13 hO13 => ?_)
      refine VL.fieldAddr rfl fo202_0 rfl ?_
      exact VL.finS hO13 rfl rfl
     refine Obs.cons ?_ ?_
     ·refine obS (by kernel_rfl) rfl rfl (fun ph13 w13 hO13 => ?_)
      rintro _ rfl
      refine VL.loadF (s := ⟨w25, _⟩) (v := .int .u8 ((x.vouches[i]'hlt).notary)) 0 rfl kd5 hF26 (fun _ e => e ▸ Still.ok hO13 (by repeat (first | exact List.mem_cons_self .. | apply List.mem_cons_of_mem))) rfl rfl ?_
      exact VL.finS hO13 rfl rfl
     refine Obs.cons ?_ ?_
     ·refine ob (by kernel_rfl) rfl (by kernel_rfl) rfl (fun w13 hO13 => ?_)
      rintro _ rfl
      refine VL.toOwn hO13 ?_
      refine VL.litByte (m := (x.vouches[i]'hlt).notary) el24 rfl (by have hm := hy23.notary; omega) (fun g28 w29 hO30 hA31 => ?_)
      exact VL.finO rfl (fun _ h => h.subA) (fun _ h => ⟨_, rfl, (hA31.nowA (s := ⟨w29, _⟩) Mono.byte h)⟩)
     refine Obs.cons ?_ ?_
     ·refine obS (by kernel_rfl) rfl rfl (fun ph13 w13 hO13 => ?_)
      refine VL.fieldAddr rfl fo202_1 rfl ?_
      exact VL.finS hO13 rfl rfl
     refine Obs.cons ?_ ?_
     ·refine obS (by kernel_rfl) rfl rfl (fun ph13 w13 hO13 => ?_)
      rintro _ rfl
      refine VL.sliceArrAt Try.underlying80 (by kernel_rfl) rfl ?_
      refine VL.newv (v' := .slice (some ⟨g24, 1, none⟩) ((x.vouches[i]'hlt).sig).length 64) (by rw [hy23.sig]) ?_
      exact VL.finS hO13 rfl rfl
     refine Obs.cons ?_ ?_
     ·refine ob (by kernel_rfl) rfl (by kernel_rfl) rfl (fun w13 hO13 => ?_)
      rintro _ ⟨p13_3, rfl, hA13_3⟩ _ rfl
      refine VL.toOwn hO13 ?_
      refine VL.appendFull el24 rfl rfl rfl (by simp only [be_length]; omega) (by have hl := hy23.sig; omega) (by simp only [be_length]; have hl := hy23.sig; omega) (by simp only [be_length]; have hl := hy23.sig; omega) (fun _ hw => (hA13_3.nowA (s := ⟨w13, _⟩) Mono.byte hw)) (fun _ hw => ((hF26.bytes 1 1 rfl rfl hy23.sig rfl).nowA (s := ⟨w25, _⟩) Mono.byte hw)) (fun g32 c36 w33 hO34 hA35 => ?_)
      exact VL.finO rfl (fun _ h => h.subA) (fun _ h => ⟨_, _, rfl, (hA35.nowA (s := ⟨w33, _⟩) Mono.byte h)⟩)
     exact Obs.nil
    case end13 =>
     intro w13 hO13
     rintro _ rfl _ ⟨p13_6, c13_6, rfl, hA13_6⟩
     refine VL.toOwn hO13 ?_
     refine VL.call Try.func117 rfl (by decide) rfl (fun w' hw => piece_w hw (by simp only [List.length_append, List.length_cons, List.length_nil, List.length_map]; omega) (hA13_6.nowA (s := ⟨w13, _⟩) Mono.byte hw) true) (fun v => ?_)
     refine VL.fact fun e39 => ?_
     subst e39
     refine VL.ex fun gp37 => VL.ex fun c38 => ?_
     refine VL.nil ?_
     refine VX.block_normal ?_
     refine VX.next ?_
     refine VC.region ?_
     refine VL.add rfl rfl (by simp only [InR]; omega) ?_
     refine VL.move rfl ?_
     refine VL.nil ?_
     refine VX.round (i + 1, gp37, c38) ⟨rfl, rfl, rfl, rfl, trivial⟩ (fun w' h => ⟨by omega, ?_⟩) (by show x.vouches.length - (i + 1) < x.vouches.length - i; omega)
     rw [← vouch_next hlt, ← List.append_assoc]
     exact h.subA
   ·obtain rfl : i = x.vouches.length := by omega
    refine VL.nn ?_
    refine VC.seq ?_
    refine VC.no rfl ?_
    refine VC.exit ?_
    refine VX.then_exit ?_
    refine VX.then_exit ?_
    refine VX.block_here ?_
    refine VX.next ?_
    refine VC.sr ?_
    refine VL.move rfl ?_
    refine VL.call Try.func118 rfl (by decide) rfl (fun w' hw => done_O hw) (fun v => ?_)
    refine VL.at (fun w40 h1w => ?_)
    obtain ⟨p41, c42, rfl, hO44, hA43⟩ := h1w
    refine VL.toOwn hO44 ?_
    refine VL.extract rfl rfl ?_
    refine VL.extract rfl rfl ?_
    refine VL.assign rfl ?_
    refine VL.assign rfl ?_
    refine VL.nn ?_
    refine VC.ret ?_
    refine VX.ret2 rfl rfl rfl (fun we hw => ?_)
    exact postO ((show joinO (objectP0 x ++ (x.vouches.take x.vouches.length).map vouchB) (!false) = objectO x from by rw [List.take_length]; unfold objectO; rw [if_pos (by omega)]; exact joinO_some (objectP_ok hx (by omega)) rfl)) ⟨p41, c42, rfl, hw.drop.subA, (hA43.nowA (s := ⟨w40, _⟩) Mono.byte hw.drop)⟩

theorem letter0_iff (x : Letter) : x = letter0 ↔ x.src = 0 ∧ x.dst = 0 ∧ x.header = header0 ∧ x.body.length = 0 := by
 constructor
 ·rintro rfl; exact ⟨rfl, rfl, rfl, rfl⟩
 ·obtain ⟨a, b, c, d⟩ := x
  rintro ⟨h1, h2, h3, h4⟩
  simp only at h1 h2 h3 h4
  subst h1 h2 h3
  rw [List.eq_nil_of_length_eq_zero h4]; rfl
theorem object0_iff (x : Object) : x = object0 ↔ x.server = 0 ∧ x.n = 0 ∧ x.key = zeros 32 ∧ x.since = 0 ∧ x.till = 0 ∧ x.sig = zeros 64 ∧ x.vouches.length = 0 := by
 constructor
 ·rintro rfl; exact ⟨rfl, rfl, rfl, rfl, rfl, rfl, rfl⟩
 ·obtain ⟨a, b, c, d, e, f, g⟩ := x
  rintro ⟨h1, h2, h3, h4, h5, h6, h7⟩
  simp only at h1 h2 h3 h4 h5 h6 h7
  subst h1 h2 h3 h4 h5 h6
  rw [List.eq_nil_of_length_eq_zero h7]; rfl

theorem emptyLetter_w {S : List Snap} {H : List Chunk} {w : World} (ho : Own S H w) {x : Letter} (hx : x.ok) {p : Option Addr} {c : Nat} : Calls Try.prog 138 #[.agg (cat (letterV x p c)).toArray] w (Ret fun v w' => ∃ b : Bool, v = .bool b ∧ (b = true ↔ x = letter0) ∧ Own S H w') := by
 refine enter (G := Own (⟨w, keys H⟩ :: S) H) ho.keep Try.func138 rfl Try.ntmps138 rfl ?_
 refine VC.sr ?_
 refine VL.box (L := letterL) (ps := (letterV (x) p c)) rfl rfl (letterV_len hx) (fun g1 => ?_)
 refine VL.assign rfl ?_
 refine VL.nn ?_
 refine VC.sr ?_
 refine VL.fieldAddr rfl fo72_0 rfl ?_
 refine VL.load (v := .int .u8 (x.src)) 0 0 rfl kd5 (fun _ h => h) rfl rfl rfl ?_
 refine VL.eql rfl rfl ?_
 refine VL.case (fun h1_2 => ?_) (fun h1_2 => ?_)
 ·have h1_2 : x.src = 0 := by omega
  refine VL.move rfl ?_
  refine VL.go rfl rfl rfl ?_
  refine VL.fieldAddr rfl fo72_1 rfl ?_
  refine VL.go rfl rfl rfl ?_
  refine VL.load (v := .int .u8 (x.dst)) 0 1 rfl kd5 (fun _ h => h) rfl rfl rfl ?_
  refine VL.go rfl rfl rfl ?_
  refine VL.eql rfl rfl ?_
  refine VL.case (fun h1_6 => ?_) (fun h1_6 => ?_)
  ·have h1_6 : x.dst = 0 := by omega
   refine VL.pick_t rfl rfl ?_
   refine VL.move rfl ?_
   refine VL.go rfl rfl rfl ?_
   refine VL.fieldAddr rfl fo72_2 rfl ?_
   refine VL.go rfl rfl rfl ?_
   refine VL.loads (cs := cat (headerV (x.header))) 0 2 9 rfl kd70 (fun _ h => h) rfl rfl rfl rfl ?_
   refine VL.go rfl rfl rfl ?_
   refine VL.build0 (cs := cat (headerV (header0))) built70 ?_
   refine VL.go rfl rfl rfl ?_
   refine VL.eqT guard70 rfl rfl (eqHeader hx.header header0_ok) (fun b h1_12 => ?_)
   cases b
   ·have h1_12 := mt h1_12.2 (by decide)
    refine VL.pick_t rfl rfl ?_
    refine VL.move rfl ?_
    refine VL.pass rfl rfl rfl rfl rfl ?_
    refine VL.pass rfl rfl rfl rfl rfl ?_
    refine VL.pass rfl rfl rfl rfl rfl ?_
    refine VL.pass rfl rfl rfl rfl rfl ?_
    refine VL.pick_f rfl rfl ?_
    refine VL.assign rfl ?_
    refine VL.nn ?_
    refine VC.ret ?_
    refine VX.ret1 rfl rfl (fun we hw => ?_)
    refine ⟨false, rfl, ?_, hw.drop.subA⟩
    rw [letter0_iff]
    simp [h1_2, h1_6, h1_12]
   ·have h1_12 := h1_12.1 rfl
    refine VL.pick_t rfl rfl ?_
    refine VL.move rfl ?_
    refine VL.go rfl rfl rfl ?_
    refine VL.fieldAddr rfl fo72_3 rfl ?_
    refine VL.go rfl rfl rfl ?_
    refine VL.load (v := .slice p (x.body).length c) 0 11 rfl kd24 (fun _ h => h) rfl rfl rfl ?_
    refine VL.go rfl rfl rfl ?_
    refine VL.len Try.underlying24 rfl rfl ?_
    refine VL.go rfl rfl rfl ?_
    refine VL.eql rfl rfl ?_
    refine VL.case (fun h1_18 => ?_) (fun h1_18 => ?_)
    ·have h1_18 : x.body.length = 0 := by omega
     refine VL.pick_t rfl rfl ?_
     refine VL.assign rfl ?_
     refine VL.nn ?_
     refine VC.ret ?_
     refine VX.ret1 rfl rfl (fun we hw => ?_)
     refine ⟨true, rfl, ?_, hw.drop.subA⟩
     rw [letter0_iff]
     simp [h1_2, h1_6, h1_12, h1_18]
    ·have h1_18 : ¬ x.body.length = 0 := by omega
     refine VL.pick_t rfl rfl ?_
     refine VL.assign rfl ?_
     refine VL.nn ?_
     refine VC.ret ?_
     refine VX.ret1 rfl rfl (fun we hw => ?_)
     refine ⟨false, rfl, ?_, hw.drop.subA⟩
     rw [letter0_iff]
     simp [h1_2, h1_6, h1_12, h1_18]
  ·have h1_6 : ¬ x.dst = 0 := by omega
   refine VL.pick_t rfl rfl ?_
   refine VL.move rfl ?_
   refine VL.pass rfl rfl rfl rfl rfl ?_
   refine VL.pass rfl rfl rfl rfl rfl ?_
   refine VL.pass rfl rfl rfl rfl rfl ?_
   refine VL.pass rfl rfl rfl rfl rfl ?_
   refine VL.pick_f rfl rfl ?_
   refine VL.move rfl ?_
   refine VL.pass rfl rfl rfl rfl rfl ?_
   refine VL.pass rfl rfl rfl rfl rfl ?_
   refine VL.pass rfl rfl rfl rfl rfl ?_
   refine VL.pass rfl rfl rfl rfl rfl ?_
   refine VL.pick_f rfl rfl ?_
   refine VL.assign rfl ?_
   refine VL.nn ?_
   refine VC.ret ?_
   refine VX.ret1 rfl rfl (fun we hw => ?_)
   refine ⟨false, rfl, ?_, hw.drop.subA⟩
   rw [letter0_iff]
   simp [h1_2, h1_6]
 ·have h1_2 : ¬ x.src = 0 := by omega
  refine VL.move rfl ?_
  refine VL.pass rfl rfl rfl rfl rfl ?_
  refine VL.pass rfl rfl rfl rfl rfl ?_
  refine VL.pass rfl rfl rfl rfl rfl ?_
  refine VL.pick_f rfl rfl ?_
  refine VL.move rfl ?_
  refine VL.pass rfl rfl rfl rfl rfl ?_
  refine VL.pass rfl rfl rfl rfl rfl ?_
  refine VL.pass rfl rfl rfl rfl rfl ?_
  refine VL.pass rfl rfl rfl rfl rfl ?_
  refine VL.pick_f rfl rfl ?_
  refine VL.move rfl ?_
  refine VL.pass rfl rfl rfl rfl rfl ?_
  refine VL.pass rfl rfl rfl rfl rfl ?_
  refine VL.pass rfl rfl rfl rfl rfl ?_
  refine VL.pass rfl rfl rfl rfl rfl ?_
  refine VL.pick_f rfl rfl ?_
  refine VL.assign rfl ?_
  refine VL.nn ?_
  refine VC.ret ?_
  refine VX.ret1 rfl rfl (fun we hw => ?_)
  refine ⟨false, rfl, ?_, hw.drop.subA⟩
  rw [letter0_iff]
  simp [h1_2]

theorem emptyObject_w {S : List Snap} {H : List Chunk} {w : World} (ho : Own S H w) {x : Object} (hx : x.ok) {q : Option Addr} {d : Nat} : Calls Try.prog 163 #[.agg (cat (objectV x q d)).toArray] w (Ret fun v w' => ∃ b : Bool, v = .bool b ∧ (b = true ↔ x = object0) ∧ Own S H w') := by
 refine enter (G := Own (⟨w, keys H⟩ :: S) H) ho.keep Try.func163 rfl Try.ntmps163 rfl ?_
 refine VC.sr ?_
 refine VL.box (L := objectL) (ps := (objectV (x) q d)) rfl rfl (objectV_len hx) (fun g1 => ?_)
 refine VL.assign rfl ?_
 refine VL.nn ?_
 refine VC.sr ?_
 refine VL.fieldAddr rfl fo85_0 rfl ?_
 refine VL.load (v := .int .u8 (x.server)) 0 0 rfl kd5 (fun _ h => h) rfl rfl rfl ?_
 refine VL.eql rfl rfl ?_
 refine VL.case (fun h1_2 => ?_) (fun h1_2 => ?_)
 ·have h1_2 : x.server = 0 := by omega
  refine VL.move rfl ?_
  refine VL.go rfl rfl rfl ?_
  refine VL.fieldAddr rfl fo85_1 rfl ?_
  refine VL.go rfl rfl rfl ?_
  refine VL.load (v := .int .u8 (x.n)) 0 1 rfl kd5 (fun _ h => h) rfl rfl rfl ?_
  refine VL.go rfl rfl rfl ?_
  refine VL.eql rfl rfl ?_
  refine VL.case (fun h1_6 => ?_) (fun h1_6 => ?_)
  ·have h1_6 : x.n = 0 := by omega
   refine VL.pick_t rfl rfl ?_
   refine VL.move rfl ?_
   refine VL.go rfl rfl rfl ?_
   refine VL.fieldAddr rfl fo85_2 rfl ?_
   refine VL.go rfl rfl rfl ?_
   refine VL.loads (cs := (x.key).map bv) 0 2 1 rfl kd44 (fun _ h => h) rfl rfl rfl rfl ?_
   refine VL.go rfl rfl rfl ?_
   refine VL.build0 (cs := (zeros 32).map bv) built44 ?_
   refine VL.go rfl rfl rfl ?_
   refine VL.eqT guard44 rfl rfl (eqKey 9998 hx.key rfl) (fun b h1_12 => ?_)
   cases b
   ·have h1_12 := mt h1_12.2 (by decide)
    refine VL.pick_t rfl rfl ?_
    refine VL.move rfl ?_
    refine VL.pass rfl rfl rfl rfl rfl ?_
    refine VL.pass rfl rfl rfl rfl rfl ?_
    refine VL.pass rfl rfl rfl rfl rfl ?_
    refine VL.pick_f rfl rfl ?_
    refine VL.move rfl ?_
    refine VL.pass rfl rfl rfl rfl rfl ?_
    refine VL.pass rfl rfl rfl rfl rfl ?_
    refine VL.pass rfl rfl rfl rfl rfl ?_
    refine VL.pick_f rfl rfl ?_
    refine VL.move rfl ?_
    refine VL.pass rfl rfl rfl rfl rfl ?_
    refine VL.pass rfl rfl rfl rfl rfl ?_
    refine VL.pass rfl rfl rfl rfl rfl ?_
    refine VL.pass rfl rfl rfl rfl rfl ?_
    refine VL.pick_f rfl rfl ?_
    refine VL.move rfl ?_
    refine VL.pass rfl rfl rfl rfl rfl ?_
    refine VL.pass rfl rfl rfl rfl rfl ?_
    refine VL.pass rfl rfl rfl rfl rfl ?_
    refine VL.pass rfl rfl rfl rfl rfl ?_
    refine VL.pick_f rfl rfl ?_
    refine VL.assign rfl ?_
    refine VL.nn ?_
    refine VC.ret ?_
    refine VX.ret1 rfl rfl (fun we hw => ?_)
    refine ⟨false, rfl, ?_, hw.drop.subA⟩
    rw [object0_iff]
    simp [h1_2, h1_6, h1_12]
   ·have h1_12 := h1_12.1 rfl
    refine VL.pick_t rfl rfl ?_
    refine VL.move rfl ?_
    refine VL.go rfl rfl rfl ?_
    refine VL.fieldAddr rfl fo85_3 rfl ?_
    refine VL.go rfl rfl rfl ?_
    refine VL.load (v := .int .u32 (x.since)) 0 3 rfl kd48 (fun _ h => h) rfl rfl rfl ?_
    refine VL.go rfl rfl rfl ?_
    refine VL.eql rfl rfl ?_
    refine VL.case (fun h1_17 => ?_) (fun h1_17 => ?_)
    ·have h1_17 : x.since = 0 := by omega
     refine VL.pick_t rfl rfl ?_
     refine VL.move rfl ?_
     refine VL.go rfl rfl rfl ?_
     refine VL.fieldAddr rfl fo85_4 rfl ?_
     refine VL.go rfl rfl rfl ?_
     refine VL.load (v := .int .u32 (x.till)) 0 4 rfl kd48 (fun _ h => h) rfl rfl rfl ?_
     refine VL.go rfl rfl rfl ?_
     refine VL.eql rfl rfl ?_
     refine VL.case (fun h1_22 => ?_) (fun h1_22 => ?_)
     ·have h1_22 : x.till = 0 := by omega
      refine VL.pick_t rfl rfl ?_
      refine VL.move rfl ?_
      refine VL.go rfl rfl rfl ?_
      refine VL.fieldAddr rfl fo85_5 rfl ?_
      refine VL.go rfl rfl rfl ?_
      refine VL.loads (cs := (x.sig).map bv) 0 5 1 rfl kd80 (fun _ h => h) rfl rfl rfl rfl ?_
      refine VL.go rfl rfl rfl ?_
      refine VL.build0 (cs := (zeros 64).map bv) built80 ?_
      refine VL.go rfl rfl rfl ?_
      refine VL.eqT guard80 rfl rfl (eqSig 9998 hx.sig rfl) (fun b h1_28 => ?_)
      cases b
      ·have h1_28 := mt h1_28.2 (by decide)
       refine VL.pick_t rfl rfl ?_
       refine VL.move rfl ?_
       refine VL.pass rfl rfl rfl rfl rfl ?_
       refine VL.pass rfl rfl rfl rfl rfl ?_
       refine VL.pass rfl rfl rfl rfl rfl ?_
       refine VL.pass rfl rfl rfl rfl rfl ?_
       refine VL.pick_f rfl rfl ?_
       refine VL.assign rfl ?_
       refine VL.nn ?_
       refine VC.ret ?_
       refine VX.ret1 rfl rfl (fun we hw => ?_)
       refine ⟨false, rfl, ?_, hw.drop.subA⟩
       rw [object0_iff]
       simp [h1_2, h1_6, h1_12, h1_17, h1_22, h1_28]
      ·have h1_28 := h1_28.1 rfl
       refine VL.pick_t rfl rfl ?_
       refine VL.move rfl ?_
       refine VL.go rfl rfl rfl ?_
       refine VL.fieldAddr rfl fo85_6 rfl ?_
       refine VL.go rfl rfl rfl ?_
       refine VL.load (v := .slice q (x.vouches).length d) 0 6 rfl kd83 (fun _ h => h) rfl rfl rfl ?_
       refine VL.go rfl rfl rfl ?_
       refine VL.len Try.underlying83 rfl rfl ?_
       refine VL.go rfl rfl rfl ?_
       refine VL.eql rfl rfl ?_
       refine VL.case (fun h1_34 => ?_) (fun h1_34 => ?_)
       ·have h1_34 : x.vouches.length = 0 := by omega
        refine VL.pick_t rfl rfl ?_
        refine VL.assign rfl ?_
        refine VL.nn ?_
        refine VC.ret ?_
        refine VX.ret1 rfl rfl (fun we hw => ?_)
        refine ⟨true, rfl, ?_, hw.drop.subA⟩
        rw [object0_iff]
        simp [h1_2, h1_6, h1_12, h1_17, h1_22, h1_28, h1_34]
       ·have h1_34 : ¬ x.vouches.length = 0 := by omega
        refine VL.pick_t rfl rfl ?_
        refine VL.assign rfl ?_
        refine VL.nn ?_
        refine VC.ret ?_
        refine VX.ret1 rfl rfl (fun we hw => ?_)
        refine ⟨false, rfl, ?_, hw.drop.subA⟩
        rw [object0_iff]
        simp [h1_2, h1_6, h1_12, h1_17, h1_22, h1_28, h1_34]
     ·have h1_22 : ¬ x.till = 0 := by omega
      refine VL.pick_t rfl rfl ?_
      refine VL.move rfl ?_
      refine VL.pass rfl rfl rfl rfl rfl ?_
      refine VL.pass rfl rfl rfl rfl rfl ?_
      refine VL.pass rfl rfl rfl rfl rfl ?_
      refine VL.pass rfl rfl rfl rfl rfl ?_
      refine VL.pick_f rfl rfl ?_
      refine VL.move rfl ?_
      refine VL.pass rfl rfl rfl rfl rfl ?_
      refine VL.pass rfl rfl rfl rfl rfl ?_
      refine VL.pass rfl rfl rfl rfl rfl ?_
      refine VL.pass rfl rfl rfl rfl rfl ?_
      refine VL.pick_f rfl rfl ?_
      refine VL.assign rfl ?_
      refine VL.nn ?_
      refine VC.ret ?_
      refine VX.ret1 rfl rfl (fun we hw => ?_)
      refine ⟨false, rfl, ?_, hw.drop.subA⟩
      rw [object0_iff]
      simp [h1_2, h1_6, h1_12, h1_17, h1_22]
    ·have h1_17 : ¬ x.since = 0 := by omega
     refine VL.pick_t rfl rfl ?_
     refine VL.move rfl ?_
     refine VL.pass rfl rfl rfl rfl rfl ?_
     refine VL.pass rfl rfl rfl rfl rfl ?_
     refine VL.pass rfl rfl rfl rfl rfl ?_
     refine VL.pick_f rfl rfl ?_
     refine VL.move rfl ?_
     refine VL.pass rfl rfl rfl rfl rfl ?_
     refine VL.pass rfl rfl rfl rfl rfl ?_
     refine VL.pass rfl rfl rfl rfl rfl ?_
     refine VL.pass rfl rfl rfl rfl rfl ?_
     refine VL.pick_f rfl rfl ?_
     refine VL.move rfl ?_
     refine VL.pass rfl rfl rfl rfl rfl ?_
     refine VL.pass rfl rfl rfl rfl rfl ?_
     refine VL.pass rfl rfl rfl rfl rfl ?_
     refine VL.pass rfl rfl rfl rfl rfl ?_
     refine VL.pick_f rfl rfl ?_
     refine VL.assign rfl ?_
     refine VL.nn ?_
     refine VC.ret ?_
     refine VX.ret1 rfl rfl (fun we hw => ?_)
     refine ⟨false, rfl, ?_, hw.drop.subA⟩
     rw [object0_iff]
     simp [h1_2, h1_6, h1_12, h1_17]
  ·have h1_6 : ¬ x.n = 0 := by omega
   refine VL.pick_t rfl rfl ?_
   refine VL.move rfl ?_
   refine VL.pass rfl rfl rfl rfl rfl ?_
   refine VL.pass rfl rfl rfl rfl rfl ?_
   refine VL.pass rfl rfl rfl rfl rfl ?_
   refine VL.pass rfl rfl rfl rfl rfl ?_
   refine VL.pick_f rfl rfl ?_
   refine VL.move rfl ?_
   refine VL.pass rfl rfl rfl rfl rfl ?_
   refine VL.pass rfl rfl rfl rfl rfl ?_
   refine VL.pass rfl rfl rfl rfl rfl ?_
   refine VL.pick_f rfl rfl ?_
   refine VL.move rfl ?_
   refine VL.pass rfl rfl rfl rfl rfl ?_
   refine VL.pass rfl rfl rfl rfl rfl ?_
   refine VL.pass rfl rfl rfl rfl rfl ?_
   refine VL.pick_f rfl rfl ?_
   refine VL.move rfl ?_
   refine VL.pass rfl rfl rfl rfl rfl ?_
   refine VL.pass rfl rfl rfl rfl rfl ?_
   refine VL.pass rfl rfl rfl rfl rfl ?_
   refine VL.pass rfl rfl rfl rfl rfl ?_
   refine VL.pick_f rfl rfl ?_
   refine VL.move rfl ?_
   refine VL.pass rfl rfl rfl rfl rfl ?_
   refine VL.pass rfl rfl rfl rfl rfl ?_
   refine VL.pass rfl rfl rfl rfl rfl ?_
   refine VL.pass rfl rfl rfl rfl rfl ?_
   refine VL.pick_f rfl rfl ?_
   refine VL.assign rfl ?_
   refine VL.nn ?_
   refine VC.ret ?_
   refine VX.ret1 rfl rfl (fun we hw => ?_)
   refine ⟨false, rfl, ?_, hw.drop.subA⟩
   rw [object0_iff]
   simp [h1_2, h1_6]
 ·have h1_2 : ¬ x.server = 0 := by omega
  refine VL.move rfl ?_
  refine VL.pass rfl rfl rfl rfl rfl ?_
  refine VL.pass rfl rfl rfl rfl rfl ?_
  refine VL.pass rfl rfl rfl rfl rfl ?_
  refine VL.pick_f rfl rfl ?_
  refine VL.move rfl ?_
  refine VL.pass rfl rfl rfl rfl rfl ?_
  refine VL.pass rfl rfl rfl rfl rfl ?_
  refine VL.pass rfl rfl rfl rfl rfl ?_
  refine VL.pass rfl rfl rfl rfl rfl ?_
  refine VL.pick_f rfl rfl ?_
  refine VL.move rfl ?_
  refine VL.pass rfl rfl rfl rfl rfl ?_
  refine VL.pass rfl rfl rfl rfl rfl ?_
  refine VL.pass rfl rfl rfl rfl rfl ?_
  refine VL.pick_f rfl rfl ?_
  refine VL.move rfl ?_
  refine VL.pass rfl rfl rfl rfl rfl ?_
  refine VL.pass rfl rfl rfl rfl rfl ?_
  refine VL.pass rfl rfl rfl rfl rfl ?_
  refine VL.pick_f rfl rfl ?_
  refine VL.move rfl ?_
  refine VL.pass rfl rfl rfl rfl rfl ?_
  refine VL.pass rfl rfl rfl rfl rfl ?_
  refine VL.pass rfl rfl rfl rfl rfl ?_
  refine VL.pass rfl rfl rfl rfl rfl ?_
  refine VL.pick_f rfl rfl ?_
  refine VL.move rfl ?_
  refine VL.pass rfl rfl rfl rfl rfl ?_
  refine VL.pass rfl rfl rfl rfl rfl ?_
  refine VL.pass rfl rfl rfl rfl rfl ?_
  refine VL.pass rfl rfl rfl rfl rfl ?_
  refine VL.pick_f rfl rfl ?_
  refine VL.assign rfl ?_
  refine VL.nn ?_
  refine VC.ret ?_
  refine VX.ret1 rfl rfl (fun we hw => ?_)
  refine ⟨false, rfl, ?_, hw.drop.subA⟩
  rw [object0_iff]
  simp [h1_2]

end Go.Proofs.Ytcfecmoagfgnaaa

/- Plain facts on what goes over the net, continued: items. -/
namespace Go.Pl

instance : DecidableEq Bundle := fun a b => decidable_of_iff (a.device = b.device ∧ a.agree = b.agree ∧ a.signer = b.signer ∧ a.id = b.id ∧ a.once = b.once ∧ a.sig = b.sig) ⟨fun h => by cases a; cases b; simp only at h; obtain ⟨rfl, rfl, rfl, rfl, rfl, rfl⟩ := h; rfl, fun h => by subst h; exact ⟨rfl, rfl, rfl, rfl, rfl, rfl⟩⟩
instance : DecidableEq Header := fun a b => decidable_of_iff (a.session = b.session ∧ a.first = b.first ∧ a.agree = b.agree ∧ a.signer = b.signer ∧ a.base = b.base ∧ a.id = b.id ∧ a.ratchet = b.ratchet ∧ a.n = b.n ∧ a.prev = b.prev) ⟨fun h => by cases a; cases b; simp only at h; obtain ⟨rfl, rfl, rfl, rfl, rfl, rfl, rfl, rfl, rfl⟩ := h; rfl, fun h => by subst h; exact ⟨rfl, rfl, rfl, rfl, rfl, rfl, rfl, rfl, rfl⟩⟩
instance : DecidableEq Letter := fun a b => decidable_of_iff (a.src = b.src ∧ a.dst = b.dst ∧ a.header = b.header ∧ a.body = b.body) ⟨fun h => by cases a; cases b; simp only at h; obtain ⟨rfl, rfl, rfl, rfl⟩ := h; rfl, fun h => by subst h; exact ⟨rfl, rfl, rfl, rfl⟩⟩
instance : DecidableEq Vouch := fun a b => decidable_of_iff (a.notary = b.notary ∧ a.sig = b.sig) ⟨fun h => by cases a; cases b; simp only at h; obtain ⟨rfl, rfl⟩ := h; rfl, fun h => by subst h; exact ⟨rfl, rfl⟩⟩
instance : DecidableEq Object := fun a b => decidable_of_iff (a.server = b.server ∧ a.n = b.n ∧ a.key = b.key ∧ a.since = b.since ∧ a.till = b.till ∧ a.sig = b.sig ∧ a.vouches = b.vouches) ⟨fun h => by cases a; cases b; simp only at h; obtain ⟨rfl, rfl, rfl, rfl, rfl, rfl, rfl⟩ := h; rfl, fun h => by subst h; exact ⟨rfl, rfl, rfl, rfl, rfl, rfl, rfl⟩⟩

structure Itm where
  kind : Nat
  asker : Nat
  peer : Nat
  letter : Letter
  bundle : Bundle
  object : Object
structure Itm.ok (x : Itm) : Prop where
  kind : x.kind < 256
  asker : x.asker < 256
  peer : x.peer < 256
  letter : x.letter.ok
  bundle : x.bundle.ok
  object : x.object.ok
def item0 : Itm := ⟨0, 0, 0, letter0, bundle0, object0⟩
theorem item0_ok : item0.ok := ⟨by decide, by decide, by decide, letter0_ok, bundle0_ok, object0_ok⟩
/-- Its kind's pieces; what is there beside its kind; is all else empty? -/
def itemP (x : Itm) : List (List UInt8) :=
  if x.kind = 1 then [be 1 x.kind, (letterO x.letter).getD []] else if x.kind = 2 ∨ x.kind = 4 then [be 1 x.kind, be 1 x.asker, be 1 x.peer]
  else if x.kind = 3 then [be 1 x.kind, be 1 x.asker, bundleB x.bundle] else [be 1 x.kind, (objectO x.object).getD []]
def itemGood (x : Itm) : Bool :=
  if x.kind = 1 then (letterO x.letter).isSome && decide (x.asker = 0 ∧ x.peer = 0 ∧ x.bundle = bundle0 ∧ x.object = object0)
  else if x.kind = 2 ∨ x.kind = 4 then decide (x.letter = letter0 ∧ x.bundle = bundle0 ∧ x.object = object0)
  else if x.kind = 3 then decide (x.peer = 0 ∧ x.letter = letter0 ∧ x.object = object0)
  else if x.kind = 5 ∨ x.kind = 6 then (objectO x.object).isSome && decide (x.asker = 0 ∧ x.peer = 0 ∧ x.letter = letter0 ∧ x.bundle = bundle0)
  else false
def itemO (x : Itm) : Option (List UInt8) := joinO (itemP x) (itemGood x)
def bareP (x : Itm) : Prop := x.asker = 0 ∧ x.peer = 0 ∧ x.letter = letter0 ∧ x.bundle = bundle0 ∧ x.object = object0
/-- What is left of an item when its kind's part is taken out. -/
abbrev itemA (x : Itm) : Itm := ⟨x.kind, x.asker, x.peer, letter0, x.bundle, x.object⟩
abbrev itemB (x : Itm) : Itm := ⟨x.kind, 0, 0, x.letter, x.bundle, x.object⟩
abbrev itemC (x : Itm) : Itm := ⟨x.kind, 0, x.peer, x.letter, bundle0, x.object⟩
abbrev itemD (x : Itm) : Itm := ⟨x.kind, x.asker, x.peer, x.letter, x.bundle, object0⟩
theorem itemA_ok {x : Itm} (h : x.ok) : (itemA x).ok := ⟨h.kind, h.asker, h.peer, letter0_ok, h.bundle, h.object⟩
theorem itemB_ok {x : Itm} (h : x.ok) : (itemB x).ok := ⟨h.kind, (show (0 : Nat) < 256 by decide), (show (0 : Nat) < 256 by decide), h.letter, h.bundle, h.object⟩
theorem itemC_ok {x : Itm} (h : x.ok) : (itemC x).ok := ⟨h.kind, (show (0 : Nat) < 256 by decide), h.peer, h.letter, bundle0_ok, h.object⟩
theorem itemD_ok {x : Itm} (h : x.ok) : (itemD x).ok := ⟨h.kind, h.asker, h.peer, h.letter, h.bundle, object0_ok⟩
theorem none_joinO (ps : List (List UInt8)) : none = joinO ps false := (joinO_none (by simp)).symm
theorem item1_n {x : Itm} (h : x.kind = 1) (hb : ¬ bareP (itemA x)) : none = itemO x := by
 unfold itemO itemGood
 rw [if_pos h, decide_eq_false (fun e => hb ⟨e.1, e.2.1, rfl, e.2.2.1, e.2.2.2⟩), Bool.and_false]
 exact none_joinO _
theorem item1_y {x : Itm} (h : x.kind = 1) (hb : bareP (itemA x)) : joinO [be 1 x.kind, (letterO x.letter).getD []] (letterO x.letter).isSome = itemO x := by
 unfold itemO itemGood itemP
 rw [if_pos h, if_pos h, decide_eq_true ⟨hb.1, hb.2.1, hb.2.2.2.1, hb.2.2.2.2⟩, Bool.and_true]
theorem item2_n {x : Itm} (h : x.kind = 2 ∨ x.kind = 4) (hb : ¬ bareP (itemB x)) : none = itemO x := by
 unfold itemO itemGood
 rw [if_neg (by omega), if_pos h, decide_eq_false (fun e => hb ⟨rfl, rfl, e.1, e.2.1, e.2.2⟩)]
 exact none_joinO _
theorem item2_y {x : Itm} (h : x.kind = 2 ∨ x.kind = 4) (hb : bareP (itemB x)) : joinO [be 1 x.kind, be 1 x.asker, be 1 x.peer] true = itemO x := by
 unfold itemO itemGood itemP
 rw [if_neg (by omega), if_pos h, if_neg (by omega), if_pos h, decide_eq_true ⟨hb.2.2.1, hb.2.2.2.1, hb.2.2.2.2⟩]
theorem item3_n {x : Itm} (h : x.kind = 3) (hb : ¬ bareP (itemC x)) : none = itemO x := by
 unfold itemO itemGood
 rw [if_neg (by omega), if_neg (by omega), if_pos h, decide_eq_false (fun e => hb ⟨rfl, e.1, e.2.1, rfl, e.2.2⟩)]
 exact none_joinO _
theorem item3_y {x : Itm} (h : x.kind = 3) (hb : bareP (itemC x)) : joinO [be 1 x.kind, be 1 x.asker, bundleB x.bundle] true = itemO x := by
 unfold itemO itemGood itemP
 rw [if_neg (by omega), if_neg (by omega), if_pos h, if_neg (by omega), if_neg (by omega), if_pos h, decide_eq_true ⟨hb.2.1, hb.2.2.1, hb.2.2.2.2⟩]
theorem item5_n {x : Itm} (h : x.kind = 5 ∨ x.kind = 6) (hb : ¬ bareP (itemD x)) : none = itemO x := by
 unfold itemO itemGood
 rw [if_neg (by omega), if_neg (by omega), if_neg (by omega), if_pos h, decide_eq_false (fun e => hb ⟨e.1, e.2.1, e.2.2.1, e.2.2.2, rfl⟩), Bool.and_false]
 exact none_joinO _
theorem item5_y {x : Itm} (h : x.kind = 5 ∨ x.kind = 6) (hb : bareP (itemD x)) : joinO [be 1 x.kind, (objectO x.object).getD []] (objectO x.object).isSome = itemO x := by
 unfold itemO itemGood itemP
 rw [if_neg (by omega), if_neg (by omega), if_neg (by omega), if_pos h, if_neg (by omega), if_neg (by omega), if_neg (by omega), decide_eq_true ⟨hb.1, hb.2.1, hb.2.2.1, hb.2.2.2.1⟩, Bool.and_true]
theorem item0_n {x : Itm} (h1 : x.kind ≠ 1) (h2 : x.kind ≠ 2) (h3 : x.kind ≠ 3) (h4 : x.kind ≠ 4) (h5 : x.kind ≠ 5) (h6 : x.kind ≠ 6) : none = itemO x := by
 unfold itemO itemGood
 rw [if_neg h1, if_neg (by omega), if_neg h3, if_neg (by omega)]
 exact none_joinO _

/-! What bytes are read as. -/
abbrev itemK (a : List (List UInt8)) : Nat := takeN a 1
/-- The item that is read, if the pieces behind the first one fit. -/
def itemR (l : List UInt8) : Option Itm :=
  let a := openP l
  let b := a.drop 1
  let c := b.drop 1
  if ¬ fitsP [some 1] a then none
  else if itemK a = 1 then (if a.length = 2 then (letterR (nextP b)).map fun y => ⟨1, 0, 0, y, bundle0, object0⟩ else none)
  else if itemK a = 2 ∨ itemK a = 4 then (if fitsP [some 1, some 1, some 1] a ∧ a.length = 3 then some ⟨itemK a, takeN b 1, takeN c 1, letter0, bundle0, object0⟩ else none)
  else if itemK a = 3 then (if fitsP [some 1, some 1, none] a ∧ a.length = 3 then (bundleR (nextP c)).map fun y => ⟨3, takeN b 1, 0, letter0, y, object0⟩ else none)
  else if itemK a = 5 ∨ itemK a = 6 then (if a.length = 2 then (objectR (nextP b)).map fun y => ⟨itemK a, 0, 0, letter0, bundle0, y⟩ else none)
  else none
/-- The error's number. -/
def itemW (l : List UInt8) : Nat :=
  if (itemR l).isSome then 0
  else if fitsP [some 1] (openP l) ∧ (itemK (openP l) = 0 ∨ 6 < itemK (openP l)) then 140 else 141
theorem be_ofN {p : List UInt8} {r : List (List UInt8)} (h : p.length = 1) : be 1 (takeN (p :: r) 1) = p := by rw [takeN_cons h, be_take h]
theorem itemR_some {l : List UInt8} {x : Itm} (h : itemR l = some x) : x.ok ∧ itemO x = some l := by
 unfold itemR at h
 simp only at h
 split at h
 ·cases h
 ·rename_i hf
  have hf : fitsP [some 1] (openP l) := Decidable.not_not.1 hf
  have hne : openP l ≠ [] := fun e => by rw [e] at hf; exact hf.elim
  obtain ⟨hj1, hj2⟩ := join_open hne
  have hk := takeN_lt (openP l) 1
  split at h
  ·rename_i hk1
   split at h
   ·rename_i hl
    obtain ⟨y, hy, rfl⟩ := Option.map_eq_some_iff.1 h
    obtain ⟨hy1, hy2⟩ := letterR_iff.1 hy
    refine ⟨⟨(by decide : 1 < 256), (by decide : 0 < 256), (by decide : 0 < 256), hy1, bundle0_ok, object0_ok⟩, ?_⟩
    rw [← item1_y rfl ⟨rfl, rfl, rfl, rfl, rfl⟩]
    simp only [hy2, Option.getD_some, Option.isSome_some]
    have e : [be 1 1, nextP ((openP l).drop 1)] = openP l := by
     generalize openP l = ps at *
     match ps, hl with
     | [a, b], _ =>
      have ha := hf.1 1 rfl
      have : be 1 (takeN [a, b] 1) = a := be_ofN ha
      rw [show takeN [a, b] 1 = 1 from hk1] at this
      rw [this]; rfl
    rw [e, joinO_some hj1 rfl, hj2]
   ·cases h
  ·rename_i hk1
   split at h
   ·rename_i hk2
    split at h
    ·rename_i hl
     cases h
     refine ⟨⟨hk, takeN_lt _ 1, takeN_lt _ 1, letter0_ok, bundle0_ok, object0_ok⟩, ?_⟩
     rw [← item2_y hk2 ⟨rfl, rfl, rfl, rfl, rfl⟩]
     have e : [be 1 (itemK (openP l)), be 1 (takeN ((openP l).drop 1) 1), be 1 (takeN (((openP l).drop 1).drop 1) 1)] = openP l := by
      generalize openP l = ps at *
      match ps, hl with
      | [a, b, c], hl =>
       obtain ⟨⟨h1, h2, h3, _⟩, _⟩ := hl
       have e1 : be 1 (takeN [a, b, c] 1) = a := be_ofN (h1 1 rfl)
       have e2 : be 1 (takeN [b, c] 1) = b := be_ofN (h2 1 rfl)
       have e3 : be 1 (takeN [c] 1) = c := be_ofN (h3 1 rfl)
       show [be 1 (takeN [a, b, c] 1), be 1 (takeN [b, c] 1), be 1 (takeN [c] 1)] = _
       rw [e1, e2, e3]
      | [], hl => exact absurd hl.2 (by simp)
      | [_], hl => exact absurd hl.2 (by simp)
      | [_, _], hl => exact absurd hl.2 (by simp)
      | _ :: _ :: _ :: _ :: _, hl => exact absurd hl.2 (by simp)
     rw [e, joinO_some hj1 rfl, hj2]
    ·cases h
   ·rename_i hk2
    split at h
    ·rename_i hk3
     split at h
     ·rename_i hl
      obtain ⟨y, hy, rfl⟩ := Option.map_eq_some_iff.1 h
      obtain ⟨hy1, hy2⟩ := bundleR_iff.1 hy
      refine ⟨⟨(by decide : 3 < 256), takeN_lt _ 1, (by decide : 0 < 256), letter0_ok, hy1, object0_ok⟩, ?_⟩
      rw [← item3_y rfl ⟨rfl, rfl, rfl, rfl, rfl⟩]
      simp only [hy2]
      have e : [be 1 3, be 1 (takeN ((openP l).drop 1) 1), nextP (((openP l).drop 1).drop 1)] = openP l := by
       generalize openP l = ps at *
       match ps, hl with
       | [a, b, c], hl =>
        obtain ⟨⟨h1, h2, _⟩, _⟩ := hl
        have e1 : be 1 (takeN [a, b, c] 1) = a := be_ofN (h1 1 rfl)
        have e2 : be 1 (takeN [b, c] 1) = b := be_ofN (h2 1 rfl)
        rw [show takeN [a, b, c] 1 = 3 from hk3] at e1
        show [be 1 3, be 1 (takeN [b, c] 1), c] = _
        rw [e1, e2]
       | [], hl => exact absurd hl.2 (by simp)
       | [_], hl => exact absurd hl.2 (by simp)
       | [_, _], hl => exact absurd hl.2 (by simp)
       | _ :: _ :: _ :: _ :: _, hl => exact absurd hl.2 (by simp)
      rw [e, joinO_some hj1 rfl, hj2]
     ·cases h
    ·rename_i hk3
     split at h
     ·rename_i hk5
      split at h
      ·rename_i hl
       obtain ⟨y, hy, rfl⟩ := Option.map_eq_some_iff.1 h
       obtain ⟨hy1, hy2⟩ := objectR_iff.1 hy
       refine ⟨⟨hk, (by decide : 0 < 256), (by decide : 0 < 256), letter0_ok, bundle0_ok, hy1⟩, ?_⟩
       rw [← item5_y hk5 ⟨rfl, rfl, rfl, rfl, rfl⟩]
       simp only [hy2, Option.getD_some, Option.isSome_some]
       have e : [be 1 (itemK (openP l)), nextP ((openP l).drop 1)] = openP l := by
        generalize openP l = ps at *
        match ps, hl with
        | [a, b], _ =>
         have : be 1 (takeN [a, b] 1) = a := be_ofN (hf.1 1 rfl)
         show [be 1 (takeN [a, b] 1), b] = _
         rw [this]
       rw [e, joinO_some hj1 rfl, hj2]
      ·cases h
     ·cases h
theorem itemR_of {l : List UInt8} {x : Itm} (h : x.ok) (h2 : itemO x = some l) : itemR l = some x := by
 obtain ⟨hj, hg, rfl⟩ := joinO_eq h2
 obtain ⟨k, a, p, y, b, o⟩ := x
 have hk := h.kind; have ha := h.asker; have hp := h.peer
 simp only at hk ha hp
 have hkn : ∀ r, takeN (be 1 k :: r) 1 = k := fun r => by rw [takeN_cons (be_length 1 k), num_be' (by omega)]
 have hfk : ∀ r, fitsP [some 1] (be 1 k :: r) := fun r => ⟨fun n e => by cases e; exact be_length _ _, trivial⟩
 unfold itemR
 rw [open_join hj]
 unfold itemGood at hg
 simp only at hg
 by_cases h1 : k = 1
 ·subst h1
  rw [if_pos rfl] at hg
  simp only [Bool.and_eq_true, decide_eq_true_eq] at hg
  obtain ⟨hs, rfl, rfl, rfl, rfl⟩ := hg
  obtain ⟨t, ht⟩ := Option.isSome_iff_exists.1 hs
  have e : itemP ⟨1, 0, 0, y, bundle0, object0⟩ = [be 1 1, t] := by unfold itemP; rw [if_pos rfl, ht]; rfl
  rw [e]
  simp only
  rw [if_neg (not_not_intro (hfk _)), if_pos (hkn _), if_pos (show [be 1 1, t].length = 2 from rfl)]
  rw [show nextP (List.drop 1 [be 1 1, t]) = t from rfl, letterR_iff.2 ⟨h.letter, ht⟩]; rfl
 ·rw [if_neg h1] at hg
  by_cases h2' : k = 2 ∨ k = 4
  ·rw [if_pos h2'] at hg
   simp only [decide_eq_true_eq] at hg
   obtain ⟨rfl, rfl, rfl⟩ := hg
   have e : itemP ⟨k, a, p, letter0, bundle0, object0⟩ = [be 1 k, be 1 a, be 1 p] := by unfold itemP; rw [if_neg h1, if_pos h2']
   rw [e]
   simp only
   have hkk : itemK [be 1 k, be 1 a, be 1 p] = k := hkn _
   rw [if_neg (not_not_intro (hfk _)), if_neg (by rw [hkk]; exact h1), if_pos (by rw [hkk]; exact h2'), if_pos ⟨⟨fun n e => by cases e; exact be_length _ _, fun n e => by cases e; exact be_length _ _, fun n e => by cases e; exact be_length _ _, trivial⟩, rfl⟩, hkk]
   show some (Itm.mk k (takeN [be 1 a, be 1 p] 1) (takeN [be 1 p] 1) _ _ _) = _
   rw [takeN_cons (be_length 1 a), takeN_cons (be_length 1 p), num_be' (by omega), num_be' (by omega)]
  ·rw [if_neg h2'] at hg
   by_cases h3 : k = 3
   ·subst h3
    rw [if_pos rfl] at hg
    simp only [decide_eq_true_eq] at hg
    obtain ⟨rfl, rfl, rfl⟩ := hg
    have e : itemP ⟨3, a, 0, letter0, b, object0⟩ = [be 1 3, be 1 a, bundleB b] := by unfold itemP; rw [if_neg h1, if_neg h2', if_pos rfl]
    rw [e]
    simp only
    have hkk : itemK [be 1 3, be 1 a, bundleB b] = 3 := hkn _
    rw [if_neg (not_not_intro (hfk _)), if_neg (by rw [hkk]; exact h1), if_neg (by rw [hkk]; exact h2'), if_pos hkk, if_pos ⟨⟨fun n e => by cases e; exact be_length _ _, fun n e => by cases e; exact be_length _ _, fun n e => (by cases e), trivial⟩, rfl⟩]
    rw [show nextP (List.drop 1 (List.drop 1 [be 1 3, be 1 a, bundleB b])) = bundleB b from rfl, bundleR_iff.2 ⟨h.bundle, rfl⟩]
    show some (Itm.mk 3 (takeN [be 1 a, bundleB b] 1) _ _ _ _) = _
    rw [takeN_cons (be_length 1 a), num_be' (by omega)]
   ·rw [if_neg h3] at hg
    by_cases h5 : k = 5 ∨ k = 6
    ·rw [if_pos h5] at hg
     simp only [Bool.and_eq_true, decide_eq_true_eq] at hg
     obtain ⟨hs, rfl, rfl, rfl, rfl⟩ := hg
     obtain ⟨t, ht⟩ := Option.isSome_iff_exists.1 hs
     have e : itemP ⟨k, 0, 0, letter0, bundle0, o⟩ = [be 1 k, t] := by unfold itemP; rw [if_neg h1, if_neg h2', if_neg h3, ht]; rfl
     rw [e]
     simp only
     have hkk : itemK [be 1 k, t] = k := hkn _
     rw [if_neg (not_not_intro (hfk _)), if_neg (by rw [hkk]; exact h1), if_neg (by rw [hkk]; exact h2'), if_neg (by rw [hkk]; exact h3), if_pos (by rw [hkk]; exact h5), if_pos (show [be 1 k, t].length = 2 from rfl), hkk]
     rw [show nextP (List.drop 1 [be 1 k, t]) = t from rfl, objectR_iff.2 ⟨h.object, ht⟩]; rfl
    ·rw [if_neg h5] at hg; cases hg
theorem itemR_iff {l : List UInt8} {x : Itm} : itemR l = some x ↔ x.ok ∧ itemO x = some l := ⟨itemR_some, fun h => itemR_of h.1 h.2⟩
theorem itemR_ok (l : List UInt8) : ((itemR l).getD item0).ok := by
 cases h : itemR l with
 | none => exact item0_ok
 | some x => exact (itemR_iff.1 h).1
end Go.Pl

/- Items as cells. -/
namespace Go.Proofs.Ytcfecmoagfgnaaa
open Go.Vc Go.Pl

abbrev itemV (x : Itm) (p : Option Addr) (c : Nat) (q : Option Addr) (d : Nat) : List (List Value) := [[.int .u8 x.kind], [.int .u8 x.asker], [.int .u8 x.peer], [.int .u8 x.letter.src], [.int .u8 x.letter.dst], x.letter.header.session.map bv, [.bool x.letter.header.first], x.letter.header.agree.map bv, x.letter.header.signer.map bv, x.letter.header.base.map bv, [.int .u16 x.letter.header.id], x.letter.header.ratchet.map bv, [.int .u16 x.letter.header.n], [.int .u16 x.letter.header.prev], [.slice p x.letter.body.length c], [.int .u8 x.bundle.device], x.bundle.agree.map bv, x.bundle.signer.map bv, [.int .u16 x.bundle.id], x.bundle.once.map bv, x.bundle.sig.map bv, [.int .u8 x.object.server], [.int .u8 x.object.n], x.object.key.map bv, [.int .u32 x.object.since], [.int .u32 x.object.till], x.object.sig.map bv, [.slice q x.object.vouches.length d]]
abbrev itemL : List Nat := [1, 1, 1, 1, 1, 32, 1, 32, 32, 32, 1, 32, 1, 1, 1, 1, 32, 32, 1, 32, 64, 1, 1, 32, 1, 1, 64, 1]
theorem zero87 : (Try.prog.info? 87).bind (·.zero) = some (.agg (cat (itemV item0 none 0 none 0)).toArray) := by kernel_rfl
theorem built87 : Try.prog.built 87 [] = some (cat (itemV item0 none 0 none 0)).toArray := by kernel_rfl
abbrev itemZ : List (List Value) := [[.int .u8 0], [.int .u8 0], [.int .u8 0], cat (letterV letter0 none 0), cat (bundleV bundle0), cat (objectV object0 none 0)]
abbrev itemFL : List Nat := [1, 1, 1, 167, 162, 101]
theorem plan87 : planOf Try.prog 87 = some (placesL 0 itemFL, (cat itemZ).toArray) := by kernel_rfl
theorem itemV_len {x : Itm} (h : x.ok) {p : Option Addr} {c : Nat} {q : Option Addr} {d : Nat} : (itemV x p c q d).map List.length = itemL := by simp [h.letter.header.session, h.letter.header.agree, h.letter.header.signer, h.letter.header.base, h.letter.header.ratchet, h.bundle.agree, h.bundle.signer, h.bundle.once, h.bundle.sig, h.object.key, h.object.sig]
theorem itemV_ok1 (x : Itm) (p : Option Addr) (c : Nat) (q : Option Addr) (d : Nat) : ok1 (cat (itemV x p c q d)) := by
 intro u hu
 rw [cat_eq] at hu
 simp only [List.mem_flatten, List.mem_cons, List.not_mem_nil, or_false] at hu
 obtain ⟨l, hl, hu⟩ := hu
 rcases hl with rfl | rfl | rfl | rfl | rfl | rfl | rfl | rfl | rfl | rfl | rfl | rfl | rfl | rfl | rfl | rfl | rfl | rfl | rfl | rfl | rfl | rfl | rfl | rfl | rfl | rfl | rfl | rfl <;> first | (simp only [List.mem_singleton] at hu; subst hu; rfl) | exact ok1_bytes _ u hu
end Go.Proofs.Ytcfecmoagfgnaaa

