/- The statement WireReads is proved, for every input: part 24 of 27 of the texts that it needs. -/
import Derived.Test.YtcfecmoagfgnaaaMrdAW
/- wire: what bytes are read as: calls. -/
namespace Go.Proofs.Ytcfecmoagfgnaaa
open Go.Vc Go.Pl

theorem el108 : Elem Try.prog 108 82 162 164 (.agg (cat (bundleV bundle0)).toArray) := ⟨Try.underlying108, by kernel_rfl, by kernel_rfl, rfl, by decide⟩
theorem one_bundle {K : List Nat} {w : World} {v : Bundle} (hv : v.ok) (j : Nat) (y : Bundle) (hj : [v][j]? = some y) : bundleR' K w ((([Value.agg (cat (bundleV v)).toArray].flatMap (·.cells.toList)).drop (j * 162)).take 162) y := by
 have hj0 : j = 0 := by have := (List.getElem?_eq_some_iff.1 hj).1; simp at this; exact this
 subst hj0
 simp at hj; subst hj
 refine ⟨hv, ?_⟩
 have e : [Value.agg (cat (bundleV v)).toArray].flatMap (·.cells.toList) = cat (bundleV v) := by simp [Value.cells]
 rw [e, Nat.zero_mul, List.drop_zero, List.take_of_length_le (by rw [cat_size (bundleV_len hv)]; decide)]
theorem newRowB {S : List Snap} {H : List Chunk} {w : World} (h : Own S H w) : Own S (arow 82 162 bundleR' Mono_bundle none 0 ([] : List Bundle) :: H) w := Own.arow_nil Mono_bundle 82 162 h
theorem calN_ok {k s p m : Nat} {bs : List Bundle} {y : Letter} (h1 : k < 256) (h2 : s < 65536) (h3 : p < 256) (h4 : m < 65536) (h5 : ∀ b ∈ bs, b.ok) (h6 : y.ok) : (Cal.mk k s p m bs y).ok := ⟨h1, h2, h3, h4, h5, h6⟩

theorem getCall_w {S : List Snap} {H : List Chunk} {w : World} (ho : Own S H w) {p : Option Addr} {l : List UInt8} {c : Nat} (hA : Bytes (keys H) w p l c) : Calls Try.prog 78 #[.slice p l.length c] w (Ret fun v w' => ∃ q d p c, v = .tuple #[.agg (cat (calV ((callR l).getD cal0) q d p c)).toArray, .int .i64 ((callW l : Nat) : Int)] ∧ Own S H w' ∧ Arr 162 bundleR' (keys H) w' q ((callR l).getD cal0).bundles d ∧ Bytes (keys H) w' p ((callR l).getD cal0).letter.body c) := by
 refine enter (G := Own (⟨w, keys H⟩ :: S) H) ho.keep Try.func78 rfl Try.ntmps78 rfl ?_
 refine VC.sr ?_
 refine VL.alloc (L := calL) (ps := (calV (cal0) none 0 none 0)) zero110 rfl rfl (fun g1 => ?_)
 refine VL.assign rfl ?_
 refine VL.nn ?_
 refine VC.sr ?_
 refine VL.move rfl ?_
 refine VL.call Try.func121 rfl (by decide) rfl (fun w' hw => open_R hw (hA.nowA (s := ⟨w, _⟩) Mono.byte hw)) (fun v => ?_)
 refine VL.ex fun g2 => VL.fact fun e3 => ?_
 subst e3
 refine VL.assign rfl ?_
 refine VL.nn ?_
 refine VC.sr ?_
 refine VL.move rfl ?_
 refine VL.call Try.func122 rfl (by decide) rfl (fun w' hw => byte_R (i := 0) rfl hw) (fun v => ?_)
 refine VL.fact fun e4 => ?_
 subst e4
 refine VL.set0 ?_
 refine VL.build (zs := calZ) (L := calFL) [(0, [.int .u8 (takeN (openP (l)) 1)])] plan110 rfl ⟨⟨rfl, ⟨_, rfl, rfl⟩, rfl⟩, trivial⟩ rfl ?_
 refine VL.newv (v' := .agg (cat (calV ((Cal.mk (takeN (openP l) 1) (0) (0) (0) [] letter0)) none 0 none 0)).toArray) rfl ?_
 refine VL.alloc (L := calL) (ps := (calV (cal0) none 0 none 0)) zero110 rfl rfl (fun g5 => ?_)
 refine VL.store (L := calL) (qs := (calV ((Cal.mk (takeN (openP l) 1) (0) (0) (0) [] letter0)) none 0 none 0)) (ps' := (calV ((Cal.mk (takeN (openP l) 1) (0) (0) (0) [] letter0)) none 0 none 0)) 0 0 17 rfl rfl rfl (.inl kd110) rfl rfl (calV_len (calN_ok (takeN_lt _ 1) (show (0 : Nat) < 65536 by decide) (show (0 : Nat) < 256 by decide) (show (0 : Nat) < 65536 by decide) (by simp) letter0_ok : (Cal.mk (takeN (openP l) 1) (0) (0) (0) [] letter0).ok)) (calV_ok1 ((Cal.mk (takeN (openP l) 1) (0) (0) (0) [] letter0)) none 0 none 0) rfl rfl ?_
 refine VL.set0 ?_
 refine VL.nn ?_
 refine VC.seq ?_
 refine VC.sr ?_
 refine VL.move rfl ?_
 refine VL.nilCheck rfl ?_
 refine VL.fieldAddr rfl fo196_1 rfl ?_
 refine loadWhy 1 rfl (fun _ h => h) rfl ?_
 refine VL.neq rfl rfl ?_
 refine VL.case (fun h3_4 => ?_) (fun h3_4 => ?_)
 ·refine VL.nn ?_
  refine VC.yes rfl ?_
  refine VC.seq ?_
  apply VC.anyTA 6 1007 (F := [eqF _, eqF _, eqF _, eqF _, eqF _, eqF _]) [⟨[], []⟩, ⟨[], [4]⟩, ⟨[(19, 1)], []⟩, ⟨[(20, 2)], []⟩, ⟨[(21, 3)], []⟩, ⟨[(18, 0)], [2]⟩] [(22, 4)] [0, 2, 3, 4, 5, 6, 7, 8, 9, 10, 11, 12, 13, 14, 15, 16, 17, 23, 24, 25, 26, 27, 28, 29, 30, 31, 32, 33, 34, 35, 36, 37, 38, 39, 40, 41, 42, 43, 44, 45, 46, 47, 48, 49, 50, 51, 52, 53, 54, 55, 56, 57, 58, 59, 60, 61, 62, 63, 64, 65, 66, 67, 68, 69, 70, 71, 72, 73, 74, 75, 76, 77, 78, 79, 80, 81, 82, 83, 84, 85, 87, 88, 89, 90, 91] rfl (by kernel_rfl) (by kernel_rfl) rfl rfl (by kernel_rfl) (by kernel_rfl) (by kernel_rfl) rfl ?obs4 ?end4
  case obs4 =>
   refine Obs.cons ?_ ?_
   ·refine obS (by kernel_rfl) rfl rfl (fun ph4 w4 hO4 => ?_)
    refine VL.build0 (cs := cat (calV (cal0) none 0 none 0)) built110 ?_
    exact VL.finS hO4 rfl rfl
   refine Obs.cons ?_ ?_
   ·refine obS (by kernel_rfl) rfl rfl (fun ph4 w4 hO4 => ?_)
    refine VL.move rfl ?_
    exact VL.finS hO4 rfl rfl
   refine Obs.cons ?_ ?_
   ·refine obS (by kernel_rfl) rfl rfl (fun ph4 w4 hO4 => ?_)
    rintro _ rfl
    refine VL.nilCheck rfl ?_
    exact VL.finS hO4 rfl rfl
   refine Obs.cons ?_ ?_
   ·refine obS (by kernel_rfl) rfl rfl (fun ph4 w4 hO4 => ?_)
    rintro _ rfl
    refine VL.fieldAddr rfl fo196_1 rfl ?_
    exact VL.finS hO4 rfl rfl
   refine Obs.cons ?_ ?_
   ·refine ob (by kernel_rfl) rfl (by kernel_rfl) rfl (fun w4 hO4 => ?_)
    rintro _ rfl
    refine loadWhy 1 rfl (fun _ e => e ▸ hO4) rfl ?_
    exact VL.finS hO4 rfl rfl
   refine Obs.cons ?_ ?_
   ·refine ob (by kernel_rfl) rfl (by kernel_rfl) rfl (fun w4 hO4 => ?_)
    rintro _ rfl
    refine VL.toOwn hO4 ?_
    refine VL.store (L := calL) (qs := (calV (cal0) none 0 none 0)) (ps' := (calV (cal0) none 0 none 0)) 2 0 17 rfl rfl rfl (.inl kd110) rfl rfl rfl (calV_ok1 cal0 none 0 none 0) rfl rfl ?_
    refine VL.set2 ?_
    exact VL.finO0 (fun _ h => h) (fun _ h => rfl)
   exact Obs.nil
  case end4 =>
   intro w4 hO4
   rintro _ rfl
   refine VL.toOwn hO4 ?_
   refine VL.assign rfl ?_
   refine VL.nn ?_
   refine VC.ret ?_
   refine VX.then_ret ?_
   refine VX.ret_cell (cs := cat (calV (cal0) none 0 none 0)) 2 rfl rfl rfl kd110 (fun _ h => h) rfl rfl (fun we hw => ?_)
   obtain ⟨e1, e2⟩ := call_w0 h3_4
   exact ⟨none, 0, none, 0, by rw [e1]; exact congrArg (fun n : Nat => Value.tuple #[_, .int .i64 (n : Int)]) (e2).symm, hw.drop.drop.drop.subA, by rw [e1]; exact Arr.none, by rw [e1]; exact Arr.none⟩
 ·refine VL.nn ?_
  refine VC.no rfl ?_
  refine VC.skip ?_
  refine VX.next ?_
  refine VC.seq ?_
  refine VC.sr ?_
  refine VL.fieldAddr rfl fo110_0 rfl ?_
  refine VL.load (v := .int .u8 ((Cal.mk (takeN (openP l) 1) (0) (0) (0) [] letter0).kind)) 0 0 rfl kd5 (fun _ h => h) rfl rfl rfl ?_
  refine VL.lss rfl rfl ?_
  refine VL.case (fun h5_2 => ?_) (fun h5_2 => ?_)
  ·have hk1 : takeN (openP l) 1 < 1 ∨ 4 < takeN (openP l) 1 := .inl (by have h : ((takeN (openP l) 1 : Nat) : Int) < 1 := h5_2; omega)
   refine VL.move rfl ?_
   refine VL.pass rfl rfl rfl rfl rfl ?_
   refine VL.pass rfl rfl rfl rfl rfl ?_
   refine VL.pass rfl rfl rfl rfl rfl ?_
   refine VL.pick_t rfl rfl ?_
   refine VL.nn ?_
   refine VC.yes rfl ?_
   refine VC.sr ?_
   refine VL.build0 (cs := cat (calV (cal0) none 0 none 0)) built110 ?_
   refine VL.store (L := calL) (qs := (calV (cal0) none 0 none 0)) (ps' := (calV (cal0) none 0 none 0)) 2 0 17 rfl rfl rfl (.inl kd110) rfl rfl rfl (calV_ok1 cal0 none 0 none 0) rfl rfl ?_
   refine VL.set2 ?_
   refine VL.assign rfl ?_
   refine VL.nn ?_
   refine VC.ret ?_
   refine VX.then_ret ?_
   refine VX.ret_cell (cs := cat (calV (cal0) none 0 none 0)) 2 rfl rfl rfl kd110 (fun _ h => h) rfl rfl (fun we hw => ?_)
   obtain ⟨e1, e2⟩ := call_bad h3_4 hk1
   exact ⟨none, 0, none, 0, by rw [e1]; exact congrArg (fun n : Nat => Value.tuple #[_, .int .i64 (n : Int)]) (e2).symm, hw.drop.drop.drop.subA, by rw [e1]; exact Arr.none, by rw [e1]; exact Arr.none⟩
  ·have hk0 : 1 ≤ takeN (openP l) 1 := by have h : ¬ ((takeN (openP l) 1 : Nat) : Int) < 1 := h5_2; omega
   refine VL.move rfl ?_
   refine VL.go rfl rfl rfl ?_
   refine VL.fieldAddr rfl fo110_0 rfl ?_
   refine VL.go rfl rfl rfl ?_
   refine VL.load (v := .int .u8 ((Cal.mk (takeN (openP l) 1) (0) (0) (0) [] letter0).kind)) 0 0 rfl kd5 (fun _ h => h) rfl rfl rfl ?_
   refine VL.go rfl rfl rfl ?_
   refine VL.gtr rfl rfl ?_
   refine VL.case (fun h5_6 => ?_) (fun h5_6 => ?_)
   ·have hk1 : takeN (openP l) 1 < 1 ∨ 4 < takeN (openP l) 1 := .inr (by have h : (4 : Int) < ((takeN (openP l) 1 : Nat) : Int) := h5_6; omega)
    refine VL.pick_f rfl rfl ?_
    refine VL.nn ?_
    refine VC.yes rfl ?_
    refine VC.sr ?_
    refine VL.build0 (cs := cat (calV (cal0) none 0 none 0)) built110 ?_
    refine VL.store (L := calL) (qs := (calV (cal0) none 0 none 0)) (ps' := (calV (cal0) none 0 none 0)) 2 0 17 rfl rfl rfl (.inl kd110) rfl rfl rfl (calV_ok1 cal0 none 0 none 0) rfl rfl ?_
    refine VL.set2 ?_
    refine VL.assign rfl ?_
    refine VL.nn ?_
    refine VC.ret ?_
    refine VX.then_ret ?_
    refine VX.ret_cell (cs := cat (calV (cal0) none 0 none 0)) 2 rfl rfl rfl kd110 (fun _ h => h) rfl rfl (fun we hw => ?_)
    obtain ⟨e1, e2⟩ := call_bad h3_4 hk1
    exact ⟨none, 0, none, 0, by rw [e1]; exact congrArg (fun n : Nat => Value.tuple #[_, .int .i64 (n : Int)]) (e2).symm, hw.drop.drop.drop.subA, by rw [e1]; exact Arr.none, by rw [e1]; exact Arr.none⟩
   ·have hk4 : takeN (openP l) 1 ≤ 4 := by have h : ¬ (4 : Int) < ((takeN (openP l) 1 : Nat) : Int) := h5_6; omega
    refine VL.pick_f rfl rfl ?_
    refine VL.nn ?_
    refine VC.no rfl ?_
    refine VC.skip ?_
    refine VX.next ?_
    refine VC.sr ?_
    refine VL.move rfl ?_
    refine VL.call Try.func130 rfl (by decide) rfl (fun w' hw => short_R (i := 1) rfl hw) (fun v => ?_)
    refine VL.fact fun e6 => ?_
    subst e6
    refine VL.set1 ?_
    refine VL.fieldAddr rfl fo110_1 rfl ?_
    refine VL.store (L := calL) (qs := [[.int .u16 (takeN ((openP (l)).drop 1) 2)]]) 0 1 1 rfl rfl rfl (.inr ⟨kd68, rfl⟩) rfl rfl rfl (by intro u hu; simp [cat] at hu; subst hu; rfl) rfl rfl ?_
    refine VL.set0 ?_
    refine VL.nn ?_
    refine VC.sr ?_
    refine VL.assign rfl ?_
    refine VL.nn ?_
    refine VC.seq ?_
    refine VC.sr ?_
    refine VL.fieldAddr rfl fo110_0 rfl ?_
    refine VL.load (v := .int .u8 ((Cal.mk (takeN (openP l) 1) (0) (0) (0) [] letter0).kind)) 0 0 rfl kd5 (fun _ h => h) rfl rfl rfl ?_
    refine VL.nn ?_
    refine VC.block ?_
    refine VC.sr ?_
    refine VL.eql rfl rfl ?_
    refine VL.case (fun h11_0 => ?_) (fun h11_0 => ?_)
    ·have h11_0 : takeN (openP l) 1 = 1 := by have h : ((takeN (openP l) 1 : Nat) : Int) = 1 := h11_0; omega
     refine VL.assign rfl ?_
     refine VL.nn ?_
     refine VC.yes rfl ?_
     refine VC.block ?_
     refine VC.turn (G' := Own _ (arow 82 162 bundleR' Mono_bundle none 0 ([] : List Bundle) :: blk g5 110 calL [[.int .u8 ((Cal.mk (takeN (openP l) 1) (0) (0) (0) [] letter0).kind)], [.int .u16 (takeN ((openP (l)).drop 1) 2)], [.int .u8 ((Cal.mk (takeN (openP l) 1) (0) (0) (0) [] letter0).peer)], [.int .u16 ((Cal.mk (takeN (openP l) 1) (0) (0) (0) [] letter0).mark)], [.slice none (([] : List Bundle)).length 0], [.int .u8 ((Cal.mk (takeN (openP l) 1) (0) (0) (0) [] letter0).letter.src)], [.int .u8 ((Cal.mk (takeN (openP l) 1) (0) (0) (0) [] letter0).letter.dst)], ((Cal.mk (takeN (openP l) 1) (0) (0) (0) [] letter0).letter.header.session).map bv, [.bool ((Cal.mk (takeN (openP l) 1) (0) (0) (0) [] letter0).letter.header.first)], ((Cal.mk (takeN (openP l) 1) (0) (0) (0) [] letter0).letter.header.agree).map bv, ((Cal.mk (takeN (openP l) 1) (0) (0) (0) [] letter0).letter.header.signer).map bv, ((Cal.mk (takeN (openP l) 1) (0) (0) (0) [] letter0).letter.header.base).map bv, [.int .u16 ((Cal.mk (takeN (openP l) 1) (0) (0) (0) [] letter0).letter.header.id)], ((Cal.mk (takeN (openP l) 1) (0) (0) (0) [] letter0).letter.header.ratchet).map bv, [.int .u16 ((Cal.mk (takeN (openP l) 1) (0) (0) (0) [] letter0).letter.header.n)], [.int .u16 ((Cal.mk (takeN (openP l) 1) (0) (0) (0) [] letter0).letter.header.prev)], [.slice none (([] : List Bundle)).length 0]] :: rch g2 (((openP (l)).drop 1).drop 1) (lenW ((openP (l)).drop 1) (lenW (openP (l)) (openW (l)) 1) 2) :: blk g1 110 calL (calV (cal0) none 0 none 0) :: H)) (fun w' h => newRowB h) ?_
     refine VC.loop (X := List Bundle × List (List UInt8) × Nat × Option Nat × Nat) (fun (_, _, er, _, _) => [(4, .pointer (some ⟨g2, 0, none⟩)), (5, .pointer (some ⟨g5, 0, none⟩)), (2, .pointer (some ⟨g1, 0, none⟩)), (6, .int .i64 (er : Int))]) (fun (bs, ps, er, gv, cv) w' => CInv (((openP l).drop 1).drop 1) bs ps er ∧ Own (⟨w, keys H⟩ :: S) (arow 82 162 bundleR' Mono_bundle gv cv bs :: blk g5 110 calL (calV ((Cal.mk (takeN (openP l) 1) (takeN ((openP l).drop 1) 2) (0) (0) bs letter0)) (gv.map fun g => (⟨g, 0, none⟩ : Addr)) cv none 0) :: rch g2 ps (lenW ((openP (l)).drop 1) (lenW (openP (l)) (openW (l)) 1) 2) :: blk g1 110 calL (calV (cal0) none 0 none 0) :: H) w') (fun (_, ps, _) => ps.length) ([], (((openP (l)).drop 1).drop 1), 0, none, 0) ⟨rfl, rfl, rfl, rfl, trivial⟩ (fun w' h => ⟨CInv.start _, h.subA⟩) (fun (bs, ps, er, gv, cv) => VC.fact fun hinv => ?_)
     ·have hbs := hinv.1
      refine VC.seq ?_
      refine VC.sr ?_
      refine VL.move rfl ?_
      refine VL.nilCheck rfl ?_
      refine VL.fieldAddr rfl fo196_0 rfl ?_
      refine loadParts 2 rfl rfl (fun p7 c8 w9 hO10 hA11 => ?_)
      refine VL.len Try.underlying31 rfl rfl ?_
      refine VL.gtr rfl rfl ?_
      refine VL.case (fun h12_5 => ?_) (fun h12_5 => ?_)
      ·obtain ⟨pc, rest, rfl⟩ : ∃ pc rest, ps = pc :: rest := by
        cases ps with
        | nil => exact absurd h12_5 (by simp)
        | cons a b => exact ⟨a, b, rfl⟩
       refine VL.move rfl ?_
       refine VL.go rfl rfl rfl ?_
       refine VL.fieldAddr rfl fo110_4 rfl ?_
       refine VL.go rfl rfl rfl ?_
       refine VL.load (v := .slice (gv.map fun g => (⟨g, 0, none⟩ : Addr)) (bs).length cv) 1 4 rfl kd108 (fun _ h => h) rfl rfl rfl ?_
       refine VL.go rfl rfl rfl ?_
       refine VL.len Try.underlying108 rfl rfl ?_
       refine VL.go rfl rfl rfl ?_
       refine VL.leq rfl rfl ?_
       refine VL.case (fun h12_10 => ?_) (fun h12_10 => ?_)
       ·have h12_10 : bs.length ≤ 8 := by have h : ((bs.length : Nat) : Int) ≤ 8 := h12_10; omega
        refine VL.pick_t rfl rfl ?_
        refine VL.move rfl ?_
        refine VL.go rfl rfl rfl ?_
        refine VL.move rfl ?_
        refine VL.go rfl rfl rfl ?_
        refine VL.eql rfl rfl ?_
        refine VL.case (fun h12_14 => ?_) (fun h12_14 => ?_)
        ·obtain rfl : er = 0 := by omega
         refine VL.pick_t rfl rfl ?_
         refine VL.nn ?_
         refine VC.yes rfl ?_
         refine VC.skip ?_
         refine VX.next ?_
         refine VC.block ?_
         refine VC.sr ?_
         refine VL.alloc (L := bundleL) (ps := (bundleV (bundle0))) zero82 rfl rfl (fun g12 => ?_)
         refine VL.nn ?_
         refine VC.sr ?_
         refine VL.move rfl ?_
         refine VL.call Try.func124 rfl (by decide) rfl (fun w' hw => piece_R (i := 3) rfl hw) (fun v => ?_)
         refine VL.at (fun w13 h1w => ?_)
         obtain ⟨p14, c15, rfl, hO17, hA16⟩ := h1w
         replace hO17 := ownSet3 hO17
         replace hA16 := arrSet3 hA16
         refine VL.toOwn hO17 ?_
         refine VL.call Try.func61 rfl (by decide) rfl (fun w' hw => getBundle_w hw (hA16.nowA (s := ⟨w13, _⟩) Mono.byte hw)) (fun v => ?_)
         refine VL.fact fun e18 => ?_
         subst e18
         refine VL.move rfl ?_
         refine VL.extract rfl rfl ?_
         refine VL.extract rfl rfl ?_
         refine VL.store (L := bundleL) (qs := (bundleV (((bundleR pc).getD bundle0)))) (ps' := (bundleV (((bundleR pc).getD bundle0)))) 0 0 6 rfl rfl rfl (.inl kd82) rfl rfl (bundleV_len (bundleR_ok pc)) (bundleV_ok1 (((bundleR pc).getD bundle0))) rfl rfl ?_
         refine VL.set0 ?_
         refine VL.assign rfl ?_
         refine VL.nn ?_
         refine VC.region ?_
         refine VL.fieldAddr rfl fo110_4 rfl ?_
         refine VL.load (v := .slice (gv.map fun g => (⟨g, 0, none⟩ : Addr)) (bs).length cv) 2 4 rfl kd108 (fun _ h => h) rfl rfl rfl ?_
         refine VL.loads (cs := cat (bundleV (((bundleR pc).getD bundle0)))) 0 0 6 rfl kd82 (fun _ h => h) rfl rfl rfl rfl ?_
         refine VL.lit el108 rfl rfl rfl (by intro v hv; simp only [List.mem_singleton] at hv; subst hv; show (cat (bundleV ((bundleR pc).getD bundle0))).toArray.size = 162; rw [List.size_toArray, cat_size (bundleV_len (bundleR_ok pc))]; rfl) (by rw [show [Value.agg (cat (bundleV ((bundleR pc).getD bundle0))).toArray].flatMap (·.cells.toList) = cat (bundleV ((bundleR pc).getD bundle0)) by simp [Value.cells]]; exact bundleV_ok1 _) (fun gl => ?_)
         refine VL.letRow bundleR' [((bundleR pc).getD bundle0)] rfl (fun w' hw => one_bundle (bundleR_ok pc)) (fun wl hOl hAl => ?_)
         refine VL.appends (R := bundleR') (hR := Mono_bundle) (ys := bs) (zs := [((bundleR pc).getD bundle0)]) 1 el108 rfl rfl rfl (fun _ h => h) rfl (fun _ hw => (hAl.nowA (s := ⟨wl, _⟩) Mono_bundle hw)) (fun _ _ _ _ h => by obtain ⟨_, rfl⟩ := h; exact bundleV_ok1 _) (by simp only [List.length_cons, List.length_nil]; omega) (fun gv2 cv2 => ?_) (by simp only [List.length_cons, List.length_nil]; omega)
         refine VL.set1 ?_
         refine VL.fieldAddr rfl fo110_4 rfl ?_
         refine VL.store (L := calL) (qs := [[rowV gv2 (bs ++ [((bundleR pc).getD bundle0)]).length cv2]]) (ps' := (calV ((Cal.mk (takeN (openP l) 1) (takeN ((openP l).drop 1) 2) (0) (0) (bs ++ [((bundleR pc).getD bundle0)]) letter0)) (gv2.map fun g => (⟨g, 0, none⟩ : Addr)) cv2 none 0)) 2 4 1 rfl rfl rfl (.inr ⟨kd108, rfl⟩) rfl rfl rfl (by intro u hu; simp [cat] at hu; subst hu; rfl) rfl rfl ?_
         refine VL.set2 ?_
         refine VL.nil ?_
         refine VX.block_normal ?_
         refine VX.round (bs ++ [(bundleR pc).getD bundle0], rest, (if (bundleR pc).isSome then 0 else 141), gv2, cv2) ⟨rfl, rfl, rfl, rfl, trivial⟩ (fun w' h => ⟨hinv.step h12_10, (h.drop).subA⟩) (by show rest.length < (pc :: rest).length; simp)
        ·have h12_14 : er ≠ 0 := by omega
         refine VL.pick_t rfl rfl ?_
         refine VL.nn ?_
         refine VC.no rfl ?_
         refine VC.exit ?_
         refine VX.then_exit ?_
         refine VX.then_exit ?_
         refine VX.block_here ?_
         refine VX.block_normal ?_
         refine VX.next ?_
         refine VC.seq ?_
         refine VC.letArr (fun wr hOr hAr => ?_)
         refine VC.region ?_
         refine VL.move rfl ?_
         refine VL.move rfl ?_
         refine VL.call Try.func125 rfl (by decide) rfl (fun w' hw => fail_R (i := 1) rfl hw (er)) (fun v => ?_)
         refine VL.fact fun e19 => ?_
         subst e19
         refine VL.set1 ?_
         refine VL.nn ?_
         refine VC.seq ?_
         refine VC.sr ?_
         refine VL.move rfl ?_
         refine VL.call Try.func126 rfl (by decide) rfl (fun w' hw => end_R (i := 1) rfl hw) (fun v => ?_)
         refine VL.fact fun e20 => ?_
         subst e20
         refine VL.set1 ?_
         refine VL.neq rfl rfl ?_
         refine VL.case (fun h21_2 => ?_) (fun h21_2 => ?_)
         ·refine VL.nn ?_
          refine VC.yes rfl ?_
          refine VC.sr ?_
          refine VL.build0 (cs := cat (calV (cal0) none 0 none 0)) built110 ?_
          refine VL.store (L := calL) (qs := (calV (cal0) none 0 none 0)) (ps' := (calV (cal0) none 0 none 0)) 2 0 17 rfl rfl rfl (.inl kd110) rfl rfl rfl (calV_ok1 cal0 none 0 none 0) rfl rfl ?_
          refine VL.set2 ?_
          refine VL.assign rfl ?_
          refine VL.nn ?_
          refine VC.ret ?_
          refine VX.then_ret ?_
          refine VX.ret_cell (cs := cat (calV (cal0) none 0 none 0)) 2 rfl rfl rfl kd110 (fun _ h => h) rfl rfl (fun we hw => ?_)
          obtain ⟨hn1, _⟩ := call_w1 h11_0 hinv (.inr (.inr h12_14))
          obtain ⟨e1, e2⟩ := callW_none (by omega) (by omega) h21_2 hn1
          exact ⟨none, 0, none, 0, by rw [e1]; exact congrArg (fun n : Nat => Value.tuple #[_, .int .i64 (n : Int)]) (e2).symm, hw.drop.drop.drop.subA, by rw [e1]; exact Arr.none, by rw [e1]; exact Arr.none⟩
         ·refine VL.nn ?_
          refine VC.no rfl ?_
          refine VC.skip ?_
          refine VX.next ?_
          refine VC.sr ?_
          refine VL.loads (cs := cat (calV ((Cal.mk (takeN (openP l) 1) (takeN ((openP l).drop 1) 2) (0) (0) bs letter0)) (gv.map fun g => (⟨g, 0, none⟩ : Addr)) cv none 0)) 0 0 17 rfl kd110 (fun _ h => h) rfl rfl rfl rfl ?_
          refine VL.store (L := calL) (qs := (calV ((Cal.mk (takeN (openP l) 1) (takeN ((openP l).drop 1) 2) (0) (0) bs letter0)) (gv.map fun g => (⟨g, 0, none⟩ : Addr)) cv none 0)) (ps' := (calV ((Cal.mk (takeN (openP l) 1) (takeN ((openP l).drop 1) 2) (0) (0) bs letter0)) (gv.map fun g => (⟨g, 0, none⟩ : Addr)) cv none 0)) 2 0 17 rfl rfl rfl (.inl kd110) rfl rfl (calV_len (calN_ok (takeN_lt _ 1) (takeN_lt _ 2) (show (0 : Nat) < 256 by decide) (show (0 : Nat) < 65536 by decide) hbs letter0_ok : (Cal.mk (takeN (openP l) 1) (takeN ((openP l).drop 1) 2) (0) (0) bs letter0).ok)) (calV_ok1 ((Cal.mk (takeN (openP l) 1) (takeN ((openP l).drop 1) 2) (0) (0) bs letter0)) (gv.map fun g => (⟨g, 0, none⟩ : Addr)) cv none 0) rfl rfl ?_
          refine VL.set2 ?_
          refine VL.assign rfl ?_
          refine VL.nn ?_
          refine VC.ret ?_
          refine VX.ret_cell (cs := cat (calV ((Cal.mk (takeN (openP l) 1) (takeN ((openP l).drop 1) 2) (0) (0) bs letter0)) (gv.map fun g => (⟨g, 0, none⟩ : Addr)) cv none 0)) 2 rfl rfl rfl (by rw [cat_size (calV_len (calN_ok (takeN_lt _ 1) (takeN_lt _ 2) (show (0 : Nat) < 256 by decide) (show (0 : Nat) < 65536 by decide) hbs letter0_ok : (Cal.mk (takeN (openP l) 1) (takeN ((openP l).drop 1) 2) (0) (0) bs letter0).ok))]; exact kd110) (fun _ h => h) rfl rfl (fun we hw => ?_)
          obtain ⟨hn1, hn2⟩ := call_w1 h11_0 hinv (.inr (.inr h12_14))
          obtain ⟨y, e1, e2⟩ := callW_some (by omega) (by omega) h21_2 hn1
          have e3 := hn2 y e1
          rw [e1, e2, e3]
          exact ⟨_, _, _, _, rfl, hw.drop.drop.drop.subA, (hAr.nowA (s := ⟨wr, _⟩) Mono_bundle hw.drop.drop.drop), Arr.none⟩
       ·have h12_10 : 9 ≤ bs.length := by have h : ¬ ((bs.length : Nat) : Int) ≤ 8 := h12_10; omega
        refine VL.pick_t rfl rfl ?_
        refine VL.move rfl ?_
        refine VL.pass rfl rfl rfl rfl rfl ?_
        refine VL.pass rfl rfl rfl rfl rfl ?_
        refine VL.pick_f rfl rfl ?_
        refine VL.nn ?_
        refine VC.no rfl ?_
        refine VC.exit ?_
        refine VX.then_exit ?_
        refine VX.then_exit ?_
        refine VX.block_here ?_
        refine VX.block_normal ?_
        refine VX.next ?_
        refine VC.seq ?_
        refine VC.letArr (fun wr hOr hAr => ?_)
        refine VC.region ?_
        refine VL.move rfl ?_
        refine VL.move rfl ?_
        refine VL.call Try.func125 rfl (by decide) rfl (fun w' hw => fail_R (i := 1) rfl hw (er)) (fun v => ?_)
        refine VL.fact fun e21 => ?_
        subst e21
        refine VL.set1 ?_
        refine VL.nn ?_
        refine VC.seq ?_
        refine VC.sr ?_
        refine VL.move rfl ?_
        refine VL.call Try.func126 rfl (by decide) rfl (fun w' hw => end_R (i := 1) rfl hw) (fun v => ?_)
        refine VL.fact fun e22 => ?_
        subst e22
        refine VL.set1 ?_
        refine VL.neq rfl rfl ?_
        refine VL.case (fun h21_2 => ?_) (fun h21_2 => ?_)
        ·refine VL.nn ?_
         refine VC.yes rfl ?_
         refine VC.sr ?_
         refine VL.build0 (cs := cat (calV (cal0) none 0 none 0)) built110 ?_
         refine VL.store (L := calL) (qs := (calV (cal0) none 0 none 0)) (ps' := (calV (cal0) none 0 none 0)) 2 0 17 rfl rfl rfl (.inl kd110) rfl rfl rfl (calV_ok1 cal0 none 0 none 0) rfl rfl ?_
         refine VL.set2 ?_
         refine VL.assign rfl ?_
         refine VL.nn ?_
         refine VC.ret ?_
         refine VX.then_ret ?_
         refine VX.ret_cell (cs := cat (calV (cal0) none 0 none 0)) 2 rfl rfl rfl kd110 (fun _ h => h) rfl rfl (fun we hw => ?_)
         obtain ⟨hn1, _⟩ := call_w1 h11_0 hinv (.inr (.inl h12_10))
         obtain ⟨e1, e2⟩ := callW_none (by omega) (by omega) h21_2 hn1
         exact ⟨none, 0, none, 0, by rw [e1]; exact congrArg (fun n : Nat => Value.tuple #[_, .int .i64 (n : Int)]) (e2).symm, hw.drop.drop.drop.subA, by rw [e1]; exact Arr.none, by rw [e1]; exact Arr.none⟩
        ·refine VL.nn ?_
         refine VC.no rfl ?_
         refine VC.skip ?_
         refine VX.next ?_
         refine VC.sr ?_
         refine VL.loads (cs := cat (calV ((Cal.mk (takeN (openP l) 1) (takeN ((openP l).drop 1) 2) (0) (0) bs letter0)) (gv.map fun g => (⟨g, 0, none⟩ : Addr)) cv none 0)) 0 0 17 rfl kd110 (fun _ h => h) rfl rfl rfl rfl ?_
         refine VL.store (L := calL) (qs := (calV ((Cal.mk (takeN (openP l) 1) (takeN ((openP l).drop 1) 2) (0) (0) bs letter0)) (gv.map fun g => (⟨g, 0, none⟩ : Addr)) cv none 0)) (ps' := (calV ((Cal.mk (takeN (openP l) 1) (takeN ((openP l).drop 1) 2) (0) (0) bs letter0)) (gv.map fun g => (⟨g, 0, none⟩ : Addr)) cv none 0)) 2 0 17 rfl rfl rfl (.inl kd110) rfl rfl (calV_len (calN_ok (takeN_lt _ 1) (takeN_lt _ 2) (show (0 : Nat) < 256 by decide) (show (0 : Nat) < 65536 by decide) hbs letter0_ok : (Cal.mk (takeN (openP l) 1) (takeN ((openP l).drop 1) 2) (0) (0) bs letter0).ok)) (calV_ok1 ((Cal.mk (takeN (openP l) 1) (takeN ((openP l).drop 1) 2) (0) (0) bs letter0)) (gv.map fun g => (⟨g, 0, none⟩ : Addr)) cv none 0) rfl rfl ?_
         refine VL.set2 ?_
         refine VL.assign rfl ?_
         refine VL.nn ?_
         refine VC.ret ?_
         refine VX.ret_cell (cs := cat (calV ((Cal.mk (takeN (openP l) 1) (takeN ((openP l).drop 1) 2) (0) (0) bs letter0)) (gv.map fun g => (⟨g, 0, none⟩ : Addr)) cv none 0)) 2 rfl rfl rfl (by rw [cat_size (calV_len (calN_ok (takeN_lt _ 1) (takeN_lt _ 2) (show (0 : Nat) < 256 by decide) (show (0 : Nat) < 65536 by decide) hbs letter0_ok : (Cal.mk (takeN (openP l) 1) (takeN ((openP l).drop 1) 2) (0) (0) bs letter0).ok))]; exact kd110) (fun _ h => h) rfl rfl (fun we hw => ?_)
         obtain ⟨hn1, hn2⟩ := call_w1 h11_0 hinv (.inr (.inl h12_10))
         obtain ⟨y, e1, e2⟩ := callW_some (by omega) (by omega) h21_2 hn1
         have e3 := hn2 y e1
         rw [e1, e2, e3]
         exact ⟨_, _, _, _, rfl, hw.drop.drop.drop.subA, (hAr.nowA (s := ⟨wr, _⟩) Mono_bundle hw.drop.drop.drop), Arr.none⟩
      ·obtain rfl : ps = [] := List.eq_nil_of_length_eq_zero (by omega)
       refine VL.move rfl ?_
       refine VL.pass rfl rfl rfl rfl rfl ?_
       refine VL.pass rfl rfl rfl rfl rfl ?_
       refine VL.pass rfl rfl rfl rfl rfl ?_
       refine VL.pass rfl rfl rfl rfl rfl ?_
       refine VL.pick_f rfl rfl ?_
       refine VL.move rfl ?_
       refine VL.pass rfl rfl rfl rfl rfl ?_
       refine VL.pass rfl rfl rfl rfl rfl ?_
       refine VL.pick_f rfl rfl ?_
       refine VL.nn ?_
       refine VC.no rfl ?_
       refine VC.exit ?_
       refine VX.then_exit ?_
       refine VX.then_exit ?_
       refine VX.block_here ?_
       refine VX.block_normal ?_
       refine VX.next ?_
       refine VC.seq ?_
       refine VC.letArr (fun wr hOr hAr => ?_)
       refine VC.region ?_
       refine VL.move rfl ?_
       refine VL.move rfl ?_
       refine VL.call Try.func125 rfl (by decide) rfl (fun w' hw => fail_R (i := 1) rfl hw (er)) (fun v => ?_)
       refine VL.fact fun e23 => ?_
       subst e23
       refine VL.set1 ?_
       refine VL.nn ?_
       refine VC.seq ?_
       refine VC.sr ?_
       refine VL.move rfl ?_
       refine VL.call Try.func126 rfl (by decide) rfl (fun w' hw => end_R (i := 1) rfl hw) (fun v => ?_)
       refine VL.fact fun e24 => ?_
       subst e24
       refine VL.set1 ?_
       refine VL.neq rfl rfl ?_
       refine VL.case (fun h21_2 => ?_) (fun h21_2 => ?_)
       ·refine VL.nn ?_
        refine VC.yes rfl ?_
        refine VC.sr ?_
        refine VL.build0 (cs := cat (calV (cal0) none 0 none 0)) built110 ?_
        refine VL.store (L := calL) (qs := (calV (cal0) none 0 none 0)) (ps' := (calV (cal0) none 0 none 0)) 2 0 17 rfl rfl rfl (.inl kd110) rfl rfl rfl (calV_ok1 cal0 none 0 none 0) rfl rfl ?_
        refine VL.set2 ?_
        refine VL.assign rfl ?_
        refine VL.nn ?_
        refine VC.ret ?_
        refine VX.then_ret ?_
        refine VX.ret_cell (cs := cat (calV (cal0) none 0 none 0)) 2 rfl rfl rfl kd110 (fun _ h => h) rfl rfl (fun we hw => ?_)
        obtain ⟨hn1, _⟩ := call_w1 h11_0 hinv (.inl rfl)
        obtain ⟨e1, e2⟩ := callW_none (by omega) (by omega) h21_2 hn1
        exact ⟨none, 0, none, 0, by rw [e1]; exact congrArg (fun n : Nat => Value.tuple #[_, .int .i64 (n : Int)]) (e2).symm, hw.drop.drop.drop.subA, by rw [e1]; exact Arr.none, by rw [e1]; exact Arr.none⟩
       ·refine VL.nn ?_
        refine VC.no rfl ?_
        refine VC.skip ?_
        refine VX.next ?_
        refine VC.sr ?_
        refine VL.loads (cs := cat (calV ((Cal.mk (takeN (openP l) 1) (takeN ((openP l).drop 1) 2) (0) (0) bs letter0)) (gv.map fun g => (⟨g, 0, none⟩ : Addr)) cv none 0)) 0 0 17 rfl kd110 (fun _ h => h) rfl rfl rfl rfl ?_
        refine VL.store (L := calL) (qs := (calV ((Cal.mk (takeN (openP l) 1) (takeN ((openP l).drop 1) 2) (0) (0) bs letter0)) (gv.map fun g => (⟨g, 0, none⟩ : Addr)) cv none 0)) (ps' := (calV ((Cal.mk (takeN (openP l) 1) (takeN ((openP l).drop 1) 2) (0) (0) bs letter0)) (gv.map fun g => (⟨g, 0, none⟩ : Addr)) cv none 0)) 2 0 17 rfl rfl rfl (.inl kd110) rfl rfl (calV_len (calN_ok (takeN_lt _ 1) (takeN_lt _ 2) (show (0 : Nat) < 256 by decide) (show (0 : Nat) < 65536 by decide) hbs letter0_ok : (Cal.mk (takeN (openP l) 1) (takeN ((openP l).drop 1) 2) (0) (0) bs letter0).ok)) (calV_ok1 ((Cal.mk (takeN (openP l) 1) (takeN ((openP l).drop 1) 2) (0) (0) bs letter0)) (gv.map fun g => (⟨g, 0, none⟩ : Addr)) cv none 0) rfl rfl ?_
        refine VL.set2 ?_
        refine VL.assign rfl ?_
        refine VL.nn ?_
        refine VC.ret ?_
        refine VX.ret_cell (cs := cat (calV ((Cal.mk (takeN (openP l) 1) (takeN ((openP l).drop 1) 2) (0) (0) bs letter0)) (gv.map fun g => (⟨g, 0, none⟩ : Addr)) cv none 0)) 2 rfl rfl rfl (by rw [cat_size (calV_len (calN_ok (takeN_lt _ 1) (takeN_lt _ 2) (show (0 : Nat) < 256 by decide) (show (0 : Nat) < 65536 by decide) hbs letter0_ok : (Cal.mk (takeN (openP l) 1) (takeN ((openP l).drop 1) 2) (0) (0) bs letter0).ok))]; exact kd110) (fun _ h => h) rfl rfl (fun we hw => ?_)
        obtain ⟨hn1, hn2⟩ := call_w1 h11_0 hinv (.inl rfl)
        obtain ⟨y, e1, e2⟩ := callW_some (by omega) (by omega) h21_2 hn1
        have e3 := hn2 y e1
        rw [e1, e2, e3]
        exact ⟨_, _, _, _, rfl, hw.drop.drop.drop.subA, (hAr.nowA (s := ⟨wr, _⟩) Mono_bundle hw.drop.drop.drop), Arr.none⟩
    ·have h11_0 : takeN (openP l) 1 ≠ 1 := by have h : ¬ ((takeN (openP l) 1 : Nat) : Int) = 1 := h11_0; omega
     refine VL.assign rfl ?_
     refine VL.nn ?_
     refine VC.no rfl ?_
     refine VC.sr ?_
     refine VL.eql rfl rfl ?_
     refine VL.case (fun h16_0 => ?_) (fun h16_0 => ?_)
     ·have h16_0 : takeN (openP l) 1 = 2 := by have h : ((takeN (openP l) 1 : Nat) : Int) = 2 := h16_0; omega
      refine VL.assign rfl ?_
      refine VL.nn ?_
      refine VC.yes rfl ?_
      refine VC.region ?_
      refine VL.move rfl ?_
      refine VL.call Try.func122 rfl (by decide) rfl (fun w' hw => byte_R (i := 1) rfl hw) (fun v => ?_)
      refine VL.fact fun e25 => ?_
      subst e25
      refine VL.set1 ?_
      refine VL.fieldAddr rfl fo110_2 rfl ?_
      refine VL.store (L := calL) (qs := [[.int .u8 (takeN (((openP (l)).drop 1).drop 1) 1)]]) 0 2 1 rfl rfl rfl (.inr ⟨kd5, rfl⟩) rfl rfl rfl (by intro u hu; simp [cat] at hu; subst hu; rfl) rfl rfl ?_
      refine VL.set0 ?_
      refine VL.nil ?_
      refine VX.block_normal ?_
      refine VX.next ?_
      refine VC.sr ?_
      refine VL.move rfl ?_
      refine VL.move rfl ?_
      refine VL.call Try.func125 rfl (by decide) rfl (fun w' hw => fail_R (i := 1) rfl hw (0)) (fun v => ?_)
      refine VL.fact fun e26 => ?_
      subst e26
      refine VL.set1 ?_
      refine VL.nn ?_
      refine VC.seq ?_
      refine VC.sr ?_
      refine VL.move rfl ?_
      refine VL.call Try.func126 rfl (by decide) rfl (fun w' hw => end_R (i := 1) rfl hw) (fun v => ?_)
      refine VL.fact fun e27 => ?_
      subst e27
      refine VL.set1 ?_
      refine VL.neq rfl rfl ?_
      refine VL.case (fun h21_2 => ?_) (fun h21_2 => ?_)
      ·refine VL.nn ?_
       refine VC.yes rfl ?_
       refine VC.sr ?_
       refine VL.build0 (cs := cat (calV (cal0) none 0 none 0)) built110 ?_
       refine VL.store (L := calL) (qs := (calV (cal0) none 0 none 0)) (ps' := (calV (cal0) none 0 none 0)) 2 0 17 rfl rfl rfl (.inl kd110) rfl rfl rfl (calV_ok1 cal0 none 0 none 0) rfl rfl ?_
       refine VL.set2 ?_
       refine VL.assign rfl ?_
       refine VL.nn ?_
       refine VC.ret ?_
       refine VX.then_ret ?_
       refine VX.ret_cell (cs := cat (calV (cal0) none 0 none 0)) 2 rfl rfl rfl kd110 (fun _ h => h) rfl rfl (fun we hw => ?_)
       obtain ⟨hn1, _⟩ := call_w2 h16_0
       obtain ⟨e1, e2⟩ := callW_none (by omega) (by omega) h21_2 hn1
       exact ⟨none, 0, none, 0, by rw [e1]; exact congrArg (fun n : Nat => Value.tuple #[_, .int .i64 (n : Int)]) (e2).symm, hw.drop.drop.drop.subA, by rw [e1]; exact Arr.none, by rw [e1]; exact Arr.none⟩
      ·refine VL.nn ?_
       refine VC.no rfl ?_
       refine VC.skip ?_
       refine VX.next ?_
       refine VC.sr ?_
       refine VL.loads (cs := cat (calV ((Cal.mk (takeN (openP l) 1) (takeN ((openP l).drop 1) 2) (takeN (((openP l).drop 1).drop 1) 1) (0) [] letter0)) none 0 none 0)) 0 0 17 rfl kd110 (fun _ h => h) rfl rfl rfl rfl ?_
       refine VL.store (L := calL) (qs := (calV ((Cal.mk (takeN (openP l) 1) (takeN ((openP l).drop 1) 2) (takeN (((openP l).drop 1).drop 1) 1) (0) [] letter0)) none 0 none 0)) (ps' := (calV ((Cal.mk (takeN (openP l) 1) (takeN ((openP l).drop 1) 2) (takeN (((openP l).drop 1).drop 1) 1) (0) [] letter0)) none 0 none 0)) 2 0 17 rfl rfl rfl (.inl kd110) rfl rfl (calV_len (calN_ok (takeN_lt _ 1) (takeN_lt _ 2) (takeN_lt _ 1) (show (0 : Nat) < 65536 by decide) (by simp) letter0_ok : (Cal.mk (takeN (openP l) 1) (takeN ((openP l).drop 1) 2) (takeN (((openP l).drop 1).drop 1) 1) (0) [] letter0).ok)) (calV_ok1 ((Cal.mk (takeN (openP l) 1) (takeN ((openP l).drop 1) 2) (takeN (((openP l).drop 1).drop 1) 1) (0) [] letter0)) none 0 none 0) rfl rfl ?_
       refine VL.set2 ?_
       refine VL.assign rfl ?_
       refine VL.nn ?_
       refine VC.ret ?_
       refine VX.ret_cell (cs := cat (calV ((Cal.mk (takeN (openP l) 1) (takeN ((openP l).drop 1) 2) (takeN (((openP l).drop 1).drop 1) 1) (0) [] letter0)) none 0 none 0)) 2 rfl rfl rfl (by rw [cat_size (calV_len (calN_ok (takeN_lt _ 1) (takeN_lt _ 2) (takeN_lt _ 1) (show (0 : Nat) < 65536 by decide) (by simp) letter0_ok : (Cal.mk (takeN (openP l) 1) (takeN ((openP l).drop 1) 2) (takeN (((openP l).drop 1).drop 1) 1) (0) [] letter0).ok))]; exact kd110) (fun _ h => h) rfl rfl (fun we hw => ?_)
       obtain ⟨hn1, hn2⟩ := call_w2 h16_0
       obtain ⟨y, e1, e2⟩ := callW_some (by omega) (by omega) h21_2 hn1
       have e3 := hn2 y e1
       rw [e1, e2, e3]
       exact ⟨_, _, _, _, rfl, hw.drop.drop.drop.subA, Arr.none, Arr.none⟩
     ·have h16_0 : takeN (openP l) 1 ≠ 2 := by have h : ¬ ((takeN (openP l) 1 : Nat) : Int) = 2 := h16_0; omega
      refine VL.assign rfl ?_
      refine VL.nn ?_
      refine VC.no rfl ?_
      refine VC.sr ?_
      refine VL.eql rfl rfl ?_
      refine VL.case (fun h18_0 => ?_) (fun h18_0 => ?_)
      ·have h18_0 : takeN (openP l) 1 = 3 := by have h : ((takeN (openP l) 1 : Nat) : Int) = 3 := h18_0; omega
       refine VL.assign rfl ?_
       refine VL.nn ?_
       refine VC.yes rfl ?_
       refine VC.region ?_
       refine VL.move rfl ?_
       refine VL.call Try.func124 rfl (by decide) rfl (fun w' hw => piece_R (i := 1) rfl hw) (fun v => ?_)
       refine VL.at (fun w28 h1w => ?_)
       obtain ⟨p29, c30, rfl, hO32, hA31⟩ := h1w
       replace hO32 := ownSet1 hO32
       replace hA31 := arrSet1 hA31
       refine VL.toOwn hO32 ?_
       refine VL.call Try.func54 rfl (by decide) rfl (fun w' hw => getLetter_w hw (hA31.nowA (s := ⟨w28, _⟩) Mono.byte hw)) (fun v => ?_)
       refine VL.at (fun w33 h1w => ?_)
       obtain ⟨p35, c36, rfl, hO34, hA37⟩ := h1w
       refine VL.toOwn hO34 ?_
       refine VL.move rfl ?_
       refine VL.extract rfl rfl ?_
       refine VL.extract rfl rfl ?_
       refine VL.fieldAddr rfl fo110_5 rfl ?_
       refine VL.store (L := calL) (qs := (letterV (((letterR (nextP (((openP (l)).drop 1).drop 1))).getD letter0)) p35 c36)) 0 5 12 rfl rfl rfl (.inl kd72) rfl rfl (letterV_len (letterR_ok (nextP (((openP (l)).drop 1).drop 1)))) (letterV_ok1 (((letterR (nextP (((openP (l)).drop 1).drop 1))).getD letter0)) p35 c36) rfl rfl ?_
       refine VL.set0 ?_
       refine VL.assign rfl ?_
       refine VL.nil ?_
       refine VX.block_normal ?_
       refine VX.next ?_
       refine VC.sr ?_
       refine VL.move rfl ?_
       refine VL.move rfl ?_
       refine VL.call Try.func125 rfl (by decide) rfl (fun w' hw => fail_R (i := 1) rfl hw (if (letterR (nextP (((openP (l)).drop 1).drop 1))).isSome then 0 else 141)) (fun v => ?_)
       refine VL.fact fun e38 => ?_
       subst e38
       refine VL.set1 ?_
       refine VL.nn ?_
       refine VC.seq ?_
       refine VC.sr ?_
       refine VL.move rfl ?_
       refine VL.call Try.func126 rfl (by decide) rfl (fun w' hw => end_R (i := 1) rfl hw) (fun v => ?_)
       refine VL.fact fun e39 => ?_
       subst e39
       refine VL.set1 ?_
       refine VL.neq rfl rfl ?_
       refine VL.case (fun h21_2 => ?_) (fun h21_2 => ?_)
       ·refine VL.nn ?_
        refine VC.yes rfl ?_
        refine VC.sr ?_
        refine VL.build0 (cs := cat (calV (cal0) none 0 none 0)) built110 ?_
        refine VL.store (L := calL) (qs := (calV (cal0) none 0 none 0)) (ps' := (calV (cal0) none 0 none 0)) 2 0 17 rfl rfl rfl (.inl kd110) rfl rfl rfl (calV_ok1 cal0 none 0 none 0) rfl rfl ?_
        refine VL.set2 ?_
        refine VL.assign rfl ?_
        refine VL.nn ?_
        refine VC.ret ?_
        refine VX.then_ret ?_
        refine VX.ret_cell (cs := cat (calV (cal0) none 0 none 0)) 2 rfl rfl rfl kd110 (fun _ h => h) rfl rfl (fun we hw => ?_)
        obtain ⟨hn1, _⟩ := call_w3 h18_0
        obtain ⟨e1, e2⟩ := callW_none (by omega) (by omega) h21_2 hn1
        exact ⟨none, 0, none, 0, by rw [e1]; exact congrArg (fun n : Nat => Value.tuple #[_, .int .i64 (n : Int)]) (e2).symm, hw.drop.drop.drop.subA, by rw [e1]; exact Arr.none, by rw [e1]; exact Arr.none⟩
       ·refine VL.nn ?_
        refine VC.no rfl ?_
        refine VC.skip ?_
        refine VX.next ?_
        refine VC.sr ?_
        refine VL.loads (cs := cat (calV ((Cal.mk (takeN (openP l) 1) (takeN ((openP l).drop 1) 2) (0) (0) [] ((letterR (nextP (((openP l).drop 1).drop 1))).getD letter0))) none 0 p35 c36)) 0 0 17 rfl kd110 (fun _ h => h) rfl rfl rfl rfl ?_
        refine VL.store (L := calL) (qs := (calV ((Cal.mk (takeN (openP l) 1) (takeN ((openP l).drop 1) 2) (0) (0) [] ((letterR (nextP (((openP l).drop 1).drop 1))).getD letter0))) none 0 p35 c36)) (ps' := (calV ((Cal.mk (takeN (openP l) 1) (takeN ((openP l).drop 1) 2) (0) (0) [] ((letterR (nextP (((openP l).drop 1).drop 1))).getD letter0))) none 0 p35 c36)) 2 0 17 rfl rfl rfl (.inl kd110) rfl rfl (calV_len (calN_ok (takeN_lt _ 1) (takeN_lt _ 2) (show (0 : Nat) < 256 by decide) (show (0 : Nat) < 65536 by decide) (by simp) (letterR_ok _) : (Cal.mk (takeN (openP l) 1) (takeN ((openP l).drop 1) 2) (0) (0) [] ((letterR (nextP (((openP l).drop 1).drop 1))).getD letter0)).ok)) (calV_ok1 ((Cal.mk (takeN (openP l) 1) (takeN ((openP l).drop 1) 2) (0) (0) [] ((letterR (nextP (((openP l).drop 1).drop 1))).getD letter0))) none 0 p35 c36) rfl rfl ?_
        refine VL.set2 ?_
        refine VL.assign rfl ?_
        refine VL.nn ?_
        refine VC.ret ?_
        refine VX.ret_cell (cs := cat (calV ((Cal.mk (takeN (openP l) 1) (takeN ((openP l).drop 1) 2) (0) (0) [] ((letterR (nextP (((openP l).drop 1).drop 1))).getD letter0))) none 0 p35 c36)) 2 rfl rfl rfl (by rw [cat_size (calV_len (calN_ok (takeN_lt _ 1) (takeN_lt _ 2) (show (0 : Nat) < 256 by decide) (show (0 : Nat) < 65536 by decide) (by simp) (letterR_ok _) : (Cal.mk (takeN (openP l) 1) (takeN ((openP l).drop 1) 2) (0) (0) [] ((letterR (nextP (((openP l).drop 1).drop 1))).getD letter0)).ok))]; exact kd110) (fun _ h => h) rfl rfl (fun we hw => ?_)
        obtain ⟨hn1, hn2⟩ := call_w3 h18_0
        obtain ⟨y, e1, e2⟩ := callW_some (by omega) (by omega) h21_2 hn1
        have e3 := hn2 y e1
        rw [e1, e2, e3]
        exact ⟨_, _, _, _, rfl, hw.drop.drop.drop.subA, Arr.none, (hA37.nowA (s := ⟨w33, _⟩) Mono.byte hw.drop.drop.drop)⟩
      ·have h18_0 : takeN (openP l) 1 ≠ 3 := by have h : ¬ ((takeN (openP l) 1 : Nat) : Int) = 3 := h18_0; omega
       refine VL.assign rfl ?_
       refine VL.nn ?_
       refine VC.no rfl ?_
       refine VC.region ?_
       refine VL.move rfl ?_
       refine VL.call Try.func130 rfl (by decide) rfl (fun w' hw => short_R (i := 1) rfl hw) (fun v => ?_)
       refine VL.fact fun e40 => ?_
       subst e40
       refine VL.set1 ?_
       refine VL.fieldAddr rfl fo110_3 rfl ?_
       refine VL.store (L := calL) (qs := [[.int .u16 (takeN (((openP (l)).drop 1).drop 1) 2)]]) 0 3 1 rfl rfl rfl (.inr ⟨kd68, rfl⟩) rfl rfl rfl (by intro u hu; simp [cat] at hu; subst hu; rfl) rfl rfl ?_
       refine VL.set0 ?_
       refine VL.nil ?_
       refine VX.block_normal ?_
       refine VX.next ?_
       refine VC.sr ?_
       refine VL.move rfl ?_
       refine VL.move rfl ?_
       refine VL.call Try.func125 rfl (by decide) rfl (fun w' hw => fail_R (i := 1) rfl hw (0)) (fun v => ?_)
       refine VL.fact fun e41 => ?_
       subst e41
       refine VL.set1 ?_
       refine VL.nn ?_
       refine VC.seq ?_
       refine VC.sr ?_
       refine VL.move rfl ?_
       refine VL.call Try.func126 rfl (by decide) rfl (fun w' hw => end_R (i := 1) rfl hw) (fun v => ?_)
       refine VL.fact fun e42 => ?_
       subst e42
       refine VL.set1 ?_
       refine VL.neq rfl rfl ?_
       refine VL.case (fun h21_2 => ?_) (fun h21_2 => ?_)
       ·refine VL.nn ?_
        refine VC.yes rfl ?_
        refine VC.sr ?_
        refine VL.build0 (cs := cat (calV (cal0) none 0 none 0)) built110 ?_
        refine VL.store (L := calL) (qs := (calV (cal0) none 0 none 0)) (ps' := (calV (cal0) none 0 none 0)) 2 0 17 rfl rfl rfl (.inl kd110) rfl rfl rfl (calV_ok1 cal0 none 0 none 0) rfl rfl ?_
        refine VL.set2 ?_
        refine VL.assign rfl ?_
        refine VL.nn ?_
        refine VC.ret ?_
        refine VX.then_ret ?_
        refine VX.ret_cell (cs := cat (calV (cal0) none 0 none 0)) 2 rfl rfl rfl kd110 (fun _ h => h) rfl rfl (fun we hw => ?_)
        obtain ⟨hn1, _⟩ := call_w4 (l := l) (show takeN (openP l) 1 = 4 by omega)
        obtain ⟨e1, e2⟩ := callW_none (by omega) (by omega) h21_2 hn1
        exact ⟨none, 0, none, 0, by rw [e1]; exact congrArg (fun n : Nat => Value.tuple #[_, .int .i64 (n : Int)]) (e2).symm, hw.drop.drop.drop.subA, by rw [e1]; exact Arr.none, by rw [e1]; exact Arr.none⟩
       ·refine VL.nn ?_
        refine VC.no rfl ?_
        refine VC.skip ?_
        refine VX.next ?_
        refine VC.sr ?_
        refine VL.loads (cs := cat (calV ((Cal.mk (takeN (openP l) 1) (takeN ((openP l).drop 1) 2) (0) (takeN (((openP l).drop 1).drop 1) 2) [] letter0)) none 0 none 0)) 0 0 17 rfl kd110 (fun _ h => h) rfl rfl rfl rfl ?_
        refine VL.store (L := calL) (qs := (calV ((Cal.mk (takeN (openP l) 1) (takeN ((openP l).drop 1) 2) (0) (takeN (((openP l).drop 1).drop 1) 2) [] letter0)) none 0 none 0)) (ps' := (calV ((Cal.mk (takeN (openP l) 1) (takeN ((openP l).drop 1) 2) (0) (takeN (((openP l).drop 1).drop 1) 2) [] letter0)) none 0 none 0)) 2 0 17 rfl rfl rfl (.inl kd110) rfl rfl (calV_len (calN_ok (takeN_lt _ 1) (takeN_lt _ 2) (show (0 : Nat) < 256 by decide) (takeN_lt _ 2) (by simp) letter0_ok : (Cal.mk (takeN (openP l) 1) (takeN ((openP l).drop 1) 2) (0) (takeN (((openP l).drop 1).drop 1) 2) [] letter0).ok)) (calV_ok1 ((Cal.mk (takeN (openP l) 1) (takeN ((openP l).drop 1) 2) (0) (takeN (((openP l).drop 1).drop 1) 2) [] letter0)) none 0 none 0) rfl rfl ?_
        refine VL.set2 ?_
        refine VL.assign rfl ?_
        refine VL.nn ?_
        refine VC.ret ?_
        refine VX.ret_cell (cs := cat (calV ((Cal.mk (takeN (openP l) 1) (takeN ((openP l).drop 1) 2) (0) (takeN (((openP l).drop 1).drop 1) 2) [] letter0)) none 0 none 0)) 2 rfl rfl rfl (by rw [cat_size (calV_len (calN_ok (takeN_lt _ 1) (takeN_lt _ 2) (show (0 : Nat) < 256 by decide) (takeN_lt _ 2) (by simp) letter0_ok : (Cal.mk (takeN (openP l) 1) (takeN ((openP l).drop 1) 2) (0) (takeN (((openP l).drop 1).drop 1) 2) [] letter0).ok))]; exact kd110) (fun _ h => h) rfl rfl (fun we hw => ?_)
        obtain ⟨hn1, hn2⟩ := call_w4 (l := l) (show takeN (openP l) 1 = 4 by omega)
        obtain ⟨y, e1, e2⟩ := callW_some (by omega) (by omega) h21_2 hn1
        have e3 := hn2 y e1
        rw [e1, e2, e3]
        exact ⟨_, _, _, _, rfl, hw.drop.drop.drop.subA, Arr.none, Arr.none⟩

end Go.Proofs.Ytcfecmoagfgnaaa

