/- The statement WireReads is proved, for every input: part 26 of 27 of the texts that it needs. -/
import Derived.Test.YtcfecmoagfgnaaaMrdAY
/- The reference: what bytes are read as: calls. -/
namespace Go.Proofs.Ytcfecmoagfgnaaa
open Go.Vc Go.Pl

theorem bundles_step {A bs : List Bundle} {p : List UInt8} {r : List (List UInt8)} (h : A = bs ++ bundlesOf (p :: r)) : A = (bs ++ [(bundleR p).getD bundle0]) ++ bundlesOf r := by
 rw [h, show bundlesOf (p :: r) = (bundleR p).getD bundle0 :: bundlesOf r from rfl, List.append_assoc]; rfl
theorem bundles_end {A bs : List Bundle} (h : A = bs ++ bundlesOf []) : A = bs := by rw [h]; exact List.append_nil _

theorem readCall_w {S : List Snap} {H : List Chunk} {w : World} (ho : Own S H w) {p : Option Addr} {l : List UInt8} {c : Nat} (hA : Bytes (keys H) w p l c) : Calls Try.prog 98 #[.slice p l.length c] w (Ret fun v w' => ∃ q d p c, v = .tuple #[.agg (cat (calV ((callR l).getD cal0) q d p c)).toArray, .int .i64 ((callW l : Nat) : Int)] ∧ Own S H w' ∧ Arr 162 bundleR' (keys H) w' q ((callR l).getD cal0).bundles d ∧ Bytes (keys H) w' p ((callR l).getD cal0).letter.body c) := by
 refine enter (G := Own (⟨w, keys H⟩ :: S) H) ho.keep Try.func98 rfl Try.ntmps98 rfl ?_
 refine VC.sr ?_
 refine VL.alloc (L := calL) (ps := (calV (cal0) none 0 none 0)) zero110 rfl rfl (fun g1 => ?_)
 refine VL.assign rfl ?_
 refine VL.nn ?_
 refine VC.sr ?_
 refine VL.move rfl ?_
 refine VL.call Try.func140 rfl (by decide) rfl (fun w' hw => open_T hw (hA.nowA (s := ⟨w, _⟩) Mono.byte hw)) (fun v => ?_)
 refine VL.ex fun g2 => VL.fact fun e3 => ?_
 subst e3
 refine VL.move rfl ?_
 refine VL.extract rfl rfl ?_
 refine VL.extract rfl rfl ?_
 refine VL.assign rfl ?_
 refine VL.assign rfl ?_
 refine VL.nn ?_
 refine VC.seq ?_
 refine VC.sr ?_
 refine VL.move rfl ?_
 refine VL.case (fun ho => ?_) (fun ho => ?_)
 ·have h0l : 0 < (openP l).length := List.length_pos_iff.2 ho
  refine VL.not rfl ?_
  refine VL.move rfl ?_
  refine VL.go rfl rfl rfl ?_
  refine VL.move rfl ?_
  refine VL.go rfl rfl rfl ?_
  refine VL.nilCheck rfl ?_
  refine VL.go rfl rfl rfl ?_
  refine VL.fieldAddr rfl fo216_0 rfl ?_
  refine VL.go rfl rfl rfl ?_
  refine loadL 0 rfl rfl (fun p4 c5 w6 hO7 hA8 => ?_)
  refine VL.go rfl rfl rfl ?_
  refine VL.index (xs := (openP l)) rfl rfl Try.underlying31 sz31 hA8 (by omega) (by have hi := h0l; omega) ?_
  refine VL.go rfl rfl rfl ?_
  refine VL.elem (s := ⟨w6, _⟩) (0) 0 rfl kd24 (fun _ h => h) (by repeat (first | exact List.mem_cons_self .. | apply List.mem_cons_of_mem)) (Mono.slice Mono.byte) hA8 (List.getElem?_eq_getElem h0l) (by simp) (by decide) (fun vs v hl hr hv => ?_)
  obtain ⟨p11, c12, rfl, hA13⟩ := hr
  have ehy10 : v = .slice p11 ((openP l)[0]'h0l).length c12 := Option.some.inj (hv.symm.trans rfl)
  subst ehy10
  refine VL.go rfl rfl rfl ?_
  refine VL.len Try.underlying24 rfl rfl ?_
  refine VL.go rfl rfl rfl ?_
  refine VL.neq rfl rfl ?_
  refine VL.case (fun h2 => ?_) (fun h2 => ?_)
  ·have h1n : ¬ (nextP (openP l)).length = 1 := by rw [first_el h0l]; omega
   refine VL.pick_f rfl rfl ?_
   refine VL.nn ?_
   refine VC.yes rfl ?_
   refine VC.sr ?_
   refine VL.build0 (cs := cat (calV (cal0) none 0 none 0)) built110 ?_
   refine VL.store (L := calL) (qs := (calV (cal0) none 0 none 0)) (ps' := (calV (cal0) none 0 none 0)) 1 0 17 rfl rfl rfl (.inl kd110) rfl rfl rfl (calV_ok1 cal0 none 0 none 0) rfl rfl ?_
   refine VL.set1 ?_
   refine VL.assign rfl ?_
   refine VL.nn ?_
   refine VC.ret ?_
   refine VX.then_ret ?_
   refine VX.ret_cell (cs := cat (calV (cal0) none 0 none 0)) 1 rfl rfl rfl kd110 (fun _ h => h) rfl rfl (fun we hw => ?_)
   obtain ⟨e1, e2⟩ := call_141 h1n
   exact ⟨none, 0, none, 0, by rw [e1]; exact congrArg (fun n : Nat => Value.tuple #[_, .int .i64 (n : Int)]) (e2).symm, hw.drop.drop.subA, by rw [e1]; exact Arr.none, by rw [e1]; exact Arr.none⟩
  ·have h1n : (nextP (openP l)).length = 1 := by rw [first_el h0l]; omega
   refine VL.pick_f rfl rfl ?_
   refine VL.nn ?_
   refine VC.no rfl ?_
   refine VC.skip ?_
   refine VX.next ?_
   refine VC.sr ?_
   refine VL.move rfl ?_
   refine VL.call Try.func141 rfl (by decide) rfl (fun w' hw => num_T (i := 0) rfl hw) (fun v => ?_)
   refine VL.fact fun e14 => ?_
   subst e14
   refine VL.set0 ?_
   refine VL.convw (by rw [Try.underlying3]; rfl) Try.underlying5 rfl ?_
   refine VL.newv (v' := .int .u8 (tkN 1 (openP l) : Nat)) (wrapT_u8 _) ?_
   refine VL.build (zs := calZ) (L := calFL) [(0, [.int .u8 (tkN 1 (openP l))])] plan110 rfl ⟨⟨rfl, ⟨_, rfl, rfl⟩, rfl⟩, trivial⟩ rfl ?_
   refine VL.newv (v' := .agg (cat (calV ((Cal.mk (tkN 1 (openP l)) (0) 0 0 [] letter0)) none 0 none 0)).toArray) rfl ?_
   refine VL.alloc (L := calL) (ps := (calV (cal0) none 0 none 0)) zero110 rfl rfl (fun g15 => ?_)
   refine VL.store (L := calL) (qs := (calV ((Cal.mk (tkN 1 (openP l)) (0) 0 0 [] letter0)) none 0 none 0)) (ps' := (calV ((Cal.mk (tkN 1 (openP l)) (0) 0 0 [] letter0)) none 0 none 0)) 0 0 17 rfl rfl rfl (.inl kd110) rfl rfl (calV_len (calN_ok (tkN_lt 1 _) (show (0 : Nat) < 65536 by decide) (show (0 : Nat) < 256 by decide) (show (0 : Nat) < 65536 by decide) (by simp) letter0_ok : Cal.ok (Cal.mk (tkN 1 (openP l)) (0) 0 0 [] letter0))) (calV_ok1 ((Cal.mk (tkN 1 (openP l)) (0) 0 0 [] letter0)) none 0 none 0) rfl rfl ?_
   refine VL.set0 ?_
   refine VL.nn ?_
   refine VC.sr ?_
   refine VL.move rfl ?_
   refine VL.call Try.func141 rfl (by decide) rfl (fun w' hw => num_T (i := 1) rfl hw) (fun v => ?_)
   refine VL.fact fun e16 => ?_
   subst e16
   refine VL.set1 ?_
   refine VL.convw (by rw [Try.underlying3]; rfl) Try.underlying68 rfl ?_
   refine VL.newv (v' := .int .u16 (tkN 2 ((openP l).drop 1) : Nat)) (wrapT_u16 _) ?_
   refine VL.fieldAddr rfl fo110_1 rfl ?_
   refine VL.store (L := calL) (qs := [[.int .u16 (tkN 2 ((openP l).drop 1))]]) 0 1 1 rfl rfl rfl (.inr ⟨kd68, rfl⟩) rfl rfl rfl (by intro u hu; simp [cat] at hu; subst hu; rfl) rfl rfl ?_
   refine VL.set0 ?_
   refine VL.nn ?_
   refine VC.join (X := Option Addr × Nat × Option Addr × Nat) (fun _ => [(2, .pointer (some ⟨g1, 0, none⟩)), (6, .pointer (some ⟨g15, 0, none⟩)), (0, .slice p l.length c)]) (fun (qj, dj, pj, cj) w' => Own (⟨w, keys H⟩ :: S) (blk g15 110 calL (calV ((callT' (openP l))) qj dj pj cj) :: blk g1 110 calL (calV (cal0) none 0 none 0) :: H) w' ∧ Arr 162 bundleR' (keys (blk g15 110 calL (calV ((callT' (openP l))) qj dj pj cj) :: blk g1 110 calL (calV (cal0) none 0 none 0) :: H)) w' qj (callT' (openP l)).bundles dj ∧ Bytes (keys (blk g15 110 calL (calV ((callT' (openP l))) qj dj pj cj) :: blk g1 110 calL (calV (cal0) none 0 none 0) :: H)) w' pj (callT' (openP l)).letter.body cj) (fun _ => 1 ≤ tkN 1 (openP l) ∧ tkN 1 (openP l) ≤ 4) (fun hrest => ?_) (fun (qj, dj, pj, cj) hkk => ?_)
   ·skip
    refine VC.sr ?_
    refine VL.fieldAddr rfl fo110_0 rfl ?_
    refine VL.load (v := .int .u8 ((Cal.mk (tkN 1 (openP l)) (0) 0 0 [] letter0).kind)) 0 0 rfl kd5 (fun _ h => h) rfl rfl rfl ?_
    refine VL.nn ?_
    refine VC.block ?_
    refine VC.sr ?_
    refine VL.eql rfl rfl ?_
    refine VL.case (fun h8_0 => ?_) (fun h8_0 => ?_)
    ·have h8_0 : tkN 1 (openP l) = 1 := by have h : ((tkN 1 (openP l) : Nat) : Int) = 1 := h8_0; omega
     refine VL.assign rfl ?_
     refine VL.nn ?_
     refine VC.yes rfl ?_
     refine VC.block ?_
     refine VC.turn (G' := Own _ (arow 82 162 bundleR' Mono_bundle none 0 ([] : List Bundle) :: blk g15 110 calL [[.int .u8 ((Cal.mk (tkN 1 (openP l)) (0) 0 0 [] letter0).kind)], [.int .u16 (tkN 2 ((openP l).drop 1))], [.int .u8 ((Cal.mk (tkN 1 (openP l)) (0) 0 0 [] letter0).peer)], [.int .u16 ((Cal.mk (tkN 1 (openP l)) (0) 0 0 [] letter0).mark)], [.slice none (([] : List Bundle)).length 0], [.int .u8 ((Cal.mk (tkN 1 (openP l)) (0) 0 0 [] letter0).letter.src)], [.int .u8 ((Cal.mk (tkN 1 (openP l)) (0) 0 0 [] letter0).letter.dst)], ((Cal.mk (tkN 1 (openP l)) (0) 0 0 [] letter0).letter.header.session).map bv, [.bool ((Cal.mk (tkN 1 (openP l)) (0) 0 0 [] letter0).letter.header.first)], ((Cal.mk (tkN 1 (openP l)) (0) 0 0 [] letter0).letter.header.agree).map bv, ((Cal.mk (tkN 1 (openP l)) (0) 0 0 [] letter0).letter.header.signer).map bv, ((Cal.mk (tkN 1 (openP l)) (0) 0 0 [] letter0).letter.header.base).map bv, [.int .u16 ((Cal.mk (tkN 1 (openP l)) (0) 0 0 [] letter0).letter.header.id)], ((Cal.mk (tkN 1 (openP l)) (0) 0 0 [] letter0).letter.header.ratchet).map bv, [.int .u16 ((Cal.mk (tkN 1 (openP l)) (0) 0 0 [] letter0).letter.header.n)], [.int .u16 ((Cal.mk (tkN 1 (openP l)) (0) 0 0 [] letter0).letter.header.prev)], [.slice none (([] : List Bundle)).length 0]] :: tch g2 false (((openP l).drop 1).drop 1) :: blk g1 110 calL (calV (cal0) none 0 none 0) :: H)) (fun w' h => newRowB h) ?_
     have hpl := openP_len l
     refine VC.loop (X := List Bundle × List (List UInt8) × Option Nat × Nat) (fun _ => [(2, .pointer (some ⟨g1, 0, none⟩)), (4, .pointer (some ⟨g2, 0, none⟩)), (6, .pointer (some ⟨g15, 0, none⟩)), (0, .slice p l.length c)]) (fun (bs, ps, gv, cv) w' => ((∀ b ∈ bs, b.ok) ∧ bundlesOf (((openP l).drop 1).drop 1) = bs ++ bundlesOf ps ∧ bs.length + ps.length ≤ 64) ∧ Own (⟨w, keys H⟩ :: S) (arow 82 162 bundleR' Mono_bundle gv cv bs :: blk g15 110 calL (calV ((Cal.mk (tkN 1 (openP l)) (tkN 2 ((openP l).drop 1)) 0 0 bs letter0)) (gv.map fun g => (⟨g, 0, none⟩ : Addr)) cv none 0) :: tch g2 false ps :: blk g1 110 calL (calV (cal0) none 0 none 0) :: H) w') (fun (_, ps, _) => ps.length) ([], (((openP l).drop 1).drop 1), none, 0) ⟨rfl, rfl, rfl, rfl, trivial⟩ (fun w' h => ⟨⟨by simp, rfl, by simp only [List.length_drop, List.length_nil]; omega⟩, h.subA⟩) (fun (bs, ps, gv, cv) => VC.fact fun ⟨hbs, hveq, hvl⟩ => ?_)
     ·skip
      refine VC.seq ?_
      refine VC.sr ?_
      refine VL.move rfl ?_
      refine VL.call Try.func143 rfl (by decide) rfl (fun w' hw => left_T (i := 2) rfl hw) (fun v => ?_)
      refine VL.fact fun e17 => ?_
      subst e17
      refine VL.gtr rfl rfl ?_
      refine VL.case (fun h9 => ?_) (fun h9 => ?_)
      ·obtain ⟨pc, rest, rfl⟩ : ∃ pc rest, ps = pc :: rest := by
        cases ps with
        | nil => exact absurd h9 (by simp)
        | cons a b => exact ⟨a, b, rfl⟩
       refine VL.nn ?_
       refine VC.yes rfl ?_
       refine VC.skip ?_
       refine VX.next ?_
       refine VC.block ?_
       refine VC.sr ?_
       refine VL.move rfl ?_
       refine VL.call Try.func142 rfl (by decide) rfl (fun w' hw => next_T (i := 2) rfl hw) (fun v => ?_)
       refine VL.at (fun w18 h1w => ?_)
       obtain ⟨p19, c20, rfl, hO22, hA21⟩ := h1w
       replace hO22 := ownSet2 hO22
       replace hA21 := arrSet2 hA21
       refine VL.toOwn hO22 ?_
       refine VL.call Try.func94 rfl (by decide) rfl (fun w' hw => readBundle_w hw (hA21.nowA (s := ⟨w18, _⟩) Mono.byte hw)) (fun v => ?_)
       refine VL.fact fun e23 => ?_
       subst e23
       refine VL.move rfl ?_
       refine VL.extract rfl rfl ?_
       refine VL.extract rfl rfl ?_
       refine VL.alloc (L := bundleL) (ps := (bundleV (bundle0))) zero82 rfl rfl (fun g24 => ?_)
       refine VL.store (L := bundleL) (qs := (bundleV (((bundleR pc).getD bundle0)))) (ps' := (bundleV (((bundleR pc).getD bundle0)))) 0 0 6 rfl rfl rfl (.inl kd82) rfl rfl (bundleV_len (bundleR_ok pc)) (bundleV_ok1 (((bundleR pc).getD bundle0))) rfl rfl ?_
       refine VL.set0 ?_
       refine VL.assign rfl ?_
       refine VL.nn ?_
       have hbs2 : ∀ b ∈ bs ++ [((bundleR pc).getD bundle0)], b.ok := fun x hx => (List.mem_append.1 hx).elim (hbs x) (fun h => by rw [List.mem_singleton] at h; subst h; exact bundleR_ok pc)
       refine VC.region ?_
       refine VL.fieldAddr rfl fo110_4 rfl ?_
       refine VL.load (v := .slice (gv.map fun g => (⟨g, 0, none⟩ : Addr)) (bs).length cv) 2 4 rfl kd108 (fun _ h => h) rfl rfl rfl ?_
       refine VL.loads (cs := cat (bundleV (((bundleR pc).getD bundle0)))) 0 0 6 rfl kd82 (fun _ h => h) rfl rfl rfl rfl ?_
       refine VL.lit el108 rfl rfl rfl (by intro v hv; simp only [List.mem_singleton] at hv; subst hv; show (cat (bundleV ((bundleR pc).getD bundle0))).toArray.size = 162; rw [List.size_toArray, cat_size (bundleV_len (bundleR_ok pc))]; rfl) (by rw [show [Value.agg (cat (bundleV ((bundleR pc).getD bundle0))).toArray].flatMap (·.cells.toList) = cat (bundleV ((bundleR pc).getD bundle0)) by simp [Value.cells]]; exact bundleV_ok1 _) (fun gl => ?_)
       refine VL.letRow bundleR' [((bundleR pc).getD bundle0)] rfl (fun w' hw => one_bundle (bundleR_ok pc)) (fun wl hOl hAl => ?_)
       refine VL.appends (R := bundleR') (hR := Mono_bundle) (ys := bs) (zs := [((bundleR pc).getD bundle0)]) 1 el108 rfl rfl rfl (fun _ h => h) rfl (fun _ hw => (hAl.nowA (s := ⟨wl, _⟩) Mono_bundle hw)) (fun _ _ _ _ h => by obtain ⟨_, rfl⟩ := h; exact bundleV_ok1 _) (by simp only [List.length_cons, List.length_nil] at hvl ⊢; omega) (fun gv2 cv2 => ?_) (by simp only [List.length_cons, List.length_nil] at hvl ⊢; omega)
       refine VL.set1 ?_
       refine VL.fieldAddr rfl fo110_4 rfl ?_
       refine VL.store (L := calL) (qs := [[rowV gv2 (bs ++ [((bundleR pc).getD bundle0)]).length cv2]]) (ps' := (calV ((Cal.mk (tkN 1 (openP l)) (tkN 2 ((openP l).drop 1)) 0 0 (bs ++ [((bundleR pc).getD bundle0)]) letter0)) (gv2.map fun g => (⟨g, 0, none⟩ : Addr)) cv2 none 0)) 2 4 1 rfl rfl rfl (.inr ⟨kd108, rfl⟩) rfl rfl rfl (by intro u hu; simp [cat] at hu; subst hu; rfl) rfl rfl ?_
       refine VL.set2 ?_
       refine VL.nil ?_
       refine VX.block_normal ?_
       refine VX.round (bs ++ [((bundleR pc).getD bundle0)], rest, gv2, cv2) ⟨rfl, rfl, rfl, rfl, trivial⟩ (fun w' h => ⟨⟨hbs2, bundles_step hveq, by simp only [List.length_append, List.length_cons, List.length_nil] at hvl ⊢; omega⟩, (h.drop).subA⟩) (by show rest.length < (pc :: rest).length; simp)
      ·obtain rfl : ps = [] := List.eq_nil_of_length_eq_zero (by omega)
       refine VL.nn ?_
       refine VC.no rfl ?_
       refine VC.exit ?_
       refine VX.then_exit ?_
       refine VX.then_exit ?_
       refine VX.block_here ?_
       refine VX.block_normal ?_
       refine VX.join hrest ((gv.map fun g => (⟨g, 0, none⟩ : Addr)), cv, none, 0) ⟨by omega, by omega⟩ ⟨rfl, rfl, rfl, trivial⟩ (fun _ h => ?_)
       have h7 := (ownDropAt 2 h)
       have h8 := Own.letArr h7
       have h9 := h7.drop
       dsimp only
       rw [callT'_1 h8_0, bundles_end hveq]
       exact ⟨h9.subA, h8, Arr.none⟩
    ·have h8_0 : tkN 1 (openP l) ≠ 1 := by have h : ¬ ((tkN 1 (openP l) : Nat) : Int) = 1 := h8_0; omega
     refine VL.assign rfl ?_
     refine VL.nn ?_
     refine VC.no rfl ?_
     refine VC.sr ?_
     refine VL.eql rfl rfl ?_
     refine VL.case (fun h12_0 => ?_) (fun h12_0 => ?_)
     ·have h12_0 : tkN 1 (openP l) = 2 := by have h : ((tkN 1 (openP l) : Nat) : Int) = 2 := h12_0; omega
      refine VL.assign rfl ?_
      refine VL.nn ?_
      refine VC.yes rfl ?_
      refine VC.region ?_
      refine VL.move rfl ?_
      refine VL.call Try.func141 rfl (by decide) rfl (fun w' hw => num_T (i := 1) rfl hw) (fun v => ?_)
      refine VL.fact fun e25 => ?_
      subst e25
      refine VL.set1 ?_
      refine VL.convw (by rw [Try.underlying3]; rfl) Try.underlying5 rfl ?_
      refine VL.newv (v' := .int .u8 (tkN 1 (((openP l).drop 1).drop 1) : Nat)) (wrapT_u8 _) ?_
      refine VL.fieldAddr rfl fo110_2 rfl ?_
      refine VL.store (L := calL) (qs := [[.int .u8 (tkN 1 (((openP l).drop 1).drop 1))]]) 0 2 1 rfl rfl rfl (.inr ⟨kd5, rfl⟩) rfl rfl rfl (by intro u hu; simp [cat] at hu; subst hu; rfl) rfl rfl ?_
      refine VL.set0 ?_
      refine VL.nil ?_
      refine VX.block_normal ?_
      refine VX.join hrest (none, 0, none, 0) ⟨by omega, by omega⟩ ⟨rfl, rfl, rfl, trivial⟩ (fun _ h => ?_)
      have h9 := (ownDropAt 1 h)
      dsimp only
      rw [callT'_2 h12_0]
      exact ⟨h9.subA, Arr.none, Arr.none⟩
     ·have h12_0 : tkN 1 (openP l) ≠ 2 := by have h : ¬ ((tkN 1 (openP l) : Nat) : Int) = 2 := h12_0; omega
      refine VL.assign rfl ?_
      refine VL.nn ?_
      refine VC.no rfl ?_
      refine VC.sr ?_
      refine VL.eql rfl rfl ?_
      refine VL.case (fun h14_0 => ?_) (fun h14_0 => ?_)
      ·have h14_0 : tkN 1 (openP l) = 3 := by have h : ((tkN 1 (openP l) : Nat) : Int) = 3 := h14_0; omega
       refine VL.assign rfl ?_
       refine VL.nn ?_
       refine VC.yes rfl ?_
       refine VC.sr ?_
       refine VL.move rfl ?_
       refine VL.call Try.func142 rfl (by decide) rfl (fun w' hw => next_T (i := 1) rfl hw) (fun v => ?_)
       refine VL.at (fun w26 h1w => ?_)
       obtain ⟨p27, c28, rfl, hO30, hA29⟩ := h1w
       replace hO30 := ownSet1 hO30
       replace hA29 := arrSet1 hA29
       refine VL.toOwn hO30 ?_
       refine VL.call Try.func95 rfl (by decide) rfl (fun w' hw => readLetter_w hw (hA29.nowA (s := ⟨w26, _⟩) Mono.byte hw)) (fun v => ?_)
       refine VL.at (fun w31 h1w => ?_)
       obtain ⟨p33, c34, rfl, hO32, hA35⟩ := h1w
       refine VL.toOwn hO32 ?_
       refine VL.move rfl ?_
       refine VL.extract rfl rfl ?_
       refine VL.extract rfl rfl ?_
       refine VL.alloc (L := letterL) (ps := (letterV (letter0) none 0)) zero72 rfl rfl (fun g36 => ?_)
       refine VL.store (L := letterL) (qs := (letterV (((letterR (nextP (((openP l).drop 1).drop 1))).getD letter0)) p33 c34)) (ps' := (letterV (((letterR (nextP (((openP l).drop 1).drop 1))).getD letter0)) p33 c34)) 0 0 12 rfl rfl rfl (.inl kd72) rfl rfl (letterV_len (letterR_ok (nextP (((openP l).drop 1).drop 1)))) (letterV_ok1 (((letterR (nextP (((openP l).drop 1).drop 1))).getD letter0)) p33 c34) rfl rfl ?_
       refine VL.set0 ?_
       refine VL.assign rfl ?_
       refine VL.nn ?_
       refine VC.region ?_
       refine VL.loads (cs := cat (letterV (((letterR (nextP (((openP l).drop 1).drop 1))).getD letter0)) p33 c34)) 0 0 12 rfl kd72 (fun _ h => h) rfl rfl rfl rfl ?_
       refine VL.fieldAddr rfl fo110_5 rfl ?_
       refine VL.store (L := calL) (qs := (letterV (((letterR (nextP (((openP l).drop 1).drop 1))).getD letter0)) p33 c34)) 1 5 12 rfl rfl rfl (.inl kd72) rfl rfl (letterV_len (letterR_ok (nextP (((openP l).drop 1).drop 1)))) (letterV_ok1 (((letterR (nextP (((openP l).drop 1).drop 1))).getD letter0)) p33 c34) rfl rfl ?_
       refine VL.set1 ?_
       refine VL.nil ?_
       refine VX.block_normal ?_
       refine VX.join hrest (none, 0, p33, c34) ⟨by omega, by omega⟩ ⟨rfl, rfl, rfl, trivial⟩ (fun _ h => ?_)
       have h9 := (ownDropAt 0 (ownDropAt 2 h))
       dsimp only
       rw [callT'_3 h14_0]
       exact ⟨h9.subA, Arr.none, (hA35.nowA (s := ⟨w31, _⟩) Mono.byte h9)⟩
      ·have h14_0 : tkN 1 (openP l) ≠ 3 := by have h : ¬ ((tkN 1 (openP l) : Nat) : Int) = 3 := h14_0; omega
       refine VL.assign rfl ?_
       refine VL.nn ?_
       refine VC.no rfl ?_
       refine VC.sr ?_
       refine VL.eql rfl rfl ?_
       refine VL.case (fun h17_0 => ?_) (fun h17_0 => ?_)
       ·have h17_0 : tkN 1 (openP l) = 4 := by have h : ((tkN 1 (openP l) : Nat) : Int) = 4 := h17_0; omega
        refine VL.assign rfl ?_
        refine VL.nn ?_
        refine VC.yes rfl ?_
        refine VC.region ?_
        refine VL.move rfl ?_
        refine VL.call Try.func141 rfl (by decide) rfl (fun w' hw => num_T (i := 1) rfl hw) (fun v => ?_)
        refine VL.fact fun e37 => ?_
        subst e37
        refine VL.set1 ?_
        refine VL.convw (by rw [Try.underlying3]; rfl) Try.underlying68 rfl ?_
        refine VL.newv (v' := .int .u16 (tkN 2 (((openP l).drop 1).drop 1) : Nat)) (wrapT_u16 _) ?_
        refine VL.fieldAddr rfl fo110_3 rfl ?_
        refine VL.store (L := calL) (qs := [[.int .u16 (tkN 2 (((openP l).drop 1).drop 1))]]) 0 3 1 rfl rfl rfl (.inr ⟨kd68, rfl⟩) rfl rfl rfl (by intro u hu; simp [cat] at hu; subst hu; rfl) rfl rfl ?_
        refine VL.set0 ?_
        refine VL.nil ?_
        refine VX.block_normal ?_
        refine VX.join hrest (none, 0, none, 0) ⟨by omega, by omega⟩ ⟨rfl, rfl, rfl, trivial⟩ (fun _ h => ?_)
        have h9 := (ownDropAt 1 h)
        dsimp only
        rw [callT'_4 h17_0]
        exact ⟨h9.subA, Arr.none, Arr.none⟩
       ·have h17_0 : tkN 1 (openP l) ≠ 4 := by have h : ¬ ((tkN 1 (openP l) : Nat) : Int) = 4 := h17_0; omega
        refine VL.assign rfl ?_
        refine VL.nn ?_
        refine VC.no rfl ?_
        refine VC.sr ?_
        refine VL.build0 (cs := cat (calV (cal0) none 0 none 0)) built110 ?_
        refine VL.store (L := calL) (qs := (calV (cal0) none 0 none 0)) (ps' := (calV (cal0) none 0 none 0)) 2 0 17 rfl rfl rfl (.inl kd110) rfl rfl rfl (calV_ok1 cal0 none 0 none 0) rfl rfl ?_
        refine VL.set2 ?_
        refine VL.assign rfl ?_
        refine VL.nn ?_
        refine VC.ret ?_
        refine VX.block_ret ?_
        refine VX.then_ret ?_
        refine VX.ret_cell (cs := cat (calV (cal0) none 0 none 0)) 2 rfl rfl rfl kd110 (fun _ h => h) rfl rfl (fun we hw => ?_)
        obtain ⟨e1, e2⟩ := call_140 h1n h8_0 h12_0 h14_0 h17_0
        exact ⟨none, 0, none, 0, by rw [e1]; exact congrArg (fun n : Nat => Value.tuple #[_, .int .i64 (n : Int)]) (e2).symm, hw.drop.drop.drop.subA, by rw [e1]; exact Arr.none, by rw [e1]; exact Arr.none⟩
   refine VC.at (fun wj hj => ?_)
   obtain ⟨hOj, hVj, hAj⟩ := hj
   refine vcToOwn hOj ?_
   have hW := callW_T h1n hkk.1 hkk.2
   refine VC.sr ?_
   refine VL.loads (cs := cat (calV ((callT' (openP l))) qj dj pj cj)) 0 0 17 rfl kd110 (fun _ h => h) rfl rfl rfl rfl ?_
   refine VL.call Try.func77 rfl (by decide) rfl (fun w' hw => refCall_w hw (x := (callT' (openP l))) (callT'_ok (openP l)) (hVj.nowA (s := ⟨wj, _⟩) Mono_bundle hw) (hAj.nowA (s := ⟨wj, _⟩) Mono.byte hw)) (fun v => ?_)
   refine VL.at (fun w38 h1w => ?_)
   obtain ⟨p39, c40, rfl, hO42, hA41⟩ := h1w
   refine VL.toOwn hO42 ?_
   refine VL.move rfl ?_
   refine VL.extract rfl rfl ?_
   refine VL.extract rfl rfl ?_
   refine VL.assign rfl ?_
   refine VL.assign rfl ?_
   refine VL.nn ?_
   refine VC.seq ?_
   refine VC.sr ?_
   refine VL.move rfl ?_
   cases hs : (callO (callT' (openP l))).isSome
   ·refine VL.not rfl ?_
    refine VL.move rfl ?_
    refine VL.pass rfl rfl rfl rfl rfl ?_
    refine VL.pass rfl rfl rfl rfl rfl ?_
    refine VL.pass rfl rfl rfl rfl rfl ?_
    refine VL.pass rfl rfl rfl rfl rfl ?_
    refine VL.pick_t rfl rfl ?_
    refine VL.nn ?_
    refine VC.yes rfl ?_
    refine VC.sr ?_
    refine VL.build0 (cs := cat (calV (cal0) none 0 none 0)) built110 ?_
    refine VL.store (L := calL) (qs := (calV (cal0) none 0 none 0)) (ps' := (calV (cal0) none 0 none 0)) 1 0 17 rfl rfl rfl (.inl kd110) rfl rfl rfl (calV_ok1 cal0 none 0 none 0) rfl rfl ?_
    refine VL.set1 ?_
    refine VL.assign rfl ?_
    refine VL.nn ?_
    refine VC.ret ?_
    refine VX.then_ret ?_
    refine VX.ret_cell (cs := cat (calV (cal0) none 0 none 0)) 1 rfl rfl rfl kd110 (fun _ h => h) rfl rfl (fun we hw => ?_)
    have e1 : callR l = none := by rw [call_rd, if_neg (not_some hs)]
    have e2 : callW l = 141 := by rw [hW, e1]; rfl
    exact ⟨none, 0, none, 0, by rw [e1]; exact congrArg (fun n : Nat => Value.tuple #[_, .int .i64 (n : Int)]) (e2).symm, hw.drop.drop.subA, by rw [e1]; exact Arr.none, by rw [e1]; exact Arr.none⟩
   ·refine VL.not rfl ?_
    refine VL.move rfl ?_
    refine VL.go rfl rfl rfl ?_
    refine VL.move rfl ?_
    refine VL.go rfl rfl rfl ?_
    refine VL.move rfl ?_
    refine VL.go rfl rfl rfl ?_
    refine VL.call Try.func27 rfl (by decide) rfl (fun w' hw => bytes_B hw (hA41.nowA (s := ⟨w38, _⟩) Mono.byte hw) (hA.nowA (s := ⟨w, _⟩) Mono.byte hw)) (fun v => ?_)
    refine VL.ex fun b => VL.fact fun e => VL.fact fun h20_5 => ?_
    subst e
    cases b
    ·have h20_5 := mt h20_5.2 (by decide)
     refine VL.go rfl rfl rfl ?_
     refine VL.not rfl ?_
     refine VL.pick_f rfl rfl ?_
     refine VL.nn ?_
     refine VC.yes rfl ?_
     refine VC.sr ?_
     refine VL.build0 (cs := cat (calV (cal0) none 0 none 0)) built110 ?_
     refine VL.store (L := calL) (qs := (calV (cal0) none 0 none 0)) (ps' := (calV (cal0) none 0 none 0)) 1 0 17 rfl rfl rfl (.inl kd110) rfl rfl rfl (calV_ok1 cal0 none 0 none 0) rfl rfl ?_
     refine VL.set1 ?_
     refine VL.assign rfl ?_
     refine VL.nn ?_
     refine VC.ret ?_
     refine VX.then_ret ?_
     refine VX.ret_cell (cs := cat (calV (cal0) none 0 none 0)) 1 rfl rfl rfl kd110 (fun _ h => h) rfl rfl (fun we hw => ?_)
     have e1 : callR l = none := by rw [call_rd, if_neg (not_getD h20_5)]
     have e2 : callW l = 141 := by rw [hW, e1]; rfl
     exact ⟨none, 0, none, 0, by rw [e1]; exact congrArg (fun n : Nat => Value.tuple #[_, .int .i64 (n : Int)]) (e2).symm, hw.drop.drop.subA, by rw [e1]; exact Arr.none, by rw [e1]; exact Arr.none⟩
    ·have h20_5 := h20_5.1 rfl
     refine VL.go rfl rfl rfl ?_
     refine VL.not rfl ?_
     refine VL.pick_f rfl rfl ?_
     refine VL.nn ?_
     refine VC.no rfl ?_
     refine VC.skip ?_
     refine VX.next ?_
     refine VC.sr ?_
     refine VL.loads (cs := cat (calV ((callT' (openP l))) qj dj pj cj)) 0 0 17 rfl kd110 (fun _ h => h) rfl rfl rfl rfl ?_
     refine VL.store (L := calL) (qs := (calV ((callT' (openP l))) qj dj pj cj)) (ps' := (calV ((callT' (openP l))) qj dj pj cj)) 1 0 17 rfl rfl rfl (.inl kd110) rfl rfl (calV_len (callT'_ok (openP l))) (calV_ok1 ((callT' (openP l))) qj dj pj cj) rfl rfl ?_
     refine VL.set1 ?_
     refine VL.assign rfl ?_
     refine VL.nn ?_
     refine VC.ret ?_
     refine VX.ret_cell (cs := cat (calV ((callT' (openP l))) qj dj pj cj)) 1 rfl rfl rfl (by rw [cat_size (calV_len (callT'_ok (openP l)))]; exact kd110) (fun _ h => h) rfl rfl (fun we hw => ?_)
     have e1 : callR l = some (callT' (openP l)) := by rw [call_rd, if_pos (some_of hs h20_5)]
     have e2 : callW l = 0 := by rw [hW, e1]; rfl
     rw [e1, e2]
     exact ⟨_, _, _, _, rfl, hw.drop.drop.subA, (hVj.nowA (s := ⟨wj, _⟩) Mono_bundle hw.drop.drop), (hAj.nowA (s := ⟨wj, _⟩) Mono.byte hw.drop.drop)⟩
 ·have h1n : ¬ (nextP (openP l)).length = 1 := by rw [Classical.not_not.1 ho]; decide
  refine VL.not rfl ?_
  refine VL.move rfl ?_
  refine VL.pass rfl rfl rfl rfl rfl ?_
  refine VL.pass rfl rfl rfl rfl rfl ?_
  refine VL.pass rfl rfl rfl rfl rfl ?_
  refine VL.pass rfl rfl rfl rfl rfl ?_
  refine VL.pass rfl rfl rfl rfl rfl ?_
  refine VL.pass rfl rfl rfl rfl rfl ?_
  refine VL.pass rfl rfl rfl rfl rfl ?_
  refine VL.pass rfl rfl rfl rfl rfl ?_
  refine VL.pick_t rfl rfl ?_
  refine VL.nn ?_
  refine VC.yes rfl ?_
  refine VC.sr ?_
  refine VL.build0 (cs := cat (calV (cal0) none 0 none 0)) built110 ?_
  refine VL.store (L := calL) (qs := (calV (cal0) none 0 none 0)) (ps' := (calV (cal0) none 0 none 0)) 1 0 17 rfl rfl rfl (.inl kd110) rfl rfl rfl (calV_ok1 cal0 none 0 none 0) rfl rfl ?_
  refine VL.set1 ?_
  refine VL.assign rfl ?_
  refine VL.nn ?_
  refine VC.ret ?_
  refine VX.then_ret ?_
  refine VX.ret_cell (cs := cat (calV (cal0) none 0 none 0)) 1 rfl rfl rfl kd110 (fun _ h => h) rfl rfl (fun we hw => ?_)
  obtain ⟨e1, e2⟩ := call_141 h1n
  exact ⟨none, 0, none, 0, by rw [e1]; exact congrArg (fun n : Nat => Value.tuple #[_, .int .i64 (n : Int)]) (e2).symm, hw.drop.drop.subA, by rw [e1]; exact Arr.none, by rw [e1]; exact Arr.none⟩

end Go.Proofs.Ytcfecmoagfgnaaa

/- wire: what bytes are read as: replies. -/
namespace Go.Proofs.Ytcfecmoagfgnaaa
open Go.Vc Go.Pl

theorem Own.front {S : List Snap} {H : List Chunk} {w : World} {i : Nat} {c : Chunk} (hi : H[i]? = some c) (h : Own S H w) : Own S (c :: H.eraseIdx i) w := h.perm (perm_at hi).symm
theorem rep_end {l : List UInt8} {xs : List Itm} {ps : List (List UInt8)} {why : Nat} (h : IInv ((((openP l).drop 1).drop 1).drop 1) (lenW (((openP l).drop 1).drop 1) (lenW ((openP l).drop 1) (lenW (openP l) (openW l) 2) 1) 2) xs ps why) (hx : ps = [] ∨ 4 ≤ xs.length ∨ why ≠ 0) : endW ps why = (if (repR l).isSome then 0 else 141) ∧ ∀ y, repR l = some y → y = ⟨takeN (openP l) 2, takeN ((openP l).drop 1) 1, takeN (((openP l).drop 1).drop 1) 2, xs⟩ := by
 obtain ⟨h1, h2⟩ := takesW_open (ks := repK) (by simp) l
 by_cases hf : fitsP repK (openP l)
 ·have hw : lenW (((openP l).drop 1).drop 1) (lenW ((openP l).drop 1) (lenW (openP l) (openW l) 2) 1) 2 = 0 := h1 hf
  rw [hw] at h
  obtain ⟨e1, e2⟩ := h.done (.inl rfl) hx
  have hr : repR l = (restItems ((((openP l).drop 1).drop 1).drop 1)).map fun xs => ⟨takeN (openP l) 2, takeN ((openP l).drop 1) 1, takeN (((openP l).drop 1).drop 1) 2, xs⟩ := if_pos hf
  rw [hr, e1]
  refine ⟨by cases restItems ((((openP l).drop 1).drop 1).drop 1) <;> rfl, fun y hy => ?_⟩
  obtain ⟨ys, hys, rfl⟩ := Option.map_eq_some_iff.1 hy
  rw [e2 rfl ys hys]
 ·have hw : lenW (((openP l).drop 1).drop 1) (lenW ((openP l).drop 1) (lenW (openP l) (openW l) 2) 1) 2 = 141 := h2 hf
  rw [hw] at h
  obtain ⟨e1, _⟩ := h.done (.inr rfl) hx
  have hr : repR l = none := if_neg hf
  rw [hr, e1]
  exact ⟨rfl, fun y hy => by cases hy⟩
theorem trn_end {l : List UInt8} {xs : List Itm} {ps : List (List UInt8)} {why : Nat} (h : IInv ((openP l).drop 1) (lenW (openP l) (openW l) 2) xs ps why) (hx : ps = [] ∨ 4 ≤ xs.length ∨ why ≠ 0) : endW ps why = (if (trnR l).isSome then 0 else 141) ∧ ∀ y, trnR l = some y → y = ⟨takeN (openP l) 2, xs⟩ := by
 obtain ⟨h1, h2⟩ := takesW_open (ks := [some 2]) (by simp) l
 by_cases hf : fitsP [some 2] (openP l)
 ·have hw : lenW (openP l) (openW l) 2 = 0 := h1 hf
  rw [hw] at h
  obtain ⟨e1, e2⟩ := h.done (.inl rfl) hx
  have hr : trnR l = (restItems ((openP l).drop 1)).map fun xs => ⟨takeN (openP l) 2, xs⟩ := if_pos hf
  rw [hr, e1]
  refine ⟨by cases restItems ((openP l).drop 1) <;> rfl, fun y hy => ?_⟩
  obtain ⟨ys, hys, rfl⟩ := Option.map_eq_some_iff.1 hy
  rw [e2 rfl ys hys]
 ·have hw : lenW (openP l) (openW l) 2 = 141 := h2 hf
  rw [hw] at h
  obtain ⟨e1, _⟩ := h.done (.inr rfl) hx
  have hr : trnR l = none := if_neg hf
  rw [hr, e1]
  exact ⟨rfl, fun y hy => by cases hy⟩

theorem getRep_w {S : List Snap} {H : List Chunk} {w : World} (ho : Own S H w) {p : Option Addr} {l : List UInt8} {c : Nat} (hA : Bytes (keys H) w p l c) : Calls Try.prog 88 #[.slice p l.length c] w (Ret fun v w' => ∃ q d, v = .tuple #[.agg (cat (repV ((repR l).getD rep0) q d)).toArray, .int .i64 (((if (repR l).isSome then 0 else 141 : Nat)) : Int)] ∧ Own S H w' ∧ Arr 433 itemR' (keys H) w' q ((repR l).getD rep0).items d) := by
 refine enter (G := Own (⟨w, keys H⟩ :: S) H) ho.keep Try.func88 rfl Try.ntmps88 rfl ?_
 refine VC.sr ?_
 refine VL.alloc (L := repL) (ps := (repV (rep0) none 0)) zero128 rfl rfl (fun g1 => ?_)
 refine VL.assign rfl ?_
 refine VL.nn ?_
 refine VC.sr ?_
 refine VL.move rfl ?_
 refine VL.call Try.func121 rfl (by decide) rfl (fun w' hw => open_R hw (hA.nowA (s := ⟨w, _⟩) Mono.byte hw)) (fun v => ?_)
 refine VL.ex fun g2 => VL.fact fun e3 => ?_
 subst e3
 refine VL.assign rfl ?_
 refine VL.nn ?_
 refine VC.sr ?_
 refine VL.move rfl ?_
 refine VL.call Try.func130 rfl (by decide) rfl (fun w' hw => short_R (i := 0) rfl hw) (fun v => ?_)
 refine VL.fact fun e4 => ?_
 subst e4
 refine VL.set0 ?_
 refine VL.move rfl ?_
 refine VL.call Try.func122 rfl (by decide) rfl (fun w' hw => byte_R (i := 0) rfl hw) (fun v => ?_)
 refine VL.fact fun e5 => ?_
 subst e5
 refine VL.set0 ?_
 refine VL.move rfl ?_
 refine VL.call Try.func130 rfl (by decide) rfl (fun w' hw => short_R (i := 0) rfl hw) (fun v => ?_)
 refine VL.fact fun e6 => ?_
 subst e6
 refine VL.set0 ?_
 refine VL.build (zs := repZ) (L := repFL) [(0, [.int .u16 (takeN (openP (l)) 2)]), (1, [.int .u8 (takeN ((openP (l)).drop 1) 1)]), (2, [.int .u16 (takeN (((openP (l)).drop 1).drop 1) 2)])] plan128 rfl ⟨⟨rfl, ⟨_, rfl, rfl⟩, rfl⟩, ⟨⟨rfl, ⟨_, rfl, rfl⟩, rfl⟩, ⟨⟨rfl, ⟨_, rfl, rfl⟩, rfl⟩, trivial⟩⟩⟩ rfl ?_
 refine VL.newv (v' := .agg (cat (repV ((Rep.mk (takeN (openP l) 2) (takeN ((openP l).drop 1) 1) (takeN (((openP l).drop 1).drop 1) 2) [])) none 0)).toArray) rfl ?_
 refine VL.alloc (L := repL) (ps := (repV (rep0) none 0)) zero128 rfl rfl (fun g7 => ?_)
 refine VL.store (L := repL) (qs := (repV ((Rep.mk (takeN (openP l) 2) (takeN ((openP l).drop 1) 1) (takeN (((openP l).drop 1).drop 1) 2) [])) none 0)) (ps' := (repV ((Rep.mk (takeN (openP l) 2) (takeN ((openP l).drop 1) 1) (takeN (((openP l).drop 1).drop 1) 2) [])) none 0)) 0 0 4 rfl rfl rfl (.inl kd128) rfl rfl (repV_len (⟨takeN_lt _ 2, takeN_lt _ 1, takeN_lt _ 2, by simp⟩ : Rep.ok (Rep.mk (takeN (openP l) 2) (takeN ((openP l).drop 1) 1) (takeN (((openP l).drop 1).drop 1) 2) []))) (repV_ok1 ((Rep.mk (takeN (openP l) 2) (takeN ((openP l).drop 1) 1) (takeN (((openP l).drop 1).drop 1) 2) [])) none 0) rfl rfl ?_
 refine VL.set0 ?_
 refine VL.nn ?_
 refine VC.sr ?_
 refine VL.move rfl ?_
 refine VL.call Try.func148 rfl (by decide) rfl (fun w' hw => getItems_w (Own.front (i := 1) rfl hw)) (fun v => ?_)
 refine VL.at (fun w8 h1w => ?_)
 obtain ⟨q, d, xs, ps, why, rfl, hI, hE, hO9, hA10⟩ := h1w
 replace hO9 : Own _ (rch g2 ps why :: blk g7 128 repL (repV ((Rep.mk (takeN (openP l) 2) (takeN ((openP l).drop 1) 1) (takeN (((openP l).drop 1).drop 1) 2) [])) none 0) :: blk g1 128 repL (repV (rep0) none 0) :: H) w8 := hO9
 replace hA10 : Arr 433 itemR' (keys (rch g2 ps why :: blk g7 128 repL (repV ((Rep.mk (takeN (openP l) 2) (takeN ((openP l).drop 1) 1) (takeN (((openP l).drop 1).drop 1) 2) [])) none 0) :: blk g1 128 repL (repV (rep0) none 0) :: H)) w8 q xs d := hA10
 have hxs : ∀ x ∈ xs, x.ok := hI.1
 refine VL.toOwn hO9 ?_
 refine VL.fieldAddr rfl fo128_3 rfl ?_
 refine VL.store (L := repL) (qs := [[.slice q (xs).length d]]) 1 3 1 rfl rfl rfl (.inr ⟨kd126, rfl⟩) rfl rfl rfl (by intro u hu; simp [cat] at hu; subst hu; rfl) rfl rfl ?_
 refine VL.set1 ?_
 refine VL.nn ?_
 refine VC.seq ?_
 refine VC.sr ?_
 refine VL.move rfl ?_
 refine VL.call Try.func126 rfl (by decide) rfl (fun w' hw => end_R (i := 0) rfl hw) (fun v => ?_)
 refine VL.fact fun e11 => ?_
 subst e11
 refine VL.set0 ?_
 refine VL.assign rfl ?_
 refine VL.nn ?_
 refine VC.sr ?_
 refine VL.move rfl ?_
 refine VL.neq rfl rfl ?_
 refine VL.case (fun h5 => ?_) (fun h5 => ?_)
 ·refine VL.nn ?_
  refine VC.yes rfl ?_
  refine VC.sr ?_
  refine VL.build0 (cs := cat (repV (rep0) none 0)) built128 ?_
  refine VL.move rfl ?_
  refine VL.store (L := repL) (qs := (repV (rep0) none 0)) (ps' := (repV (rep0) none 0)) 2 0 4 rfl rfl rfl (.inl kd128) rfl rfl rfl (repV_ok1 rep0 none 0) rfl rfl ?_
  refine VL.set2 ?_
  refine VL.assign rfl ?_
  refine VL.nn ?_
  refine VC.ret ?_
  refine VX.then_ret ?_
  refine VX.ret_cell (cs := cat (repV (rep0) none 0)) 2 rfl rfl rfl kd128 (fun _ h => h) rfl rfl (fun we hw => ?_)
  obtain ⟨e1, e2⟩ := why_none h5 (rep_end hI hE).1
  exact ⟨none, 0, by rw [e1]; exact congrArg (fun n : Nat => Value.tuple #[_, .int .i64 (n : Int)]) e2, hw.drop.drop.drop.subA, by rw [e1]; exact Arr.none⟩
 ·refine VL.nn ?_
  refine VC.no rfl ?_
  refine VC.skip ?_
  refine VX.next ?_
  refine VC.sr ?_
  refine VL.loads (cs := cat (repV ((Rep.mk (takeN (openP l) 2) (takeN ((openP l).drop 1) 1) (takeN (((openP l).drop 1).drop 1) 2) xs)) q d)) 1 0 4 rfl kd128 (fun _ h => h) rfl rfl rfl rfl ?_
  refine VL.store (L := repL) (qs := (repV ((Rep.mk (takeN (openP l) 2) (takeN ((openP l).drop 1) 1) (takeN (((openP l).drop 1).drop 1) 2) xs)) q d)) (ps' := (repV ((Rep.mk (takeN (openP l) 2) (takeN ((openP l).drop 1) 1) (takeN (((openP l).drop 1).drop 1) 2) xs)) q d)) 2 0 4 rfl rfl rfl (.inl kd128) rfl rfl (repV_len (⟨takeN_lt _ 2, takeN_lt _ 1, takeN_lt _ 2, hxs⟩ : Rep.ok (Rep.mk (takeN (openP l) 2) (takeN ((openP l).drop 1) 1) (takeN (((openP l).drop 1).drop 1) 2) xs))) (repV_ok1 ((Rep.mk (takeN (openP l) 2) (takeN ((openP l).drop 1) 1) (takeN (((openP l).drop 1).drop 1) 2) xs)) q d) rfl rfl ?_
  refine VL.set2 ?_
  refine VL.assign rfl ?_
  refine VL.nn ?_
  refine VC.ret ?_
  refine VX.ret_cell (cs := cat (repV ((Rep.mk (takeN (openP l) 2) (takeN ((openP l).drop 1) 1) (takeN (((openP l).drop 1).drop 1) 2) xs)) q d)) 2 rfl rfl rfl (by rw [cat_size (repV_len (⟨takeN_lt _ 2, takeN_lt _ 1, takeN_lt _ 2, hxs⟩ : Rep.ok (Rep.mk (takeN (openP l) 2) (takeN ((openP l).drop 1) 1) (takeN (((openP l).drop 1).drop 1) 2) xs)))]; exact kd128) (fun _ h => h) rfl rfl (fun we hw => ?_)
  obtain ⟨y, e1⟩ := why_some h5 (rep_end hI hE).1
  have e3 := (rep_end hI hE).2 y e1
  rw [e1, e3]
  exact ⟨_, _, rfl, hw.drop.drop.drop.subA, (hA10.nowA (s := ⟨w8, _⟩) Mono_item hw.drop.drop.drop)⟩

theorem getTrn_w {S : List Snap} {H : List Chunk} {w : World} (ho : Own S H w) {p : Option Addr} {l : List UInt8} {c : Nat} (hA : Bytes (keys H) w p l c) : Calls Try.prog 89 #[.slice p l.length c] w (Ret fun v w' => ∃ q d, v = .tuple #[.agg (cat (trnV ((trnR l).getD trn0) q d)).toArray, .int .i64 (((if (trnR l).isSome then 0 else 141 : Nat)) : Int)] ∧ Own S H w' ∧ Arr 433 itemR' (keys H) w' q ((trnR l).getD trn0).items d) := by
 refine enter (G := Own (⟨w, keys H⟩ :: S) H) ho.keep Try.func89 rfl Try.ntmps89 rfl ?_
 refine VC.sr ?_
 refine VL.alloc (L := trnL) (ps := (trnV (trn0) none 0)) zero132 rfl rfl (fun g1 => ?_)
 refine VL.assign rfl ?_
 refine VL.nn ?_
 refine VC.sr ?_
 refine VL.move rfl ?_
 refine VL.call Try.func121 rfl (by decide) rfl (fun w' hw => open_R hw (hA.nowA (s := ⟨w, _⟩) Mono.byte hw)) (fun v => ?_)
 refine VL.ex fun g2 => VL.fact fun e3 => ?_
 subst e3
 refine VL.assign rfl ?_
 refine VL.nn ?_
 refine VC.sr ?_
 refine VL.move rfl ?_
 refine VL.call Try.func130 rfl (by decide) rfl (fun w' hw => short_R (i := 0) rfl hw) (fun v => ?_)
 refine VL.fact fun e4 => ?_
 subst e4
 refine VL.set0 ?_
 refine VL.build (zs := trnZ) (L := trnFL) [(0, [.int .u16 (takeN (openP (l)) 2)])] plan132 rfl ⟨⟨rfl, ⟨_, rfl, rfl⟩, rfl⟩, trivial⟩ rfl ?_
 refine VL.newv (v' := .agg (cat (trnV ((Trn.mk (takeN (openP l) 2) [])) none 0)).toArray) rfl ?_
 refine VL.alloc (L := trnL) (ps := (trnV (trn0) none 0)) zero132 rfl rfl (fun g5 => ?_)
 refine VL.store (L := trnL) (qs := (trnV ((Trn.mk (takeN (openP l) 2) [])) none 0)) (ps' := (trnV ((Trn.mk (takeN (openP l) 2) [])) none 0)) 0 0 2 rfl rfl rfl (.inl kd132) rfl rfl (trnV_len (⟨takeN_lt _ 2, by simp⟩ : Trn.ok (Trn.mk (takeN (openP l) 2) []))) (trnV_ok1 ((Trn.mk (takeN (openP l) 2) [])) none 0) rfl rfl ?_
 refine VL.set0 ?_
 refine VL.nn ?_
 refine VC.sr ?_
 refine VL.move rfl ?_
 refine VL.call Try.func148 rfl (by decide) rfl (fun w' hw => getItems_w (Own.front (i := 1) rfl hw)) (fun v => ?_)
 refine VL.at (fun w6 h1w => ?_)
 obtain ⟨q, d, xs, ps, why, rfl, hI, hE, hO7, hA8⟩ := h1w
 replace hO7 : Own _ (rch g2 ps why :: blk g5 132 trnL (trnV ((Trn.mk (takeN (openP l) 2) [])) none 0) :: blk g1 132 trnL (trnV (trn0) none 0) :: H) w6 := hO7
 replace hA8 : Arr 433 itemR' (keys (rch g2 ps why :: blk g5 132 trnL (trnV ((Trn.mk (takeN (openP l) 2) [])) none 0) :: blk g1 132 trnL (trnV (trn0) none 0) :: H)) w6 q xs d := hA8
 have hxs : ∀ x ∈ xs, x.ok := hI.1
 refine VL.toOwn hO7 ?_
 refine VL.fieldAddr rfl fo132_1 rfl ?_
 refine VL.store (L := trnL) (qs := [[.slice q (xs).length d]]) (ps' := [[.int .u16 ((Trn.mk (takeN (openP l) 2) []).seq)], [.slice q (xs).length d]]) 1 1 1 rfl rfl rfl (.inr ⟨kd126, rfl⟩) rfl rfl rfl (by intro u hu; simp [cat] at hu; subst hu; rfl) rfl rfl ?_
 refine VL.set1 ?_
 refine VL.nn ?_
 refine VC.seq ?_
 refine VC.sr ?_
 refine VL.move rfl ?_
 refine VL.call Try.func126 rfl (by decide) rfl (fun w' hw => end_R (i := 0) rfl hw) (fun v => ?_)
 refine VL.fact fun e9 => ?_
 subst e9
 refine VL.set0 ?_
 refine VL.assign rfl ?_
 refine VL.nn ?_
 refine VC.sr ?_
 refine VL.move rfl ?_
 refine VL.neq rfl rfl ?_
 refine VL.case (fun h5 => ?_) (fun h5 => ?_)
 ·refine VL.nn ?_
  refine VC.yes rfl ?_
  refine VC.sr ?_
  refine VL.build0 (cs := cat (trnV (trn0) none 0)) built132 ?_
  refine VL.move rfl ?_
  refine VL.store (L := trnL) (qs := (trnV (trn0) none 0)) (ps' := (trnV (trn0) none 0)) 2 0 2 rfl rfl rfl (.inl kd132) rfl rfl rfl (trnV_ok1 trn0 none 0) rfl rfl ?_
  refine VL.set2 ?_
  refine VL.assign rfl ?_
  refine VL.nn ?_
  refine VC.ret ?_
  refine VX.then_ret ?_
  refine VX.ret_cell (cs := cat (trnV (trn0) none 0)) 2 rfl rfl rfl kd132 (fun _ h => h) rfl rfl (fun we hw => ?_)
  obtain ⟨e1, e2⟩ := why_none h5 (trn_end hI hE).1
  exact ⟨none, 0, by rw [e1]; exact congrArg (fun n : Nat => Value.tuple #[_, .int .i64 (n : Int)]) e2, hw.drop.drop.drop.subA, by rw [e1]; exact Arr.none⟩
 ·refine VL.nn ?_
  refine VC.no rfl ?_
  refine VC.skip ?_
  refine VX.next ?_
  refine VC.sr ?_
  refine VL.loads (cs := cat (trnV ((Trn.mk (takeN (openP l) 2) xs)) q d)) 1 0 2 rfl kd132 (fun _ h => h) rfl rfl rfl rfl ?_
  refine VL.store (L := trnL) (qs := (trnV ((Trn.mk (takeN (openP l) 2) xs)) q d)) (ps' := (trnV ((Trn.mk (takeN (openP l) 2) xs)) q d)) 2 0 2 rfl rfl rfl (.inl kd132) rfl rfl (trnV_len (⟨takeN_lt _ 2, hxs⟩ : Trn.ok (Trn.mk (takeN (openP l) 2) xs))) (trnV_ok1 ((Trn.mk (takeN (openP l) 2) xs)) q d) rfl rfl ?_
  refine VL.set2 ?_
  refine VL.assign rfl ?_
  refine VL.nn ?_
  refine VC.ret ?_
  refine VX.ret_cell (cs := cat (trnV ((Trn.mk (takeN (openP l) 2) xs)) q d)) 2 rfl rfl rfl (by rw [cat_size (trnV_len (⟨takeN_lt _ 2, hxs⟩ : Trn.ok (Trn.mk (takeN (openP l) 2) xs)))]; exact kd132) (fun _ h => h) rfl rfl (fun we hw => ?_)
  obtain ⟨y, e1⟩ := why_some h5 (trn_end hI hE).1
  have e3 := (trn_end hI hE).2 y e1
  rw [e1, e3]
  exact ⟨_, _, rfl, hw.drop.drop.drop.subA, (hA8.nowA (s := ⟨w6, _⟩) Mono_item hw.drop.drop.drop)⟩

end Go.Proofs.Ytcfecmoagfgnaaa

/- Lists of items, one against the other. -/
namespace Go.Proofs.Ytcfecmoagfgnaaa
open Go.Vc Go.Pl

/-- An item's value, with its slices. -/
def itemF {K : List Nat} (y : Itm) : SFact K :=
  ⟨fun v w => ∃ p c q d, v = .agg (cat (itemV y p c q d)).toArray ∧ Bytes K w p y.letter.body c ∧ Arr 65 vouchR K w q y.object.vouches d, false,
   fun _ _ w _ hs ⟨p, c, q, d, e, h1, h2⟩ => ⟨p, c, q, d, e, Arr.after (s := ⟨w, K⟩) h1 Mono.byte ⟨hs, fun _ hk => .inl hk⟩, Arr.after (s := ⟨w, K⟩) h2 Mono_vouch ⟨hs, fun _ hk => .inl hk⟩⟩⟩

theorem sameLists_w {S : List Snap} {H : List Chunk} {w : World} (ho : Own S H w) {xs : List Itm} (hxs : ∀ x ∈ xs, x.ok) {p : Option Addr} {c : Nat} (hX : Arr 433 itemR' (keys H) w p xs c) {p2 : Option Addr} {c2 : Nat} (hY : Arr 433 itemR' (keys H) w p2 xs c2) : Calls Try.prog 90 #[.slice p xs.length c, .slice p2 xs.length c2] w (Ret fun v w' => v = .bool true ∧ Own S H w') := by
 have hsm := hX.small
 refine enter (G := Own (⟨w, keys H⟩ :: S) H) ho.keep Try.func90 rfl Try.ntmps90 rfl ?_
 refine VC.sr ?_
 refine VL.assign rfl ?_
 refine VL.nn ?_
 refine VC.seq ?_
 refine VC.sr ?_
 refine VL.move rfl ?_
 refine VL.len Try.underlying126 rfl rfl ?_
 refine VL.move rfl ?_
 refine VL.len Try.underlying126 rfl rfl ?_
 refine VL.neq rfl rfl ?_
 refine VL.no (by omega) ?_
 refine VL.nn ?_
 refine VC.no rfl ?_
 refine VC.skip ?_
 refine VX.next ?_
 refine VC.seq ?_
 refine VC.sr ?_
 refine VL.assign rfl ?_
 refine VL.nn ?_
 refine VC.block ?_
 refine VC.loop (X := Nat) (fun i => [(0, .slice p xs.length c), (1, .slice p2 xs.length c2), (5, .int .i64 (i : Int))]) (fun i w' => i ≤ xs.length ∧ Own (⟨w, keys H⟩ :: S) H w') (fun i => xs.length - i) 0 ⟨rfl, rfl, rfl, trivial⟩ (fun w' h => ⟨Nat.zero_le _, h.subA⟩) (fun i => VC.fact fun hi => ?_)
 ·skip
  refine VC.seq ?_
  refine VC.sr ?_
  refine VL.move rfl ?_
  refine VL.move rfl ?_
  refine VL.len Try.underlying126 rfl rfl ?_
  refine VL.lss rfl rfl ?_
  refine VL.case (fun h4 => ?_) (fun h4 => ?_)
  ·have hlt : i < xs.length := by omega
   refine VL.nn ?_
   refine VC.yes rfl ?_
   refine VC.skip ?_
   refine VX.next ?_
   refine VC.seq ?_
   refine VC.block ?_
   refine VC.seq ?_
   apply VC.anyTA 8 1010 (F := [eqF _, eqF _, eqF _, itemF (xs[i]'hlt), eqF _, eqF _, eqF _, itemF (xs[i]'hlt)]) [⟨[], [0]⟩, ⟨[], [5]⟩, ⟨[(17, 0), (18, 1)], []⟩, ⟨[(19, 2)], []⟩, ⟨[], [1]⟩, ⟨[], [5]⟩, ⟨[(21, 4), (22, 5)], []⟩, ⟨[(23, 6)], []⟩] [(20, 3), (24, 7)] [0, 1, 4, 5, 6, 7, 8, 9, 10, 11, 12, 13, 14, 15, 16, 25, 26] rfl (by kernel_rfl) (by kernel_rfl) rfl rfl (by kernel_rfl) (by kernel_rfl) (by kernel_rfl) rfl ?obs6 ?end6
   case obs6 =>
    refine Obs.cons ?_ ?_
    ·refine obS (by kernel_rfl) rfl rfl (fun ph6 w6 hO6 => ?_)
     refine VL.move rfl ?_
     exact VL.finS hO6 rfl rfl
    refine Obs.cons ?_ ?_
    ·refine obS (by kernel_rfl) rfl rfl (fun ph6 w6 hO6 => ?_)
     refine VL.move rfl ?_
     exact VL.finS hO6 rfl rfl
    refine Obs.cons ?_ ?_
    ·refine obS (by kernel_rfl) rfl rfl (fun ph6 w6 hO6 => ?_)
     rintro _ rfl _ rfl
     refine VL.index (xs := xs) rfl rfl Try.underlying126 sz126 hX (by omega) (by have hi := hlt; omega) ?_
     exact VL.finS hO6 rfl rfl
    refine Obs.cons ?_ ?_
    ·refine ob (by kernel_rfl) rfl (by kernel_rfl) rfl (fun w6 hO6 => ?_)
     rintro _ rfl
     refine VL.elems (s := ⟨w, _⟩) (m := 433) (i) 0 rfl kd87 (fun _ e => e ▸ hO6) (by repeat (first | exact List.mem_cons_self .. | apply List.mem_cons_of_mem)) hX (List.getElem?_eq_getElem hlt) (by simp) (by decide) (fun vs hl hr => ?_)
     obtain ⟨p9, c9, q9, d9, hy9, rfl, hA9, hV9⟩ := hr
     refine VL.newv (v' := .agg (cat (itemV (xs[i]'hlt) p9 c9 q9 d9)).toArray) (by rw [List.drop_zero, List.take_of_length_le (by rw [hl]; decide)]) ?_
     exact VL.finS hO6 rfl ⟨_, _, _, _, rfl, hA9.nowA (s := ⟨w, _⟩) Mono.byte hO6, hV9.nowA (s := ⟨w, _⟩) Mono_vouch hO6⟩
    refine Obs.cons ?_ ?_
    ·refine obS (by kernel_rfl) rfl rfl (fun ph6 w6 hO6 => ?_)
     refine VL.move rfl ?_
     exact VL.finS hO6 rfl rfl
    refine Obs.cons ?_ ?_
    ·refine obS (by kernel_rfl) rfl rfl (fun ph6 w6 hO6 => ?_)
     refine VL.move rfl ?_
     exact VL.finS hO6 rfl rfl
    refine Obs.cons ?_ ?_
    ·refine obS (by kernel_rfl) rfl rfl (fun ph6 w6 hO6 => ?_)
     rintro _ rfl _ rfl
     refine VL.index (xs := xs) rfl rfl Try.underlying126 sz126 hY (by omega) (by have hi := hlt; omega) ?_
     exact VL.finS hO6 rfl rfl
    refine Obs.cons ?_ ?_
    ·refine ob (by kernel_rfl) rfl (by kernel_rfl) rfl (fun w6 hO6 => ?_)
     rintro _ rfl
     refine VL.elems (s := ⟨w, _⟩) (m := 433) (i) 0 rfl kd87 (fun _ e => e ▸ hO6) (by repeat (first | exact List.mem_cons_self .. | apply List.mem_cons_of_mem)) hY (List.getElem?_eq_getElem hlt) (by simp) (by decide) (fun vs hl hr => ?_)
     obtain ⟨p9, c9, q9, d9, hy9, rfl, hA9, hV9⟩ := hr
     refine VL.newv (v' := .agg (cat (itemV (xs[i]'hlt) p9 c9 q9 d9)).toArray) (by rw [List.drop_zero, List.take_of_length_le (by rw [hl]; decide)]) ?_
     exact VL.finS hO6 rfl ⟨_, _, _, _, rfl, hA9.nowA (s := ⟨w, _⟩) Mono.byte hO6, hV9.nowA (s := ⟨w, _⟩) Mono_vouch hO6⟩
    exact Obs.nil
   case end6 =>
    intro w6 hO6
    rintro _ ⟨pa3, ca3, qa3, da3, rfl, hAa3, hVa3⟩ _ ⟨pa7, ca7, qa7, da7, rfl, hAa7, hVa7⟩
    refine VL.toOwn hO6 ?_
    refine VL.call Try.func59 rfl (by decide) rfl (fun w' hw => sameItems_e hw (hxs _ (List.getElem_mem hlt)) (hAa3.nowA (s := ⟨w6, _⟩) Mono.byte hw) (hVa3.nowA (s := ⟨w6, _⟩) Mono_vouch hw) (hAa7.nowA (s := ⟨w6, _⟩) Mono.byte hw) (hVa7.nowA (s := ⟨w6, _⟩) Mono_vouch hw) rfl) (fun v => ?_)
    refine VL.fact fun e1 => ?_
    subst e1
    refine VL.not rfl ?_
    refine VL.nn ?_
    refine VC.no rfl ?_
    refine VC.skip ?_
    refine VX.block_normal ?_
    refine VX.next ?_
    refine VC.region ?_
    refine VL.move rfl ?_
    refine VL.add rfl rfl (by simp only [InR]; omega) ?_
    refine VL.assign rfl ?_
    refine VL.nil ?_
    refine VX.round (i + 1) ⟨rfl, rfl, rfl, trivial⟩ (fun w' h => ⟨by omega, h.subA⟩) (by show xs.length - (i + 1) < xs.length - i; omega)
  ·have hie : i = xs.length := by omega
   refine VL.nn ?_
   refine VC.no rfl ?_
   refine VC.exit ?_
   refine VX.then_exit ?_
   refine VX.then_exit ?_
   refine VX.block_here ?_
   refine VX.next ?_
   refine VC.sr ?_
   refine VL.assign rfl ?_
   refine VL.nn ?_
   refine VC.ret ?_
   refine VX.ret1 rfl rfl (fun we hw => ?_)
   exact ⟨rfl, hw.subA⟩

theorem sameLists_e {S : List Snap} {H : List Chunk} {w : World} (ho : Own S H w) {xs ys : List Itm} (hxs : ∀ x ∈ xs, x.ok) {p : Option Addr} {c : Nat} (hX : Arr 433 itemR' (keys H) w p xs c) {p2 : Option Addr} {c2 : Nat} (hY : Arr 433 itemR' (keys H) w p2 ys c2) (e : ys = xs) : Calls Try.prog 90 #[.slice p xs.length c, .slice p2 ys.length c2] w (Ret fun v w' => v = .bool true ∧ Own S H w') := by
 subst e; exact sameLists_w ho hxs hX hY

end Go.Proofs.Ytcfecmoagfgnaaa

