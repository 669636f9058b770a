/- The statement FedqLoads is proved, for every input: part 21 of 26 of the texts that it needs. -/
import Derived.Test.YtcfecmoagfgnaaaMfloAT
/- The reference: what bytes are read as: items, replies. -/
namespace Go.Proofs.Ytcfecmoagfgnaaa
open Go.Vc Go.Pl

theorem ownDropAt {S : List Snap} {H : List Chunk} {w : World} (i : Nat) (h : Own S H w) : Own S (H.eraseIdx i) w := by
 cases hi : H[i]? with
 | none => rw [List.eraseIdx_of_length_le (by simpa using hi)]; exact h
 | some c => exact (h.front hi).drop
theorem vcToOwn {P : Program} {n : Nat} {Q : Exit → Act → World → Prop} {S : List Snap} {H : List Chunk} {c : Code} {w0 : World} {σ : Sl} (hO : Own S H w0) (h : VC P n Q c σ (Own (⟨w0, keys H⟩ :: S) H)) : VC P n Q c σ (fun w => w = w0) := VC.turn (fun w e => by subst e; exact hO.keep) h
theorem first_el {ps : List (List UInt8)} (h : 0 < ps.length) : nextP ps = ps[0]'h := by
 match ps, h with
 | a :: r, _ => rfl
theorem readItem_w {S : List Snap} {H : List Chunk} {w : World} (ho : Own S H w) {p : Option Addr} {l : List UInt8} {c : Nat} (hA : Bytes (keys H) w p l c) : Calls Try.prog 97 #[.slice p l.length c] w (Ret fun v w' => ∃ p c q d, v = .tuple #[.agg (cat (itemV ((itemR l).getD item0) p c q d)).toArray, .int .i64 ((itemW l : Nat) : Int)] ∧ Own S H w' ∧ Bytes (keys H) w' p ((itemR l).getD item0).letter.body c ∧ Arr 65 vouchR (keys H) w' q ((itemR l).getD item0).object.vouches d) := by
 refine enter (G := Own (⟨w, keys H⟩ :: S) H) ho.keep Try.func97 rfl Try.ntmps97 rfl ?_
 refine VC.sr ?_
 refine VL.alloc (L := itemL) (ps := (itemV (item0) none 0 none 0)) zero87 rfl rfl (fun g1 => ?_)
 refine VL.assign rfl ?_
 refine VL.nn ?_
 refine VC.sr ?_
 refine VL.move rfl ?_
 refine VL.call Try.func140 rfl (by decide) rfl (fun w' hw => open_T hw (hA.nowA (s := ⟨w, _⟩) Mono.byte hw)) (fun v => ?_)
 refine VL.ex fun g2 => VL.fact fun e3 => ?_
 subst e3
 refine VL.move rfl ?_
 refine VL.extract rfl rfl ?_
 refine VL.extract rfl rfl ?_
 refine VL.assign rfl ?_
 refine VL.assign rfl ?_
 refine VL.nn ?_
 refine VC.seq ?_
 refine VC.sr ?_
 refine VL.move rfl ?_
 refine VL.case (fun ho => ?_) (fun ho => ?_)
 ·have h0l : 0 < (openP l).length := List.length_pos_iff.2 ho
  refine VL.not rfl ?_
  refine VL.move rfl ?_
  refine VL.go rfl rfl rfl ?_
  refine VL.move rfl ?_
  refine VL.go rfl rfl rfl ?_
  refine VL.nilCheck rfl ?_
  refine VL.go rfl rfl rfl ?_
  refine VL.fieldAddr rfl fo216_0 rfl ?_
  refine VL.go rfl rfl rfl ?_
  refine loadL 0 rfl rfl (fun p4 c5 w6 hO7 hA8 => ?_)
  refine VL.go rfl rfl rfl ?_
  refine VL.index (xs := (openP l)) rfl rfl Try.underlying31 sz31 hA8 (by omega) (by have hi := h0l; omega) ?_
  refine VL.go rfl rfl rfl ?_
  refine VL.elem (s := ⟨w6, _⟩) (0) 0 rfl kd24 (fun _ h => h) (by repeat (first | exact List.mem_cons_self .. | apply List.mem_cons_of_mem)) (Mono.slice Mono.byte) hA8 (List.getElem?_eq_getElem h0l) (by simp) (by decide) (fun vs v hl hr hv => ?_)
  obtain ⟨p11, c12, rfl, hA13⟩ := hr
  have ehy10 : v = .slice p11 ((openP l)[0]'h0l).length c12 := Option.some.inj (hv.symm.trans rfl)
  subst ehy10
  refine VL.go rfl rfl rfl ?_
  refine VL.len Try.underlying24 rfl rfl ?_
  refine VL.go rfl rfl rfl ?_
  refine VL.neq rfl rfl ?_
  refine VL.case (fun h2 => ?_) (fun h2 => ?_)
  ·have h1n : ¬ (nextP (openP l)).length = 1 := by rw [first_el h0l]; omega
   refine VL.pick_f rfl rfl ?_
   refine VL.nn ?_
   refine VC.yes rfl ?_
   refine VC.sr ?_
   refine VL.build0 (cs := cat (itemV (item0) none 0 none 0)) built87 ?_
   refine VL.store (L := itemL) (qs := (itemV (item0) none 0 none 0)) (ps' := (itemV (item0) none 0 none 0)) 1 0 28 rfl rfl rfl (.inl kd87) rfl rfl (itemV_len item0_ok) (itemV_ok1 item0 none 0 none 0) rfl rfl ?_
   refine VL.set1 ?_
   refine VL.assign rfl ?_
   refine VL.nn ?_
   refine VC.ret ?_
   refine VX.then_ret ?_
   refine VX.ret_cell (cs := cat (itemV (item0) none 0 none 0)) 1 rfl rfl rfl (by rw [cat_size (itemV_len item0_ok)]; exact kd87) (fun _ h => h) rfl rfl (fun we hw => ?_)
   obtain ⟨e1, e2⟩ := item_141 h1n
   exact ⟨none, 0, none, 0, by rw [e1]; exact congrArg (fun n : Nat => Value.tuple #[_, .int .i64 (n : Int)]) (e2).symm, hw.drop.drop.subA, by rw [e1]; exact Arr.none, by rw [e1]; exact Arr.none⟩
  ·have h1n : (nextP (openP l)).length = 1 := by rw [first_el h0l]; omega
   refine VL.pick_f rfl rfl ?_
   refine VL.nn ?_
   refine VC.no rfl ?_
   refine VC.skip ?_
   refine VX.next ?_
   refine VC.sr ?_
   refine VL.move rfl ?_
   refine VL.call Try.func141 rfl (by decide) rfl (fun w' hw => num_T (i := 0) rfl hw) (fun v => ?_)
   refine VL.fact fun e14 => ?_
   subst e14
   refine VL.set0 ?_
   refine VL.convw (by rw [Try.underlying3]; rfl) Try.underlying5 rfl ?_
   refine VL.newv (v' := .int .u8 (tkN 1 (openP l) : Nat)) (wrapT_u8 _) ?_
   refine VL.build (zs := itemZ) (L := itemFL) [(0, [.int .u8 (tkN 1 (openP l))])] plan87 rfl ⟨⟨rfl, ⟨_, rfl, rfl⟩, rfl⟩, trivial⟩ rfl ?_
   refine VL.newv (v' := .agg (cat (itemV ((Itm.mk (tkN 1 (openP l)) 0 0 letter0 bundle0 object0)) none 0 none 0)).toArray) (by kernel_rfl) ?_
   refine VL.alloc (L := itemL) (ps := (itemV (item0) none 0 none 0)) zero87 rfl rfl (fun g15 => ?_)
   refine VL.store (L := itemL) (qs := (itemV ((Itm.mk (tkN 1 (openP l)) 0 0 letter0 bundle0 object0)) none 0 none 0)) (ps' := (itemV ((Itm.mk (tkN 1 (openP l)) 0 0 letter0 bundle0 object0)) none 0 none 0)) 0 0 28 rfl rfl rfl (.inl kd87) rfl rfl (itemV_len (⟨tkN_lt 1 _, (show (0 : Nat) < 256 by decide), (show (0 : Nat) < 256 by decide), letter0_ok, bundle0_ok, object0_ok⟩ : Itm.ok (Itm.mk (tkN 1 (openP l)) 0 0 letter0 bundle0 object0))) (itemV_ok1 ((Itm.mk (tkN 1 (openP l)) 0 0 letter0 bundle0 object0)) none 0 none 0) rfl rfl ?_
   refine VL.set0 ?_
   refine VL.nn ?_
   refine VC.join (X := Option Addr × Nat × Option Addr × Nat) (fun _ => [(2, .pointer (some ⟨g1, 0, none⟩)), (6, .pointer (some ⟨g15, 0, none⟩)), (0, .slice p l.length c)]) (fun (pj, cj, qj, dj) w' => Own (⟨w, keys H⟩ :: S) (blk g15 87 itemL (itemV ((itemT' (openP l))) pj cj qj dj) :: blk g1 87 itemL (itemV (item0) none 0 none 0) :: H) w' ∧ Bytes (keys (blk g15 87 itemL (itemV ((itemT' (openP l))) pj cj qj dj) :: blk g1 87 itemL (itemV (item0) none 0 none 0) :: H)) w' pj (itemT' (openP l)).letter.body cj ∧ Arr 65 vouchR (keys (blk g15 87 itemL (itemV ((itemT' (openP l))) pj cj qj dj) :: blk g1 87 itemL (itemV (item0) none 0 none 0) :: H)) w' qj (itemT' (openP l)).object.vouches dj) (fun _ => 1 ≤ tkN 1 (openP l) ∧ tkN 1 (openP l) ≤ 6) (fun hrest => ?_) (fun (pj, cj, qj, dj) hkk => ?_)
   ·skip
    refine VC.sr ?_
    refine VL.fieldAddr rfl fo87_0 rfl ?_
    refine VL.load (v := .int .u8 ((Itm.mk (tkN 1 (openP l)) 0 0 letter0 bundle0 object0).kind)) 0 0 rfl kd5 (fun _ h => h) rfl rfl rfl ?_
    refine VL.nn ?_
    refine VC.block ?_
    refine VC.sr ?_
    refine VL.eql rfl rfl ?_
    refine VL.case (fun h7_0 => ?_) (fun h7_0 => ?_)
    ·have h7_0 : tkN 1 (openP l) = 1 := by have h : ((tkN 1 (openP l) : Nat) : Int) = 1 := h7_0; omega
     refine VL.assign rfl ?_
     refine VL.nn ?_
     refine VC.yes rfl ?_
     refine VC.sr ?_
     refine VL.move rfl ?_
     refine VL.call Try.func142 rfl (by decide) rfl (fun w' hw => next_T (i := 1) rfl hw) (fun v => ?_)
     refine VL.at (fun w16 h1w => ?_)
     obtain ⟨p17, c18, rfl, hO20, hA19⟩ := h1w
     replace hO20 := ownSet1 hO20
     replace hA19 := arrSet1 hA19
     refine VL.toOwn hO20 ?_
     refine VL.call Try.func95 rfl (by decide) rfl (fun w' hw => readLetter_w hw (hA19.nowA (s := ⟨w16, _⟩) Mono.byte hw)) (fun v => ?_)
     refine VL.at (fun w21 h1w => ?_)
     obtain ⟨p23, c24, rfl, hO22, hA25⟩ := h1w
     refine VL.toOwn hO22 ?_
     refine VL.move rfl ?_
     refine VL.extract rfl rfl ?_
     refine VL.extract rfl rfl ?_
     refine VL.alloc (L := letterL) (ps := (letterV (letter0) none 0)) zero72 rfl rfl (fun g26 => ?_)
     refine VL.store (L := letterL) (qs := (letterV (((letterR (nextP ((openP l).drop 1))).getD letter0)) p23 c24)) (ps' := (letterV (((letterR (nextP ((openP l).drop 1))).getD letter0)) p23 c24)) 0 0 12 rfl rfl rfl (.inl kd72) rfl rfl (letterV_len (letterR_ok (nextP ((openP l).drop 1)))) (letterV_ok1 (((letterR (nextP ((openP l).drop 1))).getD letter0)) p23 c24) rfl rfl ?_
     refine VL.set0 ?_
     refine VL.assign rfl ?_
     refine VL.nn ?_
     refine VC.region ?_
     refine VL.loads (cs := cat (letterV (((letterR (nextP ((openP l).drop 1))).getD letter0)) p23 c24)) 0 0 12 rfl kd72 (fun _ h => h) rfl rfl rfl rfl ?_
     refine VL.fieldAddr rfl fo87_3 rfl ?_
     refine VL.store (L := itemL) (qs := (letterV (((letterR (nextP ((openP l).drop 1))).getD letter0)) p23 c24)) 1 3 12 rfl rfl rfl (.inl kd72) rfl rfl (letterV_len (letterR_ok (nextP ((openP l).drop 1)))) (letterV_ok1 (((letterR (nextP ((openP l).drop 1))).getD letter0)) p23 c24) rfl rfl ?_
     refine VL.set1 ?_
     refine VL.nil ?_
     refine VX.block_normal ?_
     refine VX.join hrest (p23, c24, none, 0) ⟨by omega, by omega⟩ ⟨rfl, rfl, rfl, trivial⟩ (fun _ h => ?_)
     have h9 := (ownDropAt 0 (ownDropAt 2 h))
     dsimp only
     rw [itemT'_1 h7_0]
     exact ⟨h9.subA, (hA25.nowA (s := ⟨w21, _⟩) Mono.byte h9), Arr.none⟩
    ·have h7_0 : tkN 1 (openP l) ≠ 1 := by have h : ¬ ((tkN 1 (openP l) : Nat) : Int) = 1 := h7_0; omega
     refine VL.assign rfl ?_
     refine VL.nn ?_
     refine VC.no rfl ?_
     refine VC.seq ?_
     refine VC.sr ?_
     refine VL.eql rfl rfl ?_
     refine VL.case (fun h10_0 => ?_) (fun h10_0 => ?_)
     ·have h10_0 : tkN 1 (openP l) = 2 := by have h : ((tkN 1 (openP l) : Nat) : Int) = 2 := h10_0; omega
      refine VL.assign rfl ?_
      refine VL.nn ?_
      refine VC.yes rfl ?_
      refine VC.skip ?_
      refine VX.next ?_
      refine VC.yes rfl ?_
      refine VC.sr ?_
      refine VL.move rfl ?_
      refine VL.call Try.func141 rfl (by decide) rfl (fun w' hw => num_T (i := 1) rfl hw) (fun v => ?_)
      refine VL.fact fun e27 => ?_
      subst e27
      refine VL.set1 ?_
      refine VL.convw (by rw [Try.underlying3]; rfl) Try.underlying5 rfl ?_
      refine VL.newv (v' := .int .u8 (tkN 1 ((openP l).drop 1) : Nat)) (wrapT_u8 _) ?_
      refine VL.fieldAddr rfl fo87_1 rfl ?_
      refine VL.store (L := itemL) (qs := [[.int .u8 (tkN 1 ((openP l).drop 1))]]) 0 1 1 rfl rfl rfl (.inr ⟨kd5, rfl⟩) rfl rfl rfl (by intro u hu; simp [cat] at hu; subst hu; rfl) rfl rfl ?_
      refine VL.set0 ?_
      refine VL.nn ?_
      refine VC.region ?_
      refine VL.move rfl ?_
      refine VL.call Try.func141 rfl (by decide) rfl (fun w' hw => num_T (i := 1) rfl hw) (fun v => ?_)
      refine VL.fact fun e28 => ?_
      subst e28
      refine VL.set1 ?_
      refine VL.convw (by rw [Try.underlying3]; rfl) Try.underlying5 rfl ?_
      refine VL.newv (v' := .int .u8 (tkN 1 (((openP l).drop 1).drop 1) : Nat)) (wrapT_u8 _) ?_
      refine VL.fieldAddr rfl fo87_2 rfl ?_
      refine VL.store (L := itemL) (qs := [[.int .u8 (tkN 1 (((openP l).drop 1).drop 1))]]) 0 2 1 rfl rfl rfl (.inr ⟨kd5, rfl⟩) rfl rfl rfl (by intro u hu; simp [cat] at hu; subst hu; rfl) rfl rfl ?_
      refine VL.set0 ?_
      refine VL.nil ?_
      refine VX.block_normal ?_
      refine VX.join hrest (none, 0, none, 0) ⟨by omega, by omega⟩ ⟨rfl, rfl, rfl, trivial⟩ (fun _ h => ?_)
      have h9 := (ownDropAt 1 h)
      dsimp only
      rw [itemT'_2 (.inl h10_0)]
      exact ⟨h9.subA, Arr.none, Arr.none⟩
     ·have h10_0 : tkN 1 (openP l) ≠ 2 := by have h : ¬ ((tkN 1 (openP l) : Nat) : Int) = 2 := h10_0; omega
      refine VL.assign rfl ?_
      refine VL.nn ?_
      refine VC.no rfl ?_
      refine VC.region ?_
      refine VL.eql rfl rfl ?_
      refine VL.case (fun h11_0 => ?_) (fun h11_0 => ?_)
      ·have h11_0 : tkN 1 (openP l) = 4 := by have h : ((tkN 1 (openP l) : Nat) : Int) = 4 := h11_0; omega
       refine VL.assign rfl ?_
       refine VL.nn ?_
       refine VC.yes rfl ?_
       refine VC.sr ?_
       refine VL.move rfl ?_
       refine VL.call Try.func141 rfl (by decide) rfl (fun w' hw => num_T (i := 1) rfl hw) (fun v => ?_)
       refine VL.fact fun e29 => ?_
       subst e29
       refine VL.set1 ?_
       refine VL.convw (by rw [Try.underlying3]; rfl) Try.underlying5 rfl ?_
       refine VL.newv (v' := .int .u8 (tkN 1 ((openP l).drop 1) : Nat)) (wrapT_u8 _) ?_
       refine VL.fieldAddr rfl fo87_1 rfl ?_
       refine VL.store (L := itemL) (qs := [[.int .u8 (tkN 1 ((openP l).drop 1))]]) 0 1 1 rfl rfl rfl (.inr ⟨kd5, rfl⟩) rfl rfl rfl (by intro u hu; simp [cat] at hu; subst hu; rfl) rfl rfl ?_
       refine VL.set0 ?_
       refine VL.nn ?_
       refine VC.region ?_
       refine VL.move rfl ?_
       refine VL.call Try.func141 rfl (by decide) rfl (fun w' hw => num_T (i := 1) rfl hw) (fun v => ?_)
       refine VL.fact fun e30 => ?_
       subst e30
       refine VL.set1 ?_
       refine VL.convw (by rw [Try.underlying3]; rfl) Try.underlying5 rfl ?_
       refine VL.newv (v' := .int .u8 (tkN 1 (((openP l).drop 1).drop 1) : Nat)) (wrapT_u8 _) ?_
       refine VL.fieldAddr rfl fo87_2 rfl ?_
       refine VL.store (L := itemL) (qs := [[.int .u8 (tkN 1 (((openP l).drop 1).drop 1))]]) 0 2 1 rfl rfl rfl (.inr ⟨kd5, rfl⟩) rfl rfl rfl (by intro u hu; simp [cat] at hu; subst hu; rfl) rfl rfl ?_
       refine VL.set0 ?_
       refine VL.nil ?_
       refine VX.block_normal ?_
       refine VX.join hrest (none, 0, none, 0) ⟨by omega, by omega⟩ ⟨rfl, rfl, rfl, trivial⟩ (fun _ h => ?_)
       have h9 := (ownDropAt 1 h)
       dsimp only
       rw [itemT'_2 (.inr h11_0)]
       exact ⟨h9.subA, Arr.none, Arr.none⟩
      ·have h11_0 : tkN 1 (openP l) ≠ 4 := by have h : ¬ ((tkN 1 (openP l) : Nat) : Int) = 4 := h11_0; omega
       refine VL.assign rfl ?_
       refine VL.nn ?_
       refine VC.no rfl ?_
       refine VC.sr ?_
       refine VL.eql rfl rfl ?_
       refine VL.case (fun h14_0 => ?_) (fun h14_0 => ?_)
       ·have h14_0 : tkN 1 (openP l) = 3 := by have h : ((tkN 1 (openP l) : Nat) : Int) = 3 := h14_0; omega
        refine VL.assign rfl ?_
        refine VL.nn ?_
        refine VC.yes rfl ?_
        refine VC.sr ?_
        refine VL.move rfl ?_
        refine VL.call Try.func141 rfl (by decide) rfl (fun w' hw => num_T (i := 1) rfl hw) (fun v => ?_)
        refine VL.fact fun e31 => ?_
        subst e31
        refine VL.set1 ?_
        refine VL.convw (by rw [Try.underlying3]; rfl) Try.underlying5 rfl ?_
        refine VL.newv (v' := .int .u8 (tkN 1 ((openP l).drop 1) : Nat)) (wrapT_u8 _) ?_
        refine VL.fieldAddr rfl fo87_1 rfl ?_
        refine VL.store (L := itemL) (qs := [[.int .u8 (tkN 1 ((openP l).drop 1))]]) 0 1 1 rfl rfl rfl (.inr ⟨kd5, rfl⟩) rfl rfl rfl (by intro u hu; simp [cat] at hu; subst hu; rfl) rfl rfl ?_
        refine VL.set0 ?_
        refine VL.nn ?_
        refine VC.sr ?_
        refine VL.move rfl ?_
        refine VL.call Try.func142 rfl (by decide) rfl (fun w' hw => next_T (i := 1) rfl hw) (fun v => ?_)
        refine VL.at (fun w32 h1w => ?_)
        obtain ⟨p33, c34, rfl, hO36, hA35⟩ := h1w
        replace hO36 := ownSet1 hO36
        replace hA35 := arrSet1 hA35
        refine VL.toOwn hO36 ?_
        refine VL.call Try.func94 rfl (by decide) rfl (fun w' hw => readBundle_w hw (hA35.nowA (s := ⟨w32, _⟩) Mono.byte hw)) (fun v => ?_)
        refine VL.fact fun e37 => ?_
        subst e37
        refine VL.move rfl ?_
        refine VL.extract rfl rfl ?_
        refine VL.extract rfl rfl ?_
        refine VL.alloc (L := bundleL) (ps := (bundleV (bundle0))) zero82 rfl rfl (fun g38 => ?_)
        refine VL.store (L := bundleL) (qs := (bundleV (((bundleR (nextP (((openP l).drop 1).drop 1))).getD bundle0)))) (ps' := (bundleV (((bundleR (nextP (((openP l).drop 1).drop 1))).getD bundle0)))) 0 0 6 rfl rfl rfl (.inl kd82) rfl rfl (bundleV_len (bundleR_ok (nextP (((openP l).drop 1).drop 1)))) (bundleV_ok1 (((bundleR (nextP (((openP l).drop 1).drop 1))).getD bundle0))) rfl rfl ?_
        refine VL.set0 ?_
        refine VL.assign rfl ?_
        refine VL.nn ?_
        refine VC.region ?_
        refine VL.loads (cs := cat (bundleV (((bundleR (nextP (((openP l).drop 1).drop 1))).getD bundle0)))) 0 0 6 rfl kd82 (fun _ h => h) rfl rfl rfl rfl ?_
        refine VL.fieldAddr rfl fo87_4 rfl ?_
        refine VL.store (L := itemL) (qs := (bundleV (((bundleR (nextP (((openP l).drop 1).drop 1))).getD bundle0)))) 1 15 6 rfl rfl rfl (.inl kd82) rfl rfl (bundleV_len (bundleR_ok (nextP (((openP l).drop 1).drop 1)))) (bundleV_ok1 (((bundleR (nextP (((openP l).drop 1).drop 1))).getD bundle0))) rfl rfl ?_
        refine VL.set1 ?_
        refine VL.nil ?_
        refine VX.block_normal ?_
        refine VX.join hrest (none, 0, none, 0) ⟨by omega, by omega⟩ ⟨rfl, rfl, rfl, trivial⟩ (fun _ h => ?_)
        have h9 := (ownDropAt 0 (ownDropAt 2 h))
        dsimp only
        rw [itemT'_3 h14_0]
        exact ⟨h9.subA, Arr.none, Arr.none⟩
       ·have h14_0 : tkN 1 (openP l) ≠ 3 := by have h : ¬ ((tkN 1 (openP l) : Nat) : Int) = 3 := h14_0; omega
        refine VL.assign rfl ?_
        refine VL.nn ?_
        refine VC.no rfl ?_
        refine VC.seq ?_
        refine VC.sr ?_
        refine VL.eql rfl rfl ?_
        refine VL.case (fun h18_0 => ?_) (fun h18_0 => ?_)
        ·have h18_0 : tkN 1 (openP l) = 5 := by have h : ((tkN 1 (openP l) : Nat) : Int) = 5 := h18_0; omega
         refine VL.assign rfl ?_
         refine VL.nn ?_
         refine VC.yes rfl ?_
         refine VC.skip ?_
         refine VX.next ?_
         refine VC.yes rfl ?_
         refine VC.sr ?_
         refine VL.move rfl ?_
         refine VL.call Try.func142 rfl (by decide) rfl (fun w' hw => next_T (i := 1) rfl hw) (fun v => ?_)
         refine VL.at (fun w39 h1w => ?_)
         obtain ⟨p40, c41, rfl, hO43, hA42⟩ := h1w
         replace hO43 := ownSet1 hO43
         replace hA42 := arrSet1 hA42
         refine VL.toOwn hO43 ?_
         refine VL.call Try.func96 rfl (by decide) rfl (fun w' hw => readObject_w hw (hA42.nowA (s := ⟨w39, _⟩) Mono.byte hw)) (fun v => ?_)
         refine VL.at (fun w44 h1w => ?_)
         obtain ⟨p46, c47, rfl, hO45, hA48⟩ := h1w
         refine VL.toOwn hO45 ?_
         refine VL.move rfl ?_
         refine VL.extract rfl rfl ?_
         refine VL.extract rfl rfl ?_
         refine VL.alloc (L := objectL) (ps := (objectV (object0) none 0)) zero85 rfl rfl (fun g49 => ?_)
         refine VL.store (L := objectL) (qs := (objectV (((objectR (nextP ((openP l).drop 1))).getD object0)) p46 c47)) (ps' := (objectV (((objectR (nextP ((openP l).drop 1))).getD object0)) p46 c47)) 0 0 7 rfl rfl rfl (.inl kd85) rfl rfl (objectV_len (objectR_ok (nextP ((openP l).drop 1)))) (objectV_ok1 (((objectR (nextP ((openP l).drop 1))).getD object0)) p46 c47) rfl rfl ?_
         refine VL.set0 ?_
         refine VL.assign rfl ?_
         refine VL.nn ?_
         refine VC.region ?_
         refine VL.loads (cs := cat (objectV (((objectR (nextP ((openP l).drop 1))).getD object0)) p46 c47)) 0 0 7 rfl kd85 (fun _ h => h) rfl rfl rfl rfl ?_
         refine VL.fieldAddr rfl fo87_5 rfl ?_
         refine VL.store (L := itemL) (qs := (objectV (((objectR (nextP ((openP l).drop 1))).getD object0)) p46 c47)) 1 21 7 rfl rfl rfl (.inl kd85) rfl rfl (objectV_len (objectR_ok (nextP ((openP l).drop 1)))) (objectV_ok1 (((objectR (nextP ((openP l).drop 1))).getD object0)) p46 c47) rfl rfl ?_
         refine VL.set1 ?_
         refine VL.nil ?_
         refine VX.block_normal ?_
         refine VX.join hrest (none, 0, p46, c47) ⟨by omega, by omega⟩ ⟨rfl, rfl, rfl, trivial⟩ (fun _ h => ?_)
         have h9 := (ownDropAt 0 (ownDropAt 2 h))
         dsimp only
         rw [itemT'_5 (.inl h18_0)]
         exact ⟨h9.subA, Arr.none, (hA48.nowA (s := ⟨w44, _⟩) Mono_vouch h9)⟩
        ·have h18_0 : tkN 1 (openP l) ≠ 5 := by have h : ¬ ((tkN 1 (openP l) : Nat) : Int) = 5 := h18_0; omega
         refine VL.assign rfl ?_
         refine VL.nn ?_
         refine VC.no rfl ?_
         refine VC.region ?_
         refine VL.eql rfl rfl ?_
         refine VL.case (fun h19_0 => ?_) (fun h19_0 => ?_)
         ·have h19_0 : tkN 1 (openP l) = 6 := by have h : ((tkN 1 (openP l) : Nat) : Int) = 6 := h19_0; omega
          refine VL.assign rfl ?_
          refine VL.nn ?_
          refine VC.yes rfl ?_
          refine VC.sr ?_
          refine VL.move rfl ?_
          refine VL.call Try.func142 rfl (by decide) rfl (fun w' hw => next_T (i := 1) rfl hw) (fun v => ?_)
          refine VL.at (fun w50 h1w => ?_)
          obtain ⟨p51, c52, rfl, hO54, hA53⟩ := h1w
          replace hO54 := ownSet1 hO54
          replace hA53 := arrSet1 hA53
          refine VL.toOwn hO54 ?_
          refine VL.call Try.func96 rfl (by decide) rfl (fun w' hw => readObject_w hw (hA53.nowA (s := ⟨w50, _⟩) Mono.byte hw)) (fun v => ?_)
          refine VL.at (fun w55 h1w => ?_)
          obtain ⟨p57, c58, rfl, hO56, hA59⟩ := h1w
          refine VL.toOwn hO56 ?_
          refine VL.move rfl ?_
          refine VL.extract rfl rfl ?_
          refine VL.extract rfl rfl ?_
          refine VL.alloc (L := objectL) (ps := (objectV (object0) none 0)) zero85 rfl rfl (fun g60 => ?_)
          refine VL.store (L := objectL) (qs := (objectV (((objectR (nextP ((openP l).drop 1))).getD object0)) p57 c58)) (ps' := (objectV (((objectR (nextP ((openP l).drop 1))).getD object0)) p57 c58)) 0 0 7 rfl rfl rfl (.inl kd85) rfl rfl (objectV_len (objectR_ok (nextP ((openP l).drop 1)))) (objectV_ok1 (((objectR (nextP ((openP l).drop 1))).getD object0)) p57 c58) rfl rfl ?_
          refine VL.set0 ?_
          refine VL.assign rfl ?_
          refine VL.nn ?_
          refine VC.region ?_
          refine VL.loads (cs := cat (objectV (((objectR (nextP ((openP l).drop 1))).getD object0)) p57 c58)) 0 0 7 rfl kd85 (fun _ h => h) rfl rfl rfl rfl ?_
          refine VL.fieldAddr rfl fo87_5 rfl ?_
          refine VL.store (L := itemL) (qs := (objectV (((objectR (nextP ((openP l).drop 1))).getD object0)) p57 c58)) 1 21 7 rfl rfl rfl (.inl kd85) rfl rfl (objectV_len (objectR_ok (nextP ((openP l).drop 1)))) (objectV_ok1 (((objectR (nextP ((openP l).drop 1))).getD object0)) p57 c58) rfl rfl ?_
          refine VL.set1 ?_
          refine VL.nil ?_
          refine VX.block_normal ?_
          refine VX.join hrest (none, 0, p57, c58) ⟨by omega, by omega⟩ ⟨rfl, rfl, rfl, trivial⟩ (fun _ h => ?_)
          have h9 := (ownDropAt 0 (ownDropAt 2 h))
          dsimp only
          rw [itemT'_5 (.inr h19_0)]
          exact ⟨h9.subA, Arr.none, (hA59.nowA (s := ⟨w55, _⟩) Mono_vouch h9)⟩
         ·have h19_0 : tkN 1 (openP l) ≠ 6 := by have h : ¬ ((tkN 1 (openP l) : Nat) : Int) = 6 := h19_0; omega
          refine VL.assign rfl ?_
          refine VL.nn ?_
          refine VC.no rfl ?_
          refine VC.sr ?_
          refine VL.build0 (cs := cat (itemV (item0) none 0 none 0)) built87 ?_
          refine VL.store (L := itemL) (qs := (itemV (item0) none 0 none 0)) (ps' := (itemV (item0) none 0 none 0)) 2 0 28 rfl rfl rfl (.inl kd87) rfl rfl (itemV_len item0_ok) (itemV_ok1 item0 none 0 none 0) rfl rfl ?_
          refine VL.set2 ?_
          refine VL.assign rfl ?_
          refine VL.nn ?_
          refine VC.ret ?_
          refine VX.block_ret ?_
          refine VX.then_ret ?_
          refine VX.ret_cell (cs := cat (itemV (item0) none 0 none 0)) 2 rfl rfl rfl (by rw [cat_size (itemV_len item0_ok)]; exact kd87) (fun _ h => h) rfl rfl (fun we hw => ?_)
          obtain ⟨e1, e2⟩ := item_140 h1n h7_0 h10_0 h14_0 h11_0 h18_0 h19_0
          exact ⟨none, 0, none, 0, by rw [e1]; exact congrArg (fun n : Nat => Value.tuple #[_, .int .i64 (n : Int)]) (e2).symm, hw.drop.drop.drop.subA, by rw [e1]; exact Arr.none, by rw [e1]; exact Arr.none⟩
   refine VC.at (fun wj hj => ?_)
   obtain ⟨hOj, hAj, hVj⟩ := hj
   refine vcToOwn hOj ?_
   have hW := itemW_T h1n hkk.1 hkk.2
   refine VC.sr ?_
   refine VL.loads (cs := cat (itemV ((itemT' (openP l))) pj cj qj dj)) 0 0 28 rfl kd87 (fun _ h => h) rfl rfl rfl rfl ?_
   refine VL.call Try.func57 rfl (by decide) rfl (fun w' hw => refItem_w hw (x := (itemT' (openP l))) (itemT'_ok (openP l)) (hAj.nowA (s := ⟨wj, _⟩) Mono.byte hw) (hVj.nowA (s := ⟨wj, _⟩) Mono_vouch hw)) (fun v => ?_)
   refine VL.at (fun w61 h1w => ?_)
   obtain ⟨p62, c63, rfl, hO65, hA64⟩ := h1w
   refine VL.toOwn hO65 ?_
   refine VL.move rfl ?_
   refine VL.extract rfl rfl ?_
   refine VL.extract rfl rfl ?_
   refine VL.assign rfl ?_
   refine VL.assign rfl ?_
   refine VL.nn ?_
   refine VC.seq ?_
   refine VC.sr ?_
   refine VL.move rfl ?_
   cases hs : (itemO (itemT' (openP l))).isSome
   ·refine VL.not rfl ?_
    refine VL.move rfl ?_
    refine VL.pass rfl rfl rfl rfl rfl ?_
    refine VL.pass rfl rfl rfl rfl rfl ?_
    refine VL.pass rfl rfl rfl rfl rfl ?_
    refine VL.pass rfl rfl rfl rfl rfl ?_
    refine VL.pick_t rfl rfl ?_
    refine VL.nn ?_
    refine VC.yes rfl ?_
    refine VC.sr ?_
    refine VL.build0 (cs := cat (itemV (item0) none 0 none 0)) built87 ?_
    refine VL.store (L := itemL) (qs := (itemV (item0) none 0 none 0)) (ps' := (itemV (item0) none 0 none 0)) 1 0 28 rfl rfl rfl (.inl kd87) rfl rfl (itemV_len item0_ok) (itemV_ok1 item0 none 0 none 0) rfl rfl ?_
    refine VL.set1 ?_
    refine VL.assign rfl ?_
    refine VL.nn ?_
    refine VC.ret ?_
    refine VX.then_ret ?_
    refine VX.ret_cell (cs := cat (itemV (item0) none 0 none 0)) 1 rfl rfl rfl (by rw [cat_size (itemV_len item0_ok)]; exact kd87) (fun _ h => h) rfl rfl (fun we hw => ?_)
    have e1 : itemR l = none := by rw [item_rd, if_neg (not_some hs)]
    have e2 : itemW l = 141 := by rw [hW, e1]; rfl
    exact ⟨none, 0, none, 0, by rw [e1]; exact congrArg (fun n : Nat => Value.tuple #[_, .int .i64 (n : Int)]) (e2).symm, hw.drop.drop.subA, by rw [e1]; exact Arr.none, by rw [e1]; exact Arr.none⟩
   ·refine VL.not rfl ?_
    refine VL.move rfl ?_
    refine VL.go rfl rfl rfl ?_
    refine VL.move rfl ?_
    refine VL.go rfl rfl rfl ?_
    refine VL.move rfl ?_
    refine VL.go rfl rfl rfl ?_
    refine VL.call Try.func27 rfl (by decide) rfl (fun w' hw => bytes_B hw (hA64.nowA (s := ⟨w61, _⟩) Mono.byte hw) (hA.nowA (s := ⟨w, _⟩) Mono.byte hw)) (fun v => ?_)
    refine VL.ex fun b => VL.fact fun e => VL.fact fun h23_5 => ?_
    subst e
    cases b
    ·have h23_5 := mt h23_5.2 (by decide)
     refine VL.go rfl rfl rfl ?_
     refine VL.not rfl ?_
     refine VL.pick_f rfl rfl ?_
     refine VL.nn ?_
     refine VC.yes rfl ?_
     refine VC.sr ?_
     refine VL.build0 (cs := cat (itemV (item0) none 0 none 0)) built87 ?_
     refine VL.store (L := itemL) (qs := (itemV (item0) none 0 none 0)) (ps' := (itemV (item0) none 0 none 0)) 1 0 28 rfl rfl rfl (.inl kd87) rfl rfl (itemV_len item0_ok) (itemV_ok1 item0 none 0 none 0) rfl rfl ?_
     refine VL.set1 ?_
     refine VL.assign rfl ?_
     refine VL.nn ?_
     refine VC.ret ?_
     refine VX.then_ret ?_
     refine VX.ret_cell (cs := cat (itemV (item0) none 0 none 0)) 1 rfl rfl rfl (by rw [cat_size (itemV_len item0_ok)]; exact kd87) (fun _ h => h) rfl rfl (fun we hw => ?_)
     have e1 : itemR l = none := by rw [item_rd, if_neg (not_getD h23_5)]
     have e2 : itemW l = 141 := by rw [hW, e1]; rfl
     exact ⟨none, 0, none, 0, by rw [e1]; exact congrArg (fun n : Nat => Value.tuple #[_, .int .i64 (n : Int)]) (e2).symm, hw.drop.drop.subA, by rw [e1]; exact Arr.none, by rw [e1]; exact Arr.none⟩
    ·have h23_5 := h23_5.1 rfl
     refine VL.go rfl rfl rfl ?_
     refine VL.not rfl ?_
     refine VL.pick_f rfl rfl ?_
     refine VL.nn ?_
     refine VC.no rfl ?_
     refine VC.skip ?_
     refine VX.next ?_
     refine VC.sr ?_
     refine VL.loads (cs := cat (itemV ((itemT' (openP l))) pj cj qj dj)) 0 0 28 rfl kd87 (fun _ h => h) rfl rfl rfl rfl ?_
     refine VL.store (L := itemL) (qs := (itemV ((itemT' (openP l))) pj cj qj dj)) (ps' := (itemV ((itemT' (openP l))) pj cj qj dj)) 1 0 28 rfl rfl rfl (.inl kd87) rfl rfl (itemV_len (itemT'_ok (openP l))) (itemV_ok1 ((itemT' (openP l))) pj cj qj dj) rfl rfl ?_
     refine VL.set1 ?_
     refine VL.assign rfl ?_
     refine VL.nn ?_
     refine VC.ret ?_
     refine VX.ret_cell (cs := cat (itemV ((itemT' (openP l))) pj cj qj dj)) 1 rfl rfl rfl (by rw [cat_size (itemV_len (itemT'_ok (openP l)))]; exact kd87) (fun _ h => h) rfl rfl (fun we hw => ?_)
     have e1 : itemR l = some (itemT' (openP l)) := by rw [item_rd, if_pos (some_of hs h23_5)]
     have e2 : itemW l = 0 := by rw [hW, e1]; rfl
     rw [e1, e2]
     exact ⟨_, _, _, _, rfl, hw.drop.drop.subA, (hAj.nowA (s := ⟨wj, _⟩) Mono.byte hw.drop.drop), (hVj.nowA (s := ⟨wj, _⟩) Mono_vouch hw.drop.drop)⟩
 ·have h1n : ¬ (nextP (openP l)).length = 1 := by rw [Classical.not_not.1 ho]; decide
  refine VL.not rfl ?_
  refine VL.move rfl ?_
  refine VL.pass rfl rfl rfl rfl rfl ?_
  refine VL.pass rfl rfl rfl rfl rfl ?_
  refine VL.pass rfl rfl rfl rfl rfl ?_
  refine VL.pass rfl rfl rfl rfl rfl ?_
  refine VL.pass rfl rfl rfl rfl rfl ?_
  refine VL.pass rfl rfl rfl rfl rfl ?_
  refine VL.pass rfl rfl rfl rfl rfl ?_
  refine VL.pass rfl rfl rfl rfl rfl ?_
  refine VL.pick_t rfl rfl ?_
  refine VL.nn ?_
  refine VC.yes rfl ?_
  refine VC.sr ?_
  refine VL.build0 (cs := cat (itemV (item0) none 0 none 0)) built87 ?_
  refine VL.store (L := itemL) (qs := (itemV (item0) none 0 none 0)) (ps' := (itemV (item0) none 0 none 0)) 1 0 28 rfl rfl rfl (.inl kd87) rfl rfl (itemV_len item0_ok) (itemV_ok1 item0 none 0 none 0) rfl rfl ?_
  refine VL.set1 ?_
  refine VL.assign rfl ?_
  refine VL.nn ?_
  refine VC.ret ?_
  refine VX.then_ret ?_
  refine VX.ret_cell (cs := cat (itemV (item0) none 0 none 0)) 1 rfl rfl rfl (by rw [cat_size (itemV_len item0_ok)]; exact kd87) (fun _ h => h) rfl rfl (fun we hw => ?_)
  obtain ⟨e1, e2⟩ := item_141 h1n
  exact ⟨none, 0, none, 0, by rw [e1]; exact congrArg (fun n : Nat => Value.tuple #[_, .int .i64 (n : Int)]) (e2).symm, hw.drop.drop.subA, by rw [e1]; exact Arr.none, by rw [e1]; exact Arr.none⟩

end Go.Proofs.Ytcfecmoagfgnaaa

/- fedq: put, poll, tick, acknowledged, take. -/
namespace Go.Proofs.Ytcfecmoagfgnaaa
open Go.Vc Go.Pl

theorem ask_w {S : List Snap} {H : List Chunk} {w : World} (ho : Own S H w) (n : Nat) (hn : n < 256) : Calls Try.prog 134 #[.int .i64 (n : Int)] w (Ret fun v w' => v = .agg (cat (itemV (askI n) none 0 none 0)).toArray ∧ Own S H w') := by
 refine enter (G := Own (⟨w, keys H⟩ :: S) H) ho.keep Try.func134 rfl Try.ntmps134 rfl ?_
 refine VC.sr ?_
 refine VL.alloc (L := itemL) (ps := (itemV (item0) none 0 none 0)) zero87 rfl rfl (fun g1 => ?_)
 refine VL.nn ?_
 refine VC.sr ?_
 refine VL.move rfl ?_
 refine VL.conv (by rw [Try.underlying3]; rfl) Try.underlying5 rfl (by simp only [InR]; omega) ?_
 refine VL.move rfl ?_
 refine VL.shr rfl rfl (by omega) (by simp only [IntKind.bits]; omega) ?_
 refine VL.newv (v' := .int .i64 0) (congrArg (Value.int .i64) (by rw [show (2 : Int) ^ (8 : Int).toNat = 256 by decide]; omega)) ?_
 refine VL.conv (by rw [Try.underlying3]; rfl) Try.underlying5 rfl (by simp only [InR]; omega) ?_
 refine VL.build (zs := itemZ) (L := itemFL) [(0, [.int .u8 (2)]), (1, [.int .u8 (n)]), (2, [.int .u8 (0)])] plan87 rfl ⟨⟨rfl, ⟨_, rfl, rfl⟩, rfl⟩, ⟨⟨rfl, ⟨_, rfl, rfl⟩, rfl⟩, ⟨⟨rfl, ⟨_, rfl, rfl⟩, rfl⟩, trivial⟩⟩⟩ rfl ?_
 refine VL.newv (v' := .agg (cat (itemV ((askI n)) none 0 none 0)).toArray) (by kernel_rfl) ?_
 refine VL.store (L := itemL) (qs := (itemV ((askI n)) none 0 none 0)) (ps' := (itemV ((askI n)) none 0 none 0)) 0 0 28 rfl rfl rfl (.inl kd87) rfl rfl (itemV_len (ask_ok n hn)) (itemV_ok1 ((askI n)) none 0 none 0) rfl rfl ?_
 refine VL.set0 ?_
 refine VL.nn ?_
 refine VC.ret ?_
 refine VX.ret_cell1 (cs := cat (itemV (askI n) none 0 none 0)) 0 rfl rfl (by rw [cat_size (itemV_len (ask_ok n hn))]; exact kd87) (fun _ h => h) rfl rfl (fun we hw => ?_)
 exact ⟨rfl, hw.drop.subA⟩

theorem getBack_w {S : List Snap} {H : List Chunk} {w : World} (ho : Own S H w) {y : Itm} (hy : y.ok) (hg : (itemO y).isSome = true) {p : Option Addr} {c : Nat} (hA : Bytes (keys H) w p ((itemO y).getD []) c) : Calls Try.prog 58 #[.slice p ((itemO y).getD []).length c] w (Ret fun v w' => ∃ p c q d, v = .tuple #[.agg (cat (itemV y p c q d)).toArray, .int .i64 ((itemW ((itemO y).getD []) : Nat) : Int)] ∧ Own S H w' ∧ Bytes (keys H) w' p y.letter.body c ∧ Arr 65 vouchR (keys H) w' q y.object.vouches d) := by
 have h := getItem_w ho hA
 rw [get_back hy hg] at h
 exact h

theorem puts_ok {x : Que} {y : Itm} (hx : x.ok) (hy : y.ok) : ∀ i ∈ x.items ++ [y], i.ok := fun i hi => (List.mem_append.1 hi).elim (hx.items i) (fun h => by rw [List.mem_singleton] at h; subst h; exact hy)

theorem put_w {S : List Snap} {H : List Chunk} {w : World} (ho : Own S H w) {x : Que} (hx : x.ok) {q : Option Addr} {d : Nat} (hV : Arr 433 itemR' (keys H) w q x.items d) (hl : x.items.length ≤ 1000) {y : Itm} (hy : y.ok) (hg : (itemO y).isSome = true) (h9 : ((itemO y).getD []).length ≤ 900) (h8 : x.items.length < 8) {p : Option Addr} {c : Nat} (hA : Bytes (keys H) w p y.letter.body c) {q2 : Option Addr} {d2 : Nat} (hU : Arr 65 vouchR (keys H) w q2 y.object.vouches d2) : Calls Try.prog 133 #[.agg (cat (queV x q d)).toArray, .agg (cat (itemV y p c q2 d2)).toArray] w (Ret fun v w' => ∃ q d, v = .tuple #[.agg (cat (queV (Que.mk (x.items ++ [y]) x.sent x.id x.wait x.back) q d)).toArray, .int .i64 0] ∧ Own S H w' ∧ Arr 433 itemR' (keys H) w' q (x.items ++ [y]) d) := by
 refine enter (G := Own (⟨w, keys H⟩ :: S) H) ho.keep Try.func133 rfl Try.ntmps133 rfl ?_
 refine VC.sr ?_
 refine VL.box (L := queL) (ps := (queV (x) q d)) rfl rfl (queV_len hx) (fun g1 => ?_)
 refine VL.box (L := itemL) (ps := (itemV (y) p c q2 d2)) rfl rfl (itemV_len hy) (fun g2 => ?_)
 refine VL.alloc (L := queL) (ps := (queV (que0) none 0)) zero157 rfl rfl (fun g3 => ?_)
 refine VL.assign rfl ?_
 refine VL.nn ?_
 refine VC.sr ?_
 refine VL.loads (cs := cat (queV (x) q d)) 2 0 5 rfl kd157 (fun _ h => h) rfl rfl rfl rfl ?_
 refine VL.call Try.func164 rfl (by decide) rfl (fun w' hw => own_w hw (x := x) hx (hV.nowA (s := ⟨w, _⟩) Mono_item hw) (by first | omega | decide)) (fun v => ?_)
 refine VL.at (fun w6 h1w => ?_)
 obtain ⟨gv4, cv5, rfl, hO7⟩ := h1w
 refine VL.toOwn hO7 ?_
 refine VL.store (L := queL) (qs := (queV (x) (gv4.map fun g => (⟨g, 0, none⟩ : Addr)) cv5)) (ps' := (queV (x) (gv4.map fun g => (⟨g, 0, none⟩ : Addr)) cv5)) 3 0 5 rfl rfl rfl (.inl kd157) rfl rfl (queV_len hx) (queV_ok1 x (gv4.map fun g => (⟨g, 0, none⟩ : Addr)) cv5) rfl rfl ?_
 refine VL.set3 ?_
 refine VL.nn ?_
 refine VC.sr ?_
 refine VL.loads (cs := cat (itemV (y) p c q2 d2)) 2 0 28 rfl kd87 (fun _ h => h) rfl rfl rfl rfl ?_
 refine VL.call Try.func56 rfl (by decide) rfl (fun w' hw => putItem_w hw (x := y) hy (hA.nowA (s := ⟨w, _⟩) Mono.byte hw) (hU.nowA (s := ⟨w, _⟩) Mono_vouch hw)) (fun v => ?_)
 refine VL.at (fun w8 h1w => ?_)
 obtain ⟨p9, c10, rfl, hO12, hA11⟩ := h1w
 refine VL.toOwn hO12 ?_
 refine VL.move rfl ?_
 refine VL.extract rfl rfl ?_
 refine VL.extract rfl rfl ?_
 refine VL.assign rfl ?_
 refine VL.assign rfl ?_
 refine VL.nn ?_
 refine VC.seq ?_
 refine VC.block ?_
 refine VC.sr ?_
 refine VL.move rfl ?_
 refine VL.sets hg ?_
 refine VL.not rfl ?_
 refine VL.assign rfl ?_
 refine VL.nn ?_
 refine VC.no rfl ?_
 refine VC.sr ?_
 refine VL.move rfl ?_
 refine VL.len Try.underlying24 rfl rfl ?_
 refine VL.gtr rfl rfl ?_
 refine VL.no (by omega) ?_
 refine VL.assign rfl ?_
 refine VL.nn ?_
 refine VC.no rfl ?_
 refine VC.sr ?_
 refine VL.fieldAddr rfl fo157_0 rfl ?_
 refine VL.load (v := .slice (gv4.map fun g => (⟨g, 0, none⟩ : Addr)) (x.items).length cv5) 3 0 rfl kd126 (fun _ h => h) rfl rfl rfl ?_
 refine VL.len Try.underlying126 rfl rfl ?_
 refine VL.geq rfl rfl ?_
 refine VL.no (by omega) ?_
 refine VL.assign rfl ?_
 refine VL.nn ?_
 refine VC.no rfl ?_
 refine VC.skip ?_
 refine VX.block_normal ?_
 refine VX.next ?_
 refine VC.sr ?_
 refine VL.move rfl ?_
 refine VL.call Try.func58 rfl (by decide) rfl (fun w' hw => getBack_w hw hy hg (hA11.nowA (s := ⟨w8, _⟩) Mono.byte hw)) (fun v => ?_)
 refine VL.at (fun w13 h1w => ?_)
 obtain ⟨p15, c16, q18, d19, rfl, hO14, hA17, hB20⟩ := h1w
 refine VL.toOwn hO14 ?_
 refine VL.move rfl ?_
 refine VL.extract rfl rfl ?_
 refine VL.extract rfl rfl ?_
 refine VL.store (L := itemL) (qs := (itemV (y) p15 c16 q18 d19)) (ps' := (itemV (y) p15 c16 q18 d19)) 2 0 28 rfl rfl rfl (.inl kd87) rfl rfl (itemV_len hy) (itemV_ok1 y p15 c16 q18 d19) rfl rfl ?_
 refine VL.set2 ?_
 refine VL.nn ?_
 refine VC.sr ?_
 refine VL.fieldAddr rfl fo157_0 rfl ?_
 refine VL.load (v := .slice (gv4.map fun g => (⟨g, 0, none⟩ : Addr)) (x.items).length cv5) 3 0 rfl kd126 (fun _ h => h) rfl rfl rfl ?_
 refine VL.loads (cs := cat (itemV (y) p15 c16 q18 d19)) 2 0 28 rfl kd87 (fun _ h => h) rfl rfl rfl rfl ?_
 refine VL.lit el126 rfl rfl rfl (by intro v hv; simp only [List.mem_singleton] at hv; subst hv; show (cat (itemV y p15 c16 q18 d19)).toArray.size = 433; rw [List.size_toArray, cat_size (itemV_len hy)]; rfl) (by rw [show [Value.agg (cat (itemV y p15 c16 q18 d19)).toArray].flatMap (·.cells.toList) = (cat (itemV y p15 c16 q18 d19)) by simp [Value.cells]]; exact itemV_ok1 _ _ _ _ _) (fun gl => ?_)
 refine VL.letRow itemR' [y] rfl (fun w' hw => one_item hy (hA17.nowA (s := ⟨w13, _⟩) Mono.byte hw) (hB20.nowA (s := ⟨w13, _⟩) Mono_vouch hw)) (fun wl hOl hAl => ?_)
 refine VL.appends (R := itemR') (hR := Mono_item) (ys := x.items) (zs := [y]) 0 el126 rfl rfl rfl (fun _ h => h) rfl (fun _ hw => hAl.nowA (s := ⟨wl, _⟩) Mono_item hw) itemR'_ok1 (by simp only [List.length_cons, List.length_nil]; omega) (fun gv2 cv2 => ?_) (by simp only [List.length_cons, List.length_nil]; omega)
 refine VL.set0 ?_
 refine VL.fieldAddr rfl fo157_0 rfl ?_
 refine VL.store (L := queL) (qs := [[.slice (gv2.map fun g => (⟨g, 0, none⟩ : Addr)) ((x.items ++ [y])).length cv2]]) 3 0 1 rfl rfl rfl (.inr ⟨kd126, rfl⟩) rfl rfl rfl (by intro u hu; simp [cat] at hu; subst hu; rfl) rfl rfl ?_
 refine VL.set3 ?_
 refine VL.nn ?_
 refine VC.sr ?_
 refine VL.loads (cs := cat (queV ((Que.mk (x.items ++ [y]) x.sent x.id x.wait x.back)) (gv2.map fun g => (⟨g, 0, none⟩ : Addr)) cv2)) 3 0 5 rfl kd157 (fun _ h => h) rfl rfl rfl rfl ?_
 refine VL.store (L := queL) (qs := (queV ((Que.mk (x.items ++ [y]) x.sent x.id x.wait x.back)) (gv2.map fun g => (⟨g, 0, none⟩ : Addr)) cv2)) (ps' := (queV ((Que.mk (x.items ++ [y]) x.sent x.id x.wait x.back)) (gv2.map fun g => (⟨g, 0, none⟩ : Addr)) cv2)) 1 0 5 rfl rfl rfl (.inl kd157) rfl rfl (queV_len (⟨puts_ok hx hy, hx.id, hx.wait, hx.back⟩ : Que.ok (Que.mk (x.items ++ [y]) x.sent x.id x.wait x.back))) (queV_ok1 ((Que.mk (x.items ++ [y]) x.sent x.id x.wait x.back)) (gv2.map fun g => (⟨g, 0, none⟩ : Addr)) cv2) rfl rfl ?_
 refine VL.set1 ?_
 refine VL.assign rfl ?_
 refine VL.nn ?_
 refine VC.ret ?_
 refine VX.ret_cell (cs := cat (queV ((Que.mk (x.items ++ [y]) x.sent x.id x.wait x.back)) (gv2.map fun g => (⟨g, 0, none⟩ : Addr)) cv2)) 1 rfl rfl rfl (by rw [cat_size (queV_len (⟨puts_ok hx hy, hx.id, hx.wait, hx.back⟩ : Que.ok (Que.mk (x.items ++ [y]) x.sent x.id x.wait x.back)))]; exact kd157) (fun _ h => h) rfl rfl (fun we hw => ?_)
 have h7 := (ownDropAt 1 (ownDropAt 2 (ownDropAt 3 hw)))
 exact ⟨_, _, rfl, h7.drop.subA, h7.letArr⟩

theorem tick_lt {x : Que} (hx : x.ok) : x.wait - 1 < 256 := by have := hx.wait; omega

theorem tick_w {S : List Snap} {H : List Chunk} {w : World} (ho : Own S H w) {x : Que} (hx : x.ok) {q : Option Addr} {d : Nat} (hV : Arr 433 itemR' (keys H) w q x.items d) (hl : x.items.length ≤ 1000) (hp : 0 < x.wait) : Calls Try.prog 136 #[.agg (cat (queV x q d)).toArray] w (Ret fun v w' => ∃ q d, v = .agg (cat (queV (Que.mk x.items x.sent x.id (x.wait - 1) x.back) q d)).toArray ∧ Own S H w' ∧ Arr 433 itemR' (keys H) w' q x.items d) := by
 have hx1 := hx.wait
 refine enter (G := Own (⟨w, keys H⟩ :: S) H) ho.keep Try.func136 rfl Try.ntmps136 rfl ?_
 refine VC.sr ?_
 refine VL.box (L := queL) (ps := (queV (x) q d)) rfl rfl (queV_len hx) (fun g1 => ?_)
 refine VL.alloc (L := queL) (ps := (queV (que0) none 0)) zero157 rfl rfl (fun g2 => ?_)
 refine VL.nn ?_
 refine VC.seq ?_
 refine VC.sr ?_
 refine VL.fieldAddr rfl fo157_3 rfl ?_
 refine VL.load (v := .int .u8 (x.wait)) 1 3 rfl kd5 (fun _ h => h) rfl rfl rfl ?_
 refine VL.gtr rfl rfl ?_
 refine VL.yes (by omega) ?_
 refine VL.nn ?_
 refine VC.yes rfl ?_
 refine VC.region ?_
 refine VL.fieldAddr rfl fo157_3 rfl ?_
 refine VL.load (v := .int .u8 (x.wait)) 1 3 rfl kd5 (fun _ h => h) rfl rfl rfl ?_
 refine VL.sub rfl rfl (by simp only [InR]; omega) ?_
 refine VL.newv (v' := .int .u8 ((x.wait - 1 : Nat) : Int)) (congrArg (Value.int .u8) (by omega)) ?_
 refine VL.fieldAddr rfl fo157_3 rfl ?_
 refine VL.store (L := queL) (qs := [[.int .u8 ((x.wait - 1 : Nat))]]) (ps' := [[.slice q (x.items).length d], [.int .i64 (x.sent)], [.int .u16 (x.id)], [.int .u8 ((x.wait - 1 : Nat))], [.int .u8 (x.back)]]) 1 3 1 rfl rfl rfl (.inr ⟨kd5, rfl⟩) rfl rfl rfl (by intro u hu; simp [cat] at hu; subst hu; rfl) rfl rfl ?_
 refine VL.set1 ?_
 refine VL.nn ?_
 refine VC.sr ?_
 refine VL.loads (cs := cat (queV ((Que.mk x.items x.sent x.id (x.wait - 1) x.back)) q d)) 1 0 5 rfl kd157 (fun _ h => h) rfl rfl rfl rfl ?_
 refine VL.call Try.func164 rfl (by decide) rfl (fun w' hw => own_w hw (x := (Que.mk x.items x.sent x.id (x.wait - 1) x.back)) (⟨hx.items, hx.id, tick_lt hx, hx.back⟩ : Que.ok (Que.mk x.items x.sent x.id (x.wait - 1) x.back)) (hV.nowA (s := ⟨w, _⟩) Mono_item hw) (by first | omega | decide)) (fun v => ?_)
 refine VL.at (fun w5 h1w => ?_)
 obtain ⟨gv3, cv4, rfl, hO6⟩ := h1w
 refine VL.toOwn hO6 ?_
 refine VL.store (L := queL) (qs := (queV ((Que.mk x.items x.sent x.id (x.wait - 1) x.back)) (gv3.map fun g => (⟨g, 0, none⟩ : Addr)) cv4)) (ps' := (queV ((Que.mk x.items x.sent x.id (x.wait - 1) x.back)) (gv3.map fun g => (⟨g, 0, none⟩ : Addr)) cv4)) 1 0 5 rfl rfl rfl (.inl kd157) rfl rfl (queV_len (⟨hx.items, hx.id, tick_lt hx, hx.back⟩ : Que.ok (Que.mk x.items x.sent x.id (x.wait - 1) x.back))) (queV_ok1 ((Que.mk x.items x.sent x.id (x.wait - 1) x.back)) (gv3.map fun g => (⟨g, 0, none⟩ : Addr)) cv4) rfl rfl ?_
 refine VL.set1 ?_
 refine VL.nn ?_
 refine VC.ret ?_
 refine VX.ret_cell1 (cs := cat (queV ((Que.mk x.items x.sent x.id (x.wait - 1) x.back)) (gv3.map fun g => (⟨g, 0, none⟩ : Addr)) cv4)) 1 rfl rfl (by rw [cat_size (queV_len (⟨hx.items, hx.id, tick_lt hx, hx.back⟩ : Que.ok (Que.mk x.items x.sent x.id (x.wait - 1) x.back)))]; exact kd157) (fun _ h => h) rfl rfl (fun we hw => ?_)
 have h7 := (ownDropAt 1 (ownDropAt 2 hw))
 exact ⟨_, _, rfl, h7.drop.subA, h7.letArr⟩

end Go.Proofs.Ytcfecmoagfgnaaa

