/- The statement BagPlays is proved, for every input: part 19 of 19 of the texts that it needs. -/
import Derived.Test.YtcfecmoagfgnaaaMbplAR
import Derived.Test.YtcfecmoagfgnaaaRows
/- The law on plays. -/
namespace Go.Proofs.Ytcfecmoagfgnaaa
open Go.Vc Go.Pl

theorem vcToOwnD {P : Program} {n : Nat} {Q : Exit → Act → World → Prop} {S : List Snap} {H : List Chunk} {c : Code} {w0 : World} {σ : Sl} (hO : Own S H w0) (h : VC P n Q c σ (Own (⟨w0, keys H⟩ :: S) H)) : VC P n Q c σ (fun w => w = w0) := VC.turn (fun w e => by subst e; exact hO.keep) h
theorem dbl_no {S : List Snap} {H : List Chunk} {w : World} (ho : Own S H w) {xs : List Par} {p : Option Addr} {c : Nat} (hX : Arr 4 parR (keys H) w p xs c) (hl : xs.length ≤ 64) {i : Int} (h : ¬ (0 ≤ i ∧ i < xs.length ∧ xs.length < 64)) : Calls Try.prog 46 #[.slice p xs.length c, .int .i64 i] w (Ret fun v w' => ∃ q d, v = .tuple #[.slice q xs.length d, .bool false] ∧ Own S H w' ∧ Arr 4 parR (keys H) w' q xs d) := by
 by_cases h0 : i < 0
 ·exact double_neg ho hX (by omega) i h0
 ·obtain ⟨n, rfl⟩ := Int.eq_ofNat_of_zero_le (show 0 ≤ i by omega)
  by_cases h1 : xs.length ≤ n
  ·exact double_big ho hX (by omega) n h1
  ·exact double_full ho hX (by omega) n (by omega) (by omega)
theorem dbl_yes {S : List Snap} {H : List Chunk} {w : World} (ho : Own S H w) {xs : List Par} {p : Option Addr} {c : Nat} (hX : Arr 4 parR (keys H) w p xs c) (hbs : ∀ y ∈ xs, y.bytes.length ≤ 2000) {n : Nat} {i : Int} (hi : i = n) (h : n < xs.length) (h6 : xs.length < 64) : Calls Try.prog 46 #[.slice p xs.length c, .int .i64 i] w (Ret fun v w' => ∃ q d, v = .tuple #[.slice q (xs ++ [xs[n]'h]).length d, .bool true] ∧ Own S H w' ∧ Arr 4 parR (keys H) w' q (xs ++ [xs[n]'h]) d) := by
 subst hi
 exact double_yes ho hX (by omega) n h h6 (by have := hbs _ (List.getElem_mem h); omega)

theorem bagPlays_w {S : List Snap} {H : List Chunk} {w : World} (ho : Own S H w) {ps : List Ply} {p : Option Addr} {c : Nat} (hX : Arr 6 plyR (keys H) w p ps c) : Calls Try.prog 10 #[.slice p ps.length c] w (Ret fun v w' => v = .bool true ∧ Own S H w') := by
 have hsm := hX.small
 refine enter (G := Own (⟨w, keys H⟩ :: S) H) ho.keep Try.func10 rfl Try.ntmps10 rfl ?_
 refine VC.sr ?_
 refine VL.assign rfl ?_
 refine VL.nn ?_
 refine VC.seq ?_
 refine VC.sr ?_
 refine VL.call Try.func37 rfl (by decide) rfl (fun w' hw => alive24_w hw) (fun v => ?_)
 refine VL.fact fun e1 => ?_
 subst e1
 refine VL.not rfl ?_
 refine VL.nn ?_
 refine VC.no rfl ?_
 refine VC.skip ?_
 refine VX.next ?_
 refine VC.sr ?_
 refine VL.assign rfl ?_
 refine VL.assign rfl ?_
 refine VL.nn ?_
 refine VC.seq ?_
 refine VC.sr ?_
 refine VL.assign rfl ?_
 refine VL.nn ?_
 refine VC.block ?_
 refine VC.loop (X := List Par × Option Addr × Nat × Option Addr × Nat × Nat) (fun (xs, q1, d1, q2, d2, k) => [(0, .slice p ps.length c), (3, .slice q1 xs.length d1), (4, .slice q2 xs.length d2), (5, .int .i64 (k : Int))]) (fun (xs, q1, d1, q2, d2, k) w' => (k ≤ ps.length ∧ k ≤ 200 ∧ xs.length ≤ 64 ∧ ∀ z ∈ xs, z.bytes.length ≤ 2000) ∧ Arr 4 parR (keys H) w' q1 xs d1 ∧ Arr 4 parR (keys H) w' q2 xs d2 ∧ Own (⟨w, keys H⟩ :: S) H w') (fun (_, _, _, _, _, k) => ps.length - k) ([], none, 0, none, 0, 0) ⟨rfl, rfl, rfl, rfl, trivial⟩ (fun w' h => ⟨⟨Nat.zero_le _, Nat.zero_le _, Nat.zero_le _, fun z hz => by cases hz⟩, Arr.none, Arr.none, h.subA⟩) (fun (xs, q1, d1, q2, d2, k) => VC.fact fun ⟨hk, hk2, hlen, hbs⟩ => VC.at (fun wa ⟨hY1, hY2, hOa⟩ => vcToOwnD hOa ?_))
 ·skip
  refine VC.seq ?_
  refine VC.sr ?_
  refine VL.move rfl ?_
  refine VL.move rfl ?_
  refine VL.len Try.underlying55 rfl rfl ?_
  refine VL.lss rfl rfl ?_
  refine VL.case (fun h5 => ?_) (fun h5 => ?_)
  ·have hlt : k < ps.length := by omega
   refine VL.move rfl ?_
   refine VL.go rfl rfl rfl ?_
   refine VL.move rfl ?_
   refine VL.go rfl rfl rfl ?_
   refine VL.lss rfl rfl ?_
   refine VL.case (fun h56 => ?_) (fun h56 => ?_)
   ·refine VL.pick_t rfl rfl ?_
    refine VL.nn ?_
    refine VC.yes rfl ?_
    refine VC.skip ?_
    refine VX.next ?_
    refine VC.seq ?_
    refine VC.block ?_
    refine VC.sr ?_
    refine VL.move rfl ?_
    refine VL.move rfl ?_
    refine VL.index (xs := ps) rfl rfl Try.underlying55 sz55 hX (by omega) (by have hi := hlt; omega) ?_
    refine VL.elems (s := ⟨w, _⟩) (m := 6) (k) 0 rfl kd57 (fun _ h => h) (by repeat (first | exact List.mem_cons_self .. | apply List.mem_cons_of_mem)) hX (List.getElem?_eq_getElem hlt) (by simp) (by decide) (fun vs hl hr => ?_)
    obtain ⟨p9, c9, hy, rfl, hA9⟩ := hr
    refine VL.newv (v' := .agg (cat (plyV (ps[k]'hlt) p9 c9)).toArray) (by rw [List.drop_zero, List.take_of_length_le (by rw [hl]; decide)]) ?_
    clear hl
    generalize ps[k]'hlt = y at *
    refine VL.alloc (L := plyL) (ps := (plyV (ply0) none 0)) zero57 rfl rfl (fun g2 => ?_)
    refine VL.store (L := plyL) (qs := (plyV (y) p9 c9)) (ps' := (plyV (y) p9 c9)) 0 0 6 rfl rfl rfl (.inl kd57) rfl rfl (plyV_len hy) (plyV_ok1 y p9 c9) rfl rfl ?_
    refine VL.set0 ?_
    refine VL.nn ?_
    refine VC.seq ?_
    refine VC.sr ?_
    refine VL.fieldAddr rfl fo57_5 rfl ?_
    refine VL.load (v := .slice p9 (y.bytes).length c9) 0 5 rfl kd24 (fun _ h => h) rfl rfl rfl ?_
    refine VL.len Try.underlying24 rfl rfl ?_
    refine VL.gtr rfl rfl ?_
    refine VL.case (fun h8 => ?_) (fun h8 => ?_)
    ·refine VL.nn ?_
     refine VC.yes rfl ?_
     refine VC.sr ?_
     refine VL.assign rfl ?_
     refine VL.nn ?_
     refine VC.ret ?_
     refine VX.then_ret ?_
     refine VX.block_ret ?_
     refine VX.then_ret ?_
     refine VX.then_ret ?_
     refine VX.block_ret ?_
     refine VX.then_ret ?_
     refine VX.ret1 rfl rfl (fun we hw => ?_)
     exact ⟨rfl, hw.drop.subA⟩
    ·have hyb : y.bytes.length ≤ 1000 := by omega
     have hlb := law_len (a := y.a) (b := y.b) hyb
     refine VL.nn ?_
     refine VC.no rfl ?_
     refine VC.skip ?_
     refine VX.next ?_
     refine VC.seq ?_
     refine VC.sr ?_
     refine VL.fieldAddr rfl fo57_0 rfl ?_
     refine VL.load (v := .int .u8 (y.kind)) 0 0 rfl kd5 (fun _ h => h) rfl rfl rfl ?_
     refine VL.rem rfl rfl (by omega) (by omega) ?_
     refine VL.newv (v' := .int .u8 ((y.kind % 5 : Nat) : Int)) (congrArg (Value.int .u8) (by omega)) ?_
     refine VL.nn ?_
     refine VC.block ?_
     refine VC.seq ?_
     refine VC.sr ?_
     refine VL.eql rfl rfl ?_
     refine VL.case (fun h13 => ?_) (fun h13 => ?_)
     ·refine VL.assign rfl ?_
      refine VL.nn ?_
      refine VC.yes rfl ?_
      refine VC.skip ?_
      refine VX.next ?_
      refine VC.yes rfl ?_
      refine VC.sr ?_
      refine VL.fieldAddr rfl fo57_5 rfl ?_
      refine VL.load (v := .slice p9 (y.bytes).length c9) 0 5 rfl kd24 (fun _ h => h) rfl rfl rfl ?_
      refine VL.assign rfl ?_
      refine VL.nn ?_
      refine VC.seq ?_
      refine VC.sr ?_
      refine VL.fieldAddr rfl fo57_0 rfl ?_
      refine VL.load (v := .int .u8 (y.kind)) 0 0 rfl kd5 (fun _ h => h) rfl rfl rfl ?_
      refine VL.rem rfl rfl (by omega) (by omega) ?_
      refine VL.newv (v' := .int .u8 ((y.kind % 5 : Nat) : Int)) (congrArg (Value.int .u8) (by omega)) ?_
      refine VL.eql rfl rfl ?_
      refine VL.yes (by omega) ?_
      refine VL.nn ?_
      refine VC.yes rfl ?_
      refine VC.region ?_
      refine VL.fieldAddr rfl fo57_1 rfl ?_
      refine VL.load (v := .int .u8 (y.a)) 0 1 rfl kd5 (fun _ h => h) rfl rfl rfl ?_
      refine VL.fieldAddr rfl fo57_2 rfl ?_
      refine VL.load (v := .int .u8 (y.b)) 0 2 rfl kd5 (fun _ h => h) rfl rfl rfl ?_
      refine VL.fieldAddr rfl fo57_5 rfl ?_
      refine VL.load (v := .slice p9 (y.bytes).length c9) 0 5 rfl kd24 (fun _ h => h) rfl rfl rfl ?_
      refine VL.call Try.func41 rfl (by decide) rfl (fun w' hw => lawBytes_w hw hy.a hy.b (hA9.nowA (s := ⟨w, _⟩) Mono.byte hw)) (fun v => ?_)
      refine VL.at (fun w3 h1w => ?_)
      obtain ⟨p4, c5, rfl, hO7, hA6⟩ := h1w
      refine VL.toOwn hO7 ?_
      refine VL.assign rfl ?_
      refine VL.nn ?_
      refine VC.sr ?_
      refine VL.move rfl ?_
      refine VL.move rfl ?_
      refine VL.fieldAddr rfl fo57_4 rfl ?_
      refine VL.load (v := .int .u32 (y.at_)) 0 4 rfl kd48 (fun _ h => h) rfl rfl rfl ?_
      refine VL.call Try.func42 rfl (by decide) rfl (fun w' hw => lay_w hw (hY1.nowA (s := ⟨wa, _⟩) Mono_par hw) (by omega) (l := (lawB y.a y.b y.bytes)) (hA6.nowA (s := ⟨w3, _⟩) Mono.byte hw) hy.at_ (by omega)) (fun v => ?_)
      refine VL.at (fun w8 h1w => ?_)
      obtain ⟨q10, d11, rfl, hO9, hX12⟩ := h1w
      refine VL.toOwn hO9 ?_
      refine VL.move rfl ?_
      refine VL.extract rfl rfl ?_
      refine VL.extract rfl rfl ?_
      refine VL.assign rfl ?_
      refine VL.assign rfl ?_
      refine VL.nn ?_
      refine VC.sr ?_
      refine VL.move rfl ?_
      refine VL.move rfl ?_
      refine VL.fieldAddr rfl fo57_4 rfl ?_
      refine VL.load (v := .int .u32 (y.at_)) 0 4 rfl kd48 (fun _ h => h) rfl rfl rfl ?_
      refine VL.call Try.func43 rfl (by decide) rfl (fun w' hw => refLay_w hw (hY2.nowA (s := ⟨wa, _⟩) Mono_par hw) (by omega) (l := (lawB y.a y.b y.bytes)) (hA6.nowA (s := ⟨w3, _⟩) Mono.byte hw) hy.at_ (by omega)) (fun v => ?_)
      refine VL.at (fun w13 h1w => ?_)
      obtain ⟨q15, d16, rfl, hO14, hX17⟩ := h1w
      refine VL.toOwn hO14 ?_
      refine VL.move rfl ?_
      refine VL.extract rfl rfl ?_
      refine VL.extract rfl rfl ?_
      refine VL.assign rfl ?_
      refine VL.assign rfl ?_
      refine VL.nn ?_
      refine VC.seq ?_
      refine VC.sr ?_
      refine VL.move rfl ?_
      refine VL.move rfl ?_
      refine VL.bneq Try.underlying4 rfl rfl ?_
      refine VL.newv (v' := .bool false) (congrArg Value.bool (by simp)) ?_
      refine VL.nn ?_
      refine VC.no rfl ?_
      refine VC.skip ?_
      refine VX.next ?_
      refine VC.region ?_
      refine VL.move rfl ?_
      refine VL.move rfl ?_
      refine VL.assign rfl ?_
      refine VL.assign rfl ?_
      refine VL.nil ?_
      refine VX.block_normal ?_
      refine VX.next ?_
      refine VC.sr ?_
      refine VL.move rfl ?_
      refine VL.move rfl ?_
      refine VL.call Try.func47 rfl (by decide) rfl (fun w' hw => sameBags_w hw (hX12.nowA (s := ⟨w8, _⟩) Mono_par hw) (hX17.nowA (s := ⟨w13, _⟩) Mono_par hw)) (fun v => ?_)
      refine VL.fact fun e18 => ?_
      subst e18
      refine VL.not rfl ?_
      refine VL.nn ?_
      refine VC.no rfl ?_
      refine VC.skip ?_
      refine VX.block_normal ?_
      refine VX.next ?_
      refine VC.region ?_
      refine VL.move rfl ?_
      refine VL.add rfl rfl (by simp only [InR]; omega) ?_
      refine VL.assign rfl ?_
      refine VL.nil ?_
      refine VX.round ((layL xs (lawB y.a y.b y.bytes) y.at_), q10, d11, q15, d16, k + 1) ⟨rfl, rfl, rfl, rfl, trivial⟩ (fun w' h => ⟨⟨by omega, by omega, layL_len hlen, layL_bytes hbs (by omega)⟩, (hX12.nowA (s := ⟨w8, _⟩) Mono_par h.drop), (hX17.nowA (s := ⟨w13, _⟩) Mono_par h.drop), h.drop.subA⟩) (by show ps.length - (k + 1) < ps.length - k; omega)
     ·refine VL.assign rfl ?_
      refine VL.nn ?_
      refine VC.no rfl ?_
      refine VC.region ?_
      refine VL.eql rfl rfl ?_
      refine VL.case (fun h14 => ?_) (fun h14 => ?_)
      ·refine VL.assign rfl ?_
       refine VL.nn ?_
       refine VC.yes rfl ?_
       refine VC.sr ?_
       refine VL.fieldAddr rfl fo57_5 rfl ?_
       refine VL.load (v := .slice p9 (y.bytes).length c9) 0 5 rfl kd24 (fun _ h => h) rfl rfl rfl ?_
       refine VL.assign rfl ?_
       refine VL.nn ?_
       refine VC.seq ?_
       refine VC.sr ?_
       refine VL.fieldAddr rfl fo57_0 rfl ?_
       refine VL.load (v := .int .u8 (y.kind)) 0 0 rfl kd5 (fun _ h => h) rfl rfl rfl ?_
       refine VL.rem rfl rfl (by omega) (by omega) ?_
       refine VL.newv (v' := .int .u8 ((y.kind % 5 : Nat) : Int)) (congrArg (Value.int .u8) (by omega)) ?_
       refine VL.eql rfl rfl ?_
       refine VL.no (by omega) ?_
       refine VL.nn ?_
       refine VC.no rfl ?_
       refine VC.skip ?_
       refine VX.next ?_
       refine VC.sr ?_
       refine VL.move rfl ?_
       refine VL.move rfl ?_
       refine VL.fieldAddr rfl fo57_4 rfl ?_
       refine VL.load (v := .int .u32 (y.at_)) 0 4 rfl kd48 (fun _ h => h) rfl rfl rfl ?_
       refine VL.call Try.func42 rfl (by decide) rfl (fun w' hw => lay_w hw (hY1.nowA (s := ⟨wa, _⟩) Mono_par hw) (by omega) (l := (y.bytes)) (hA9.nowA (s := ⟨w, _⟩) Mono.byte hw) hy.at_ (by omega)) (fun v => ?_)
       refine VL.at (fun w19 h1w => ?_)
       obtain ⟨q21, d22, rfl, hO20, hX23⟩ := h1w
       refine VL.toOwn hO20 ?_
       refine VL.move rfl ?_
       refine VL.extract rfl rfl ?_
       refine VL.extract rfl rfl ?_
       refine VL.assign rfl ?_
       refine VL.assign rfl ?_
       refine VL.nn ?_
       refine VC.sr ?_
       refine VL.move rfl ?_
       refine VL.move rfl ?_
       refine VL.fieldAddr rfl fo57_4 rfl ?_
       refine VL.load (v := .int .u32 (y.at_)) 0 4 rfl kd48 (fun _ h => h) rfl rfl rfl ?_
       refine VL.call Try.func43 rfl (by decide) rfl (fun w' hw => refLay_w hw (hY2.nowA (s := ⟨wa, _⟩) Mono_par hw) (by omega) (l := (y.bytes)) (hA9.nowA (s := ⟨w, _⟩) Mono.byte hw) hy.at_ (by omega)) (fun v => ?_)
       refine VL.at (fun w24 h1w => ?_)
       obtain ⟨q26, d27, rfl, hO25, hX28⟩ := h1w
       refine VL.toOwn hO25 ?_
       refine VL.move rfl ?_
       refine VL.extract rfl rfl ?_
       refine VL.extract rfl rfl ?_
       refine VL.assign rfl ?_
       refine VL.assign rfl ?_
       refine VL.nn ?_
       refine VC.seq ?_
       refine VC.sr ?_
       refine VL.move rfl ?_
       refine VL.move rfl ?_
       refine VL.bneq Try.underlying4 rfl rfl ?_
       refine VL.newv (v' := .bool false) (congrArg Value.bool (by simp)) ?_
       refine VL.nn ?_
       refine VC.no rfl ?_
       refine VC.skip ?_
       refine VX.next ?_
       refine VC.region ?_
       refine VL.move rfl ?_
       refine VL.move rfl ?_
       refine VL.assign rfl ?_
       refine VL.assign rfl ?_
       refine VL.nil ?_
       refine VX.block_normal ?_
       refine VX.next ?_
       refine VC.sr ?_
       refine VL.move rfl ?_
       refine VL.move rfl ?_
       refine VL.call Try.func47 rfl (by decide) rfl (fun w' hw => sameBags_w hw (hX23.nowA (s := ⟨w19, _⟩) Mono_par hw) (hX28.nowA (s := ⟨w24, _⟩) Mono_par hw)) (fun v => ?_)
       refine VL.fact fun e29 => ?_
       subst e29
       refine VL.not rfl ?_
       refine VL.nn ?_
       refine VC.no rfl ?_
       refine VC.skip ?_
       refine VX.block_normal ?_
       refine VX.next ?_
       refine VC.region ?_
       refine VL.move rfl ?_
       refine VL.add rfl rfl (by simp only [InR]; omega) ?_
       refine VL.assign rfl ?_
       refine VL.nil ?_
       refine VX.round ((layL xs (y.bytes) y.at_), q21, d22, q26, d27, k + 1) ⟨rfl, rfl, rfl, rfl, trivial⟩ (fun w' h => ⟨⟨by omega, by omega, layL_len hlen, layL_bytes hbs (by omega)⟩, (hX23.nowA (s := ⟨w19, _⟩) Mono_par h.drop), (hX28.nowA (s := ⟨w24, _⟩) Mono_par h.drop), h.drop.subA⟩) (by show ps.length - (k + 1) < ps.length - k; omega)
      ·refine VL.assign rfl ?_
       refine VL.nn ?_
       refine VC.no rfl ?_
       refine VC.sr ?_
       refine VL.eql rfl rfl ?_
       refine VL.case (fun h23 => ?_) (fun h23 => ?_)
       ·refine VL.assign rfl ?_
        refine VL.nn ?_
        refine VC.yes rfl ?_
        refine VC.sr ?_
        refine VL.move rfl ?_
        refine VL.fieldAddr rfl fo57_3 rfl ?_
        refine VL.load (v := .int .i64 (y.idx)) 0 3 rfl kd3 (fun _ h => h) rfl rfl rfl ?_
        refine VL.call Try.func40 rfl (by decide) rfl (fun w' hw => take_w hw (hY1.nowA (s := ⟨wa, _⟩) Mono_par hw) (by omega) hbs y.idx) (fun v => ?_)
        refine VL.at (fun w30 h1w => ?_)
        obtain ⟨q32, d33, p35, c36, rfl, hO31, hX34, hok38, hA37⟩ := h1w
        refine VL.toOwn hO31 ?_
        refine VL.move rfl ?_
        refine VL.extract rfl rfl ?_
        refine VL.extract rfl rfl ?_
        refine VL.extract rfl rfl ?_
        refine VL.alloc (L := parL) (ps := (parV (par0) none 0)) zero50 rfl rfl (fun g39 => ?_)
        refine VL.assign rfl ?_
        refine VL.store (L := parL) (qs := (parV ((takP xs y.idx)) p35 c36)) (ps' := (parV ((takP xs y.idx)) p35 c36)) 0 0 4 rfl rfl rfl (.inl kd50) rfl rfl (parV_len hok38) (parV_ok1 ((takP xs y.idx)) p35 c36) rfl rfl ?_
        refine VL.set0 ?_
        refine VL.assign rfl ?_
        refine VL.nn ?_
        refine VC.sr ?_
        refine VL.move rfl ?_
        refine VL.fieldAddr rfl fo57_3 rfl ?_
        refine VL.load (v := .int .i64 (y.idx)) 1 3 rfl kd3 (fun _ h => h) rfl rfl rfl ?_
        refine VL.call Try.func44 rfl (by decide) rfl (fun w' hw => refTake_w hw (hY2.nowA (s := ⟨wa, _⟩) Mono_par hw) (by omega) y.idx) (fun v => ?_)
        refine VL.at (fun w40 h1w => ?_)
        obtain ⟨q42, d43, p45, c46, rfl, hO41, hX44, hok48, hA47⟩ := h1w
        refine VL.toOwn hO41 ?_
        refine VL.move rfl ?_
        refine VL.extract rfl rfl ?_
        refine VL.extract rfl rfl ?_
        refine VL.extract rfl rfl ?_
        refine VL.alloc (L := parL) (ps := (parV (par0) none 0)) zero50 rfl rfl (fun g49 => ?_)
        refine VL.assign rfl ?_
        refine VL.store (L := parL) (qs := (parV ((takP xs y.idx)) p45 c46)) (ps' := (parV ((takP xs y.idx)) p45 c46)) 0 0 4 rfl rfl rfl (.inl kd50) rfl rfl (parV_len hok48) (parV_ok1 ((takP xs y.idx)) p45 c46) rfl rfl ?_
        refine VL.set0 ?_
        refine VL.assign rfl ?_
        refine VL.nn ?_
        refine VC.seq ?_
        refine VC.sr ?_
        refine VL.move rfl ?_
        refine VL.move rfl ?_
        refine VL.bneq Try.underlying4 rfl rfl ?_
        refine VL.newv (v' := .bool false) (congrArg Value.bool (by simp)) ?_
        refine VL.move rfl ?_
        refine VL.go rfl rfl rfl ?_
        refine VL.loads (cs := cat (parV ((takP xs y.idx)) p35 c36)) 1 0 4 rfl kd50 (fun _ h => h) rfl rfl rfl rfl ?_
        refine VL.go rfl rfl rfl ?_
        refine VL.loads (cs := cat (parV ((takP xs y.idx)) p45 c46)) 0 0 4 rfl kd50 (fun _ h => h) rfl rfl rfl rfl ?_
        refine VL.go rfl rfl rfl ?_
        refine VL.call Try.func45 rfl (by decide) rfl (fun w' hw => one_w hw hok38 (hA37.nowA (s := ⟨w30, _⟩) Mono.byte hw) (hA47.nowA (s := ⟨w40, _⟩) Mono.byte hw)) (fun v => ?_)
        refine VL.fact fun e50 => ?_
        subst e50
        refine VL.go rfl rfl rfl ?_
        refine VL.not rfl ?_
        refine VL.pick_f rfl rfl ?_
        refine VL.nn ?_
        refine VC.no rfl ?_
        refine VC.skip ?_
        refine VX.next ?_
        refine VC.region ?_
        refine VL.move rfl ?_
        refine VL.move rfl ?_
        refine VL.assign rfl ?_
        refine VL.assign rfl ?_
        refine VL.nil ?_
        refine VX.block_normal ?_
        refine VX.next ?_
        refine VC.sr ?_
        refine VL.move rfl ?_
        refine VL.move rfl ?_
        refine VL.call Try.func47 rfl (by decide) rfl (fun w' hw => sameBags_w hw (hX34.nowA (s := ⟨w30, _⟩) Mono_par hw) (hX44.nowA (s := ⟨w40, _⟩) Mono_par hw)) (fun v => ?_)
        refine VL.fact fun e51 => ?_
        subst e51
        refine VL.not rfl ?_
        refine VL.nn ?_
        refine VC.no rfl ?_
        refine VC.skip ?_
        refine VX.block_normal ?_
        refine VX.next ?_
        refine VC.region ?_
        refine VL.move rfl ?_
        refine VL.add rfl rfl (by simp only [InR]; omega) ?_
        refine VL.assign rfl ?_
        refine VL.nil ?_
        refine VX.round ((takL xs y.idx), q32, d33, q42, d43, k + 1) ⟨rfl, rfl, rfl, rfl, trivial⟩ (fun w' h => ⟨⟨by omega, by omega, Nat.le_trans (takL_len xs y.idx) hlen, fun z hz => hbs z (takL_mem hz)⟩, (hX34.nowA (s := ⟨w30, _⟩) Mono_par h.drop.drop.drop), (hX44.nowA (s := ⟨w40, _⟩) Mono_par h.drop.drop.drop), h.drop.drop.drop.subA⟩) (by show ps.length - (k + 1) < ps.length - k; omega)
       ·refine VL.assign rfl ?_
        refine VL.nn ?_
        refine VC.no rfl ?_
        refine VC.sr ?_
        refine VL.eql rfl rfl ?_
        refine VL.case (fun h29 => ?_) (fun h29 => ?_)
        ·refine VL.assign rfl ?_
         refine VL.nn ?_
         refine VC.yes rfl ?_
         refine VC.seq ?_
         by_cases hD : 0 ≤ y.idx ∧ y.idx < xs.length ∧ xs.length < 64
         ·obtain ⟨n, hn⟩ := Int.eq_ofNat_of_zero_le hD.1
          have hD2 : n < xs.length := by omega
          have hD3 := hD.2.2
          refine VC.region ?_
          refine VL.move rfl ?_
          refine VL.fieldAddr rfl fo57_3 rfl ?_
          refine VL.load (v := .int .i64 (y.idx)) 0 3 rfl kd3 (fun _ h => h) rfl rfl rfl ?_
          refine VL.call Try.func46 rfl (by decide) rfl (fun w' hw => dbl_yes hw (hY1.nowA (s := ⟨wa, _⟩) Mono_par hw) hbs hn hD2 hD3) (fun v => ?_)
          refine VL.at (fun w52 h1w => ?_)
          obtain ⟨q54, d55, rfl, hO53, hX56⟩ := h1w
          refine VL.toOwn hO53 ?_
          refine VL.move rfl ?_
          refine VL.extract rfl rfl ?_
          refine VL.extract rfl rfl ?_
          refine VL.assign rfl ?_
          refine VL.assign rfl ?_
          refine VL.nn ?_
          refine VC.seq ?_
          refine VC.sr ?_
          refine VL.move rfl ?_
          refine VL.fieldAddr rfl fo57_3 rfl ?_
          refine VL.load (v := .int .i64 (y.idx)) 0 3 rfl kd3 (fun _ h => h) rfl rfl rfl ?_
          refine VL.geq rfl rfl ?_
          refine VL.yes (by omega) ?_
          refine VL.move rfl ?_
          refine VL.go rfl rfl rfl ?_
          refine VL.fieldAddr rfl fo57_3 rfl ?_
          refine VL.go rfl rfl rfl ?_
          refine VL.load (v := .int .i64 (y.idx)) 0 3 rfl kd3 (fun _ h => h) rfl rfl rfl ?_
          refine VL.go rfl rfl rfl ?_
          refine VL.move rfl ?_
          refine VL.go rfl rfl rfl ?_
          refine VL.len Try.underlying47 rfl rfl ?_
          refine VL.go rfl rfl rfl ?_
          refine VL.lss rfl rfl ?_
          refine VL.yes (by omega) ?_
          refine VL.pick_t rfl rfl ?_
          refine VL.move rfl ?_
          refine VL.go rfl rfl rfl ?_
          refine VL.move rfl ?_
          refine VL.go rfl rfl rfl ?_
          refine VL.len Try.underlying47 rfl rfl ?_
          refine VL.go rfl rfl rfl ?_
          refine VL.lss rfl rfl ?_
          refine VL.yes (by omega) ?_
          refine VL.pick_t rfl rfl ?_
          refine VL.bneq Try.underlying4 rfl rfl ?_
          refine VL.nn ?_
          refine VC.no rfl ?_
          refine VC.skip ?_
          refine VX.next ?_
          refine VC.seq ?_
          refine VC.sr ?_
          refine VL.move rfl ?_
          refine VL.nn ?_
          refine VC.yes rfl ?_
          refine VC.letCells 0 rfl (fun w57 hO59 hF58 => ?_)
          refine VC.anyE (E34 q2 d2 xs g2 y.idx (xs[n]'hD2) (keys H) wa) (O34 _ (H) xs (xs[n]'hD2)) 9 [(147, 2), (153, 8)] [0, 3, 4, 5, 18] rfl (by kernel_rfl) (by kernel_rfl) rfl (fun w' hw => (O34_00 rfl rfl).2 (.inl ⟨rfl, hw.drew⟩)) (by kernel_rfl) (by kernel_rfl) ?obs34 ?end34
          case obs34 =>
           refine AllAt.cons ?_ ?_
           ·refine ⟨⟨[], []⟩, obJ (by kernel_rfl) rfl (fun ρ w34 hE hO hi hwt hfo => ?_)⟩
            show VL _ _ _ _ _ _ _
            have h2 : ρ 2 = none := hfo 2 _ rfl (by kernel_rfl)
            rcases (O34_00 h2 hi).1 hO with ⟨h8, hO⟩ | ⟨h, e, h8, hO⟩
            ·refine VL.backOwn hO ?_
             refine VL.lit el47 rfl rfl rfl (by simp) (by simp [ok1]) (fun g => ?_)
             exact VL.finE hE rfl trivial (fun w' hw => (O34_01 (v0 := rowV (some g) 0 0) (by exact h2) rfl).2 ⟨_, _, rfl, .inl ⟨h8, row_prow hw⟩⟩)
            ·refine VL.backOwn hO ?_
             refine VL.lit el47 rfl rfl rfl (by simp) (by simp [ok1]) (fun g => ?_)
             exact VL.finE hE rfl trivial (fun w' hw => (O34_01 (v0 := rowV (some g) 0 0) (by exact h2) rfl).2 ⟨_, _, rfl, .inr ⟨h, e, h8, (row_prow hw).perm (List.Perm.swap _ _ _)⟩⟩)
           refine AllAt.cons ?_ ?_
           ·refine ⟨⟨[], [4]⟩, obJ (by kernel_rfl) rfl (fun ρ w34 hE hO hi hwt hfo => ?_)⟩
            show VL _ _ _ _ _ _ _
            refine VL.move rfl ?_
            exact VL.finE hE rfl rfl (fun w' e => e ▸ O34_pure hO (by decide) (by decide) (by decide))
           refine AllAt.cons ?_ ?_
           ·refine ⟨⟨[(145, 0), (146, 1)], []⟩, obJ (by kernel_rfl) rfl (fun ρ w34 hE hO hi hwt hfo => ?_)⟩
            rintro v0 r0 - v1 r1 rfl
            obtain ⟨g, c9, rfl, hO | ⟨h, e, h8, hO⟩⟩ := (O34_01 hi r0).1 hO
            ·obtain ⟨h8, hO⟩ := hO
             refine VL.toOwn hO ?_
             refine VL.appends (R := parR) (hR := Mono_par) (ys := ([] : List Par)) (zs := xs) 0 el47 rfl rfl rfl (fun _ h => h) rfl (fun _ hw => (hY2.nowA (s := ⟨wa, _⟩) Mono_par hw)) parR_ok1 (by simp only [List.length_nil]; omega) (fun g1 c1 => ?_) (by simp only [List.length_nil]; omega)
             exact VL.finE hE rfl trivial (fun w' hw => (O34_2 (v2 := rowV g1 xs.length c1) rfl).2 ⟨_, _, rfl, .inl ⟨h8, hw.subA⟩⟩)
            ·refine VL.toOwn hO ?_
             refine VL.appends (R := parR) (hR := Mono_par) (ys := ([] : List Par)) (zs := xs) 1 el47 rfl rfl rfl (fun _ h => h) rfl (fun _ hw => (hY2.nowA (s := ⟨wa, _⟩) Mono_par hw)) parR_ok1 (by simp only [List.length_nil]; omega) (fun g1 c1 => ?_) (by simp only [List.length_nil]; omega)
             exact VL.finE hE rfl trivial (fun w' hw => (O34_2 (v2 := rowV g1 xs.length c1) rfl).2 ⟨_, _, rfl, .inr ⟨h, e, h8, hw.subA⟩⟩)
           refine AllAt.cons ?_ ?_
           ·refine ⟨⟨[], [4]⟩, obJ (by kernel_rfl) rfl (fun ρ w34 hE hO hi hwt hfo => ?_)⟩
            show VL _ _ _ _ _ _ _
            refine VL.move rfl ?_
            exact VL.finE hE rfl rfl (fun w' e => e ▸ O34_pure hO (by decide) (by decide) (by decide))
           refine AllAt.cons ?_ ?_
           ·refine ⟨⟨[], [6]⟩, obJ (by kernel_rfl) rfl (fun ρ w34 hE hO hi hwt hfo => ?_)⟩
            show VL _ _ _ _ _ _ _
            refine VL.fieldAddr rfl fo57_3 rfl ?_
            exact VL.finE hE rfl rfl (fun w' e => e ▸ O34_pure hO (by decide) (by decide) (by decide))
           refine AllAt.cons ?_ ?_
           ·refine ⟨⟨[(149, 4)], []⟩, obJ (by kernel_rfl) rfl (fun ρ w34 hE hO hi hwt hfo => ?_)⟩
            rintro v4 r4 rfl
            refine VL.loadF (s := ⟨w57, _⟩) (v := .int .i64 (y.idx)) 3 rfl kd3 hF58 (fun _ e => e ▸ O34_ok hO _ (by repeat (first | exact List.mem_cons_self .. | apply List.mem_cons_of_mem))) rfl rfl ?_
            exact VL.finE hE rfl rfl (fun w' e => e ▸ O34_pure hO (by decide) (by decide) (by decide))
           refine AllAt.cons ?_ ?_
           ·refine ⟨⟨[(148, 3), (150, 5)], []⟩, obJ (by kernel_rfl) rfl (fun ρ w34 hE hO hi hwt hfo => ?_)⟩
            rintro v3 r3 rfl v5 r5 rfl
            refine VL.index (xs := xs) rfl rfl Try.underlying47 sz47 hY2 (by omega) (by omega) ?_
            exact VL.finE hE rfl rfl (fun w' e => e ▸ O34_pure hO (by decide) (by decide) (by decide))
           refine AllAt.cons ?_ ?_
           ·refine ⟨⟨[(151, 6)], []⟩, obJ (by kernel_rfl) rfl (fun ρ w34 hE hO hi hwt hfo => ?_)⟩
            rintro v6 r6 rfl
            obtain ⟨H9, hO9⟩ := O34_own hO
            refine VL.elems (s := ⟨wa, _⟩) (m := 4) n 0 rfl kd50 (fun _ e => e ▸ hO9) (by repeat (first | exact List.mem_cons_self .. | apply List.mem_cons_of_mem)) hY2 (List.getElem?_eq_getElem hD2) (by rw [hn]; rfl) (by decide) (fun vs hl hr => ?_)
            obtain ⟨q8, d8, hy8, rfl, hA8⟩ := hr
            refine VL.newv (v' := .agg (cat (parV (xs[n]'hD2) q8 d8)).toArray) (by rw [List.drop_zero, List.take_of_length_le (by rw [hl]; decide)]) ?_
            exact VL.finE hE rfl ⟨_, _, rfl, hy8, hA8⟩ (fun w' e => e ▸ O34_pure hO (by decide) (by decide) (by decide))
           refine AllAt.cons ?_ ?_
           ·refine ⟨⟨[(152, 7)], []⟩, obJ (by kernel_rfl) rfl (fun ρ w34 hE hO hi hwt hfo => ?_)⟩
            rintro v7 r7 ⟨q8, d8, rfl, hy8, hA8⟩
            cases h2 : ρ 2 with
            | none =>
             cases h0 : ρ 0 with
             | none =>
              rcases (O34_00 h2 h0).1 hO with ⟨_, hO⟩ | ⟨h, e, h8, _⟩
              ·refine VL.backOwn hO ?_
               refine VL.lit el47 rfl rfl rfl (by intro v hv; simp only [List.mem_singleton] at hv; subst hv; rfl) (by rw [show [Value.agg (cat (parV (xs[n]'hD2) q8 d8)).toArray].flatMap (·.cells.toList) = (cat (parV (xs[n]'hD2) q8 d8)) by simp [Value.cells]]; exact parV_ok1 _ _ _) (fun gl => ?_)
               exact VL.finE hE rfl trivial (fun w' hw => (O34_00 (by exact h2) (by exact h0)).2 (.inr ⟨_, _, rfl, (hw.asArr Mono_par (ys := [xs[n]'hD2]) rfl (one_par hy8 (hA8.nowA (s := ⟨wa, _⟩) Mono.byte hw)))⟩))
              ·rw [hi] at h8; cases h8
             | some v0 =>
              obtain ⟨g, c9, e0, hO | ⟨h, e, h8, _⟩⟩ := (O34_01 h2 h0).1 hO
              ·obtain ⟨_, hO⟩ := hO
               refine VL.backOwn hO ?_
               refine VL.lit el47 rfl rfl rfl (by intro v hv; simp only [List.mem_singleton] at hv; subst hv; rfl) (by rw [show [Value.agg (cat (parV (xs[n]'hD2) q8 d8)).toArray].flatMap (·.cells.toList) = (cat (parV (xs[n]'hD2) q8 d8)) by simp [Value.cells]]; exact parV_ok1 _ _ _) (fun gl => ?_)
               exact VL.finE hE rfl trivial (fun w' hw => (O34_01 (v0 := v0) (by exact h2) (by exact h0)).2 ⟨_, _, e0, .inr ⟨_, _, rfl, (hw.asArr Mono_par (ys := [xs[n]'hD2]) rfl (one_par hy8 (hA8.nowA (s := ⟨wa, _⟩) Mono.byte hw)))⟩⟩)
              ·rw [hi] at h8; cases h8
            | some v2 =>
             obtain ⟨g, c9, e0, hO | ⟨h, e, h8, _⟩⟩ := (O34_2 h2).1 hO
             ·obtain ⟨_, hO⟩ := hO
              refine VL.backOwn hO ?_
              refine VL.lit el47 rfl rfl rfl (by intro v hv; simp only [List.mem_singleton] at hv; subst hv; rfl) (by rw [show [Value.agg (cat (parV (xs[n]'hD2) q8 d8)).toArray].flatMap (·.cells.toList) = (cat (parV (xs[n]'hD2) q8 d8)) by simp [Value.cells]]; exact parV_ok1 _ _ _) (fun gl => ?_)
              exact VL.finE hE rfl trivial (fun w' hw => (O34_2 (v2 := v2) (by exact h2)).2 ⟨_, _, e0, .inr ⟨_, _, rfl, (hw.asArr Mono_par (ys := [xs[n]'hD2]) rfl (one_par hy8 (hA8.nowA (s := ⟨wa, _⟩) Mono.byte hw)))⟩⟩)
             ·rw [hi] at h8; cases h8
           exact AllAt.nil
          case end34 =>
           intro ρ vals w34 hE hO hall _ hv
           have h2 := hv (147, 2) (by simp)
           have h8 := hv (153, 8) (by simp)
           obtain ⟨g34, c34, e2, ⟨h, _⟩ | ⟨h34, d34, e8, hO⟩⟩ := (O34_2 h2).1 hO
           ·rw [h8] at h; cases h
           rw [h8] at e8
           have e8 := Option.some.inj e8
           have hp : preSlots [(147, 2), (153, 8)] vals = [(147, rowV g34 xs.length c34), (153, rowV h34 1 d34)] := by
            show [(147, vals 2), (153, vals 8)] = _
            rw [show vals 2 = _ from e2, show vals 8 = _ from e8]
           rw [hp]
           refine VL.toOwn hO ?_
           refine VL.letArr0 (fun w35 hO35 hA35 => ?_)
           refine VL.appends (R := parR) (hR := Mono_par) (ys := xs) (zs := [xs[n]'hD2]) 0 el47 rfl rfl rfl (fun _ h => h) rfl (fun _ hw => hA35.nowA (s := ⟨w35, _⟩) Mono_par hw) parR_ok1 (by simp only [List.length_cons, List.length_nil]; omega) (fun g36 c36 => ?_) (by simp only [List.length_cons, List.length_nil]; omega)
           refine VL.set0 ?_
           refine VL.letArr0 (fun w37 hO37 hX37 => ?_)
           refine VL.assign rfl ?_
           refine VL.nn ?_
           refine VC.region ?_
           refine VL.move rfl ?_
           refine VL.assign rfl ?_
           refine VL.nil ?_
           refine VX.block_normal ?_
           refine VX.next ?_
           refine VC.sr ?_
           refine VL.move rfl ?_
           refine VL.move rfl ?_
           refine VL.call Try.func47 rfl (by decide) rfl (fun w' hw => sameBags_w hw (hX56.nowA (s := ⟨w52, _⟩) Mono_par hw) (hX37.nowA (s := ⟨w37, _⟩) Mono_par hw)) (fun v => ?_)
           refine VL.fact fun e60 => ?_
           subst e60
           refine VL.not rfl ?_
           refine VL.nn ?_
           refine VC.no rfl ?_
           refine VC.skip ?_
           refine VX.block_normal ?_
           refine VX.next ?_
           refine VC.region ?_
           refine VL.move rfl ?_
           refine VL.add rfl rfl (by simp only [InR]; omega) ?_
           refine VL.assign rfl ?_
           refine VL.nil ?_
           refine VX.round ((xs ++ [xs[n]'hD2]), q54, d55, (g36.map fun g => (⟨g, 0, none⟩ : Addr)), c36, k + 1) ⟨rfl, rfl, rfl, rfl, trivial⟩ (fun w' h => ⟨⟨by omega, by omega, by rw [List.length_append, List.length_singleton]; omega, fun z hz => (List.mem_append.1 hz).elim (hbs z) (fun h => by rw [List.mem_singleton] at h; subst h; exact hbs _ (List.getElem_mem hD2))⟩, (hX56.nowA (s := ⟨w52, _⟩) Mono_par h), (hX37.nowA (s := ⟨w37, _⟩) Mono_par h), h.subA⟩) (by show ps.length - (k + 1) < ps.length - k; omega)
         ·refine VC.region ?_
          refine VL.move rfl ?_
          refine VL.fieldAddr rfl fo57_3 rfl ?_
          refine VL.load (v := .int .i64 (y.idx)) 0 3 rfl kd3 (fun _ h => h) rfl rfl rfl ?_
          refine VL.call Try.func46 rfl (by decide) rfl (fun w' hw => dbl_no hw (hY1.nowA (s := ⟨wa, _⟩) Mono_par hw) (by omega) hD) (fun v => ?_)
          refine VL.at (fun w61 h1w => ?_)
          obtain ⟨q63, d64, rfl, hO62, hX65⟩ := h1w
          refine VL.toOwn hO62 ?_
          refine VL.move rfl ?_
          refine VL.extract rfl rfl ?_
          refine VL.extract rfl rfl ?_
          refine VL.assign rfl ?_
          refine VL.assign rfl ?_
          refine VL.nn ?_
          refine VC.seq ?_
          refine VC.sr ?_
          refine VL.move rfl ?_
          refine VL.fieldAddr rfl fo57_3 rfl ?_
          refine VL.load (v := .int .i64 (y.idx)) 0 3 rfl kd3 (fun _ h => h) rfl rfl rfl ?_
          refine VL.geq rfl rfl ?_
          refine VL.case (fun h31 => ?_) (fun h31 => ?_)
          ·refine VL.move rfl ?_
           refine VL.go rfl rfl rfl ?_
           refine VL.fieldAddr rfl fo57_3 rfl ?_
           refine VL.go rfl rfl rfl ?_
           refine VL.load (v := .int .i64 (y.idx)) 0 3 rfl kd3 (fun _ h => h) rfl rfl rfl ?_
           refine VL.go rfl rfl rfl ?_
           refine VL.move rfl ?_
           refine VL.go rfl rfl rfl ?_
           refine VL.len Try.underlying47 rfl rfl ?_
           refine VL.go rfl rfl rfl ?_
           refine VL.lss rfl rfl ?_
           refine VL.case (fun h319 => ?_) (fun h319 => ?_)
           ·refine VL.pick_t rfl rfl ?_
            refine VL.move rfl ?_
            refine VL.go rfl rfl rfl ?_
            refine VL.move rfl ?_
            refine VL.go rfl rfl rfl ?_
            refine VL.len Try.underlying47 rfl rfl ?_
            refine VL.go rfl rfl rfl ?_
            refine VL.lss rfl rfl ?_
            refine VL.no (by omega) ?_
            refine VL.pick_t rfl rfl ?_
            refine VL.bneq Try.underlying4 rfl rfl ?_
            refine VL.nn ?_
            refine VC.no rfl ?_
            refine VC.skip ?_
            refine VX.next ?_
            refine VC.seq ?_
            refine VC.sr ?_
            refine VL.move rfl ?_
            refine VL.nn ?_
            refine VC.no rfl ?_
            refine VC.skip ?_
            refine VX.next ?_
            refine VC.region ?_
            refine VL.move rfl ?_
            refine VL.assign rfl ?_
            refine VL.nil ?_
            refine VX.block_normal ?_
            refine VX.next ?_
            refine VC.sr ?_
            refine VL.move rfl ?_
            refine VL.move rfl ?_
            refine VL.call Try.func47 rfl (by decide) rfl (fun w' hw => sameBags_w hw (hX65.nowA (s := ⟨w61, _⟩) Mono_par hw) (hY2.nowA (s := ⟨wa, _⟩) Mono_par hw)) (fun v => ?_)
            refine VL.fact fun e66 => ?_
            subst e66
            refine VL.not rfl ?_
            refine VL.nn ?_
            refine VC.no rfl ?_
            refine VC.skip ?_
            refine VX.block_normal ?_
            refine VX.next ?_
            refine VC.region ?_
            refine VL.move rfl ?_
            refine VL.add rfl rfl (by simp only [InR]; omega) ?_
            refine VL.assign rfl ?_
            refine VL.nil ?_
            refine VX.round (xs, q63, d64, q2, d2, k + 1) ⟨rfl, rfl, rfl, rfl, trivial⟩ (fun w' h => ⟨⟨by omega, by omega, hlen, hbs⟩, (hX65.nowA (s := ⟨w61, _⟩) Mono_par h.drop), (hY2.nowA (s := ⟨wa, _⟩) Mono_par h.drop), h.drop.subA⟩) (by show ps.length - (k + 1) < ps.length - k; omega)
           ·refine VL.pick_t rfl rfl ?_
            refine VL.move rfl ?_
            refine VL.pass rfl rfl rfl rfl rfl ?_
            refine VL.pass rfl rfl rfl rfl rfl ?_
            refine VL.pass rfl rfl rfl rfl rfl ?_
            refine VL.pick_f rfl rfl ?_
            refine VL.bneq Try.underlying4 rfl rfl ?_
            refine VL.nn ?_
            refine VC.no rfl ?_
            refine VC.skip ?_
            refine VX.next ?_
            refine VC.seq ?_
            refine VC.sr ?_
            refine VL.move rfl ?_
            refine VL.nn ?_
            refine VC.no rfl ?_
            refine VC.skip ?_
            refine VX.next ?_
            refine VC.region ?_
            refine VL.move rfl ?_
            refine VL.assign rfl ?_
            refine VL.nil ?_
            refine VX.block_normal ?_
            refine VX.next ?_
            refine VC.sr ?_
            refine VL.move rfl ?_
            refine VL.move rfl ?_
            refine VL.call Try.func47 rfl (by decide) rfl (fun w' hw => sameBags_w hw (hX65.nowA (s := ⟨w61, _⟩) Mono_par hw) (hY2.nowA (s := ⟨wa, _⟩) Mono_par hw)) (fun v => ?_)
            refine VL.fact fun e67 => ?_
            subst e67
            refine VL.not rfl ?_
            refine VL.nn ?_
            refine VC.no rfl ?_
            refine VC.skip ?_
            refine VX.block_normal ?_
            refine VX.next ?_
            refine VC.region ?_
            refine VL.move rfl ?_
            refine VL.add rfl rfl (by simp only [InR]; omega) ?_
            refine VL.assign rfl ?_
            refine VL.nil ?_
            refine VX.round (xs, q63, d64, q2, d2, k + 1) ⟨rfl, rfl, rfl, rfl, trivial⟩ (fun w' h => ⟨⟨by omega, by omega, hlen, hbs⟩, (hX65.nowA (s := ⟨w61, _⟩) Mono_par h.drop), (hY2.nowA (s := ⟨wa, _⟩) Mono_par h.drop), h.drop.subA⟩) (by show ps.length - (k + 1) < ps.length - k; omega)
          ·refine VL.move rfl ?_
           refine VL.pass rfl rfl rfl rfl rfl ?_
           refine VL.pass rfl rfl rfl rfl rfl ?_
           refine VL.pass rfl rfl rfl rfl rfl ?_
           refine VL.pass rfl rfl rfl rfl rfl ?_
           refine VL.pass rfl rfl rfl rfl rfl ?_
           refine VL.pick_f rfl rfl ?_
           refine VL.move rfl ?_
           refine VL.pass rfl rfl rfl rfl rfl ?_
           refine VL.pass rfl rfl rfl rfl rfl ?_
           refine VL.pass rfl rfl rfl rfl rfl ?_
           refine VL.pick_f rfl rfl ?_
           refine VL.bneq Try.underlying4 rfl rfl ?_
           refine VL.nn ?_
           refine VC.no rfl ?_
           refine VC.skip ?_
           refine VX.next ?_
           refine VC.seq ?_
           refine VC.sr ?_
           refine VL.move rfl ?_
           refine VL.nn ?_
           refine VC.no rfl ?_
           refine VC.skip ?_
           refine VX.next ?_
           refine VC.region ?_
           refine VL.move rfl ?_
           refine VL.assign rfl ?_
           refine VL.nil ?_
           refine VX.block_normal ?_
           refine VX.next ?_
           refine VC.sr ?_
           refine VL.move rfl ?_
           refine VL.move rfl ?_
           refine VL.call Try.func47 rfl (by decide) rfl (fun w' hw => sameBags_w hw (hX65.nowA (s := ⟨w61, _⟩) Mono_par hw) (hY2.nowA (s := ⟨wa, _⟩) Mono_par hw)) (fun v => ?_)
           refine VL.fact fun e68 => ?_
           subst e68
           refine VL.not rfl ?_
           refine VL.nn ?_
           refine VC.no rfl ?_
           refine VC.skip ?_
           refine VX.block_normal ?_
           refine VX.next ?_
           refine VC.region ?_
           refine VL.move rfl ?_
           refine VL.add rfl rfl (by simp only [InR]; omega) ?_
           refine VL.assign rfl ?_
           refine VL.nil ?_
           refine VX.round (xs, q63, d64, q2, d2, k + 1) ⟨rfl, rfl, rfl, rfl, trivial⟩ (fun w' h => ⟨⟨by omega, by omega, hlen, hbs⟩, (hX65.nowA (s := ⟨w61, _⟩) Mono_par h.drop), (hY2.nowA (s := ⟨wa, _⟩) Mono_par h.drop), h.drop.subA⟩) (by show ps.length - (k + 1) < ps.length - k; omega)
        ·refine VL.assign rfl ?_
         refine VL.nn ?_
         refine VC.no rfl ?_
         refine VC.seq ?_
         apply VC.anyTA 7 1009 (F := [eqF _, eqF _, eqF _, eqF _, eqF _, eqF _, eqF _]) [⟨[], [3]⟩, ⟨[], [6]⟩, ⟨[(44, 1)], []⟩, ⟨[(43, 0), (45, 2)], []⟩, ⟨[], [4]⟩, ⟨[], [6]⟩, ⟨[(48, 5)], []⟩] [(46, 3), (47, 4), (49, 6)] [0, 2, 3, 4, 5, 6, 7, 8, 9, 10, 11, 12, 13, 14, 15, 16, 17, 18, 19, 20, 21, 22, 23, 24, 25, 26, 27, 28, 29, 30, 31, 32, 33, 34, 35, 36, 37, 38, 39, 40, 41, 42, 50, 51, 52, 53, 54, 55, 56, 57, 58, 59, 60, 61, 62, 63, 64, 65, 66, 67, 68, 69, 70, 71, 72, 73, 74, 75, 76, 77, 78, 79, 80, 81, 82, 83, 84, 85, 86, 87, 88, 89, 90, 91, 92, 93, 94, 95, 96, 97, 98, 99, 100, 101, 102, 103, 104, 105, 106, 107, 108, 109, 110, 111, 112, 113, 114, 115, 116, 117, 118, 119, 120, 121, 122, 123, 124, 125, 126, 127, 128, 129, 130, 131, 132, 133, 134, 135, 136, 137, 138, 139, 140, 141, 142, 143, 144, 145, 146, 147, 148, 149, 150, 151, 152, 153, 154, 155, 156, 157, 158, 159] rfl (by kernel_rfl) (by kernel_rfl) rfl rfl (by kernel_rfl) (by kernel_rfl) (by kernel_rfl) rfl ?obs11 ?end11
         case obs11 =>
          refine Obs.cons ?_ ?_
          ·refine obS (by kernel_rfl) rfl rfl (fun ph11 w11 hO11 => ?_)
           refine VL.move rfl ?_
           exact VL.finS hO11 rfl rfl
          refine Obs.cons ?_ ?_
          ·refine obS (by kernel_rfl) rfl rfl (fun ph11 w11 hO11 => ?_)
           refine VL.fieldAddr rfl fo57_4 rfl ?_
           exact VL.finS hO11 rfl rfl
          refine Obs.cons ?_ ?_
          ·refine ob (by kernel_rfl) rfl (by kernel_rfl) rfl (fun w11 hO11 => ?_)
           rintro _ rfl
           refine VL.load (v := .int .u32 (y.at_)) 0 4 rfl kd48 (fun _ e => e ▸ hO11) rfl rfl rfl ?_
           exact VL.finS hO11 rfl rfl
          refine Obs.cons ?_ ?_
          ·refine ob (by kernel_rfl) rfl (by kernel_rfl) rfl (fun w11 hO11 => ?_)
           rintro _ rfl _ rfl
           refine VL.toOwn hO11 ?_
           refine VL.call Try.func38 rfl (by decide) rfl (fun w' hw => ripe_w hw (hY1.nowA (s := ⟨wa, _⟩) Mono_par hw) (by omega) (now := y.at_) hy.at_) (fun v => ?_)
           refine VL.fact fun e69 => ?_
           subst e69
           exact VL.finO rfl (fun _ h => h.subA) (fun _ h => rfl)
          refine Obs.cons ?_ ?_
          ·refine obS (by kernel_rfl) rfl rfl (fun ph11 w11 hO11 => ?_)
           refine VL.move rfl ?_
           exact VL.finS hO11 rfl rfl
          refine Obs.cons ?_ ?_
          ·refine obS (by kernel_rfl) rfl rfl (fun ph11 w11 hO11 => ?_)
           refine VL.fieldAddr rfl fo57_4 rfl ?_
           exact VL.finS hO11 rfl rfl
          refine Obs.cons ?_ ?_
          ·refine ob (by kernel_rfl) rfl (by kernel_rfl) rfl (fun w11 hO11 => ?_)
           rintro _ rfl
           refine VL.load (v := .int .u32 (y.at_)) 0 4 rfl kd48 (fun _ e => e ▸ hO11) rfl rfl rfl ?_
           exact VL.finS hO11 rfl rfl
          exact Obs.nil
         case end11 =>
          intro w11 hO11
          rintro _ rfl _ rfl _ rfl
          refine VL.toOwn hO11 ?_
          refine VL.call Try.func39 rfl (by decide) rfl (fun w' hw => refRipe_w hw (hY2.nowA (s := ⟨wa, _⟩) Mono_par hw) (by omega) (now := y.at_) hy.at_) (fun v => ?_)
          refine VL.fact fun e70 => ?_
          subst e70
          refine VL.neq rfl rfl ?_
          refine VL.no (by omega) ?_
          refine VL.nn ?_
          refine VC.no rfl ?_
          refine VC.skip ?_
          refine VX.block_normal ?_
          refine VX.next ?_
          refine VC.sr ?_
          refine VL.move rfl ?_
          refine VL.move rfl ?_
          refine VL.call Try.func47 rfl (by decide) rfl (fun w' hw => sameBags_w hw (hY1.nowA (s := ⟨wa, _⟩) Mono_par hw) (hY2.nowA (s := ⟨wa, _⟩) Mono_par hw)) (fun v => ?_)
          refine VL.fact fun e71 => ?_
          subst e71
          refine VL.not rfl ?_
          refine VL.nn ?_
          refine VC.no rfl ?_
          refine VC.skip ?_
          refine VX.block_normal ?_
          refine VX.next ?_
          refine VC.region ?_
          refine VL.move rfl ?_
          refine VL.add rfl rfl (by simp only [InR]; omega) ?_
          refine VL.assign rfl ?_
          refine VL.nil ?_
          refine VX.round (xs, q1, d1, q2, d2, k + 1) ⟨rfl, rfl, rfl, rfl, trivial⟩ (fun w' h => ⟨⟨by omega, by omega, hlen, hbs⟩, (hY1.nowA (s := ⟨wa, _⟩) Mono_par h.drop), (hY2.nowA (s := ⟨wa, _⟩) Mono_par h.drop), h.drop.subA⟩) (by show ps.length - (k + 1) < ps.length - k; omega)
   ·refine VL.pick_t rfl rfl ?_
    refine VL.nn ?_
    refine VC.no rfl ?_
    refine VC.exit ?_
    refine VX.then_exit ?_
    refine VX.then_exit ?_
    refine VX.block_here ?_
    refine VX.next ?_
    refine VC.sr ?_
    refine VL.assign rfl ?_
    refine VL.nn ?_
    refine VC.ret ?_
    refine VX.ret1 rfl rfl (fun we hw => ?_)
    exact ⟨rfl, hw.subA⟩
  ·refine VL.move rfl ?_
   refine VL.pass rfl rfl rfl rfl rfl ?_
   refine VL.pass rfl rfl rfl rfl rfl ?_
   refine VL.pick_f rfl rfl ?_
   refine VL.nn ?_
   refine VC.no rfl ?_
   refine VC.exit ?_
   refine VX.then_exit ?_
   refine VX.then_exit ?_
   refine VX.block_here ?_
   refine VX.next ?_
   refine VC.sr ?_
   refine VL.assign rfl ?_
   refine VL.nn ?_
   refine VC.ret ?_
   refine VX.ret1 rfl rfl (fun we hw => ?_)
   exact ⟨rfl, hw.subA⟩

end Go.Proofs.Ytcfecmoagfgnaaa

/- The dump's head, taken apart once: its kernel's run is long. -/
set_option maxRecDepth 100000
namespace Go.Proofs.Ytcfecmoagfgnaaa
open Go

def signs : List Char := [104, 97, 114, 110, 101, 115, 115, 32, 102, 100, 52, 102, 57, 98, 57, 102, 49, 55, 56, 57, 57, 51, 101, 97, 57, 99, 99, 102, 101, 98, 51, 98, 102, 53, 98, 50, 100, 102, 54, 99, 50, 101, 100, 98, 49, 51, 57, 102, 51, 101, 52, 102, 100, 56, 51, 97, 49, 50, 97, 97, 48, 99, 53, 98, 50, 54, 97, 51, 52, 53, 48, 48, 32, 99, 117, 116, 32, 97, 116, 32, 109, 105, 115, 115, 105, 118, 101, 47, 109, 105, 115, 115, 105, 118, 101, 108, 97, 119, 48, 50, 46, 79, 99, 116, 101, 116, 78, 117, 109, 98, 101, 114, 115, 32, 109, 105, 115, 115, 105, 118, 101, 47, 109, 105, 115, 115, 105, 118, 101, 108, 97, 119, 48, 50, 46, 79, 99, 116, 101, 116, 74, 111, 105, 110, 115, 32, 109, 105, 115, 115, 105, 118, 101, 47, 109, 105, 115, 115, 105, 118, 101, 108, 97, 119, 48, 50, 46, 79, 99, 116, 101, 116, 83, 112, 108, 105, 116, 115, 32, 109, 105, 115, 115, 105, 118, 101, 47, 109, 105, 115, 115, 105, 118, 101, 108, 97, 119, 48, 50, 46, 79, 99, 116, 101, 116, 67, 117, 116, 32, 109, 105, 115, 115, 105, 118, 101, 47, 109, 105, 115, 115, 105, 118, 101, 108, 97, 119, 48, 50, 46, 79, 99, 116, 101, 116, 79, 119, 110, 32, 109, 105, 115, 115, 105, 118, 101, 47, 109, 105, 115, 115, 105, 118, 101, 108, 97, 119, 48, 50, 46, 79, 99, 116, 101, 116, 66, 121, 116, 101, 115, 32, 109, 105, 115, 115, 105, 118, 101, 47, 109, 105, 115, 115, 105, 118, 101, 108, 97, 119, 50, 52, 46, 66, 97, 103, 82, 105, 112, 101, 32, 109, 105, 115, 115, 105, 118, 101, 47, 109, 105, 115, 115, 105, 118, 101, 108, 97, 119, 50, 52, 46, 66, 97, 103, 80, 108, 97, 121, 115, 32, 109, 105, 115, 115, 105, 118, 101, 47, 109, 105, 115, 115, 105, 118, 101, 108, 97, 119, 50, 52, 46, 66, 97, 103, 79, 119, 110, 32, 109, 105, 115, 115, 105, 118, 101, 47, 109, 105, 115, 115, 105, 118, 101, 108, 97, 119, 49, 52, 46, 87, 105, 114, 101, 76, 101, 116, 116, 101, 114, 115, 32, 109, 105, 115, 115, 105, 118, 101, 47, 109, 105, 115, 115, 105, 118, 101, 108, 97, 119, 49, 52, 46, 87, 105, 114, 101, 73, 116, 101, 109, 115, 32, 109, 105, 115, 115, 105, 118, 101, 47, 109, 105, 115, 115, 105, 118, 101, 108, 97, 119, 49, 52, 46, 87, 105, 114, 101, 66, 117, 110, 100, 108, 101, 115, 32, 109, 105, 115, 115, 105, 118, 101, 47, 109, 105, 115, 115, 105, 118, 101, 108, 97, 119, 49, 52, 46, 87, 105, 114, 101, 79, 98, 106, 101, 99, 116, 115, 32, 109, 105, 115, 115, 105, 118, 101, 47, 109, 105, 115, 115, 105, 118, 101, 108, 97, 119, 50, 49, 46, 70, 101, 100, 113, 84, 97, 107, 101, 115, 32, 109, 105, 115, 115, 105, 118, 101, 47, 109, 105, 115, 115, 105, 118, 101, 108, 97, 119, 49, 52, 46, 87, 105, 114, 101, 67, 97, 108, 108, 115, 32, 109, 105, 115, 115, 105, 118, 101, 47, 109, 105, 115, 115, 105, 118, 101, 108, 97, 119, 49, 52, 46, 87, 105, 114, 101, 84, 117, 114, 110, 101, 100, 32, 109, 105, 115, 115, 105, 118, 101, 47, 109, 105, 115, 115, 105, 118, 101, 108, 97, 119, 49, 52, 46, 87, 105, 114, 101, 82, 101, 112, 108, 105, 101, 115, 32, 109, 105, 115, 115, 105, 118, 101, 47, 109, 105, 115, 115, 105, 118, 101, 108, 97, 119, 49, 52, 46, 87, 105, 114, 101, 80, 97, 99, 107, 101, 116, 115, 32, 109, 105, 115, 115, 105, 118, 101, 47, 109, 105, 115, 115, 105, 118, 101, 108, 97, 119, 49, 52, 46, 87, 105, 114, 101, 82, 101, 97, 100, 115, 32, 109, 105, 115, 115, 105, 118, 101, 47, 109, 105, 115, 115, 105, 118, 101, 108, 97, 119, 50, 49, 46, 70, 101, 100, 113, 82, 111, 119, 115, 32, 109, 105, 115, 115, 105, 118, 101, 47, 109, 105, 115, 115, 105, 118, 101, 108, 97, 119, 50, 49, 46, 70, 101, 100, 113, 76, 111, 97, 100, 115].map Char.ofNat
def words : List (List Char) := [[104, 97, 114, 110, 101, 115, 115], [102, 100, 52, 102, 57, 98, 57, 102, 49, 55, 56, 57, 57, 51, 101, 97, 57, 99, 99, 102, 101, 98, 51, 98, 102, 53, 98, 50, 100, 102, 54, 99, 50, 101, 100, 98, 49, 51, 57, 102, 51, 101, 52, 102, 100, 56, 51, 97, 49, 50, 97, 97, 48, 99, 53, 98, 50, 54, 97, 51, 52, 53, 48, 48], [99, 117, 116], [97, 116], [109, 105, 115, 115, 105, 118, 101, 47, 109, 105, 115, 115, 105, 118, 101, 108, 97, 119, 48, 50, 46, 79, 99, 116, 101, 116, 78, 117, 109, 98, 101, 114, 115], [109, 105, 115, 115, 105, 118, 101, 47, 109, 105, 115, 115, 105, 118, 101, 108, 97, 119, 48, 50, 46, 79, 99, 116, 101, 116, 74, 111, 105, 110, 115], [109, 105, 115, 115, 105, 118, 101, 47, 109, 105, 115, 115, 105, 118, 101, 108, 97, 119, 48, 50, 46, 79, 99, 116, 101, 116, 83, 112, 108, 105, 116, 115], [109, 105, 115, 115, 105, 118, 101, 47, 109, 105, 115, 115, 105, 118, 101, 108, 97, 119, 48, 50, 46, 79, 99, 116, 101, 116, 67, 117, 116], [109, 105, 115, 115, 105, 118, 101, 47, 109, 105, 115, 115, 105, 118, 101, 108, 97, 119, 48, 50, 46, 79, 99, 116, 101, 116, 79, 119, 110], [109, 105, 115, 115, 105, 118, 101, 47, 109, 105, 115, 115, 105, 118, 101, 108, 97, 119, 48, 50, 46, 79, 99, 116, 101, 116, 66, 121, 116, 101, 115], [109, 105, 115, 115, 105, 118, 101, 47, 109, 105, 115, 115, 105, 118, 101, 108, 97, 119, 50, 52, 46, 66, 97, 103, 82, 105, 112, 101], [109, 105, 115, 115, 105, 118, 101, 47, 109, 105, 115, 115, 105, 118, 101, 108, 97, 119, 50, 52, 46, 66, 97, 103, 80, 108, 97, 121, 115], [109, 105, 115, 115, 105, 118, 101, 47, 109, 105, 115, 115, 105, 118, 101, 108, 97, 119, 50, 52, 46, 66, 97, 103, 79, 119, 110], [109, 105, 115, 115, 105, 118, 101, 47, 109, 105, 115, 115, 105, 118, 101, 108, 97, 119, 49, 52, 46, 87, 105, 114, 101, 76, 101, 116, 116, 101, 114, 115], [109, 105, 115, 115, 105, 118, 101, 47, 109, 105, 115, 115, 105, 118, 101, 108, 97, 119, 49, 52, 46, 87, 105, 114, 101, 73, 116, 101, 109, 115], [109, 105, 115, 115, 105, 118, 101, 47, 109, 105, 115, 115, 105, 118, 101, 108, 97, 119, 49, 52, 46, 87, 105, 114, 101, 66, 117, 110, 100, 108, 101, 115], [109, 105, 115, 115, 105, 118, 101, 47, 109, 105, 115, 115, 105, 118, 101, 108, 97, 119, 49, 52, 46, 87, 105, 114, 101, 79, 98, 106, 101, 99, 116, 115], [109, 105, 115, 115, 105, 118, 101, 47, 109, 105, 115, 115, 105, 118, 101, 108, 97, 119, 50, 49, 46, 70, 101, 100, 113, 84, 97, 107, 101, 115], [109, 105, 115, 115, 105, 118, 101, 47, 109, 105, 115, 115, 105, 118, 101, 108, 97, 119, 49, 52, 46, 87, 105, 114, 101, 67, 97, 108, 108, 115], [109, 105, 115, 115, 105, 118, 101, 47, 109, 105, 115, 115, 105, 118, 101, 108, 97, 119, 49, 52, 46, 87, 105, 114, 101, 84, 117, 114, 110, 101, 100], [109, 105, 115, 115, 105, 118, 101, 47, 109, 105, 115, 115, 105, 118, 101, 108, 97, 119, 49, 52, 46, 87, 105, 114, 101, 82, 101, 112, 108, 105, 101, 115], [109, 105, 115, 115, 105, 118, 101, 47, 109, 105, 115, 115, 105, 118, 101, 108, 97, 119, 49, 52, 46, 87, 105, 114, 101, 80, 97, 99, 107, 101, 116, 115], [109, 105, 115, 115, 105, 118, 101, 47, 109, 105, 115, 115, 105, 118, 101, 108, 97, 119, 49, 52, 46, 87, 105, 114, 101, 82, 101, 97, 100, 115], [109, 105, 115, 115, 105, 118, 101, 47, 109, 105, 115, 115, 105, 118, 101, 108, 97, 119, 50, 49, 46, 70, 101, 100, 113, 82, 111, 119, 115], [109, 105, 115, 115, 105, 118, 101, 47, 109, 105, 115, 115, 105, 118, 101, 108, 97, 119, 50, 49, 46, 70, 101, 100, 113, 76, 111, 97, 100, 115]].map (List.map Char.ofNat)
theorem signs_is : Try.prog.initOrder.toList = signs := String.toList_ofList (l := signs)
theorem words_is : wordsSigns Try.prog.initOrder.toList = words := by rw [signs_is]; kernel_rfl
theorem mayEnter_is : Try.prog.mayEnter = true := by unfold Program.mayEnter; rw [words_is]; kernel_rfl
theorem headLifts_is : Try.prog.headLifts = [] := by unfold Program.headLifts; rw [words_is]; kernel_rfl
theorem liftsFinal_is : Try.prog.liftsFinal = Rows.octetJoinsRow.lifted := by unfold Program.liftsFinal; rw [words_is, headLifts_is]; kernel_rfl
theorem make_is : Try.prog.make = some Rows.octetJoinsRow.make := by unfold Program.make; rw [words_is, headLifts_is]; kernel_rfl
end Go.Proofs.Ytcfecmoagfgnaaa

/- The statement BagPlays. -/
set_option maxRecDepth 100000
namespace Go.Proofs.Ytcfecmoagfgnaaa.bagPlays
open Go.ChangeShapes Go.WideShapes Go.ChangeAt Go.RowKit Go.Vc Go.Pl

theorem own : ownKnob Try.prog.godebug = none := by kernel_rfl

theorem lifted (os : Os) (started : os.Started) (H : Type) (enc : TypeId × Value → H) :
  ReturnsInHanded {} Try.checked os 10 .any (Rows.bagPlaysSpec.pre6 enc Try.prog Try.f10 Rows.bagPlaysRow.domain false) (Rows.bagPlaysSpec.post enc Try.prog Try.f10 false true false false) := by
 refine law_of (C := Try.checked) (tb := 4) started own (by kernel_rfl) Try.func10
  (ChangeSpec.witness6 (enc := enc) (C := Try.checked) false ⟨#[], #[.slice none 0 0], []⟩ 8 (by kernel_rfl) (by kernel_rfl) (by kernel_rfl) (by kernel_rfl)) rfl (by kernel_rfl) Try.underlying4 (by kernel_rfl) (by kernel_rfl) ?_
 intro W base args ds ps hval0 hAA hsz
 have hval : ∀ (j : Nat) t v, Try.f10.params[j]? = some t → args[j]? = some v → Value.okWide Try.prog W .any base t v := hval0
 have hA : DataW.TrodAll enc Try.prog W 0 (fun _ => true) true Try.f10.params.toList args.toList ds ps := hAA
 rw [Try.params10] at hA hval
 obtain ⟨v0, vs0, d0, ds0, p0, q0, hargs, rfl, rfl, h0, r0⟩ := trodAll_cons hA
 obtain ⟨rfl, rfl, rfl⟩ := trodAll_nil r0
 obtain rfl : args = #[v0] := by cases args; simp_all
 obtain ⟨p0, l0, c0, rfl, hA0⟩ := Opens.value Try.underlying55 (Opens.slice (sz := 6) Try.underlying55 (by kernel_rfl) (by decide) open57) (hval 0 55 v0 rfl rfl) h0
 exact ⟨rfl, bagPlays_w (Own.start W) hA0⟩

theorem closed : joinedFacts Try.prog 10 Try.f10 Rows.bagPlaysSpec Rows.bagPlaysRow = true := by
 unfold joinedFacts
 rw [mayEnter_is, liftsFinal_is, make_is]
 kernel_rfl

theorem over : Rows.bagPlaysRow.holds Try.pinned (OpenSpec.ofChange Rows.bagPlaysSpec) :=
 OpenClaim.holds_of_wide 10 Try.f10 rfl rfl rfl rfl rfl rfl rfl ⟨rfl, rfl, rfl, rfl, rfl⟩ rfl rfl rfl rfl rfl (by kernel_rfl) Try.func10 closed
  (of_decide_eq_true (by kernel_rfl)) (by unfold Func.isWrapper; first | (rw [if_pos (by decide +kernel)]; kernel_rfl) | (rw [if_neg (by decide +kernel)]; exact ⟨rfl, rfl⟩))
  (fun os started H enc _ => lifted os started H enc)

/-- The statement. -/
theorem proved : Rows.BagPlaysSaid :=
 over
end Go.Proofs.Ytcfecmoagfgnaaa.bagPlays

