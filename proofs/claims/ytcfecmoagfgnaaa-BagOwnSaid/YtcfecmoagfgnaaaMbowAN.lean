/- The statement BagOwn is proved, for every input: part 14 of 14 of the texts that it needs. -/
import Derived.Test.YtcfecmoagfgnaaaMbowAM
import Derived.Test.YtcfecmoagfgnaaaRows
/- The law on what a bag owns. -/
namespace Go.Proofs.Ytcfecmoagfgnaaa
open Go.Vc Go.Pl

theorem vcToOwnC {P : Program} {n : Nat} {Q : Exit → Act → World → Prop} {S : List Snap} {H : List Chunk} {c : Code} {w0 : World} {σ : Sl} (hO : Own S H w0) (h : VC P n Q c σ (Own (⟨w0, keys H⟩ :: S) H)) : VC P n Q c σ (fun w => w = w0) := VC.turn (fun w e => by subst e; exact hO.keep) h

theorem bagOwn_w {S : List Snap} {H : List Chunk} {w : World} (ho : Own S H w) {a b : Nat} (ha : a < 256) (hb : b < 256) {p : Option Addr} {l : List UInt8} {c : Nat} (hA : Bytes (keys H) w p l c) : Calls Try.prog 11 #[.int .u8 (a : Int), .int .u8 (b : Int), .slice p l.length c] w (Ret fun v w' => v = .bool true ∧ Own S H w') := by
 refine enter (G := Own (⟨w, keys H⟩ :: S) H) ho.keep Try.func11 rfl Try.ntmps11 rfl ?_
 refine VC.sr ?_
 refine VL.assign rfl ?_
 refine VL.nn ?_
 refine VC.seq ?_
 refine VC.sr ?_
 refine VL.call Try.func37 rfl (by decide) rfl (fun w' hw => alive24_w hw) (fun v => ?_)
 refine VL.fact fun e1 => ?_
 subst e1
 refine VL.not rfl ?_
 refine VL.nn ?_
 refine VC.no rfl ?_
 refine VC.skip ?_
 refine VX.next ?_
 refine VC.seq ?_
 refine VC.sr ?_
 refine VL.move rfl ?_
 refine VL.len Try.underlying24 rfl rfl ?_
 refine VL.gtr rfl rfl ?_
 refine VL.case (fun h3 => ?_) (fun h3 => ?_)
 ·refine VL.nn ?_
  refine VC.yes rfl ?_
  refine VC.sr ?_
  refine VL.assign rfl ?_
  refine VL.nn ?_
  refine VC.ret ?_
  refine VX.then_ret ?_
  refine VX.ret1 rfl rfl (fun we hw => ?_)
  exact ⟨rfl, hw.subA⟩
 ·refine VL.nn ?_
  refine VC.no rfl ?_
  refine VC.skip ?_
  refine VX.next ?_
  refine VC.sr ?_
  refine VL.move rfl ?_
  refine VL.move rfl ?_
  refine VL.move rfl ?_
  refine VL.call Try.func41 rfl (by decide) rfl (fun w' hw => lawBytes_own hw ha hb (hA.nowA (s := ⟨w, _⟩) Mono.byte hw)) (fun v => ?_)
  have hz := law_zero (l := l) ha hb (by omega)
  have hsrc := law_src (l := l) ha hb (by omega)
  have hdst := law_dst (l := l) ha hb (by omega)
  have hlen := law_len (a := a) (b := b) (l := l) (by omega)
  generalize lawB a b l = L at *
  refine VL.at (fun w2 h1w => ?_)
  obtain ⟨gR, cR, rfl, hO3⟩ := h1w
  refine VL.toOwn hO3 ?_
  refine VL.assign rfl ?_
  refine VL.nn ?_
  refine VC.sr ?_
  refine VL.lit el24 rfl rfl rfl (by simp) (by simp [ok1]) (fun g6 => ?_)
  refine VL.move rfl ?_
  refine VL.append 0 el24 rfl rfl rfl rfl (fun _ h => h.rowCells 1 rfl) (by simp) (ok1_bytes L) (by omega) (by omega) (fun g8 c8 => ?_)
  refine VL.newv (v' := rowV g8 L.length c8) (by rw [Nat.zero_add]) ?_
  refine VL.assign rfl ?_
  refine VL.nn ?_
  refine VC.seq ?_
  refine VC.letBytes L (by omega) (by simp) (fun w8 hO8 hB8 => ?_)
  by_cases h23 : servN a < 4 ∧ servN b < 4
  ·refine VC.region ?_
   refine VL.move rfl ?_
   refine VL.call Try.func42 rfl (by decide) rfl (fun w' hw => lay_own hw (Vw.ofRow 0 rfl rfl rfl) hz (by rw [hsrc]; exact h23.1) (by rw [hdst]; exact h23.2) (by omega)) (fun v => ?_)
   refine VL.at (fun w4 h1w => ?_)
   obtain ⟨q6, d7, rfl, hO5, hX8⟩ := h1w
   refine VL.toOwn hO5 ?_
   refine VL.move rfl ?_
   refine VL.extract rfl rfl ?_
   refine VL.extract rfl rfl ?_
   refine VL.assign rfl ?_
   refine VL.assign rfl ?_
   refine VL.nn ?_
   refine VC.seq ?_
   refine VC.sr ?_
   refine VL.move rfl ?_
   refine VL.not rfl ?_
   refine VL.nn ?_
   refine VC.no rfl ?_
   refine VC.skip ?_
   refine VX.next ?_
   refine VC.sr ?_
   refine VL.move rfl ?_
   refine VL.call Try.func46 rfl (by decide) rfl (fun w' hw => double_1 hw (hX8.nowA (s := ⟨w4, _⟩) Mono_par hw) (by show L.length ≤ 140737488351232; omega)) (fun v => ?_)
   refine VL.at (fun w9 h1w => ?_)
   obtain ⟨q11, d12, rfl, hO10, hX13⟩ := h1w
   refine VL.toOwn hO10 ?_
   refine VL.move rfl ?_
   refine VL.extract rfl rfl ?_
   refine VL.extract rfl rfl ?_
   refine VL.assign rfl ?_
   refine VL.assign rfl ?_
   refine VL.nn ?_
   refine VC.seq ?_
   refine VC.seq ?_
   refine VC.at (fun wz hz7 => ?_)
   have hB8z : Bytes (keys (row 5 1 gR L.length cR (L.map bv) :: H)) wz (g8.map fun g => (⟨g, 0, none⟩ : Addr)) L c8 := (hB8.nowA (s := ⟨w8, _⟩) Mono.byte hz7)
   have hP9z : Arr 4 parR (keys (row 5 1 gR L.length cR (L.map bv) :: H)) wz q6 [(layP L 0)] d7 := (hX8.nowA (s := ⟨w4, _⟩) Mono_par hz7)
   have hDz : Arr 4 parR (keys (row 5 1 gR L.length cR (L.map bv) :: H)) wz q11 [(layP L 0), (layP L 0)] d12 := (hX13.nowA (s := ⟨w9, _⟩) Mono_par hz7)
   refine vcToOwnC hz7 ?_
   refine VC.turn (G' := Own (⟨wz, keys (row 5 1 gR L.length cR (L.map bv) :: H)⟩ :: ⟨w, keys H⟩ :: S) (row 5 1 gR L.length cR (L.map bv) :: H)) (fun _ h => h.sub (fun _ hs => (List.mem_cons.1 hs).elim (fun e => e ▸ List.mem_cons_self ..) (fun hs => by repeat (first | exact hs | apply List.mem_cons_of_mem)))) ?_
   refine VC.region ?_
   refine VL.assign rfl ?_
   refine VL.nn ?_
   refine VC.block ?_
   refine VC.loop (X := Nat × List UInt8) (fun (k, l') => [(7, rowV gR L.length cR), (8, .slice (g8.map fun g => (⟨g, 0, none⟩ : Addr)) L.length c8), (9, .slice q6 1 d7), (15, .slice q11 2 d12), (17, .int .i64 (k : Int))]) (fun (k, l') w' => (k ≤ L.length ∧ l'.length = L.length) ∧ Own (⟨wz, keys (row 5 1 gR L.length cR (L.map bv) :: H)⟩ :: ⟨w, keys H⟩ :: S) (row 5 1 gR L.length cR (l'.map bv) :: H) w') (fun (k, _) => L.length - k) (0, L) ⟨rfl, rfl, rfl, rfl, rfl, trivial⟩ (fun w' h => ⟨⟨Nat.zero_le _, rfl⟩, h.subA⟩) (fun (k, l') => VC.fact fun ⟨hk, hl'⟩ => ?_)
   ·skip
    refine VC.seq ?_
    refine VC.sr ?_
    refine VL.move rfl ?_
    refine VL.move rfl ?_
    refine VL.len Try.underlying24 rfl rfl ?_
    refine VL.lss rfl rfl ?_
    refine VL.case (fun h14 => ?_) (fun h14 => ?_)
    ·refine VL.nn ?_
     refine VC.yes rfl ?_
     refine VC.skip ?_
     refine VX.next ?_
     refine VC.seq ?_
     refine VC.block ?_
     have hkl : k < L.length := by omega
     have hkl2 : k < l'.length := by omega
     refine someRowAt 0 rfl (by omega) (fun g7 e7 => ?_)
     subst e7
     refine VC.region ?_
     refine VL.move rfl ?_
     refine VL.move rfl ?_
     refine VL.rowIndex el24 rfl rfl (by omega) (by omega) ?_
     refine VL.newv (v' := .pointer (some ⟨g7, k, none⟩)) (by simp) ?_
     refine VL.rowByte (l := l') (y := l'[k]) 0 rfl kd5 (fun _ h => h) rfl (by simp [hkl2]) ?_
     refine VL.addw rfl rfl ?_
     rw [show ((l'[k]).toNat : Int) + 1 = ((l'[k].toNat + 1 : Nat) : Int) from rfl, byte_wrap]
     refine VL.rowIndex el24 rfl rfl (by omega) (by omega) ?_
     refine VL.newv (v' := .pointer (some ⟨g7, k, none⟩)) (by simp) ?_
     refine VL.rowStore (v := bv (UInt8.ofNat (l'[k].toNat + 1))) 0 rfl rfl rfl kd5 rfl (by omega) ?_
     refine VL.turn (G' := Own _ (row 5 1 (some g7) L.length cR ((l'.set k (UInt8.ofNat (l'[k].toNat + 1))).map bv) :: H)) (fun w' h => by rw [List.map_set]; simpa using h) ?_
     refine VL.nil ?_
     refine VX.block_normal ?_
     refine VX.next ?_
     refine VC.region ?_
     refine VL.move rfl ?_
     refine VL.add rfl rfl (by simp only [InR]; omega) ?_
     refine VL.assign rfl ?_
     refine VL.nil ?_
     refine VX.round (k + 1, l'.set k (UInt8.ofNat (l'[k].toNat + 1))) ⟨rfl, rfl, rfl, rfl, rfl, trivial⟩ (fun w' h => ⟨⟨by omega, by simp [hl']⟩, h.subA⟩) (by show L.length - (k + 1) < L.length - k; omega)
    ·refine VL.nn ?_
     refine VC.no rfl ?_
     refine VC.exit ?_
     refine VX.then_exit ?_
     refine VX.then_exit ?_
     refine VX.block_here ?_
     refine VX.next ?_
     refine VC.sr ?_
     refine VL.move rfl ?_
     refine VL.call Try.func40 rfl (by decide) rfl (fun w' hw => takeO_0 hw (hDz.nowA (s := ⟨wz, _⟩) Mono_par hw) (by show L.length ≤ 140737488351232; omega)) (fun v => ?_)
     refine VL.at (fun w14 h1w => ?_)
     obtain ⟨q16, d17, gT, cT, rfl, hO15⟩ := h1w
     refine VL.toOwn hO15 ?_
     refine VL.move rfl ?_
     refine VL.extract rfl rfl ?_
     refine VL.extract rfl rfl ?_
     refine VL.extract rfl rfl ?_
     refine VL.alloc (L := parL) (ps := (parV (par0) none 0)) zero50 rfl rfl (fun g18 => ?_)
     refine VL.assign rfl ?_
     refine VL.store (L := parL) (qs := (parV ((layP L 0)) (gT.map fun g => (⟨g, 0, none⟩ : Addr)) cT)) (ps' := (parV ((layP L 0)) (gT.map fun g => (⟨g, 0, none⟩ : Addr)) cT)) 0 0 4 rfl rfl rfl (.inl kd50) rfl rfl (parV_len (layP_ok L 0)) (parV_ok1 ((layP L 0)) (gT.map fun g => (⟨g, 0, none⟩ : Addr)) cT) rfl rfl ?_
     refine VL.set0 ?_
     refine VL.assign rfl ?_
     refine VL.nn ?_
     refine VC.seq ?_
     refine VC.sr ?_
     refine VL.assign rfl ?_
     refine VL.nn ?_
     refine VC.block ?_
     have hbl : (layP L 0).bytes.length = L.length := rfl
     refine VC.loop (X := Nat × List UInt8) (fun (k, m) => [(8, .slice (g8.map fun g => (⟨g, 0, none⟩ : Addr)) L.length c8), (9, .slice q6 1 d7), (15, .slice q11 2 d12), (19, .pointer (some ⟨g18, 0, none⟩)), (21, .int .i64 (k : Int))]) (fun (k, m) w' => (k ≤ L.length ∧ m.length = L.length) ∧ Own (⟨wz, keys (row 5 1 gR L.length cR (L.map bv) :: H)⟩ :: ⟨w, keys H⟩ :: S) (blk g18 50 parL (parV ((layP L 0)) (gT.map fun g => (⟨g, 0, none⟩ : Addr)) cT) :: row 5 1 gT L.length cT (m.map bv) :: row 5 1 gR L.length cR (l'.map bv) :: H) w') (fun (k, _) => L.length - k) (0, L) ⟨rfl, rfl, rfl, rfl, rfl, trivial⟩ (fun w' h => ⟨⟨Nat.zero_le _, rfl⟩, h.subA⟩) (fun (k, m) => VC.fact fun ⟨hk2, hm⟩ => ?_)
     ·skip
      refine VC.seq ?_
      refine VC.sr ?_
      refine VL.move rfl ?_
      refine VL.fieldAddr rfl fo50_3 rfl ?_
      refine VL.load (v := .slice (gT.map fun g => (⟨g, 0, none⟩ : Addr)) ((layP L 0).bytes).length cT) 0 3 rfl kd24 (fun _ h => h) rfl rfl rfl ?_
      refine VL.len Try.underlying24 rfl rfl ?_
      refine VL.lss rfl rfl ?_
      refine VL.case (fun h19 => ?_) (fun h19 => ?_)
      ·refine VL.nn ?_
       refine VC.yes rfl ?_
       refine VC.skip ?_
       refine VX.next ?_
       refine VC.seq ?_
       refine VC.block ?_
       have hkl : k < L.length := by omega
       have hkl2 : k < m.length := by omega
       refine someRowAt 1 rfl (by omega) (fun g7 e7 => ?_)
       subst e7
       apply VC.anyTA 9 1011 (F := [eqF _, eqF _, eqF _, eqF _, eqF _, eqF _, eqF _, eqF _, eqF _]) [⟨[], [19]⟩, ⟨[(90, 0)], []⟩, ⟨[], [21]⟩, ⟨[], [19]⟩, ⟨[(93, 3)], []⟩, ⟨[], [21]⟩, ⟨[(94, 4), (95, 5)], []⟩, ⟨[(96, 6)], []⟩, ⟨[(97, 7)], []⟩] [(91, 1), (92, 2), (98, 8)] [0, 1, 2, 6, 7, 8, 9, 10, 12, 14, 15, 17, 19, 21, 23, 24, 25, 26, 27, 28, 29, 30, 31, 32, 33, 34, 35, 36, 37, 38, 39, 40, 41, 42, 43, 44, 45, 46, 47, 48, 49, 50, 51, 52, 53, 54, 55, 56, 57, 58, 59, 60, 61, 62, 63, 64, 65, 66, 67, 68, 69, 70, 71, 72, 73, 74, 75, 76, 77, 78, 79, 80, 81, 82, 83, 84, 85, 86, 87, 88, 89, 99, 100, 101, 102, 103, 104, 105, 106, 107, 108, 109, 110, 111, 112, 113, 114, 115, 116, 117, 118, 119, 120, 121, 122, 123, 124, 125, 126, 127, 128, 129, 130, 131, 132, 133, 134] rfl (by kernel_rfl) (by kernel_rfl) rfl rfl (by kernel_rfl) (by kernel_rfl) (by kernel_rfl) rfl ?obs21 ?end21
       case obs21 =>
        refine Obs.cons ?_ ?_
        ·refine obS (by kernel_rfl) rfl rfl (fun ph21 w21 hO21 => ?_)
         refine VL.fieldAddr rfl fo50_3 rfl ?_
         exact VL.finS hO21 rfl rfl
        refine Obs.cons ?_ ?_
        ·refine ob (by kernel_rfl) rfl (by kernel_rfl) rfl (fun w21 hO21 => ?_)
         rintro _ rfl
         refine VL.load (v := .slice (some ⟨g7, 0, none⟩) ((layP L 0).bytes).length cT) 0 3 rfl kd24 (fun _ e => e ▸ hO21) rfl rfl rfl ?_
         exact VL.finS hO21 rfl rfl
        refine Obs.cons ?_ ?_
        ·refine obS (by kernel_rfl) rfl rfl (fun ph21 w21 hO21 => ?_)
         refine VL.move rfl ?_
         exact VL.finS hO21 rfl rfl
        refine Obs.cons ?_ ?_
        ·refine obS (by kernel_rfl) rfl rfl (fun ph21 w21 hO21 => ?_)
         refine VL.fieldAddr rfl fo50_3 rfl ?_
         exact VL.finS hO21 rfl rfl
        refine Obs.cons ?_ ?_
        ·refine ob (by kernel_rfl) rfl (by kernel_rfl) rfl (fun w21 hO21 => ?_)
         rintro _ rfl
         refine VL.load (v := .slice (some ⟨g7, 0, none⟩) ((layP L 0).bytes).length cT) 0 3 rfl kd24 (fun _ e => e ▸ hO21) rfl rfl rfl ?_
         exact VL.finS hO21 rfl rfl
        refine Obs.cons ?_ ?_
        ·refine obS (by kernel_rfl) rfl rfl (fun ph21 w21 hO21 => ?_)
         refine VL.move rfl ?_
         exact VL.finS hO21 rfl rfl
        refine Obs.cons ?_ ?_
        ·refine obS (by kernel_rfl) rfl rfl (fun ph21 w21 hO21 => ?_)
         rintro _ rfl _ rfl
         refine VL.rowIndex el24 rfl rfl (by omega) (by omega) ?_
         refine VL.newv (v' := .pointer (some ⟨g7, k, none⟩)) (by simp) ?_
         exact VL.finS hO21 rfl rfl
        refine Obs.cons ?_ ?_
        ·refine ob (by kernel_rfl) rfl (by kernel_rfl) rfl (fun w21 hO21 => ?_)
         rintro _ rfl
         refine VL.rowByte (l := m) (y := m[k]) 1 rfl kd5 (fun _ e => e ▸ hO21) rfl (by simp [hkl2]) ?_
         exact VL.finS hO21 rfl rfl
        refine Obs.cons ?_ ?_
        ·refine obS (by kernel_rfl) rfl rfl (fun ph21 w21 hO21 => ?_)
         rintro _ rfl
         refine VL.addw rfl rfl ?_
         rw [show ((m[k]).toNat : Int) + 3 = ((m[k].toNat + 3 : Nat) : Int) from rfl, byte_wrap]
         exact VL.finS hO21 rfl rfl
        exact Obs.nil
       case end21 =>
        intro w21 hO21
        rintro _ rfl _ rfl _ rfl
        refine VL.toOwn hO21 ?_
        refine VL.rowIndex el24 rfl rfl (by omega) (by omega) ?_
        refine VL.newv (v' := .pointer (some ⟨g7, k, none⟩)) (by simp) ?_
        refine VL.rowStore (v := bv (UInt8.ofNat (m[k].toNat + 3))) 1 rfl rfl rfl kd5 rfl (by omega) ?_
        refine VL.turn (G' := Own _ (blk g18 50 parL (parV ((layP L 0)) (some ⟨g7, 0, none⟩) cT) :: row 5 1 (some g7) L.length cT ((m.set k (UInt8.ofNat (m[k].toNat + 3))).map bv) :: row 5 1 gR L.length cR (l'.map bv) :: H)) (fun w' h => by rw [List.map_set]; simpa using h) ?_
        refine VL.nil ?_
        refine VX.block_normal ?_
        refine VX.next ?_
        refine VC.region ?_
        refine VL.move rfl ?_
        refine VL.add rfl rfl (by simp only [InR]; omega) ?_
        refine VL.assign rfl ?_
        refine VL.nil ?_
        refine VX.round (k + 1, m.set k (UInt8.ofNat (m[k].toNat + 3))) ⟨rfl, rfl, rfl, rfl, rfl, trivial⟩ (fun w' h => ⟨⟨by omega, by simp [hm]⟩, h.subA⟩) (by show L.length - (k + 1) < L.length - k; omega)
      ·refine VL.nn ?_
       refine VC.no rfl ?_
       refine VC.exit ?_
       refine VX.then_exit ?_
       refine VX.then_exit ?_
       refine VX.block_here ?_
       refine VX.next ?_
       refine VC.sr ?_
       refine VL.move rfl ?_
       refine VL.call Try.func40 rfl (by decide) rfl (fun w' hw => take_1 hw (hDz.nowA (s := ⟨wz, _⟩) Mono_par hw) (by show L.length ≤ 140737488351232; omega)) (fun v => ?_)
       refine VL.at (fun w19 h1w => ?_)
       obtain ⟨q21, d22, p23, c24, rfl, hO20, hA25⟩ := h1w
       refine VL.toOwn hO20 ?_
       refine VL.move rfl ?_
       refine VL.extract rfl rfl ?_
       refine VL.extract rfl rfl ?_
       refine VL.extract rfl rfl ?_
       refine VL.alloc (L := parL) (ps := (parV (par0) none 0)) zero50 rfl rfl (fun g26 => ?_)
       refine VL.assign rfl ?_
       refine VL.store (L := parL) (qs := (parV ((layP L 0)) p23 c24)) (ps' := (parV ((layP L 0)) p23 c24)) 0 0 4 rfl rfl rfl (.inl kd50) rfl rfl (parV_len (layP_ok L 0)) (parV_ok1 ((layP L 0)) p23 c24) rfl rfl ?_
       refine VL.set0 ?_
       refine VL.assign rfl ?_
       refine VL.nn ?_
       refine VC.seq ?_
       apply VC.anyTA 27 1030 (F := [eqF _, eqF _, eqF _, eqF _, eqF _, eqF _, eqF _, eqF _, eqF _, eqF _, eqF _, eqF _, eqF _, arrS ⟨wz, keys (row 5 1 gR L.length cR (L.map bv) :: H)⟩ 1 byteR (layP L 0).bytes, eqF _, eqF _, eqF _, eqF _, eqF _, eqF _, eqF _, eqF _, eqF _, arrS ⟨wz, keys (row 5 1 gR L.length cR (L.map bv) :: H)⟩ 1 byteR (layP L 0).bytes, eqF _, eqF _, eqF _]) [⟨[], [24]⟩, ⟨[(106, 0)], []⟩, ⟨[(107, 1)], [23]⟩, ⟨[(108, 2), (107, 1)], []⟩, ⟨[(109, 3), (107, 1)], []⟩, ⟨[(107, 1)], [8]⟩, ⟨[(111, 5), (107, 1)], []⟩, ⟨[(110, 4), (112, 6), (107, 1)], []⟩, ⟨[(107, 1), (113, 7)], []⟩, ⟨[(114, 8)], []⟩, ⟨[(115, 9)], [9]⟩, ⟨[(116, 10), (115, 9)], []⟩, ⟨[(117, 11), (115, 9)], []⟩, ⟨[(118, 12), (115, 9)], []⟩, ⟨[(119, 13), (115, 9)], []⟩, ⟨[(115, 9)], [8]⟩, ⟨[(121, 15), (115, 9)], []⟩, ⟨[(120, 14), (122, 16), (115, 9)], []⟩, ⟨[(115, 9), (123, 17)], []⟩, ⟨[(124, 18)], []⟩, ⟨[(125, 19)], [15]⟩, ⟨[(126, 20), (125, 19)], []⟩, ⟨[(127, 21), (125, 19)], []⟩, ⟨[(128, 22), (125, 19)], []⟩, ⟨[(129, 23), (125, 19)], []⟩, ⟨[(125, 19)], [8]⟩, ⟨[(131, 25), (125, 19)], []⟩] [(125, 19), (130, 24), (132, 26)] [0, 1, 2, 6, 7, 9, 10, 12, 14, 15, 17, 19, 21, 23, 25, 26, 27, 28, 29, 30, 31, 32, 33, 34, 35, 36, 37, 38, 39, 40, 41, 42, 43, 44, 45, 46, 47, 48, 49, 50, 51, 52, 53, 54, 55, 56, 57, 58, 59, 60, 61, 62, 63, 64, 65, 66, 67, 68, 69, 70, 71, 72, 73, 74, 75, 76, 77, 78, 79, 80, 81, 82, 83, 84, 85, 86, 87, 88, 89, 90, 91, 92, 93, 94, 95, 96, 97, 98, 99, 100, 101, 102, 103, 104, 105, 133, 134] rfl (by kernel_rfl) (by kernel_rfl) rfl rfl (by kernel_rfl) (by kernel_rfl) (by kernel_rfl) rfl ?obs23 ?end23
       case obs23 =>
        refine Obs.cons ?_ ?_
        ·refine obS (by kernel_rfl) rfl rfl (fun ph23 w23 hO23 => ?_)
         refine VL.move rfl ?_
         exact VL.finS hO23 rfl rfl
        refine Obs.cons ?_ ?_
        ·refine obS (by kernel_rfl) rfl rfl (fun ph23 w23 hO23 => ?_)
         rintro _ rfl
         refine VL.move rfl ?_
         exact VL.finS hO23 rfl rfl
        refine Obs.cons ?_ ?_
        ·refine obS (by kernel_rfl) rfl rfl (fun ph23 w23 hO23 => ?_)
         rintro _ rfl
         refine VL.go rfl rfl rfl ?_
         refine VL.fieldAddr rfl fo50_3 rfl ?_
         exact VL.finS hO23 rfl rfl
        refine Obs.cons ?_ ?_
        ·refine ob (by kernel_rfl) rfl (by kernel_rfl) rfl (fun w23 hO23 => ?_)
         rintro _ rfl _ rfl
         refine VL.go rfl rfl rfl ?_
         refine VL.load (v := .slice p23 ((layP L 0).bytes).length c24) 0 3 rfl kd24 (fun _ e => e ▸ hO23) rfl rfl rfl ?_
         exact VL.finS hO23 rfl rfl
        refine Obs.cons ?_ ?_
        ·refine ob (by kernel_rfl) rfl (by kernel_rfl) rfl (fun w23 hO23 => ?_)
         rintro _ rfl _ rfl
         refine VL.go rfl rfl rfl ?_
         refine VL.str (s := ⟨w19, _⟩) Try.underlying24 Try.underlying5 Try.underlying9 (l := (layP L 0).bytes) rfl (fun _ e => e ▸ hO23) (by repeat (first | exact List.mem_cons_self .. | apply List.mem_cons_of_mem)) hA25 ?_
         exact VL.finS hO23 rfl rfl
        refine Obs.cons ?_ ?_
        ·refine obS (by kernel_rfl) rfl rfl (fun ph23 w23 hO23 => ?_)
         rintro _ rfl
         refine VL.go rfl rfl rfl ?_
         refine VL.move rfl ?_
         exact VL.finS hO23 rfl rfl
        refine Obs.cons ?_ ?_
        ·refine ob (by kernel_rfl) rfl (by kernel_rfl) rfl (fun w23 hO23 => ?_)
         rintro _ rfl _ rfl
         refine VL.go rfl rfl rfl ?_
         refine VL.str (s := ⟨wz, _⟩) Try.underlying24 Try.underlying5 Try.underlying9 (l := L) rfl (fun _ e => e ▸ hO23) (by repeat (first | exact List.mem_cons_self .. | apply List.mem_cons_of_mem)) hB8z ?_
         exact VL.finS hO23 rfl rfl
        refine Obs.cons ?_ ?_
        ·refine obS (by kernel_rfl) rfl rfl (fun ph23 w23 hO23 => ?_)
         rintro _ rfl _ rfl _ rfl
         refine VL.go rfl rfl rfl ?_
         refine VL.eqls rfl rfl ?_
         refine VL.newv (v' := .bool true) (congrArg Value.bool (decide_eq_true rfl)) ?_
         exact VL.finS hO23 rfl rfl
        refine Obs.cons ?_ ?_
        ·refine obS (by kernel_rfl) rfl rfl (fun ph23 w23 hO23 => ?_)
         rintro _ rfl _ rfl
         refine VL.pick_t rfl rfl ?_
         exact VL.finS hO23 rfl rfl
        refine Obs.cons ?_ ?_
        ·refine obS (by kernel_rfl) rfl rfl (fun ph23 w23 hO23 => ?_)
         rintro _ rfl
         refine VL.move rfl ?_
         exact VL.finS hO23 rfl rfl
        refine Obs.cons ?_ ?_
        ·refine obS (by kernel_rfl) rfl rfl (fun ph23 w23 hO23 => ?_)
         rintro _ rfl
         refine VL.go rfl rfl rfl ?_
         refine VL.move rfl ?_
         exact VL.finS hO23 rfl rfl
        refine Obs.cons ?_ ?_
        ·refine obS (by kernel_rfl) rfl rfl (fun ph23 w23 hO23 => ?_)
         rintro _ rfl _ rfl
         refine VL.go rfl rfl rfl ?_
         refine VL.index (xs := [(layP L 0)]) rfl rfl Try.underlying47 sz47 hP9z (by omega) (by have hi := (show 0 < [(layP L 0)].length by simp); omega) ?_
         exact VL.finS hO23 rfl rfl
        refine Obs.cons ?_ ?_
        ·refine obS (by kernel_rfl) rfl rfl (fun ph23 w23 hO23 => ?_)
         rintro _ rfl _ rfl
         refine VL.go rfl rfl rfl ?_
         refine VL.fieldAt rfl (by obtain ⟨a, ha⟩ := hP9z.isAt (by have hi := (show 0 < [(layP L 0)].length by simp); omega); rw [ha]; rfl) fo50_3 ?_
         exact VL.finS hO23 rfl rfl
        refine Obs.cons ?_ ?_
        ·refine ob (by kernel_rfl) rfl (by kernel_rfl) rfl (fun w23 hO23 => ?_)
         rintro _ rfl _ rfl
         refine VL.go rfl rfl rfl ?_
         refine VL.elem (s := ⟨wz, _⟩) 0 3 rfl kd24 (fun _ e => e ▸ hO23) (by repeat (first | exact List.mem_cons_self .. | apply List.mem_cons_of_mem)) Mono_par hP9z (List.getElem?_eq_getElem (show 0 < [(layP L 0)].length by simp)) (by simp) (by decide) (fun vs v hl hr hv => ?_)
         obtain ⟨p7, c7, hy7, rfl, hA7⟩ := hr
         have e7 : v = .slice p7 (layP L 0).bytes.length c7 := (Option.some.inj (hv.symm.trans rfl))
         subst e7
         exact VL.finS hO23 rfl ⟨_, _, rfl, hA7⟩
        refine Obs.cons ?_ ?_
        ·refine ob (by kernel_rfl) rfl (by kernel_rfl) rfl (fun w23 hO23 => ?_)
         rintro _ ⟨pe1, ce1, rfl, hAe1⟩ _ rfl
         refine VL.go rfl rfl rfl ?_
         refine VL.str (s := ⟨wz, _⟩) Try.underlying24 Try.underlying5 Try.underlying9 (l := (layP L 0).bytes) rfl (fun _ e => e ▸ hO23) (by repeat (first | exact List.mem_cons_self .. | apply List.mem_cons_of_mem)) hAe1 ?_
         exact VL.finS hO23 rfl rfl
        refine Obs.cons ?_ ?_
        ·refine obS (by kernel_rfl) rfl rfl (fun ph23 w23 hO23 => ?_)
         rintro _ rfl
         refine VL.go rfl rfl rfl ?_
         refine VL.move rfl ?_
         exact VL.finS hO23 rfl rfl
        refine Obs.cons ?_ ?_
        ·refine ob (by kernel_rfl) rfl (by kernel_rfl) rfl (fun w23 hO23 => ?_)
         rintro _ rfl _ rfl
         refine VL.go rfl rfl rfl ?_
         refine VL.str (s := ⟨wz, _⟩) Try.underlying24 Try.underlying5 Try.underlying9 (l := L) rfl (fun _ e => e ▸ hO23) (by repeat (first | exact List.mem_cons_self .. | apply List.mem_cons_of_mem)) hB8z ?_
         exact VL.finS hO23 rfl rfl
        refine Obs.cons ?_ ?_
        ·refine obS (by kernel_rfl) rfl rfl (fun ph23 w23 hO23 => ?_)
         rintro _ rfl _ rfl _ rfl
         refine VL.go rfl rfl rfl ?_
         refine VL.eqls rfl rfl ?_
         refine VL.newv (v' := .bool true) (congrArg Value.bool (decide_eq_true rfl)) ?_
         exact VL.finS hO23 rfl rfl
        refine Obs.cons ?_ ?_
        ·refine obS (by kernel_rfl) rfl rfl (fun ph23 w23 hO23 => ?_)
         rintro _ rfl _ rfl
         refine VL.pick_t rfl rfl ?_
         exact VL.finS hO23 rfl rfl
        refine Obs.cons ?_ ?_
        ·refine obS (by kernel_rfl) rfl rfl (fun ph23 w23 hO23 => ?_)
         rintro _ rfl
         refine VL.move rfl ?_
         exact VL.finS hO23 rfl rfl
        refine Obs.cons ?_ ?_
        ·refine obS (by kernel_rfl) rfl rfl (fun ph23 w23 hO23 => ?_)
         rintro _ rfl
         refine VL.go rfl rfl rfl ?_
         refine VL.move rfl ?_
         exact VL.finS hO23 rfl rfl
        refine Obs.cons ?_ ?_
        ·refine obS (by kernel_rfl) rfl rfl (fun ph23 w23 hO23 => ?_)
         rintro _ rfl _ rfl
         refine VL.go rfl rfl rfl ?_
         refine VL.index (xs := [(layP L 0), (layP L 0)]) rfl rfl Try.underlying47 sz47 hDz (by omega) (by have hi := (show 0 < [(layP L 0), (layP L 0)].length by simp); omega) ?_
         exact VL.finS hO23 rfl rfl
        refine Obs.cons ?_ ?_
        ·refine obS (by kernel_rfl) rfl rfl (fun ph23 w23 hO23 => ?_)
         rintro _ rfl _ rfl
         refine VL.go rfl rfl rfl ?_
         refine VL.fieldAt rfl (by obtain ⟨a, ha⟩ := hDz.isAt (by have hi := (show 0 < [(layP L 0), (layP L 0)].length by simp); omega); rw [ha]; rfl) fo50_3 ?_
         exact VL.finS hO23 rfl rfl
        refine Obs.cons ?_ ?_
        ·refine ob (by kernel_rfl) rfl (by kernel_rfl) rfl (fun w23 hO23 => ?_)
         rintro _ rfl _ rfl
         refine VL.go rfl rfl rfl ?_
         refine VL.elem (s := ⟨wz, _⟩) 0 3 rfl kd24 (fun _ e => e ▸ hO23) (by repeat (first | exact List.mem_cons_self .. | apply List.mem_cons_of_mem)) Mono_par hDz (List.getElem?_eq_getElem (show 0 < [(layP L 0), (layP L 0)].length by simp)) (by simp) (by decide) (fun vs v hl hr hv => ?_)
         obtain ⟨p7, c7, hy7, rfl, hA7⟩ := hr
         have e7 : v = .slice p7 (layP L 0).bytes.length c7 := (Option.some.inj (hv.symm.trans rfl))
         subst e7
         exact VL.finS hO23 rfl ⟨_, _, rfl, hA7⟩
        refine Obs.cons ?_ ?_
        ·refine ob (by kernel_rfl) rfl (by kernel_rfl) rfl (fun w23 hO23 => ?_)
         rintro _ ⟨pe2, ce2, rfl, hAe2⟩ _ rfl
         refine VL.go rfl rfl rfl ?_
         refine VL.str (s := ⟨wz, _⟩) Try.underlying24 Try.underlying5 Try.underlying9 (l := (layP L 0).bytes) rfl (fun _ e => e ▸ hO23) (by repeat (first | exact List.mem_cons_self .. | apply List.mem_cons_of_mem)) hAe2 ?_
         exact VL.finS hO23 rfl rfl
        refine Obs.cons ?_ ?_
        ·refine obS (by kernel_rfl) rfl rfl (fun ph23 w23 hO23 => ?_)
         rintro _ rfl
         refine VL.go rfl rfl rfl ?_
         refine VL.move rfl ?_
         exact VL.finS hO23 rfl rfl
        refine Obs.cons ?_ ?_
        ·refine ob (by kernel_rfl) rfl (by kernel_rfl) rfl (fun w23 hO23 => ?_)
         rintro _ rfl _ rfl
         refine VL.go rfl rfl rfl ?_
         refine VL.str (s := ⟨wz, _⟩) Try.underlying24 Try.underlying5 Try.underlying9 (l := L) rfl (fun _ e => e ▸ hO23) (by repeat (first | exact List.mem_cons_self .. | apply List.mem_cons_of_mem)) hB8z ?_
         exact VL.finS hO23 rfl rfl
        exact Obs.nil
       case end23 =>
        intro w23 hO23
        rintro _ rfl _ rfl _ rfl
        refine VL.toOwn hO23 ?_
        refine VL.go rfl rfl rfl ?_
        refine VL.eqls rfl rfl ?_
        refine VL.newv (v' := .bool true) (congrArg Value.bool (decide_eq_true rfl)) ?_
        refine VL.pick_t rfl rfl ?_
        refine VL.assign rfl ?_
        refine VL.nn ?_
        refine VC.ret ?_
        refine VX.ret1 rfl rfl (fun we hw => ?_)
        exact ⟨rfl, hw.drop.drop.drop.drop.subA⟩
  ·refine VC.region ?_
   refine VL.move rfl ?_
   refine VL.call Try.func42 rfl (by decide) rfl (fun w' hw => lay_own_no hw (Vw.ofRow 0 rfl rfl rfl) hz (by rw [hsrc, hdst]; exact h23)) (fun v => ?_)
   refine VL.at (fun w27 h1w => ?_)
   obtain ⟨q29, d30, rfl, hO28⟩ := h1w
   refine VL.toOwn hO28 ?_
   refine VL.move rfl ?_
   refine VL.extract rfl rfl ?_
   refine VL.extract rfl rfl ?_
   refine VL.assign rfl ?_
   refine VL.assign rfl ?_
   refine VL.nn ?_
   refine VC.seq ?_
   refine VC.sr ?_
   refine VL.move rfl ?_
   refine VL.not rfl ?_
   refine VL.nn ?_
   refine VC.yes rfl ?_
   refine VC.seq ?_
   by_cases h2 : servN a < 4
   ·have h3 : ¬ servN b < 4 := fun h => h23 ⟨h2, h⟩
    refine VC.region ?_
    refine VL.move rfl ?_
    refine VL.call Try.func48 rfl (by decide) rfl (fun w' hw => server_y hw a ha h2) (fun v => ?_)
    refine VL.fact fun e32 => ?_
    subst e32
    refine VL.move rfl ?_
    refine VL.extract rfl rfl ?_
    refine VL.extract rfl rfl ?_
    refine VL.assign rfl ?_
    refine VL.assign rfl ?_
    refine VL.nn ?_
    refine VC.sr ?_
    refine VL.move rfl ?_
    refine VL.call Try.func48 rfl (by decide) rfl (fun w' hw => server_n hw b hb h3) (fun v => ?_)
    refine VL.fact fun e33 => ?_
    subst e33
    refine VL.move rfl ?_
    refine VL.extract rfl rfl ?_
    refine VL.extract rfl rfl ?_
    refine VL.assign rfl ?_
    refine VL.assign rfl ?_
    refine VL.nn ?_
    refine VC.sr ?_
    refine VL.move rfl ?_
    refine VL.not rfl ?_
    refine VL.move rfl ?_
    refine VL.go rfl rfl rfl ?_
    refine VL.move rfl ?_
    refine VL.go rfl rfl rfl ?_
    refine VL.not rfl ?_
    refine VL.pick_f rfl rfl ?_
    refine VL.assign rfl ?_
    refine VL.nn ?_
    refine VC.ret ?_
    refine VX.then_ret ?_
    refine VX.ret1 rfl rfl (fun we hw => ?_)
    exact ⟨rfl, hw.drop.subA⟩
   ·refine VC.region ?_
    refine VL.move rfl ?_
    refine VL.call Try.func48 rfl (by decide) rfl (fun w' hw => server_n hw a ha h2) (fun v => ?_)
    refine VL.fact fun e34 => ?_
    subst e34
    refine VL.move rfl ?_
    refine VL.extract rfl rfl ?_
    refine VL.extract rfl rfl ?_
    refine VL.assign rfl ?_
    refine VL.assign rfl ?_
    refine VL.nn ?_
    refine VC.sr ?_
    refine VL.move rfl ?_
    refine VL.call Try.func48 rfl (by decide) rfl (fun w' hw => server_w hw b hb) (fun v => ?_)
    refine VL.fact fun e35 => ?_
    subst e35
    refine VL.move rfl ?_
    refine VL.extract rfl rfl ?_
    refine VL.extract rfl rfl ?_
    refine VL.assign rfl ?_
    refine VL.assign rfl ?_
    refine VL.nn ?_
    refine VC.sr ?_
    refine VL.move rfl ?_
    refine VL.not rfl ?_
    refine VL.move rfl ?_
    refine VL.pass rfl rfl rfl rfl rfl ?_
    refine VL.pass rfl rfl rfl rfl rfl ?_
    refine VL.pick_t rfl rfl ?_
    refine VL.assign rfl ?_
    refine VL.nn ?_
    refine VC.ret ?_
    refine VX.then_ret ?_
    refine VX.ret1 rfl rfl (fun we hw => ?_)
    exact ⟨rfl, hw.drop.subA⟩

end Go.Proofs.Ytcfecmoagfgnaaa

/- The dump's head, taken apart once: its kernel's run is long. -/
set_option maxRecDepth 100000
namespace Go.Proofs.Ytcfecmoagfgnaaa
open Go

def signs : List Char := [104, 97, 114, 110, 101, 115, 115, 32, 102, 100, 52, 102, 57, 98, 57, 102, 49, 55, 56, 57, 57, 51, 101, 97, 57, 99, 99, 102, 101, 98, 51, 98, 102, 53, 98, 50, 100, 102, 54, 99, 50, 101, 100, 98, 49, 51, 57, 102, 51, 101, 52, 102, 100, 56, 51, 97, 49, 50, 97, 97, 48, 99, 53, 98, 50, 54, 97, 51, 52, 53, 48, 48, 32, 99, 117, 116, 32, 97, 116, 32, 109, 105, 115, 115, 105, 118, 101, 47, 109, 105, 115, 115, 105, 118, 101, 108, 97, 119, 48, 50, 46, 79, 99, 116, 101, 116, 78, 117, 109, 98, 101, 114, 115, 32, 109, 105, 115, 115, 105, 118, 101, 47, 109, 105, 115, 115, 105, 118, 101, 108, 97, 119, 48, 50, 46, 79, 99, 116, 101, 116, 74, 111, 105, 110, 115, 32, 109, 105, 115, 115, 105, 118, 101, 47, 109, 105, 115, 115, 105, 118, 101, 108, 97, 119, 48, 50, 46, 79, 99, 116, 101, 116, 83, 112, 108, 105, 116, 115, 32, 109, 105, 115, 115, 105, 118, 101, 47, 109, 105, 115, 115, 105, 118, 101, 108, 97, 119, 48, 50, 46, 79, 99, 116, 101, 116, 67, 117, 116, 32, 109, 105, 115, 115, 105, 118, 101, 47, 109, 105, 115, 115, 105, 118, 101, 108, 97, 119, 48, 50, 46, 79, 99, 116, 101, 116, 79, 119, 110, 32, 109, 105, 115, 115, 105, 118, 101, 47, 109, 105, 115, 115, 105, 118, 101, 108, 97, 119, 48, 50, 46, 79, 99, 116, 101, 116, 66, 121, 116, 101, 115, 32, 109, 105, 115, 115, 105, 118, 101, 47, 109, 105, 115, 115, 105, 118, 101, 108, 97, 119, 50, 52, 46, 66, 97, 103, 82, 105, 112, 101, 32, 109, 105, 115, 115, 105, 118, 101, 47, 109, 105, 115, 115, 105, 118, 101, 108, 97, 119, 50, 52, 46, 66, 97, 103, 80, 108, 97, 121, 115, 32, 109, 105, 115, 115, 105, 118, 101, 47, 109, 105, 115, 115, 105, 118, 101, 108, 97, 119, 50, 52, 46, 66, 97, 103, 79, 119, 110, 32, 109, 105, 115, 115, 105, 118, 101, 47, 109, 105, 115, 115, 105, 118, 101, 108, 97, 119, 49, 52, 46, 87, 105, 114, 101, 76, 101, 116, 116, 101, 114, 115, 32, 109, 105, 115, 115, 105, 118, 101, 47, 109, 105, 115, 115, 105, 118, 101, 108, 97, 119, 49, 52, 46, 87, 105, 114, 101, 73, 116, 101, 109, 115, 32, 109, 105, 115, 115, 105, 118, 101, 47, 109, 105, 115, 115, 105, 118, 101, 108, 97, 119, 49, 52, 46, 87, 105, 114, 101, 66, 117, 110, 100, 108, 101, 115, 32, 109, 105, 115, 115, 105, 118, 101, 47, 109, 105, 115, 115, 105, 118, 101, 108, 97, 119, 49, 52, 46, 87, 105, 114, 101, 79, 98, 106, 101, 99, 116, 115, 32, 109, 105, 115, 115, 105, 118, 101, 47, 109, 105, 115, 115, 105, 118, 101, 108, 97, 119, 50, 49, 46, 70, 101, 100, 113, 84, 97, 107, 101, 115, 32, 109, 105, 115, 115, 105, 118, 101, 47, 109, 105, 115, 115, 105, 118, 101, 108, 97, 119, 49, 52, 46, 87, 105, 114, 101, 67, 97, 108, 108, 115, 32, 109, 105, 115, 115, 105, 118, 101, 47, 109, 105, 115, 115, 105, 118, 101, 108, 97, 119, 49, 52, 46, 87, 105, 114, 101, 84, 117, 114, 110, 101, 100, 32, 109, 105, 115, 115, 105, 118, 101, 47, 109, 105, 115, 115, 105, 118, 101, 108, 97, 119, 49, 52, 46, 87, 105, 114, 101, 82, 101, 112, 108, 105, 101, 115, 32, 109, 105, 115, 115, 105, 118, 101, 47, 109, 105, 115, 115, 105, 118, 101, 108, 97, 119, 49, 52, 46, 87, 105, 114, 101, 80, 97, 99, 107, 101, 116, 115, 32, 109, 105, 115, 115, 105, 118, 101, 47, 109, 105, 115, 115, 105, 118, 101, 108, 97, 119, 49, 52, 46, 87, 105, 114, 101, 82, 101, 97, 100, 115, 32, 109, 105, 115, 115, 105, 118, 101, 47, 109, 105, 115, 115, 105, 118, 101, 108, 97, 119, 50, 49, 46, 70, 101, 100, 113, 82, 111, 119, 115, 32, 109, 105, 115, 115, 105, 118, 101, 47, 109, 105, 115, 115, 105, 118, 101, 108, 97, 119, 50, 49, 46, 70, 101, 100, 113, 76, 111, 97, 100, 115].map Char.ofNat
def words : List (List Char) := [[104, 97, 114, 110, 101, 115, 115], [102, 100, 52, 102, 57, 98, 57, 102, 49, 55, 56, 57, 57, 51, 101, 97, 57, 99, 99, 102, 101, 98, 51, 98, 102, 53, 98, 50, 100, 102, 54, 99, 50, 101, 100, 98, 49, 51, 57, 102, 51, 101, 52, 102, 100, 56, 51, 97, 49, 50, 97, 97, 48, 99, 53, 98, 50, 54, 97, 51, 52, 53, 48, 48], [99, 117, 116], [97, 116], [109, 105, 115, 115, 105, 118, 101, 47, 109, 105, 115, 115, 105, 118, 101, 108, 97, 119, 48, 50, 46, 79, 99, 116, 101, 116, 78, 117, 109, 98, 101, 114, 115], [109, 105, 115, 115, 105, 118, 101, 47, 109, 105, 115, 115, 105, 118, 101, 108, 97, 119, 48, 50, 46, 79, 99, 116, 101, 116, 74, 111, 105, 110, 115], [109, 105, 115, 115, 105, 118, 101, 47, 109, 105, 115, 115, 105, 118, 101, 108, 97, 119, 48, 50, 46, 79, 99, 116, 101, 116, 83, 112, 108, 105, 116, 115], [109, 105, 115, 115, 105, 118, 101, 47, 109, 105, 115, 115, 105, 118, 101, 108, 97, 119, 48, 50, 46, 79, 99, 116, 101, 116, 67, 117, 116], [109, 105, 115, 115, 105, 118, 101, 47, 109, 105, 115, 115, 105, 118, 101, 108, 97, 119, 48, 50, 46, 79, 99, 116, 101, 116, 79, 119, 110], [109, 105, 115, 115, 105, 118, 101, 47, 109, 105, 115, 115, 105, 118, 101, 108, 97, 119, 48, 50, 46, 79, 99, 116, 101, 116, 66, 121, 116, 101, 115], [109, 105, 115, 115, 105, 118, 101, 47, 109, 105, 115, 115, 105, 118, 101, 108, 97, 119, 50, 52, 46, 66, 97, 103, 82, 105, 112, 101], [109, 105, 115, 115, 105, 118, 101, 47, 109, 105, 115, 115, 105, 118, 101, 108, 97, 119, 50, 52, 46, 66, 97, 103, 80, 108, 97, 121, 115], [109, 105, 115, 115, 105, 118, 101, 47, 109, 105, 115, 115, 105, 118, 101, 108, 97, 119, 50, 52, 46, 66, 97, 103, 79, 119, 110], [109, 105, 115, 115, 105, 118, 101, 47, 109, 105, 115, 115, 105, 118, 101, 108, 97, 119, 49, 52, 46, 87, 105, 114, 101, 76, 101, 116, 116, 101, 114, 115], [109, 105, 115, 115, 105, 118, 101, 47, 109, 105, 115, 115, 105, 118, 101, 108, 97, 119, 49, 52, 46, 87, 105, 114, 101, 73, 116, 101, 109, 115], [109, 105, 115, 115, 105, 118, 101, 47, 109, 105, 115, 115, 105, 118, 101, 108, 97, 119, 49, 52, 46, 87, 105, 114, 101, 66, 117, 110, 100, 108, 101, 115], [109, 105, 115, 115, 105, 118, 101, 47, 109, 105, 115, 115, 105, 118, 101, 108, 97, 119, 49, 52, 46, 87, 105, 114, 101, 79, 98, 106, 101, 99, 116, 115], [109, 105, 115, 115, 105, 118, 101, 47, 109, 105, 115, 115, 105, 118, 101, 108, 97, 119, 50, 49, 46, 70, 101, 100, 113, 84, 97, 107, 101, 115], [109, 105, 115, 115, 105, 118, 101, 47, 109, 105, 115, 115, 105, 118, 101, 108, 97, 119, 49, 52, 46, 87, 105, 114, 101, 67, 97, 108, 108, 115], [109, 105, 115, 115, 105, 118, 101, 47, 109, 105, 115, 115, 105, 118, 101, 108, 97, 119, 49, 52, 46, 87, 105, 114, 101, 84, 117, 114, 110, 101, 100], [109, 105, 115, 115, 105, 118, 101, 47, 109, 105, 115, 115, 105, 118, 101, 108, 97, 119, 49, 52, 46, 87, 105, 114, 101, 82, 101, 112, 108, 105, 101, 115], [109, 105, 115, 115, 105, 118, 101, 47, 109, 105, 115, 115, 105, 118, 101, 108, 97, 119, 49, 52, 46, 87, 105, 114, 101, 80, 97, 99, 107, 101, 116, 115], [109, 105, 115, 115, 105, 118, 101, 47, 109, 105, 115, 115, 105, 118, 101, 108, 97, 119, 49, 52, 46, 87, 105, 114, 101, 82, 101, 97, 100, 115], [109, 105, 115, 115, 105, 118, 101, 47, 109, 105, 115, 115, 105, 118, 101, 108, 97, 119, 50, 49, 46, 70, 101, 100, 113, 82, 111, 119, 115], [109, 105, 115, 115, 105, 118, 101, 47, 109, 105, 115, 115, 105, 118, 101, 108, 97, 119, 50, 49, 46, 70, 101, 100, 113, 76, 111, 97, 100, 115]].map (List.map Char.ofNat)
theorem signs_is : Try.prog.initOrder.toList = signs := String.toList_ofList (l := signs)
theorem words_is : wordsSigns Try.prog.initOrder.toList = words := by rw [signs_is]; kernel_rfl
theorem mayEnter_is : Try.prog.mayEnter = true := by unfold Program.mayEnter; rw [words_is]; kernel_rfl
theorem headLifts_is : Try.prog.headLifts = [] := by unfold Program.headLifts; rw [words_is]; kernel_rfl
theorem liftsFinal_is : Try.prog.liftsFinal = Rows.octetJoinsRow.lifted := by unfold Program.liftsFinal; rw [words_is, headLifts_is]; kernel_rfl
theorem make_is : Try.prog.make = some Rows.octetJoinsRow.make := by unfold Program.make; rw [words_is, headLifts_is]; kernel_rfl
end Go.Proofs.Ytcfecmoagfgnaaa

/- The statement BagOwn. -/
set_option maxRecDepth 100000
namespace Go.Proofs.Ytcfecmoagfgnaaa.bagOwn
open Go.ChangeShapes Go.WideShapes Go.ChangeAt Go.RowKit Go.Vc Go.Pl

theorem own : ownKnob Try.prog.godebug = none := by kernel_rfl

theorem lifted (os : Os) (started : os.Started) (H : Type) (enc : TypeId × Value → H) :
  ReturnsInHanded {} Try.checked os 11 .any (Rows.bagOwnSpec.pre6 enc Try.prog Try.f11 Rows.bagOwnRow.domain false) (Rows.bagOwnSpec.post enc Try.prog Try.f11 false true false false) := by
 refine law_of (C := Try.checked) (tb := 4) started own (by kernel_rfl) Try.func11
  (ChangeSpec.witness6 (enc := enc) (C := Try.checked) false ⟨#[], #[.int .u8 0, .int .u8 0, .slice none 0 0], []⟩ 8 (by kernel_rfl) (by kernel_rfl) (by kernel_rfl) (by kernel_rfl)) rfl (by kernel_rfl) Try.underlying4 (by kernel_rfl) (by kernel_rfl) ?_
 intro W base args ds ps hval0 hAA hsz
 have hval : ∀ (j : Nat) t v, Try.f11.params[j]? = some t → args[j]? = some v → Value.okWide Try.prog W .any base t v := hval0
 have hA : DataW.TrodAll enc Try.prog W 0 (fun _ => true) true Try.f11.params.toList args.toList ds ps := hAA
 rw [Try.params11] at hA hval
 obtain ⟨v0, vs0, d0, ds0, p0, q0, hargs, rfl, rfl, h0, r0⟩ := trodAll_cons hA
 obtain ⟨v1, vs1, d1, ds1, p1, q1, rfl, rfl, rfl, h1, r1⟩ := trodAll_cons r0
 obtain ⟨v2, vs2, d2, ds2, p2, q2, rfl, rfl, rfl, h2, r2⟩ := trodAll_cons r1
 obtain ⟨rfl, rfl, rfl⟩ := trodAll_nil r2
 obtain rfl : args = #[v0, v1, v2] := by cases args; simp_all
 obtain ⟨a0, rfl, rfl, rfl, w0⟩ := open_int Try.underlying5 (hval 0 5 v0 rfl rfl) h0
 obtain ⟨a1, rfl, rfl, rfl, w1⟩ := open_int Try.underlying5 (hval 1 5 v1 rfl rfl) h1
 obtain ⟨p2, l2, c2, rfl, hA2⟩ := Opens.value Try.underlying24 (Opens.slice (sz := 1) Try.underlying24 (by kernel_rfl) (by decide) (Opens.u8 Try.underlying5)) (hval 2 24 v2 rfl rfl) h2
 exact ⟨rfl, by have := bagOwn_w (Own.start W) (a := a0.toNat) (b := a1.toNat) (by have := bounds_u8 w0; omega) (by have := bounds_u8 w1; omega) hA2; rw [Int.toNat_of_nonneg (bounds_u8 w0).1, Int.toNat_of_nonneg (bounds_u8 w1).1] at this; exact this⟩

theorem closed : joinedFacts Try.prog 11 Try.f11 Rows.bagOwnSpec Rows.bagOwnRow = true := by
 unfold joinedFacts
 rw [mayEnter_is, liftsFinal_is, make_is]
 kernel_rfl

theorem over : Rows.bagOwnRow.holds Try.pinned (OpenSpec.ofChange Rows.bagOwnSpec) :=
 OpenClaim.holds_of_wide 11 Try.f11 rfl rfl rfl rfl rfl rfl rfl ⟨rfl, rfl, rfl, rfl, rfl⟩ rfl rfl rfl rfl rfl (by kernel_rfl) Try.func11 closed
  (of_decide_eq_true (by kernel_rfl)) (by unfold Func.isWrapper; first | (rw [if_pos (by decide +kernel)]; kernel_rfl) | (rw [if_neg (by decide +kernel)]; exact ⟨rfl, rfl⟩))
  (fun os started H enc _ => lifted os started H enc)

/-- The statement. -/
theorem proved : Rows.BagOwnSaid :=
 over
end Go.Proofs.Ytcfecmoagfgnaaa.bagOwn

