/- The statement FedqRows is proved, for every input: part 18 of 21 of the texts that it needs. -/
import Derived.Test.YtcfecmoagfgnaaaMfrwAQ
/- A queue's rows. -/
namespace Go.Proofs.Ytcfecmoagfgnaaa
open Go.Vc Go.Pl

theorem put_two {S : List Snap} {H : List Chunk} {w : World} (ho : Own S H w) (m : Nat) (hm : m < 65536) : Calls Try.prog 25 #[.int .u64 m, .int .i64 2] w (Ret fun v w' => ∃ p c, v = .tuple #[.slice p (be 2 m).length c, .bool true] ∧ Own S H w' ∧ Bytes (keys H) w' p (be 2 m) c) :=
 calls_mono (put_any ho m (fits_small (by omega)) 2) fun v w' ⟨h1, h2⟩ => by
  rcases h2 with ⟨_, _, _, p, c, e, hA⟩ | ⟨h, _⟩
  ·exact ⟨p, c, by rw [be_length]; exact e, h1, hA⟩
  ·exact absurd ⟨by decide, by decide, fits2 hm⟩ h
theorem join_S {S : List Snap} {H : List Chunk} {w : World} (ho : Own S H w) {p : Option Addr} {ls : List (List UInt8)} {c : Nat} (hA : Arr 1 bytesR (keys H) w p ls c) (hok : joinOk ls) : Calls Try.prog 30 #[.slice p ls.length c] w (Ret fun v w' => ∃ p c, v = .tuple #[.slice p (joinB ls).length c, .bool true] ∧ Own S H w' ∧ Bytes (keys H) w' p (joinB ls) c) :=
 calls_mono (join_any ho hA) fun v w' ⟨h1, h2⟩ => by
  rcases h2 with ⟨_, p, c, e, hA⟩ | ⟨h, _⟩
  ·exact ⟨p, c, e, h1, hA⟩
  ·exact absurd hok h
/-- The two lots of a queue's items. -/
abbrev lots (xs : List Itm) : List (List Itm) := [xs.take (min xs.length 4), xs.drop (min xs.length 4)]
def sK (k : Nat) : ByteArray := if k = 0 then s0 else s1
theorem enc_k {k : Nat} (h : k < 2) : Utf8.encode ((48 : Int) + (k : Int)) = sK k := by
 have : k = 0 ∨ k = 1 := by omega
 rcases this with rfl | rfl <;> decide
theorem sK_size (k : Nat) : (sK k).size = 1 := by unfold sK; split <;> rfl
theorem lot_take (xs : List Itm) : xs.take (min xs.length 4) = xs.take 4 := by
 by_cases h : xs.length ≤ 4
 ·rw [Nat.min_eq_left h, List.take_length, List.take_of_length_le h]
 ·rw [Nat.min_eq_right (by omega)]
theorem lot_drop (xs : List Itm) : xs.drop (min xs.length 4) = xs.drop 4 := by
 by_cases h : xs.length ≤ 4
 ·rw [Nat.min_eq_left h, List.drop_length, List.drop_of_length_le h]
 ·rw [Nat.min_eq_right (by omega)]
/-- The rows of the head and the first k lots. -/
def rowsK (nm : ByteArray) (x : Que) (k : Nat) : List Chg := rowH nm x :: ((if 0 < k then part9 (nm ++ s0) (x.items.take 4) else []) ++ (if 1 < k then part9 (nm ++ s1) (x.items.drop 4) else []))
theorem rowsK_2 (nm : ByteArray) (x : Que) : rowsK nm x 2 = rowsL nm x := rfl
theorem rowsK_next {nm : ByteArray} {x : Que} {k : Nat} (h : k < (lots x.items).length) : rowsK nm x (k + 1) = rowsK nm x k ++ part9 (nm ++ sK k) ((lots x.items)[k]'h) := by
 have h2 : k < 2 := h
 have : k = 0 ∨ k = 1 := by omega
 rcases this with rfl | rfl
 ·show rowH nm x :: (part9 (nm ++ s0) (x.items.take 4) ++ []) = rowH nm x :: ([] ++ []) ++ part9 (nm ++ s0) (x.items.take (min x.items.length 4))
  rw [lot_take]; simp
 ·show rowH nm x :: (part9 (nm ++ s0) (x.items.take 4) ++ part9 (nm ++ s1) (x.items.drop 4)) = rowH nm x :: (part9 (nm ++ s0) (x.items.take 4) ++ []) ++ part9 (nm ++ s1) (x.items.drop (min x.items.length 4))
  rw [lot_drop]; simp
theorem lot_mem {xs : List Itm} {k : Nat} (h : k < (lots xs).length) {y : Itm} (hy : y ∈ (lots xs)[k]'h) : y ∈ xs := by
 have h2 : k < 2 := h
 have : k = 0 ∨ k = 1 := by omega
 rcases this with rfl | rfl
 ·exact List.mem_of_mem_take hy
 ·exact List.mem_of_mem_drop hy
theorem lot_len {xs : List Itm} {k : Nat} (h8 : xs.length ≤ 8) (h : k < (lots xs).length) : ((lots xs)[k]'h).length ≤ 8 := by
 have h2 : k < 2 := h
 have : k = 0 ∨ k = 1 := by omega
 rcases this with rfl | rfl
 ·show (xs.take _).length ≤ 8; rw [List.length_take]; omega
 ·show (xs.drop _).length ≤ 8; rw [List.length_drop]; omega
theorem rowsK_len (nm : ByteArray) (x : Que) (k : Nat) : (rowsK nm x k).length ≤ 3 := by
 have h : ∀ a b, (part9 a b).length ≤ 1 := fun a b => by unfold part9; split <;> simp
 have h1 := h (nm ++ s0) (x.items.take 4); have h2 := h (nm ++ s1) (x.items.drop 4)
 unfold rowsK
 split <;> split <;> simp <;> omega
def lotsGood (xs : List Itm) (k : Nat) : Prop := ∀ j (h : j < (lots xs).length), j < k → ∀ y ∈ (lots xs)[j]'h, good9 y = true
theorem lotsGood_next {xs : List Itm} {k : Nat} (h : k < (lots xs).length) (h1 : lotsGood xs k) (h2 : ∀ y ∈ (lots xs)[k]'h, good9 y = true) : lotsGood xs (k + 1) := fun j hj hjk y hy => by
 by_cases e : j = k
 ·subst e; exact h2 y hy
 ·exact h1 j hj (by omega) y hy
theorem lotsGood_all {xs : List Itm} (h : lotsGood xs 2) : ∀ y ∈ xs, good9 y = true := fun y hy => by
 rw [← List.take_append_drop (min xs.length 4) xs] at hy
 rcases List.mem_append.1 hy with hy | hy
 ·exact h 0 (show 0 < 2 by decide) (by decide) y hy
 ·exact h 1 (show 1 < 2 by decide) (by decide) y hy
theorem rows_bad2 {nm : ByteArray} {x : Que} {y : Itm} (h : y ∈ x.items) (hs : ¬ ((itemO y).isSome = true ∧ (byt y).length ≤ 900)) : rowsO nm x = none := rowsO_none fun hg => hs (good9_iff.1 (hg.2.2.2.2.2 _ h))
theorem map_next {xs : List Itm} {i : Nat} (h : i < xs.length) : (xs.take (i + 1)).map byt = (xs.take i).map byt ++ [byt (xs[i]'h)] := by rw [List.take_succ_eq_append_getElem h, List.map_append]; rfl
theorem map_len {xs : List Itm} {i : Nat} (h : i ≤ xs.length) : ((xs.take i).map byt).length = i := by rw [List.length_map, List.length_take]; omega
theorem lots_ok1 {K : List Nat} {w : World} {ps qs : Option Addr} {a b c d : Nat} : ok1 ([Value.slice ps a b, Value.slice qs c d].flatMap (·.cells.toList)) := by
 intro v hv
 simp [Value.cells] at hv
 rcases hv with rfl | rfl <;> rfl
theorem lots_at {K : List Nat} {w : World} {xs : List Itm} {p q : Option Addr} {c d : Nat} (h1 : Arr 433 itemR' K w p (xs.take (min xs.length 4)) c) (h2 : Arr 433 itemR' K w q (xs.drop (min xs.length 4)) d) (j : Nat) (y : List Itm) (hj : (lots xs)[j]? = some y) : RV 433 itemR' K w ((([Value.slice p (xs.take (min xs.length 4)).length c, Value.slice q (xs.drop (min xs.length 4)).length d].flatMap (·.cells.toList)).drop (j * 1)).take 1) y := by
 have hj0 : j < 2 := (List.getElem?_eq_some_iff.1 hj).1
 have : j = 0 ∨ j = 1 := by omega
 rcases this with rfl | rfl
 ·cases hj; exact ⟨p, c, rfl, h1⟩
 ·cases hj; exact ⟨q, d, rfl, h2⟩

theorem rows_w {S : List Snap} {H : List Chunk} {w : World} (ho : Own S H w) {x : Que} (hx : x.ok) {q : Option Addr} {d : Nat} (hV : Arr 433 itemR' (keys H) w q x.items d) (nm : ByteArray) : Calls Try.prog 102 #[.string nm, .agg (cat (queV x q d)).toArray] w (Ret fun v w' => ∃ p c, v = .tuple #[.slice p ((rowsO nm x).getD []).length c, .bool (rowsO nm x).isSome] ∧ Own S H w' ∧ Arr 3 chgR (keys H) w' p ((rowsO nm x).getD []) c) := by
 have hx1 := hx.id
 have hx2 := hx.wait
 have hx3 := hx.back
 have hsm := hV.small
 refine enter (G := Own (⟨w, keys H⟩ :: S) H) ho.keep Try.func102 rfl Try.ntmps102 rfl ?_
 refine VC.sr ?_
 refine VL.box (L := queL) (ps := (queV (x) q d)) rfl rfl (queV_len hx) (fun g1 => ?_)
 refine VL.assign rfl ?_
 refine VL.assign rfl ?_
 refine VL.nn ?_
 refine VC.sr ?_
 refine VL.fieldAddr rfl fo157_0 rfl ?_
 refine VL.load (v := .slice q (x.items).length d) 0 0 rfl kd126 (fun _ h => h) rfl rfl rfl ?_
 refine VL.len Try.underlying126 rfl rfl ?_
 refine VL.assign rfl ?_
 refine VL.nn ?_
 refine VC.seq ?_
 refine VC.sr ?_
 refine VL.move rfl ?_
 refine VL.lens Try.underlying9 rfl rfl ?_
 refine VL.geq rfl rfl ?_
 refine VL.case (fun h1 => ?_) (fun h1 => ?_)
 ·refine VL.move rfl ?_
  refine VL.pass rfl rfl rfl rfl rfl ?_
  refine VL.pass rfl rfl rfl rfl rfl ?_
  refine VL.pick_t rfl rfl ?_
  refine VL.move rfl ?_
  refine VL.pass rfl rfl rfl rfl rfl ?_
  refine VL.pass rfl rfl rfl rfl rfl ?_
  refine VL.pass rfl rfl rfl rfl rfl ?_
  refine VL.pick_t rfl rfl ?_
  refine VL.move rfl ?_
  refine VL.pass rfl rfl rfl rfl rfl ?_
  refine VL.pass rfl rfl rfl rfl rfl ?_
  refine VL.pass rfl rfl rfl rfl rfl ?_
  refine VL.pass rfl rfl rfl rfl rfl ?_
  refine VL.pass rfl rfl rfl rfl rfl ?_
  refine VL.pick_t rfl rfl ?_
  refine VL.nn ?_
  refine VC.yes rfl ?_
  refine VC.sr ?_
  refine VL.assign rfl ?_
  refine VL.assign rfl ?_
  refine VL.nn ?_
  refine VC.ret ?_
  refine VX.then_ret ?_
  refine VX.ret2 rfl rfl rfl (fun we hw => ?_)
  exact rows_post (rowsO_none (fun hg => by obtain ⟨g1, g2, g3, g4, g5, _⟩ := hg; omega)) (hw.drop.subA)
 ·refine VL.move rfl ?_
  refine VL.go rfl rfl rfl ?_
  refine VL.move rfl ?_
  refine VL.go rfl rfl rfl ?_
  refine VL.gtr rfl rfl ?_
  refine VL.case (fun h2 => ?_) (fun h2 => ?_)
  ·refine VL.pick_f rfl rfl ?_
   refine VL.move rfl ?_
   refine VL.pass rfl rfl rfl rfl rfl ?_
   refine VL.pass rfl rfl rfl rfl rfl ?_
   refine VL.pass rfl rfl rfl rfl rfl ?_
   refine VL.pick_t rfl rfl ?_
   refine VL.move rfl ?_
   refine VL.pass rfl rfl rfl rfl rfl ?_
   refine VL.pass rfl rfl rfl rfl rfl ?_
   refine VL.pass rfl rfl rfl rfl rfl ?_
   refine VL.pass rfl rfl rfl rfl rfl ?_
   refine VL.pass rfl rfl rfl rfl rfl ?_
   refine VL.pick_t rfl rfl ?_
   refine VL.nn ?_
   refine VC.yes rfl ?_
   refine VC.sr ?_
   refine VL.assign rfl ?_
   refine VL.assign rfl ?_
   refine VL.nn ?_
   refine VC.ret ?_
   refine VX.then_ret ?_
   refine VX.ret2 rfl rfl rfl (fun we hw => ?_)
   exact rows_post (rowsO_none (fun hg => by obtain ⟨g1, g2, g3, g4, g5, _⟩ := hg; omega)) (hw.drop.subA)
  ·refine VL.pick_f rfl rfl ?_
   refine VL.move rfl ?_
   refine VL.go rfl rfl rfl ?_
   refine VL.fieldAddr rfl fo157_1 rfl ?_
   refine VL.go rfl rfl rfl ?_
   refine VL.load (v := .int .i64 (x.sent)) 0 1 rfl kd3 (fun _ h => h) rfl rfl rfl ?_
   refine VL.go rfl rfl rfl ?_
   refine VL.lss rfl rfl ?_
   refine VL.case (fun h3 => ?_) (fun h3 => ?_)
   ·refine VL.pick_f rfl rfl ?_
    refine VL.move rfl ?_
    refine VL.pass rfl rfl rfl rfl rfl ?_
    refine VL.pass rfl rfl rfl rfl rfl ?_
    refine VL.pass rfl rfl rfl rfl rfl ?_
    refine VL.pass rfl rfl rfl rfl rfl ?_
    refine VL.pass rfl rfl rfl rfl rfl ?_
    refine VL.pick_t rfl rfl ?_
    refine VL.nn ?_
    refine VC.yes rfl ?_
    refine VC.sr ?_
    refine VL.assign rfl ?_
    refine VL.assign rfl ?_
    refine VL.nn ?_
    refine VC.ret ?_
    refine VX.then_ret ?_
    refine VX.ret2 rfl rfl rfl (fun we hw => ?_)
    exact rows_post (rowsO_none (fun hg => by obtain ⟨g1, g2, g3, g4, g5, _⟩ := hg; omega)) (hw.drop.subA)
   ·refine VL.pick_f rfl rfl ?_
    refine VL.move rfl ?_
    refine VL.go rfl rfl rfl ?_
    refine VL.fieldAddr rfl fo157_1 rfl ?_
    refine VL.go rfl rfl rfl ?_
    refine VL.load (v := .int .i64 (x.sent)) 0 1 rfl kd3 (fun _ h => h) rfl rfl rfl ?_
    refine VL.go rfl rfl rfl ?_
    refine VL.move rfl ?_
    refine VL.go rfl rfl rfl ?_
    refine VL.min2 rfl rfl ?_
    refine VL.newv (v' := .int .i64 ((min x.items.length 4) : Nat)) (congrArg (Value.int .i64) (by omega)) ?_
    refine VL.go rfl rfl rfl ?_
    refine VL.gtr rfl rfl ?_
    refine VL.case (fun h4 => ?_) (fun h4 => ?_)
    ·refine VL.pick_f rfl rfl ?_
     refine VL.nn ?_
     refine VC.yes rfl ?_
     refine VC.sr ?_
     refine VL.assign rfl ?_
     refine VL.assign rfl ?_
     refine VL.nn ?_
     refine VC.ret ?_
     refine VX.then_ret ?_
     refine VX.ret2 rfl rfl rfl (fun we hw => ?_)
     exact rows_post (rowsO_none (fun hg => by obtain ⟨g1, g2, g3, g4, g5, _⟩ := hg; omega)) (hw.drop.subA)
    ·refine VL.pick_f rfl rfl ?_
     refine VL.nn ?_
     refine VC.no rfl ?_
     refine VC.skip ?_
     refine VX.next ?_
     refine VC.seq ?_
     have hs0 : 0 ≤ x.sent := by omega
     have hl8 : x.items.length ≤ 8 := by omega
     have hs4 : x.sent.toNat ≤ 4 := by omega
     refine VC.region ?_
     refine VL.fieldAddr rfl fo157_2 rfl ?_
     refine VL.load (v := .int .u16 (x.id)) 0 2 rfl kd68 (fun _ h => h) rfl rfl rfl ?_
     refine VL.conv (by rw [Try.underlying68]; rfl) Try.underlying22 rfl (inr_u64 (by omega)) ?_
     refine VL.call Try.func25 rfl (by decide) rfl (fun w' hw => put_two hw (x.id) hx.id) (fun v => ?_)
     refine VL.at (fun w2 h1w => ?_)
     obtain ⟨p3, c4, rfl, hO6, hA5⟩ := h1w
     refine VL.toOwn hO6 ?_
     refine VL.move rfl ?_
     refine VL.extract rfl rfl ?_
     refine VL.extract rfl rfl ?_
     refine VL.assign rfl ?_
     refine VL.assign rfl ?_
     refine VL.nn ?_
     refine VC.sr ?_
     refine VL.move rfl ?_
     refine VL.fieldAddr rfl fo157_1 rfl ?_
     refine VL.load (v := .int .i64 (x.sent)) 0 1 rfl kd3 (fun _ h => h) rfl rfl rfl ?_
     refine VL.newv (v' := .int .i64 ((x.sent.toNat : Nat) : Int)) (congrArg (Value.int .i64) (Int.toNat_of_nonneg hs0).symm) ?_
     refine VL.conv (by rw [Try.underlying3]; rfl) Try.underlying5 rfl (by simp only [InR]; omega) ?_
     refine VL.litByte (m := x.sent.toNat) el24 rfl (by omega) (fun g7 w8 hO9 hA10 => ?_)
     refine VL.fieldAddr rfl fo157_3 rfl ?_
     refine VL.load (v := .int .u8 (x.wait)) 0 3 rfl kd5 (fun _ h => h) rfl rfl rfl ?_
     refine VL.litByte (m := x.wait) el24 rfl (by have hm := hx.wait; omega) (fun g11 w12 hO13 hA14 => ?_)
     refine VL.fieldAddr rfl fo157_4 rfl ?_
     refine VL.load (v := .int .u8 (x.back)) 0 4 rfl kd5 (fun _ h => h) rfl rfl rfl ?_
     refine VL.litByte (m := x.back) el24 rfl (by have hm := hx.back; omega) (fun g15 w16 hO17 hA18 => ?_)
     refine VL.move rfl ?_
     refine VL.conv (by rw [Try.underlying3]; rfl) Try.underlying5 rfl (by simp only [InR]; omega) ?_
     refine VL.litByte (m := x.items.length) el24 rfl (by omega) (fun g19 w20 hO21 hA22 => ?_)
     refine VL.lit el31 rfl rfl rfl (by simp [Value.cells]) (by intro u hu; simp [Value.cells] at hu; rcases hu with rfl | rfl | rfl | rfl | rfl <;> rfl) (fun g23 => ?_)
     refine VL.letRowS [be 2 (x.id), be 1 (x.sent.toNat), be 1 (x.wait), be 1 (x.back), be 1 (x.items.length)] rfl (fun w' hw => ⟨⟨_, _, rfl, (hA5.nowA (s := ⟨w2, _⟩) Mono.byte hw)⟩, ⟨⟨_, _, rfl, (hA10.nowA (s := ⟨w8, _⟩) Mono.byte hw)⟩, ⟨⟨_, _, rfl, (hA14.nowA (s := ⟨w12, _⟩) Mono.byte hw)⟩, ⟨⟨_, _, rfl, (hA18.nowA (s := ⟨w16, _⟩) Mono.byte hw)⟩, ⟨⟨_, _, rfl, (hA22.nowA (s := ⟨w20, _⟩) Mono.byte hw)⟩, trivial⟩⟩⟩⟩⟩) (fun w24 hO25 hA26 => ?_)
     refine VL.call Try.func30 rfl (by decide) rfl (fun w' hw => by have h9 := join_S (ls := [be 2 (x.id), be 1 (x.sent.toNat), be 1 (x.wait), be 1 (x.back), be 1 (x.items.length)]) hw (hA26.nowA (s := ⟨w24, _⟩) (Mono.slice Mono.byte) hw) (head_joinOk x); exact h9) (fun v => ?_)
     refine VL.at (fun w27 h1w => ?_)
     obtain ⟨p28, c29, rfl, hO31, hA30⟩ := h1w
     refine VL.toOwn hO31 ?_
     refine VL.move rfl ?_
     refine VL.extract rfl rfl ?_
     refine VL.extract rfl rfl ?_
     refine VL.assign rfl ?_
     refine VL.assign rfl ?_
     refine VL.nn ?_
     refine VC.sr ?_
     refine VL.move rfl ?_
     refine VL.cats rfl rfl (by first | (rw [sK_size]; omega) | (show nm.size + 1 ≤ 9223372036854775807; omega)) ?_
     refine VL.move rfl ?_
     refine VL.build (zs := chgZ) (L := chgFL) [(0, [.string ((nm ++ sH))]), (1, [.slice p28 ((joinB [be 2 (x.id), be 1 (x.sent.toNat), be 1 (x.wait), be 1 (x.back), be 1 (x.items.length)])).length c29])] plan167 rfl ⟨⟨rfl, ⟨_, rfl, rfl⟩, rfl⟩, ⟨⟨rfl, ⟨_, rfl, rfl⟩, rfl⟩, trivial⟩⟩ rfl ?_
     refine VL.newv (v' := .agg (cat (chgV ((rowH nm x)) p28 c29)).toArray) rfl ?_
     refine VL.lit el158 rfl rfl rfl (by intro v hv; simp only [List.mem_singleton] at hv; subst hv; rfl) (by rw [show [Value.agg (cat (chgV (rowH nm x) p28 c29)).toArray].flatMap (·.cells.toList) = (cat (chgV (rowH nm x) p28 c29)) by simp [Value.cells]]; exact chgV_ok1 _ _ _) (fun gl => ?_)
     refine VL.turn (G' := Own _ (arow 167 3 chgR Mono_chg (some gl) 1 [(rowH nm x)] :: blk g1 157 queL (queV (x) q d) :: H)) (fun w' hw => hw.asArr Mono_chg rfl (one_chg (hA30.nowA (s := ⟨w27, _⟩) Mono.byte hw))) ?_
     refine VL.assign rfl ?_
     refine VL.nn ?_
     refine VC.seq ?_
     refine VC.seq ?_
     refine VC.letCells 1 rfl (fun w32 hO34 hF33 => ?_)
     apply VC.anyA 1013 (F := [eqF _, eqF _, eqF _, eqF _, arrS ⟨w, keys H⟩ 433 itemR' (x.items.take (min x.items.length 4)), eqF _, eqF _, eqF _, eqF _, arrS ⟨w, keys H⟩ 433 itemR' (x.items.drop (min x.items.length 4)), arrF 1 (RV 433 itemR') (Mono.slice Mono_item) (lots x.items), eqF _, eqF _]) [⟨[], [3]⟩, ⟨[(74, 0)], []⟩, ⟨[], [6]⟩, ⟨[(76, 2)], []⟩, ⟨[(75, 1), (77, 3)], []⟩, ⟨[], [3]⟩, ⟨[(79, 5)], []⟩, ⟨[], [6]⟩, ⟨[(81, 7)], []⟩, ⟨[(80, 6), (82, 8)], []⟩, ⟨[(78, 4), (83, 9)], []⟩, ⟨[(84, 10)], []⟩, ⟨[], []⟩] [(84, 10), (85, 11), (86, 12)] [0, 1, 3, 4, 5, 6, 7, 9, 11, 12, 13, 14, 16, 17, 18, 19, 21, 22, 23, 24, 25, 26, 27, 28, 29, 30, 31, 32, 33, 34, 35, 36, 37, 38, 39, 40, 41, 42, 43, 44, 45, 46, 47, 48, 49, 50, 51, 52, 53, 54, 55, 56, 57, 58, 59, 60, 61, 62, 63, 64, 65, 66, 67, 68, 69, 70, 71, 72, 73, 87, 88, 89, 90, 91, 92, 93, 94, 95, 96, 97, 98, 99, 100, 101, 102, 103, 104, 105, 106, 107, 108, 109, 110, 111, 112, 113, 114, 115, 116, 117, 118, 119, 120, 121, 122, 123, 124, 125, 126, 127, 128, 129, 130, 131, 132, 133, 134] rfl (by kernel_rfl) (by kernel_rfl) (by kernel_rfl) (by kernel_rfl) rfl ?obs7 ?end7
     case obs7 =>
      refine Obs.cons ?_ ?_
      ·refine obS (by kernel_rfl) rfl rfl (fun ph7 w7 hO7 => ?_)
       refine VL.fieldAddr rfl fo157_0 rfl ?_
       exact VL.finS hO7 rfl rfl
      refine Obs.cons ?_ ?_
      ·refine obS (by kernel_rfl) rfl rfl (fun ph7 w7 hO7 => ?_)
       rintro _ rfl
       refine VL.loadF (s := ⟨w32, _⟩) (v := .slice q (x.items).length d) 0 rfl kd126 hF33 (fun _ e => e ▸ Still.ok hO7 (by repeat (first | exact List.mem_cons_self .. | apply List.mem_cons_of_mem))) rfl rfl ?_
       exact VL.finS hO7 rfl rfl
      refine Obs.cons ?_ ?_
      ·refine obS (by kernel_rfl) rfl rfl (fun ph7 w7 hO7 => ?_)
       refine VL.move rfl ?_
       exact VL.finS hO7 rfl rfl
      refine Obs.cons ?_ ?_
      ·refine obS (by kernel_rfl) rfl rfl (fun ph7 w7 hO7 => ?_)
       rintro _ rfl
       refine VL.min2 rfl rfl ?_
       refine VL.newv (v' := .int .i64 ((min x.items.length 4) : Nat)) (congrArg (Value.int .i64) (by omega)) ?_
       exact VL.finS hO7 rfl rfl
      refine Obs.cons ?_ ?_
      ·refine obS (by kernel_rfl) rfl rfl (fun ph7 w7 hO7 => ?_)
       rintro _ rfl _ rfl
       refine VL.takeS (min x.items.length 4) rfl rfl Try.underlying126 sz126 hV (by omega) (fun p9 hA9 => ?_)
       exact VL.finS hO7 rfl ⟨_, _, rfl, hA9⟩
      refine Obs.cons ?_ ?_
      ·refine obS (by kernel_rfl) rfl rfl (fun ph7 w7 hO7 => ?_)
       refine VL.fieldAddr rfl fo157_0 rfl ?_
       exact VL.finS hO7 rfl rfl
      refine Obs.cons ?_ ?_
      ·refine obS (by kernel_rfl) rfl rfl (fun ph7 w7 hO7 => ?_)
       rintro _ rfl
       refine VL.loadF (s := ⟨w32, _⟩) (v := .slice q (x.items).length d) 0 rfl kd126 hF33 (fun _ e => e ▸ Still.ok hO7 (by repeat (first | exact List.mem_cons_self .. | apply List.mem_cons_of_mem))) rfl rfl ?_
       exact VL.finS hO7 rfl rfl
      refine Obs.cons ?_ ?_
      ·refine obS (by kernel_rfl) rfl rfl (fun ph7 w7 hO7 => ?_)
       refine VL.move rfl ?_
       exact VL.finS hO7 rfl rfl
      refine Obs.cons ?_ ?_
      ·refine obS (by kernel_rfl) rfl rfl (fun ph7 w7 hO7 => ?_)
       rintro _ rfl
       refine VL.min2 rfl rfl ?_
       refine VL.newv (v' := .int .i64 ((min x.items.length 4) : Nat)) (congrArg (Value.int .i64) (by omega)) ?_
       exact VL.finS hO7 rfl rfl
      refine Obs.cons ?_ ?_
      ·refine obS (by kernel_rfl) rfl rfl (fun ph7 w7 hO7 => ?_)
       rintro _ rfl _ rfl
       refine VL.dropS (min x.items.length 4) rfl rfl Try.underlying126 sz126 hV (by omega) (fun p9 hA9 => ?_)
       exact VL.finS hO7 rfl ⟨_, _, rfl, hA9⟩
      refine Obs.cons ?_ ?_
      ·refine ob (by kernel_rfl) rfl (by kernel_rfl) rfl (fun w7 hO7 => ?_)
       rintro _ ⟨pta, cta, rfl, hAta⟩ _ ⟨pdr, cdr, rfl, hAdr⟩
       refine VL.toOwn hO7 ?_
       refine VL.lit el224 rfl rfl rfl (by simp [Value.cells]) (lots_ok1 (K := []) (w := w)) (fun g9 => ?_)
       refine VL.letRow (RV 433 itemR') (lots x.items) rfl (fun w' hw => lots_at (hAta.nowA (s := ⟨w, _⟩) Mono_item hw) (hAdr.nowA (s := ⟨w, _⟩) Mono_item hw)) (fun w9 hO9 hA9 => ?_)
       exact VL.finO rfl (fun _ h => h.subA) (fun _ h => ⟨_, _, rfl, hA9.now (s := ⟨w9, _⟩) (Mono.slice Mono_item) h (by repeat (first | exact List.mem_cons_self .. | apply List.mem_cons_of_mem))⟩)
      refine Obs.cons ?_ ?_
      ·refine obS (by kernel_rfl) rfl rfl (fun ph7 w7 hO7 => ?_)
       rintro _ ⟨pL, cL, rfl, hL⟩
       refine VL.len Try.underlying224 rfl rfl ?_
       exact VL.finS hO7 rfl rfl
      refine Obs.cons ?_ ?_
      ·refine obS (by kernel_rfl) rfl rfl (fun ph7 w7 hO7 => ?_)
       refine VL.move rfl ?_
       exact VL.finS hO7 rfl rfl
      exact Obs.nil
     case end7 =>
      intro w7 hO7
      rintro _ ⟨pL, cL, rfl, hL⟩ _ rfl _ rfl
      refine VX.toOwn hO7 ?_
      refine VX.next ?_
      refine VC.block ?_
      refine VC.loop (X := Nat × Option Nat × Nat) (fun (k, gv, cv) => [(0, .string nm), (11, rowV gv (rowsK nm x k).length cv), (84, .slice pL (lots x.items).length cL), (85, .int .i64 2), (86, .int .i64 (k : Int))]) (fun (k, gv, cv) w' => (k ≤ 2 ∧ lotsGood x.items k) ∧ Own (⟨w7, keys (arow 167 3 chgR Mono_chg (some gl) 1 [(rowH nm x)] :: H)⟩ :: ⟨w, keys H⟩ :: S) (arow 167 3 chgR Mono_chg gv cv (rowsK nm x k) :: H) w') (fun (k, _) => 2 - k) (0, some gl, 1) ⟨rfl, rfl, rfl, rfl, rfl, trivial⟩ (fun w' h => ⟨⟨Nat.zero_le _, fun j hj h0 => absurd h0 (Nat.not_lt_zero j)⟩, h.sub (fun _ hs => (List.mem_cons.1 hs).elim (fun e => e ▸ (by repeat (first | exact List.mem_cons_self .. | apply List.mem_cons_of_mem))) (fun hs => by repeat (first | exact hs | apply List.mem_cons_of_mem)))⟩) (fun (k, gv, cv) => VC.fact fun ⟨hk, hlg⟩ => ?_)
      ·have hr3 := rowsK_len nm x k
       refine VC.sr ?_
       refine VL.lss rfl rfl ?_
       refine VL.case (fun h8 => ?_) (fun h8 => ?_)
       ·have hlt : k < (lots x.items).length := (show k < 2 by omega)
        refine VL.nn ?_
        refine VC.seq ?_
        refine VC.yes rfl ?_
        refine VC.skip ?_
        refine VX.next ?_
        refine VC.seq ?_
        refine VC.block ?_
        refine VC.sr ?_
        refine VL.move rfl ?_
        refine VL.index (xs := (lots x.items)) rfl rfl Try.underlying224 sz224 hL (by omega) (by have hi := hlt; omega) ?_
        refine VL.elem (s := ⟨w7, _⟩) (k) 0 rfl kd126 (fun _ h => h) (by repeat (first | exact List.mem_cons_self .. | apply List.mem_cons_of_mem)) (Mono.slice Mono_item) hL (List.getElem?_eq_getElem hlt) (by simp) (by decide) (fun vs v hl hr hv => ?_)
        obtain ⟨pi, ci, rfl, hPi⟩ := hr
        have e7 : v = .slice pi ((lots x.items)[k]'hlt).length ci := (Option.some.inj (hv.symm.trans rfl))
        subst e7
        have hll := lot_len hl8 hlt
        have hok : ∀ y ∈ ((lots x.items)[k]'hlt), y.ok := fun y hy => hx.items y (lot_mem hlt hy)
        refine VL.assign rfl ?_
        refine VL.assign rfl ?_
        refine VL.nn ?_
        refine VC.sr ?_
        refine VL.assign rfl ?_
        refine VL.nn ?_
        refine VC.seq ?_
        refine VC.sr ?_
        refine VL.move rfl ?_
        refine VL.len Try.underlying126 rfl rfl ?_
        refine VL.move rfl ?_
        refine VL.nn ?_
        refine VC.block ?_
        refine VC.turn (G' := Own _ (brow none 0 (([] : List (List UInt8))) :: arow 167 3 chgR Mono_chg gv cv (rowsK nm x k) :: H)) (fun w' h => brow0 h) ?_
        refine VC.loop (X := Nat × Option Nat × Nat) (fun (i, gq, cq) => [(0, .string nm), (11, rowV gv (rowsK nm x k).length cv), (12, .int .i64 (k : Int)), (14, rowV gq ((((lots x.items)[k]'hlt).take i).map byt).length cq), (84, .slice pL (lots x.items).length cL), (85, .int .i64 2), (86, .int .i64 (k : Int)), (91, .slice pi ((lots x.items)[k]'hlt).length ci), (92, .int .i64 (((lots x.items)[k]'hlt).length : Int)), (93, .int .i64 (i : Int))]) (fun (i, gq, cq) w' => (i ≤ ((lots x.items)[k]'hlt).length ∧ ∀ y ∈ ((lots x.items)[k]'hlt).take i, good9 y = true) ∧ Own (⟨w7, keys (arow 167 3 chgR Mono_chg (some gl) 1 [(rowH nm x)] :: H)⟩ :: ⟨w, keys H⟩ :: S) (brow gq cq (((((lots x.items)[k]'hlt).take i).map byt)) :: arow 167 3 chgR Mono_chg gv cv (rowsK nm x k) :: H) w') (fun (i, _) => ((lots x.items)[k]'hlt).length - i) (0, none, 0) ⟨rfl, rfl, rfl, rfl, rfl, rfl, rfl, rfl, rfl, rfl, trivial⟩ (fun w' h => ⟨⟨Nat.zero_le _, fun y hy => by cases hy⟩, h.subA⟩) (fun (i, gq, cq) => VC.fact fun ⟨hi, hall⟩ => ?_)
        ·have htl := map_len hi
         have htl2 : (List.take i ((lots x.items)[k]'hlt)).length ≤ i := List.length_take_le _ _
         refine VC.sr ?_
         refine VL.lss rfl rfl ?_
         refine VL.case (fun h12 => ?_) (fun h12 => ?_)
         ·have hil : i < ((lots x.items)[k]'hlt).length := by omega
          refine VL.nn ?_
          refine VC.seq ?_
          refine VC.yes rfl ?_
          refine VC.skip ?_
          refine VX.next ?_
          refine VC.seq ?_
          refine VC.block ?_
          refine VC.sr ?_
          refine VL.index (xs := ((lots x.items)[k]'hlt)) rfl rfl Try.underlying126 sz126 hPi (by omega) (by have hi := hil; omega) ?_
          refine VL.elems (s := ⟨w7, _⟩) (m := 433) (i) 0 rfl kd87 (fun _ h => h) (by repeat (first | exact List.mem_cons_self .. | apply List.mem_cons_of_mem)) hPi (List.getElem?_eq_getElem hil) (by simp) (by decide) (fun vs hl hr => ?_)
          obtain ⟨p37, c38, q39, d40, hy36, rfl, hA41, hV42⟩ := hr
          refine VL.newv (v' := .agg (cat (itemV (((lots x.items)[k]'hlt)[i]'hil) p37 c38 q39 d40)).toArray) (by rw [List.drop_zero, List.take_of_length_le (by rw [hl]; decide)]) ?_
          refine VL.alloc (L := itemL) (ps := (itemV (item0) none 0 none 0)) zero87 rfl rfl (fun g43 => ?_)
          refine VL.store (L := itemL) (qs := (itemV ((((lots x.items)[k]'hlt)[i]'hil)) p37 c38 q39 d40)) (ps' := (itemV ((((lots x.items)[k]'hlt)[i]'hil)) p37 c38 q39 d40)) 0 0 28 rfl rfl rfl (.inl kd87) rfl rfl (itemV_len (hok _ (List.getElem_mem hil))) (itemV_ok1 ((((lots x.items)[k]'hlt)[i]'hil)) p37 c38 q39 d40) rfl rfl ?_
          refine VL.set0 ?_
          refine VL.nn ?_
          refine VC.sr ?_
          refine VL.loads (cs := cat (itemV ((((lots x.items)[k]'hlt)[i]'hil)) p37 c38 q39 d40)) 0 0 28 rfl kd87 (fun _ h => h) rfl rfl rfl rfl ?_
          refine VL.call Try.func56 rfl (by decide) rfl (fun w' hw => putItem_w hw (x := (((lots x.items)[k]'hlt)[i]'hil)) (hok _ (List.getElem_mem hil)) (hA41.nowA (s := ⟨w7, _⟩) Mono.byte hw) (hV42.nowA (s := ⟨w7, _⟩) Mono_vouch hw)) (fun v => ?_)
          refine VL.at (fun w44 h1w => ?_)
          obtain ⟨p45, c46, rfl, hO48, hA47⟩ := h1w
          refine VL.toOwn hO48 ?_
          refine VL.move rfl ?_
          refine VL.extract rfl rfl ?_
          refine VL.extract rfl rfl ?_
          refine VL.assign rfl ?_
          refine VL.assign rfl ?_
          refine VL.nn ?_
          refine VC.seq ?_
          refine VC.sr ?_
          refine VL.move rfl ?_
          cases hs : (itemO (((lots x.items)[k]'hlt)[i]'hil)).isSome
          ·refine VL.not rfl ?_
           refine VL.move rfl ?_
           refine VL.pass rfl rfl rfl rfl rfl ?_
           refine VL.pass rfl rfl rfl rfl rfl ?_
           refine VL.pass rfl rfl rfl rfl rfl ?_
           refine VL.pick_t rfl rfl ?_
           refine VL.nn ?_
           refine VC.yes rfl ?_
           refine VC.sr ?_
           refine VL.assign rfl ?_
           refine VL.assign rfl ?_
           refine VL.nn ?_
           refine VC.ret ?_
           refine VX.then_ret ?_
           refine VX.block_ret ?_
           refine VX.then_ret ?_
           refine VX.then_ret ?_
           refine VX.block_ret ?_
           refine VX.then_ret ?_
           refine VX.block_ret ?_
           refine VX.then_ret ?_
           refine VX.then_ret ?_
           refine VX.block_ret ?_
           refine VX.then_ret ?_
           refine VX.ret2 rfl rfl rfl (fun we hw => ?_)
           exact rows_post (rows_bad2 (lot_mem hlt (List.getElem_mem hil)) (fun h => by rw [hs] at h; cases h.1)) (hw.drop.drop.drop.subA)
          ·refine VL.not rfl ?_
           refine VL.move rfl ?_
           refine VL.go rfl rfl rfl ?_
           refine VL.move rfl ?_
           refine VL.go rfl rfl rfl ?_
           refine VL.len Try.underlying24 rfl rfl ?_
           refine VL.go rfl rfl rfl ?_
           refine VL.gtr rfl rfl ?_
           refine VL.case (fun h15 => ?_) (fun h15 => ?_)
           ·refine VL.pick_f rfl rfl ?_
            refine VL.nn ?_
            refine VC.yes rfl ?_
            refine VC.sr ?_
            refine VL.assign rfl ?_
            refine VL.assign rfl ?_
            refine VL.nn ?_
            refine VC.ret ?_
            refine VX.then_ret ?_
            refine VX.block_ret ?_
            refine VX.then_ret ?_
            refine VX.then_ret ?_
            refine VX.block_ret ?_
            refine VX.then_ret ?_
            refine VX.block_ret ?_
            refine VX.then_ret ?_
            refine VX.then_ret ?_
            refine VX.block_ret ?_
            refine VX.then_ret ?_
            refine VX.ret2 rfl rfl rfl (fun we hw => ?_)
            exact rows_post (rows_bad2 (lot_mem hlt (List.getElem_mem hil)) (fun h => absurd h.2 (by unfold byt; omega))) (hw.drop.drop.drop.subA)
           ·refine VL.pick_f rfl rfl ?_
            refine VL.nn ?_
            refine VC.no rfl ?_
            refine VC.skip ?_
            refine VX.next ?_
            refine VC.region ?_
            refine VL.move rfl ?_
            refine VL.move rfl ?_
            refine VL.lit el31 rfl rfl rfl (by simp [Value.cells]) (by intro u hu; simp [Value.cells] at hu; rcases hu with rfl <;> rfl) (fun g49 => ?_)
            refine VL.letRowS [((itemO ((((lots x.items)[k]'hlt)[i]'hil))).getD [])] rfl (fun w' hw => ⟨⟨_, _, rfl, (hA47.nowA (s := ⟨w44, _⟩) Mono.byte hw)⟩, trivial⟩) (fun w50 hO51 hA52 => ?_)
            refine VL.appends (R := bytesR) (hR := Mono.slice Mono.byte) (ys := ((((lots x.items)[k]'hlt).take i).map byt)) (zs := [((itemO ((((lots x.items)[k]'hlt)[i]'hil))).getD [])]) 1 el31 rfl rfl rfl (fun _ h => h) rfl (fun _ hw => (hA52.nowA (s := ⟨w50, _⟩) (Mono.slice Mono.byte) hw)) bytesR_ok1 (by simp only [List.length_append, List.length_cons, List.length_nil, List.length_map]; omega) (fun g53 c54 => ?_) (by simp only [List.length_append, List.length_cons, List.length_nil, List.length_map]; omega)
            refine VL.set1 ?_
            refine VL.assign rfl ?_
            refine VL.nil ?_
            refine VX.block_normal ?_
            refine VX.next ?_
            refine VC.region ?_
            refine VL.add rfl rfl (by simp only [InR]; omega) ?_
            refine VL.move rfl ?_
            refine VL.nil ?_
            have h15 : (byt (((lots x.items)[k]'hlt)[i]'hil)).length ≤ 900 := by unfold byt; omega
            refine VX.round (i + 1, g53, c54) ⟨rfl, rfl, rfl, congrArg (fun l : List (List UInt8) => some (rowV g53 l.length c54)) (map_next hil).symm, rfl, rfl, rfl, rfl, rfl, rfl, trivial⟩ (fun w' h => ⟨⟨by omega, good_step hil hall hs h15⟩, ?_⟩) (by show ((lots x.items)[k]'hlt).length - (i + 1) < ((lots x.items)[k]'hlt).length - i; omega)
            rw [map_next hil]
            exact ((ownDropAt 0 h)).subA
         ·have hie : i = ((lots x.items)[k]'hlt).length := by omega
          have hgd : ∀ y ∈ ((lots x.items)[k]'hlt), good9 y = true := by rw [hie, List.take_length] at hall; exact hall
          have hmt : ((lots x.items)[k]'hlt).map byt = (((lots x.items)[k]'hlt).take i).map byt := by rw [hie, List.take_length]
          refine VL.nn ?_
          refine VC.seq ?_
          refine VC.no rfl ?_
          refine VC.exit ?_
          refine VX.then_exit ?_
          refine VX.then_exit ?_
          refine VX.block_here ?_
          refine VX.next ?_
          refine VC.sr ?_
          refine VL.move rfl ?_
          refine VL.len Try.underlying31 rfl rfl ?_
          refine VL.gtr rfl rfl ?_
          refine VL.case (fun h19 => ?_) (fun h19 => ?_)
          ·refine VL.nn ?_
           refine VC.yes rfl ?_
           refine VC.seq ?_
           refine VC.letArr (fun wr hOr hAr => ?_)
           refine VC.region ?_
           refine VL.move rfl ?_
           refine VL.call Try.func30 rfl (by decide) rfl (fun w' hw => by have h9 := join_S (ls := ((((lots x.items)[k]'hlt).take i).map byt)) hw (hAr.nowA (s := ⟨wr, _⟩) (Mono.slice Mono.byte) hw) (by rw [← hmt]; exact part_joinOk (lot_len hl8 hlt) hgd); exact h9) (fun v => ?_)
           refine VL.at (fun w55 h1w => ?_)
           obtain ⟨p56, c57, rfl, hO59, hA58⟩ := h1w
           refine VL.toOwn hO59 ?_
           refine VL.move rfl ?_
           refine VL.extract rfl rfl ?_
           refine VL.extract rfl rfl ?_
           refine VL.assign rfl ?_
           refine VL.assign rfl ?_
           refine VL.nn ?_
           refine VC.region ?_
           refine VL.move rfl ?_
           refine VL.move rfl ?_
           refine VL.move rfl ?_
           refine VL.add rfl rfl (by simp only [InR]; omega) ?_
           refine VL.conv (by rw [Try.underlying3]; rfl) Try.underlying21 rfl (by simp only [InR]; omega) ?_
           refine VL.runeS Try.underlying21 Try.underlying9 rfl ?_
           refine VL.newv (v' := .string (sK k)) (congrArg Value.string (enc_k hlt)) ?_
           refine VL.cats rfl rfl (by first | (rw [sK_size]; omega) | (show nm.size + 1 ≤ 9223372036854775807; omega)) ?_
           refine VL.move rfl ?_
           refine VL.build (zs := chgZ) (L := chgFL) [(0, [.string ((nm ++ sK k))]), (1, [.slice p56 ((joinB ((((lots x.items)[k]'hlt).take i).map byt))).length c57])] plan167 rfl ⟨⟨rfl, ⟨_, rfl, rfl⟩, rfl⟩, ⟨⟨rfl, ⟨_, rfl, rfl⟩, rfl⟩, trivial⟩⟩ rfl ?_
           refine VL.newv (v' := .agg (cat (chgV ((Chg.mk (nm ++ sK k) (joinB ((((lots x.items)[k]'hlt).take i).map byt)) false)) p56 c57)).toArray) rfl ?_
           refine VL.lit el158 rfl rfl rfl (by intro v hv; simp only [List.mem_singleton] at hv; subst hv; rfl) (by rw [show [Value.agg (cat (chgV (Chg.mk (nm ++ sK k) (joinB ((((lots x.items)[k]'hlt).take i).map byt)) false) p56 c57)).toArray].flatMap (·.cells.toList) = (cat (chgV (Chg.mk (nm ++ sK k) (joinB ((((lots x.items)[k]'hlt).take i).map byt)) false) p56 c57)) by simp [Value.cells]]; exact chgV_ok1 _ _ _) (fun gla => ?_)
           refine VL.letRow chgR [(Chg.mk (nm ++ sK k) (joinB ((((lots x.items)[k]'hlt).take i).map byt)) false)] rfl (fun w' hw => one_chg (hA58.nowA (s := ⟨w55, _⟩) Mono.byte hw)) (fun wla hOla hAla => ?_)
           refine VL.appends (R := chgR) (hR := Mono_chg) (ys := (rowsK nm x k)) (zs := [(Chg.mk (nm ++ sK k) (joinB ((((lots x.items)[k]'hlt).take i).map byt)) false)]) 0 el158 rfl rfl rfl (fun _ h => h) rfl (fun _ hw => (hAla.nowA (s := ⟨wla, _⟩) Mono_chg hw)) chgR_ok1 (by simp only [List.length_append, List.length_cons, List.length_nil]; omega) (fun gca cca => ?_) (by simp only [List.length_append, List.length_cons, List.length_nil]; omega)
           refine VL.set0 ?_
           refine VL.assign rfl ?_
           refine VL.nil ?_
           refine VX.block_normal ?_
           refine VX.next ?_
           refine VC.region ?_
           refine VL.add rfl rfl (by simp only [InR]; omega) ?_
           refine VL.move rfl ?_
           refine VL.nil ?_
           have el : rowsK nm x k ++ [(Chg.mk (nm ++ sK k) (joinB ((((lots x.items)[k]'hlt).take i).map byt)) false)] = rowsK nm x (k + 1) := by rw [rowsK_next hlt, part_some (by omega), hmt]
           refine VX.round (k + 1, gca, cca) ⟨rfl, congrArg (fun l : List Chg => some (rowV gca l.length cca)) el, rfl, rfl, rfl, trivial⟩ (fun w' h => ⟨⟨by omega, lotsGood_next hlt hlg hgd⟩, ?_⟩) (by show 2 - (k + 1) < 2 - k; omega)
           rw [← el]
           exact (h).subA
          ·refine VL.nn ?_
           refine VC.no rfl ?_
           refine VC.skip ?_
           refine VX.block_normal ?_
           refine VX.next ?_
           refine VC.region ?_
           refine VL.add rfl rfl (by simp only [InR]; omega) ?_
           refine VL.move rfl ?_
           refine VL.nil ?_
           have el : rowsK nm x k = rowsK nm x (k + 1) := by rw [rowsK_next hlt, part_nil (by omega), List.append_nil]
           refine VX.round (k + 1, gv, cv) ⟨rfl, congrArg (fun l : List Chg => some (rowV gv l.length cv)) el, rfl, rfl, rfl, trivial⟩ (fun w' h => ⟨⟨by omega, lotsGood_next hlt hlg hgd⟩, ?_⟩) (by show 2 - (k + 1) < 2 - k; omega)
           rw [← el]
           exact ((ownDropAt 0 h)).subA
       ·have hke : k = 2 := by omega
        refine VL.nn ?_
        refine VC.seq ?_
        refine VC.no rfl ?_
        refine VC.exit ?_
        refine VX.then_exit ?_
        refine VX.then_exit ?_
        refine VX.block_here ?_
        refine VX.next ?_
        refine VC.sr ?_
        refine VL.move rfl ?_
        refine VL.assign rfl ?_
        refine VL.assign rfl ?_
        refine VL.nn ?_
        refine VC.ret ?_
        refine VX.ret2 rfl rfl rfl (fun we hw => ?_)
        have e1 : rowsO nm x = some (rowsK nm x k) := by
         have ek : k = 2 := by omega
         subst ek
         rw [rowsO_some ⟨by omega, by omega, by omega, by omega, by omega, lotsGood_all hlg⟩, rowsK_2]
        rw [e1]
        have h7 := hw
        exact ⟨_, _, rfl, h7.drop.subA, h7.letArr⟩

end Go.Proofs.Ytcfecmoagfgnaaa

/- The rules of the walks, continued: a new variable as the one operation that turns what is owned; elements, where what is owned may have been turned. -/
namespace Go.Vc
section
variable {P : Program} {n : Nat} {Q : Exit → Act → World → Prop} {σ : Sl} {G : World → Prop} {ops : Array Oper} {rest : List Oper}
variable {d : Nat} {ty : TypeId} {pos : String} {aft : Array Edge}
variable {S : List Snap} {H : List Chunk} {s : Snap} {X : Type} {sz : Nat} {R : Rel X} {p : Option Addr} {xs : List X} {c : Nat}
theorem VL.allocB {T : TypeId} {z : Value} {L : List Nat} {ps : List (List Value)} (hz : (P.info? T).bind (·.zero) = some z) (hv : z.cells = (cat ps).toArray) (hl : ps.map List.length = L)
  (k : ∀ v, VL P n ops Q rest ((d, v) :: σ) (fun w' => ∃ g, v = .pointer (some ⟨g, 0, none⟩) ∧ Own S (blk g T L ps :: H) w')) (hdn : Nat.blt d n = true := by rfl) : VL P n ops Q (⟨some d, .alloc T, ty, pos, aft, none⟩ :: rest) σ (Own S H) :=
 VL.act (K := fun v w' => ∃ g, v = .pointer (some ⟨g, 0, none⟩) ∧ Own S (blk g T L ps :: H) w') rfl rfl hdn (fun a w ha hw => ⟨_, _, by
  cases hi : P.info? T with
  | none => simp [hi] at hz
  | some i =>
   simp [hi] at hz
   simp [execOp, Instr.alloc, zeroValue, typeInfo, hi, hz, newVar, newRow, hv], w.heap.size, rfl, hw.box hl⟩) k
theorem VL.elemO {t : TypeId} {x : Operand} {o : Nat} (j i : Nat) {y : X} (hx : ev σ x = some (pAt p o)) (ht : kindOf P t = some none) (hG : ∀ w, G w → s.ok w) (hA : Arr sz R s.K s.w p xs c)
  (hj : xs[j]? = some y) (ho : o = j * sz + i) (hi : i < sz)
  (k : ∀ vs v, vs.length = sz → R s.K s.w vs y → vs[i]? = some v → VL P n ops Q rest ((d, v) :: σ) G) (hdn : Nat.blt d n = true := by rfl) : VL P n ops Q (⟨some d, .load t x, ty, pos, aft, none⟩ :: rest) σ G := by
 obtain ⟨vs, a, rfl, hl, hr, hc⟩ := hA.cell hj
 have hv : vs[i]? = some vs[i] := List.getElem?_eq_getElem (by omega)
 refine VL.val rfl rfl hdn (fun b w hb hw => ?_) (k vs vs[i] hl hr hv)
 obtain ⟨h1, h2, h3, cs, el, fr, hg, _⟩ := hA.at_ a rfl (by have := (List.getElem?_eq_some_iff.1 hj).1; have := hA.le; omega)
 have hsame : w.cell? ⟨a.block, a.off + (j * sz + i), none⟩ = some vs[i] := by
  have := hc i _ hv
  have hb := (hG w hw).block a.block h3 h2
  rw [← this]
  simp only [World.cell?, hb]
 have hx' := hb.ev hx
 simp only [pAt, Option.map_some] at hx'
 subst ho
 simp [execOp, hx', run_load_cell ht hsame]
theorem VL.byteO {t : TypeId} {x : Operand} {l : List UInt8} {o : Nat} {y : UInt8} (hx : ev σ x = some (pAt p o)) (ht : kindOf P t = some none) (hG : ∀ w, G w → s.ok w) (hA : Bytes s.K s.w p l c)
  (hj : l[o]? = some y) (k : VL P n ops Q rest ((d, .int .u8 y.toNat) :: σ) G) (hdn : Nat.blt d n = true := by rfl) : VL P n ops Q (⟨some d, .load t x, ty, pos, aft, none⟩ :: rest) σ G :=
 VL.elemO o 0 hx ht hG hA hj (by omega) (by omega) (fun vs v _ hr hv => by
  rw [hr] at hv
  simp at hv
  subst hv
  exact k) hdn
theorem VL.finX {f : Fact} {w0 : World} {v : Value} (hv : look σ d = some v) (hG : ∀ w, G w → ∃ H', Own (⟨w0, keys H⟩ :: S) H' w) (h : ∀ w, G w → f v w) :
  VL P n ops (Post n Q (Still S H) (Turn (keys H)) f (some d) false true w0) [] σ G :=
 VL.fin hv fun w hw => by
  obtain ⟨H', ho⟩ := hG w hw
  exact ⟨h w hw, (ho.after (List.mem_cons_self ..)).1, fun s hs => (ho.snap s (List.mem_cons_of_mem _ hs)).1⟩
end
theorem sub_cons {s : Snap} {S S' : List Snap} (h : s ∈ S') (hr : ∀ x ∈ S, x ∈ S') : ∀ x ∈ s :: S, x ∈ S' := fun x hx => by
 rcases List.mem_cons.1 hx with e | hx
 ·rw [e]; exact h
 ·exact hr x hx
end Go.Vc

