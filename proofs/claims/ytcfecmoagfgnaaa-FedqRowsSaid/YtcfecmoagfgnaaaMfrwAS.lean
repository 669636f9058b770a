/- The statement FedqRows is proved, for every input: part 19 of 21 of the texts that it needs. -/
import Derived.Test.YtcfecmoagfgnaaaMfrwAR
/- Rows, read as a queue. -/
namespace Go.Proofs.Ytcfecmoagfgnaaa
open Go.Vc Go.Pl

/-- What is found under the first i endings. -/
abbrev ends : List ByteArray := [sH, s0, s1]
def gotK (nm : ByteArray) (l : List Chg) (i : Nat) : List Chg := (if 0 < i then (fnd l (nm ++ sH)).toList else []) ++ ((if 1 < i then (fnd l (nm ++ s0)).toList else []) ++ (if 2 < i then (fnd l (nm ++ s1)).toList else []))
theorem gotK_next {nm : ByteArray} {l : List Chg} {i : Nat} (h : i < ends.length) : gotK nm l (i + 1) = gotK nm l i ++ (fnd l (nm ++ ends[i]'h)).toList := by
 have h3 : i < 3 := h
 have : i = 0 ∨ i = 1 ∨ i = 2 := by omega
 rcases this with rfl | rfl | rfl
 ·show (fnd l (nm ++ sH)).toList ++ ([] ++ []) = ([] ++ ([] ++ [])) ++ (fnd l (nm ++ sH)).toList
  simp
 ·show (fnd l (nm ++ sH)).toList ++ ((fnd l (nm ++ s0)).toList ++ []) = ((fnd l (nm ++ sH)).toList ++ ([] ++ [])) ++ (fnd l (nm ++ s0)).toList
  simp
 ·show (fnd l (nm ++ sH)).toList ++ ((fnd l (nm ++ s0)).toList ++ (fnd l (nm ++ s1)).toList) = ((fnd l (nm ++ sH)).toList ++ ((fnd l (nm ++ s0)).toList ++ [])) ++ (fnd l (nm ++ s1)).toList
  simp
theorem gotK_len (nm : ByteArray) (l : List Chg) (i : Nat) : (gotK nm l i).length ≤ 3 := by
 have h : ∀ o : Option Chg, o.toList.length ≤ 1 := fun o => by cases o <;> simp
 have h1 := h (fnd l (nm ++ sH)); have h2 := h (fnd l (nm ++ s0)); have h3 := h (fnd l (nm ++ s1))
 unfold gotK
 rw [List.length_append, List.length_append]
 split <;> split <;> split <;> (try simp only [List.length_nil]) <;> omega
theorem end_size (i : Nat) (h : i < ends.length) : (ends[i]'h).size = 1 := by
 have h3 : i < 3 := h
 have : i = 0 ∨ i = 1 ∨ i = 2 := by omega
 rcases this with rfl | rfl | rfl <;> rfl
theorem headD_get {X : Type} {l : List X} {z : X} (h : 0 < l.length) : l.headD z = l[0]'h := by cases l with
 | nil => cases h
 | cons a r => rfl
/-- The head's bytes. -/
def hd (nm : ByteArray) (l : List Chg) : List UInt8 := ((gotL nm l).headD chg0).value
theorem hd_is {nm : ByteArray} {l : List Chg} (h : 0 < (gotK nm l 3).length) : ((gotK nm l 3)[0]'h).value = hd nm l := by
 unfold hd
 rw [headD_get (l := gotL nm l) h]; rfl
theorem gone_is {nm : ByteArray} {l : List Chg} (h : 0 < (gotK nm l 3).length) : ((gotL nm l).headD chg0).gone = ((gotK nm l 3)[0]'h).gone := by
 rw [headD_get (l := gotL nm l) h]; rfl
theorem split_P {S : List Snap} {H : List Chunk} {w : World} (ho : Own S H w) {p : Option Addr} {l : List UInt8} {c : Nat} (hA : Bytes (keys H) w p l c) : Calls Try.prog 32 #[.slice p l.length c] w (Ret fun v w' => ∃ p' c', v = .tuple #[.slice p' (openP l).length c', .int .i64 ((splitB l).1 : Nat)] ∧ Own S H w' ∧ Arr 1 bytesR (keys H) w' p' (openP l) c') :=
 calls_mono (split_any ho hA) fun v w' ⟨h1, p, c, e, h2⟩ => ⟨p, c, e, h1, h2⟩
theorem get_two {S : List Snap} {H : List Chunk} {w : World} (ho : Own S H w) {p : Option Addr} {l : List UInt8} {c : Nat} (hA : Bytes (keys H) w p l c) (h2 : l.length = 2) : Calls Try.prog 28 #[.slice p l.length c] w (Ret fun v w' => v = .tuple #[.int .u64 (num l : Nat), .bool true] ∧ Own S H w') :=
 calls_mono (get_any ho hA) fun v w' ⟨h1, h⟩ => by
  rcases h with ⟨_, _, e⟩ | ⟨h, _⟩
  ·exact ⟨e, h1⟩
  ·omega
/-- A queue of these items, with that head. -/
def Q0 (nm : ByteArray) (l : List Chg) (its : List Itm) : Que := ⟨its, ((num ((openP (hd nm l)).getD 1 []) : Nat) : Int), num ((openP (hd nm l)).getD 0 []), num ((openP (hd nm l)).getD 2 []), num ((openP (hd nm l)).getD 3 [])⟩
theorem Q0_cq (nm : ByteArray) (l : List Chg) : Q0 nm l (itsOf ((gotL nm l).drop 1)) = cq (gotL nm l) := rfl
theorem Q0_ok {nm : ByteArray} {l : List Chg} {its : List Itm} (hi : ∀ y ∈ its, y.ok) (h2 : ((openP (hd nm l)).getD 0 []).length = 2) (h5 : (openP (hd nm l)).length = 5) (h1 : ∀ b ∈ (openP (hd nm l)).drop 1, b.length = 1) : (Q0 nm l its).ok := by
 have one : ∀ k, 0 < k → k < 5 → num ((openP (hd nm l)).getD k []) < 256 := fun k h0 hk => by
  have hm : (openP (hd nm l)).getD k [] ∈ (openP (hd nm l)).drop 1 := by
   rw [List.getD_eq_getElem?_getD, List.getElem?_eq_getElem (by omega)]
   refine List.mem_iff_getElem?.2 ⟨k - 1, ?_⟩
   rw [List.getElem?_drop, show 1 + (k - 1) = k by omega, List.getElem?_eq_getElem (by omega)]; rfl
  have := num_lt ((openP (hd nm l)).getD k [])
  rw [h1 _ hm] at this
  exact this
 refine ⟨hi, ?_, one 2 (by decide) (by decide), one 3 (by decide) (by decide)⟩
 have := num_lt ((openP (hd nm l)).getD 0 [])
 rw [h2] at this
 exact this
theorem its_ok {l : List Chg} : ∀ y ∈ itsOf l, y.ok := fun y hy => by
 unfold itsOf at hy
 obtain ⟨c, _, hc⟩ := List.mem_flatMap.1 hy
 obtain ⟨b, _, rfl⟩ := List.mem_map.1 hc
 exact itemR_ok b
/-- The items of the first n rows, and of j pieces of the next one. -/
def itsJ (g : List Chg) (n : Nat) (ps : List (List UInt8)) (k : Nat) : List Itm := itsOf (g.take n) ++ (ps.take k).map itmOf
theorem itsJ_0 (g : List Chg) (n : Nat) (ps : List (List UInt8)) : itsJ g n ps 0 = itsOf (g.take n) := by unfold itsJ; simp
theorem itsJ_next {g : List Chg} {n : Nat} {ps : List (List UInt8)} {k : Nat} (h : k < ps.length) : itsJ g n ps (k + 1) = itsJ g n ps k ++ [itmOf (ps[k]'h)] := by
 unfold itsJ
 rw [List.take_succ_eq_append_getElem h, List.map_append, List.append_assoc]; rfl
theorem itsJ_all {g : List Chg} {n : Nat} {k : Nat} (h : n < g.length) (hk : k = (openP (g[n]'h).value).length) : itsJ g n (openP (g[n]'h).value) k = itsOf (g.take (n + 1)) := by
 subst hk
 unfold itsJ itsOf
 rw [List.take_length, List.take_succ_eq_append_getElem h, List.flatMap_append]
 simp [openP]
theorem itsJ_len {g : List Chg} {n : Nat} {ps : List (List UInt8)} {k : Nat} (h : (itsOf (g.take n)).length ≤ 4 * n) (hk : k ≤ 4) : (itsJ g n ps k).length ≤ 4 * n + 4 := by
 unfold itsJ
 rw [List.length_append, List.length_map, List.length_take]; omega
theorem item_no {b : List UInt8} (h : ((itemW b : Nat) : Int) ≠ 0) : (itemR b).isSome = false := by
 cases e : itemR b with
 | none => rfl
 | some x => exact absurd (by unfold itemW; rw [e]; rfl) h
theorem load_res {S : List Snap} {H : List Chunk} {w : World} {o : Option Que} (e : o = none) (hw : Own S H w) : ∃ q d, Value.tuple #[.agg (cat (queV que0 none 0)).toArray, .bool false] = .tuple #[.agg (cat (queV (o.getD que0) q d)).toArray, .bool o.isSome] ∧ Own S H w ∧ Arr 433 itemR' (keys H) w q (o.getD que0).items d := by
 subst e
 exact ⟨none, 0, rfl, hw, Arr.none⟩

theorem pick0 {nm : ByteArray} {l : List Chg} (h : 0 < (openP (hd nm l)).length) : (openP (hd nm l)).getD 0 [] = (openP (hd nm l))[0]'h := by rw [List.getD_eq_getElem?_getD, List.getElem?_eq_getElem h]; rfl
theorem pickk {X : Type} {l : List X} {z : X} {k : Nat} (h : k < l.length) : l.getD k z = l[k]'h := by rw [List.getD_eq_getElem?_getD, List.getElem?_eq_getElem h]; rfl
theorem drop_mem {X : Type} {l : List X} {k i : Nat} (h : i < (l.drop k).length) : (l.drop k)[i]'h ∈ l.drop k := List.getElem_mem h

/-- An address in bytes of a world as it was. -/
def atS {K : List Nat} (s : Snap) (l : List UInt8) (o : Nat) : SFact K := ⟨fun v _ => ∃ p c, v = pAt p o ∧ Arr 1 byteR s.K s.w p l c, false, fun _ _ _ _ _ h => h⟩
theorem len1 {ps : List (List UInt8)} (h : ∀ b ∈ ps.drop 1, b.length = 1) {k : Nat} (h0 : 0 < k) (hk : k < ps.length) : (ps[k]'hk).length = 1 := h _ (by
 refine List.mem_iff_getElem?.2 ⟨k - 1, ?_⟩
 rw [List.getElem?_drop, show 1 + (k - 1) = k by omega, List.getElem?_eq_getElem hk])

theorem load_w {S : List Snap} {H : List Chunk} {w : World} (ho : Own S H w) {l : List Chg} {p : Option Addr} {c : Nat} (hX : Arr 3 chgR (keys H) w p l c) {nm : ByteArray} (hsz : l.length = 0 ∨ nm.size ≤ 100) : Calls Try.prog 105 #[.string nm, .slice p l.length c] w (Ret fun v w' => ∃ q d, v = .tuple #[.agg (cat (queV ((loadO nm l).getD que0) q d)).toArray, .bool (loadO nm l).isSome] ∧ Own S H w' ∧ Arr 433 itemR' (keys H) w' q ((loadO nm l).getD que0).items d) := by
 have hsm := hX.small
 refine enter (G := Own (⟨w, keys H⟩ :: S) H) ho.keep Try.func105 rfl Try.ntmps105 rfl ?_
 refine VC.sr ?_
 refine VL.box (L := [1]) (ps := [[.string nm]]) rfl rfl rfl (fun g1 => ?_)
 refine VL.alloc (L := queL) (ps := (queV (que0) none 0)) zero157 rfl rfl (fun g2 => ?_)
 refine VL.assign rfl ?_
 refine VL.nn ?_
 refine VC.sr ?_
 refine VL.assign rfl ?_
 refine VL.nn ?_
 refine VC.seq ?_
 refine VC.sr ?_
 refine VL.lit el225 rfl rfl rfl (by simp [Value.cells]) (by intro v hv; simp [Value.cells] at hv; rcases hv with rfl | rfl | rfl <;> rfl) (fun g9 => ?_)
 refine VL.letRow strR ends rfl (fun w' hw j y hj => by
  have h3 : j < 3 := (List.getElem?_eq_some_iff.1 hj).1
  have : j = 0 ∨ j = 1 ∨ j = 2 := by omega
  rcases this with rfl | rfl | rfl <;> (cases hj; rfl)) (fun w9 hO9 hE => ?_)
 refine VL.len Try.underlying225 rfl rfl ?_
 refine VL.move rfl ?_
 refine VL.nn ?_
 refine VC.block ?_
 refine VC.letCells 1 rfl (fun w3 hO5 hF4 => ?_)
 refine VC.turn (G' := Own _ (arow 167 3 chgR Mono_chg none 0 ([] : List Chg) :: blk g2 157 queL (queV (que0) none 0) :: H)) (fun w' h => newRowC h) ?_
 refine VC.loop (X := Nat × Option Nat × Nat) (fun (i, gv, cv) => [(1, .slice p l.length c), (2, .pointer (some ⟨g1, 0, none⟩)), (4, .pointer (some ⟨g2, 0, none⟩)), (6, rowV gv (gotK nm l i).length cv), (27, .slice (some ⟨g9, 0, none⟩) 3 3), (28, .int .i64 3), (29, .int .i64 (i : Int))]) (fun (i, gv, cv) w' => i ≤ 3 ∧ Own (⟨w3, keys (blk g2 157 queL (queV (que0) none 0) :: H)⟩ :: ⟨w9, keys (blk g2 157 queL (queV que0 none 0) :: blk g1 9 [1] [[.string nm]] :: H)⟩ :: ⟨w, keys H⟩ :: S) (arow 167 3 chgR Mono_chg gv cv (gotK nm l i) :: blk g2 157 queL (queV (que0) none 0) :: H) w') (fun (i, _) => 3 - i) (0, none, 0) ⟨rfl, rfl, rfl, rfl, rfl, rfl, rfl, trivial⟩ (fun w' h => ⟨Nat.zero_le _, h.sub (sub_cons (by repeat (first | exact List.mem_cons_self .. | apply List.mem_cons_of_mem)) (sub_cons (by repeat (first | exact List.mem_cons_self .. | apply List.mem_cons_of_mem)) (sub_cons (by repeat (first | exact List.mem_cons_self .. | apply List.mem_cons_of_mem)) (fun _ hs => by repeat (first | exact hs | apply List.mem_cons_of_mem)))))⟩) (fun (i, gv, cv) => VC.fact fun hi => ?_)
 ·have hg3 := gotK_len nm l i
  refine VC.sr ?_
  refine VL.lss rfl rfl ?_
  refine VL.case (fun h3 => ?_) (fun h3 => ?_)
  ·have hlt : i < ends.length := (show i < 3 by omega)
   refine VL.nn ?_
   refine VC.seq ?_
   refine VC.yes rfl ?_
   refine VC.skip ?_
   refine VX.next ?_
   refine VC.seq ?_
   refine VC.block ?_
   refine VC.sr ?_
   refine VL.index (xs := ends) rfl rfl Try.underlying225 sz225 hE (by omega) (by have hi := hlt; omega) ?_
   refine VL.elem (s := ⟨w9, _⟩) (i) 0 rfl kd9 (fun _ h => h) (by repeat (first | exact List.mem_cons_self .. | apply List.mem_cons_of_mem)) Mono_str hE (List.getElem?_eq_getElem hlt) (by simp) (by decide) (fun vs v hl hr hv => ?_)
   subst hr
   have ehy7 : v = .string (ends[i]'hlt) := Option.some.inj (hv.symm.trans rfl)
   subst ehy7
   refine VL.alloc (L := [1]) (ps := [[.string (ByteArray.empty)]]) zero9 rfl rfl (fun g8 => ?_)
   refine VL.store (L := [1]) (qs := [[.string ((ends[i]'hlt))]]) (ps' := [[.string ((ends[i]'hlt))]]) 0 0 1 rfl rfl rfl (.inr ⟨kd9, rfl⟩) rfl rfl rfl (by intro u hu; simp [cat] at hu; subst hu; rfl) rfl rfl ?_
   refine VL.set0 ?_
   refine VL.nn ?_
   refine VC.seq ?_
   refine VC.letCells 0 rfl (fun w9 hO11 hF10 => ?_)
   refine VC.region ?_
   refine VL.move rfl ?_
   refine VL.makeFunc (vs := [.pointer (some ⟨g1, 0, none⟩), .pointer (some ⟨g8, 0, none⟩)]) rfl ?_
   refine VL.call Try.func152 rfl (by decide) rfl (fun w' hw => index_w hw (hX.nowA (s := ⟨w, _⟩) Mono_chg hw) (hF4.then (s := ⟨w3, _⟩) hw (by repeat (first | exact List.mem_cons_self .. | apply List.mem_cons_of_mem))) (hF10.then (s := ⟨w9, _⟩) hw (by repeat (first | exact List.mem_cons_self .. | apply List.mem_cons_of_mem))) (hsz.imp id (fun h => by rw [end_size]; omega))) (fun v => ?_)
   refine VL.ex fun ix => VL.fact fun e5 => VL.fact fun hAt => ?_
   subst e5
   refine VL.assign rfl ?_
   refine VL.nn ?_
   refine VC.sr ?_
   refine VL.move rfl ?_
   refine VL.geq rfl rfl ?_
   refine VL.case (fun h6 => ?_) (fun h6 => ?_)
   ·obtain ⟨k6, hk6, rfl, hf6⟩ | ⟨rfl, _⟩ := hAt
    rotate_left
    ·exact absurd h6 (by omega)
    refine VL.nn ?_
    refine VC.yes rfl ?_
    refine VC.region ?_
    refine VL.move rfl ?_
    refine VL.move rfl ?_
    refine VL.move rfl ?_
    refine VL.index (xs := l) rfl rfl Try.underlying158 sz158 hX (by omega) (by have hi := hk6; omega) ?_
    refine VL.elems (s := ⟨w, _⟩) (m := 3) (k6) 0 rfl kd167 (fun _ h => h) (by repeat (first | exact List.mem_cons_self .. | apply List.mem_cons_of_mem)) hX (List.getElem?_eq_getElem hk6) (by simp) (by decide) (fun vs hl hr => ?_)
    obtain ⟨p14, c15, rfl, hA16⟩ := hr
    refine VL.newv (v' := .agg (cat (chgV (l[k6]'hk6) p14 c15)).toArray) (by rw [List.drop_zero, List.take_of_length_le (by rw [hl]; decide)]) ?_
    refine VL.lit el158 rfl rfl rfl (by intro v hv; simp only [List.mem_singleton] at hv; subst hv; rfl) (by rw [show [Value.agg (cat (chgV (l[k6]'hk6) p14 c15)).toArray].flatMap (·.cells.toList) = (cat (chgV (l[k6]'hk6) p14 c15)) by simp [Value.cells]]; exact chgV_ok1 _ _ _) (fun gla => ?_)
    refine VL.letRow chgR [(l[k6]'hk6)] rfl (fun w' hw => one_chg (hA16.nowA (s := ⟨w, _⟩) Mono.byte hw)) (fun wla hOla hAla => ?_)
    refine VL.appends (R := chgR) (hR := Mono_chg) (ys := (gotK nm l i)) (zs := [(l[k6]'hk6)]) 0 el158 rfl rfl rfl (fun _ h => h) rfl (fun _ hw => (hAla.nowA (s := ⟨wla, _⟩) Mono_chg hw)) chgR_ok1 (by simp only [List.length_append, List.length_cons, List.length_nil]; omega) (fun gca cca => ?_) (by simp only [List.length_append, List.length_cons, List.length_nil]; omega)
    refine VL.set0 ?_
    refine VL.assign rfl ?_
    refine VL.nil ?_
    refine VX.block_normal ?_
    refine VX.next ?_
    refine VC.region ?_
    refine VL.add rfl rfl (by simp only [InR]; omega) ?_
    refine VL.move rfl ?_
    refine VL.nil ?_
    have el : gotK nm l i ++ [l[k6]'hk6] = gotK nm l (i + 1) := by rw [gotK_next hlt, hf6]; rfl
    refine VX.round (i + 1, gca, cca) ⟨rfl, rfl, rfl, congrArg (fun l : List Chg => some (rowV gca l.length cca)) el, rfl, rfl, rfl, trivial⟩ (fun w' h => ⟨by omega, ?_⟩) (by show 3 - (i + 1) < 3 - i; omega)
    rw [← el]
    exact h.sub (sub_cons (by repeat (first | exact List.mem_cons_self .. | apply List.mem_cons_of_mem)) (sub_cons (by repeat (first | exact List.mem_cons_self .. | apply List.mem_cons_of_mem)) (sub_cons (by repeat (first | exact List.mem_cons_self .. | apply List.mem_cons_of_mem)) (fun _ hs => by repeat (first | exact hs | apply List.mem_cons_of_mem)))))
   ·obtain ⟨k6, hk6, rfl, _⟩ | ⟨rfl, hf6⟩ := hAt
    ·exact absurd h6 (by omega)
    refine VL.nn ?_
    refine VC.no rfl ?_
    refine VC.skip ?_
    refine VX.block_normal ?_
    refine VX.next ?_
    refine VC.region ?_
    refine VL.add rfl rfl (by simp only [InR]; omega) ?_
    refine VL.move rfl ?_
    refine VL.nil ?_
    have el : gotK nm l i = gotK nm l (i + 1) := by rw [gotK_next hlt, hf6]; exact (List.append_nil _).symm
    refine VX.round (i + 1, gv, cv) ⟨rfl, rfl, rfl, congrArg (fun l : List Chg => some (rowV gv l.length cv)) el, rfl, rfl, rfl, trivial⟩ (fun w' h => ⟨by omega, ?_⟩) (by show 3 - (i + 1) < 3 - i; omega)
    rw [← el]
    exact h.sub (sub_cons (by repeat (first | exact List.mem_cons_self .. | apply List.mem_cons_of_mem)) (sub_cons (by repeat (first | exact List.mem_cons_self .. | apply List.mem_cons_of_mem)) (sub_cons (by repeat (first | exact List.mem_cons_self .. | apply List.mem_cons_of_mem)) (fun _ hs => by repeat (first | exact hs | apply List.mem_cons_of_mem)))))
  ·have hke : i = 3 := by omega
   refine VL.nn ?_
   refine VC.seq ?_
   refine VC.no rfl ?_
   refine VC.exit ?_
   refine VX.then_exit ?_
   refine VX.then_exit ?_
   refine VX.block_here ?_
   refine VX.next ?_
   refine VC.seq ?_
   refine VC.seq ?_
   obtain rfl : i = 3 := by omega
   refine VC.letArr (fun wG hOG hG => ?_)
   refine VC.region ?_
   refine VL.move rfl ?_
   refine VL.len Try.underlying158 rfl rfl ?_
   refine VL.eql rfl rfl ?_
   refine VL.case (fun h9 => ?_) (fun h9 => ?_)
   ·have h9 : (gotK nm l 3).length = 0 := by omega
    refine VL.move rfl ?_
    refine VL.pass rfl rfl rfl rfl rfl ?_
    refine VL.pass rfl rfl rfl rfl rfl ?_
    refine VL.pass rfl rfl rfl rfl rfl ?_
    refine VL.pass rfl rfl rfl rfl rfl ?_
    refine VL.pick_t rfl rfl ?_
    refine VL.nn ?_
    refine VC.yes rfl ?_
    refine VC.sr ?_
    refine VL.build0 (cs := cat (queV (que0) none 0)) built157 ?_
    refine VL.store (L := queL) (qs := (queV (que0) none 0)) (ps' := (queV (que0) none 0)) 0 0 5 rfl rfl rfl (.inl kd157) rfl rfl rfl (queV_ok1 que0 none 0) rfl rfl ?_
    refine VL.set0 ?_
    refine VL.assign rfl ?_
    refine VL.nn ?_
    refine VC.ret ?_
    refine VX.then_ret ?_
    refine VX.ret_cell (cs := cat (queV (que0) none 0)) 0 rfl rfl rfl (by rw [cat_size rfl]; exact kd157) (fun _ h => h) rfl rfl (fun we hw => ?_)
    exact load_res (load_bad (fun hc => absurd (show 0 < (gotK nm l 3).length from hc.ne) (by omega))) (hw.drop.subA)
   ·have h9p : 0 < (gotK nm l 3).length := by omega
    refine VL.move rfl ?_
    refine VL.go rfl rfl rfl ?_
    refine VL.move rfl ?_
    refine VL.go rfl rfl rfl ?_
    refine VL.index (xs := (gotK nm l 3)) rfl rfl Try.underlying158 sz158 hG (by omega) (by have hi := h9p; omega) ?_
    refine VL.go rfl rfl rfl ?_
    refine VL.fieldAt rfl (by obtain ⟨a, ha⟩ := hG.isAt (by have hi := h9p; omega); rw [ha]; rfl) fo167_2 ?_
    refine VL.go rfl rfl rfl ?_
    refine VL.elem (s := ⟨wG, _⟩) (0) 2 rfl kd4 (fun _ h => h) (by repeat (first | exact List.mem_cons_self .. | apply List.mem_cons_of_mem)) Mono_chg hG (List.getElem?_eq_getElem h9p) (by simp) (by decide) (fun vs v hl hr hv => ?_)
    obtain ⟨p18, c19, rfl, hA20⟩ := hr
    have ehy17 : v = .bool ((gotK nm l 3)[0]'h9p).gone := (Option.some.inj (hv.symm.trans rfl))
    subst ehy17
    refine VL.pick_f rfl rfl ?_
    refine VL.nn ?_
    refine VC.split rfl (fun hc54 => ?_) (fun hc54 => ?_)
    ·refine VC.seq ?_
     refine VC.region ?_
     refine VL.build0 (cs := cat (queV (que0) none 0)) built157 ?_
     refine VL.store (L := queL) (qs := (queV (que0) none 0)) (ps' := (queV (que0) none 0)) 0 0 5 rfl rfl rfl (.inl kd157) rfl rfl rfl (queV_ok1 que0 none 0) rfl rfl ?_
     refine VL.set0 ?_
     refine VL.assign rfl ?_
     refine VL.nn ?_
     refine VC.ret ?_
     refine VX.then_ret ?_
     refine VX.ret_cell (cs := cat (queV (que0) none 0)) 0 rfl rfl rfl (by rw [cat_size rfl]; exact kd157) (fun _ h => h) rfl rfl (fun we hw => ?_)
     exact load_res (load_bad (fun hc => by have h1 := hc.live; rw [gone_is h9p] at h1; rw [h1] at hc54; cases hc54)) (hw.drop.subA)
    ·refine VC.skip ?_
     refine VX.next ?_
     refine VC.sr ?_
     refine VL.move rfl ?_
     refine VL.index (xs := (gotK nm l 3)) rfl rfl Try.underlying158 sz158 hG (by omega) (by have hi := h9p; omega) ?_
     refine VL.fieldAt rfl (by obtain ⟨a, ha⟩ := hG.isAt (by have hi := h9p; omega); rw [ha]; rfl) fo167_1 ?_
     refine VL.elem (s := ⟨wG, _⟩) (0) 1 rfl kd24 (fun _ h => h) (by repeat (first | exact List.mem_cons_self .. | apply List.mem_cons_of_mem)) Mono_chg hG (List.getElem?_eq_getElem h9p) (by simp) (by decide) (fun vs v hl hr hv => ?_)
     obtain ⟨p7, c7, rfl, hA7⟩ := hr
     have e7 : v = .slice p7 ((gotK nm l 3)[0]'h9p).value.length c7 := (Option.some.inj (hv.symm.trans rfl))
     rw [hd_is h9p] at e7 hA7
     subst e7
     refine VL.call Try.func32 rfl (by decide) rfl (fun w' hw => split_P hw (hA7.nowA (s := ⟨wG, _⟩) Mono.byte hw)) (fun v => ?_)
     refine VL.at (fun wPP h1w => ?_)
     obtain ⟨p22, c23, rfl, hOPP, hPP⟩ := h1w
     refine VL.toOwn hOPP ?_
     refine VL.move rfl ?_
     refine VL.extract rfl rfl ?_
     refine VL.extract rfl rfl ?_
     refine VL.assign rfl ?_
     refine VL.assign rfl ?_
     refine VL.nn ?_
     refine VC.seq ?_
     refine VC.sr ?_
     refine VL.move rfl ?_
     refine VL.neq rfl rfl ?_
     refine VL.case (fun h12 => ?_) (fun h12 => ?_)
     ·refine VL.move rfl ?_
      refine VL.pass rfl rfl rfl rfl rfl ?_
      refine VL.pass rfl rfl rfl rfl rfl ?_
      refine VL.pass rfl rfl rfl rfl rfl ?_
      refine VL.pick_t rfl rfl ?_
      refine VL.move rfl ?_
      refine VL.pass rfl rfl rfl rfl rfl ?_
      refine VL.pass rfl rfl rfl rfl rfl ?_
      refine VL.pass rfl rfl rfl rfl rfl ?_
      refine VL.pass rfl rfl rfl rfl rfl ?_
      refine VL.pass rfl rfl rfl rfl rfl ?_
      refine VL.pick_t rfl rfl ?_
      refine VL.nn ?_
      refine VC.yes rfl ?_
      refine VC.sr ?_
      refine VL.build0 (cs := cat (queV (que0) none 0)) built157 ?_
      refine VL.store (L := queL) (qs := (queV (que0) none 0)) (ps' := (queV (que0) none 0)) 0 0 5 rfl rfl rfl (.inl kd157) rfl rfl rfl (queV_ok1 que0 none 0) rfl rfl ?_
      refine VL.set0 ?_
      refine VL.assign rfl ?_
      refine VL.nn ?_
      refine VC.ret ?_
      refine VX.then_ret ?_
      refine VX.ret_cell (cs := cat (queV (que0) none 0)) 0 rfl rfl rfl (by rw [cat_size rfl]; exact kd157) (fun _ h => h) rfl rfl (fun we hw => ?_)
      exact load_res (load_bad (fun hc => h12 (congrArg (fun n : Nat => (n : Int)) (show (splitB (hd nm l)).1 = 0 from hc.err)))) (hw.drop.subA)
     ·refine VL.move rfl ?_
      refine VL.go rfl rfl rfl ?_
      refine VL.move rfl ?_
      refine VL.go rfl rfl rfl ?_
      refine VL.len Try.underlying31 rfl rfl ?_
      refine VL.go rfl rfl rfl ?_
      refine VL.neq rfl rfl ?_
      refine VL.case (fun h12b => ?_) (fun h12b => ?_)
      ·refine VL.pick_f rfl rfl ?_
       refine VL.move rfl ?_
       refine VL.pass rfl rfl rfl rfl rfl ?_
       refine VL.pass rfl rfl rfl rfl rfl ?_
       refine VL.pass rfl rfl rfl rfl rfl ?_
       refine VL.pass rfl rfl rfl rfl rfl ?_
       refine VL.pass rfl rfl rfl rfl rfl ?_
       refine VL.pick_t rfl rfl ?_
       refine VL.nn ?_
       refine VC.yes rfl ?_
       refine VC.sr ?_
       refine VL.build0 (cs := cat (queV (que0) none 0)) built157 ?_
       refine VL.store (L := queL) (qs := (queV (que0) none 0)) (ps' := (queV (que0) none 0)) 0 0 5 rfl rfl rfl (.inl kd157) rfl rfl rfl (queV_ok1 que0 none 0) rfl rfl ?_
       refine VL.set0 ?_
       refine VL.assign rfl ?_
       refine VL.nn ?_
       refine VC.ret ?_
       refine VX.then_ret ?_
       refine VX.ret_cell (cs := cat (queV (que0) none 0)) 0 rfl rfl rfl (by rw [cat_size rfl]; exact kd157) (fun _ h => h) rfl rfl (fun we hw => ?_)
       exact load_res (load_bad (fun hc => h12b (by have := hc.five; show (((openP (hd nm l)).length : Nat) : Int) = 5; exact congrArg (fun n : Nat => (n : Int)) this))) (hw.drop.subA)
      ·have h5q : (openP (hd nm l)).length = 5 := by omega
       have h5p : 0 < (openP (hd nm l)).length := by omega
       refine VL.pick_f rfl rfl ?_
       refine VL.move rfl ?_
       refine VL.go rfl rfl rfl ?_
       refine VL.move rfl ?_
       refine VL.go rfl rfl rfl ?_
       refine VL.index (xs := (openP (hd nm l))) rfl rfl Try.underlying31 sz31 hPP (by omega) (by have hi := h5p; omega) ?_
       refine VL.go rfl rfl rfl ?_
       refine VL.elem (s := ⟨wPP, _⟩) (0) 0 rfl kd24 (fun _ h => h) (by repeat (first | exact List.mem_cons_self .. | apply List.mem_cons_of_mem)) (Mono.slice Mono.byte) hPP (List.getElem?_eq_getElem h5p) (by simp) (by decide) (fun vs v hl hr hv => ?_)
       obtain ⟨p28, c29, rfl, hA30⟩ := hr
       have ehy27 : v = .slice p28 ((openP (hd nm l))[0]'h5p).length c29 := Option.some.inj (hv.symm.trans rfl)
       subst ehy27
       refine VL.go rfl rfl rfl ?_
       refine VL.len Try.underlying24 rfl rfl ?_
       refine VL.go rfl rfl rfl ?_
       refine VL.neq rfl rfl ?_
       refine VL.case (fun h12c => ?_) (fun h12c => ?_)
       ·refine VL.pick_f rfl rfl ?_
        refine VL.nn ?_
        refine VC.yes rfl ?_
        refine VC.sr ?_
        refine VL.build0 (cs := cat (queV (que0) none 0)) built157 ?_
        refine VL.store (L := queL) (qs := (queV (que0) none 0)) (ps' := (queV (que0) none 0)) 0 0 5 rfl rfl rfl (.inl kd157) rfl rfl rfl (queV_ok1 que0 none 0) rfl rfl ?_
        refine VL.set0 ?_
        refine VL.assign rfl ?_
        refine VL.nn ?_
        refine VC.ret ?_
        refine VX.then_ret ?_
        refine VX.ret_cell (cs := cat (queV (que0) none 0)) 0 rfl rfl rfl (by rw [cat_size rfl]; exact kd157) (fun _ h => h) rfl rfl (fun we hw => ?_)
        exact load_res (load_bad (fun hc => h12c (by have := hc.two; rw [show (hP (gotL nm l)).getD 0 [] = ((openP (hd nm l))[0]'h5p) from pick0 h5p] at this; exact congrArg (fun n : Nat => (n : Int)) this))) (hw.drop.subA)
       ·have h2p : ((openP (hd nm l))[0]'h5p).length = 2 := by omega
        refine VL.pick_f rfl rfl ?_
        refine VL.nn ?_
        refine VC.no rfl ?_
        refine VC.skip ?_
        refine VX.next ?_
        refine VC.seq ?_
        refine VC.sr ?_
        refine VL.move rfl ?_
        refine VL.dropS 1 rfl rfl Try.underlying31 sz31 hPP (by omega) (fun p8 hA8 => ?_)
        refine VL.len Try.underlying31 rfl rfl ?_
        refine VL.move rfl ?_
        refine VL.nn ?_
        refine VC.block ?_
        refine VC.loop (X := Nat) (fun i2 => [(2, .pointer (some ⟨g1, 0, none⟩)), (4, .pointer (some ⟨g2, 0, none⟩)), (6, rowV gv (gotK nm l 3).length cv), (10, .slice p22 (openP (hd nm l)).length c23), (80, .slice p8 ((openP (hd nm l)).drop 1).length (c23 - 1)), (81, .int .i64 (((openP (hd nm l)).drop 1).length : Int)), (82, .int .i64 (i2 : Int))]) (fun i2 w' => (i2 ≤ ((openP (hd nm l)).drop 1).length ∧ ∀ b ∈ ((openP (hd nm l)).drop 1).take i2, b.length = 1) ∧ Own (⟨wPP, keys (blk g2 157 queL (queV (que0) none 0) :: H)⟩ :: ⟨wG, keys (blk g2 157 queL (queV (que0) none 0) :: H)⟩ :: ⟨w3, keys (blk g2 157 queL (queV (que0) none 0) :: H)⟩ :: ⟨w, keys H⟩ :: S) (blk g2 157 queL (queV (que0) none 0) :: H) w') (fun i2 => ((openP (hd nm l)).drop 1).length - i2) 0 ⟨rfl, rfl, rfl, rfl, rfl, rfl, rfl, trivial⟩ (fun w' h => ⟨⟨Nat.zero_le _, fun b hb => by cases hb⟩, h.sub (sub_cons (by repeat (first | exact List.mem_cons_self .. | apply List.mem_cons_of_mem)) (sub_cons (by repeat (first | exact List.mem_cons_self .. | apply List.mem_cons_of_mem)) (sub_cons (by repeat (first | exact List.mem_cons_self .. | apply List.mem_cons_of_mem)) (sub_cons (by repeat (first | exact List.mem_cons_self .. | apply List.mem_cons_of_mem)) (fun _ hs => by repeat (first | exact hs | apply List.mem_cons_of_mem))))))⟩) (fun i2 => VC.fact fun ⟨hi2, hone⟩ => ?_)
        ·have hd4 : ((openP (hd nm l)).drop 1).length = 4 := by rw [List.length_drop]; omega
         refine VC.sr ?_
         refine VL.lss rfl rfl ?_
         refine VL.case (fun h15 => ?_) (fun h15 => ?_)
         ·have hlt2 : i2 < ((openP (hd nm l)).drop 1).length := by omega
          refine VL.nn ?_
          refine VC.seq ?_
          refine VC.yes rfl ?_
          refine VC.skip ?_
          refine VX.next ?_
          refine VC.seq ?_
          refine VC.block ?_
          refine VC.sr ?_
          refine VL.index (xs := ((openP (hd nm l)).drop 1)) rfl rfl Try.underlying31 sz31 hA8 (by omega) (by have hi := hlt2; omega) ?_
          refine VL.elem (s := ⟨wPP, _⟩) (i2) 0 rfl kd24 (fun _ h => h) (by repeat (first | exact List.mem_cons_self .. | apply List.mem_cons_of_mem)) (Mono.slice Mono.byte) hA8 (List.getElem?_eq_getElem hlt2) (by simp) (by decide) (fun vs v hl hr hv => ?_)
          obtain ⟨p33, c34, rfl, hA35⟩ := hr
          have ehy32 : v = .slice p33 (((openP (hd nm l)).drop 1)[i2]'hlt2).length c34 := Option.some.inj (hv.symm.trans rfl)
          subst ehy32
          refine VL.assign rfl ?_
          refine VL.nn ?_
          refine VC.sr ?_
          refine VL.move rfl ?_
          refine VL.len Try.underlying24 rfl rfl ?_
          refine VL.neq rfl rfl ?_
          refine VL.case (fun h17 => ?_) (fun h17 => ?_)
          ·refine VL.nn ?_
           refine VC.yes rfl ?_
           refine VC.sr ?_
           refine VL.build0 (cs := cat (queV (que0) none 0)) built157 ?_
           refine VL.store (L := queL) (qs := (queV (que0) none 0)) (ps' := (queV (que0) none 0)) 0 0 5 rfl rfl rfl (.inl kd157) rfl rfl rfl (queV_ok1 que0 none 0) rfl rfl ?_
           refine VL.set0 ?_
           refine VL.assign rfl ?_
           refine VL.nn ?_
           refine VC.ret ?_
           refine VX.block_ret ?_
           refine VX.then_ret ?_
           refine VX.then_ret ?_
           refine VX.block_ret ?_
           refine VX.then_ret ?_
           refine VX.ret_cell (cs := cat (queV (que0) none 0)) 0 rfl rfl rfl (by rw [cat_size rfl]; exact kd157) (fun _ h => h) rfl rfl (fun we hw => ?_)
           exact load_res (load_bad (fun hc => h17 (congrArg (fun n : Nat => (n : Int)) (hc.ones _ (drop_mem hlt2))))) (hw.drop.subA)
          ·refine VL.nn ?_
           refine VC.no rfl ?_
           refine VC.skip ?_
           refine VX.block_normal ?_
           refine VX.next ?_
           refine VC.region ?_
           refine VL.add rfl rfl (by simp only [InR]; omega) ?_
           refine VL.move rfl ?_
           refine VL.nil ?_
           refine VX.round (i2 + 1) ⟨rfl, rfl, rfl, rfl, rfl, rfl, rfl, trivial⟩ (fun w' h => ⟨⟨by omega, fun b hb => ?_⟩, h.sub (sub_cons (by repeat (first | exact List.mem_cons_self .. | apply List.mem_cons_of_mem)) (sub_cons (by repeat (first | exact List.mem_cons_self .. | apply List.mem_cons_of_mem)) (sub_cons (by repeat (first | exact List.mem_cons_self .. | apply List.mem_cons_of_mem)) (sub_cons (by repeat (first | exact List.mem_cons_self .. | apply List.mem_cons_of_mem)) (fun _ hs => by repeat (first | exact hs | apply List.mem_cons_of_mem))))))⟩) (by omega)
           rw [List.take_succ_eq_append_getElem hlt2] at hb
           rcases List.mem_append.1 hb with hb | hb
           ·exact hone b hb
           ·rw [List.mem_singleton] at hb; subst hb; omega
         ·refine VL.nn ?_
          refine VC.seq ?_
          refine VC.no rfl ?_
          refine VC.exit ?_
          refine VX.then_exit ?_
          refine VX.then_exit ?_
          refine VX.block_here ?_
          refine VX.next ?_
          refine VC.sr ?_
          refine VL.move rfl ?_
          refine VL.index (xs := (openP (hd nm l))) rfl rfl Try.underlying31 sz31 hPP (by omega) (by have hi := h5p; omega) ?_
          refine VL.elem (s := ⟨wPP, _⟩) (0) 0 rfl kd24 (fun _ h => h) (by repeat (first | exact List.mem_cons_self .. | apply List.mem_cons_of_mem)) (Mono.slice Mono.byte) hPP (List.getElem?_eq_getElem h5p) (by simp) (by decide) (fun vs v hl hr hv => ?_)
          obtain ⟨p38, c39, rfl, hA40⟩ := hr
          have ehy37 : v = .slice p38 ((openP (hd nm l))[0]'h5p).length c39 := Option.some.inj (hv.symm.trans rfl)
          subst ehy37
          refine VL.call Try.func28 rfl (by decide) rfl (fun w' hw => get_two hw (hA40.nowA (s := ⟨wPP, _⟩) Mono.byte hw) h2p) (fun v => ?_)
          refine VL.fact fun e41 => ?_
          subst e41
          refine VL.move rfl ?_
          refine VL.extract rfl rfl ?_
          refine VL.extract rfl rfl ?_
          refine VL.assign rfl ?_
          refine VL.assign rfl ?_
          refine VL.nn ?_
          refine VC.seq ?_
          have hie2 : i2 = ((openP (hd nm l)).drop 1).length := by omega
          have hall1 : ∀ b ∈ (openP (hd nm l)).drop 1, b.length = 1 := by rw [hie2, List.take_length] at hone; exact hone
          have h2q : ((openP (hd nm l)).getD 0 []).length = 2 := by rw [pick0 h5p]; exact h2p
          have hn0 : num ((openP (hd nm l))[0]'h5p) < 65536 := by have := num_lt ((openP (hd nm l))[0]'h5p); rw [h2p] at this; exact this
          have hn1 : num ((openP (hd nm l)).getD 1 []) < 256 := by have := num_lt ((openP (hd nm l)).getD 1 []); rw [pickk (show 1 < (openP (hd nm l)).length by omega), len1 hall1 (by decide) (by omega)] at this; rw [pickk (show 1 < (openP (hd nm l)).length by omega)]; exact this
          apply VC.anyTA 20 19 (F := [eqF _, eqF _, eqF _, eqF _, arrS ⟨wPP, keys (blk g2 157 queL (queV (que0) none 0) :: H)⟩ 1 byteR ((openP (hd nm l))[1]'(show 1 < (openP (hd nm l)).length by omega)), atS ⟨wPP, keys (blk g2 157 queL (queV (que0) none 0) :: H)⟩ ((openP (hd nm l))[1]'(show 1 < (openP (hd nm l)).length by omega)) 0, eqF _, eqF _, eqF _, eqF _, arrS ⟨wPP, keys (blk g2 157 queL (queV (que0) none 0) :: H)⟩ 1 byteR ((openP (hd nm l))[2]'(show 2 < (openP (hd nm l)).length by omega)), atS ⟨wPP, keys (blk g2 157 queL (queV (que0) none 0) :: H)⟩ ((openP (hd nm l))[2]'(show 2 < (openP (hd nm l)).length by omega)) 0, eqF _, eqF _, eqF _, arrS ⟨wPP, keys (blk g2 157 queL (queV (que0) none 0) :: H)⟩ 1 byteR ((openP (hd nm l))[3]'(show 3 < (openP (hd nm l)).length by omega)), atS ⟨wPP, keys (blk g2 157 queL (queV (que0) none 0) :: H)⟩ ((openP (hd nm l))[3]'(show 3 < (openP (hd nm l)).length by omega)) 0, eqF _, eqF _, lateE _]) [⟨[], [14]⟩, ⟨[(98, 0)], []⟩, ⟨[], [10]⟩, ⟨[(100, 2)], []⟩, ⟨[(101, 3)], []⟩, ⟨[(102, 4)], []⟩, ⟨[(103, 5)], []⟩, ⟨[(104, 6)], []⟩, ⟨[], [10]⟩, ⟨[(106, 8)], []⟩, ⟨[(107, 9)], []⟩, ⟨[(108, 10)], []⟩, ⟨[(109, 11)], []⟩, ⟨[], [10]⟩, ⟨[(111, 13)], []⟩, ⟨[(112, 14)], []⟩, ⟨[(113, 15)], []⟩, ⟨[(114, 16)], []⟩, ⟨[(99, 1), (105, 7), (110, 12), (115, 17)], []⟩, ⟨[], []⟩] [(116, 18), (16, 19)] [0, 1, 2, 4, 5, 6, 8, 9, 10, 11, 13, 18, 19, 20, 22, 23, 24, 25, 26, 27, 28, 29, 30, 31, 32, 33, 34, 35, 36, 37, 38, 39, 40, 41, 42, 43, 44, 45, 46, 47, 48, 49, 50, 51, 52, 53, 54, 55, 56, 57, 58, 59, 60, 61, 62, 63, 64, 65, 66, 67, 68, 69, 70, 71, 72, 73, 74, 75, 76, 77, 78, 79, 80, 81, 82, 83, 84, 85, 86, 87, 88, 89, 90, 91, 92, 93, 94, 95, 96, 97, 117, 118, 119, 120, 121, 122, 123, 124, 125, 126, 127, 128, 129, 130, 131, 132, 133, 134, 135, 136, 137, 138, 139, 140, 141, 142, 143, 144, 145, 146, 147, 148, 149, 150, 151, 152, 153, 154, 155, 156, 157, 158, 159, 160, 161, 162, 163, 164, 165, 166, 167, 168, 169, 170, 171, 172, 173, 174, 175, 176, 177, 178, 179] rfl (by kernel_rfl) (by kernel_rfl) rfl rfl (by kernel_rfl) (by kernel_rfl) (by kernel_rfl) rfl ?obs21 ?end21
          case obs21 =>
           refine Obs.cons ?_ ?_
           ·refine obS (by kernel_rfl) rfl rfl (fun ph21 w21 hO21 => ?_)
            refine VL.move rfl ?_
            exact VL.finS hO21 rfl rfl
           refine Obs.cons ?_ ?_
           ·refine obS (by kernel_rfl) rfl rfl (fun ph21 w21 hO21 => ?_)
            rintro _ rfl
            refine VL.conv (by rw [Try.underlying22]; rfl) Try.underlying68 rfl (by simp only [InR]; omega) ?_
            refine VL.newv (v' := .int .u16 ((num ((openP (hd nm l)).getD 0 []) : Nat) : Int)) (by rw [pick0 h5p]) ?_
            exact VL.finS hO21 rfl rfl
           refine Obs.cons ?_ ?_
           ·refine obS (by kernel_rfl) rfl rfl (fun ph21 w21 hO21 => ?_)
            refine VL.move rfl ?_
            exact VL.finS hO21 rfl rfl
           refine Obs.cons ?_ ?_
           ·refine obS (by kernel_rfl) rfl rfl (fun ph21 w21 hO21 => ?_)
            rintro _ rfl
            refine VL.index (xs := (openP (hd nm l))) rfl rfl Try.underlying31 sz31 hPP (by omega) (by have hi := (show 1 < (openP (hd nm l)).length by omega); omega) ?_
            exact VL.finS hO21 rfl rfl
           refine Obs.cons ?_ ?_
           ·refine obS (by kernel_rfl) rfl rfl (fun ph21 w21 hO21 => ?_)
            rintro _ rfl
            refine VL.elemO (s := ⟨wPP, _⟩) (1) 0 rfl kd24 (fun _ e => e ▸ Still.ok hO21 (by repeat (first | exact List.mem_cons_self .. | apply List.mem_cons_of_mem))) hPP (List.getElem?_eq_getElem (show 1 < (openP (hd nm l)).length by omega)) (by simp) (by decide) (fun vs v hl hr hv => ?_)
            obtain ⟨p7, c7, rfl, hA7⟩ := hr
            have e7 : v = .slice p7 ((openP (hd nm l))[1]'(by omega)).length c7 := Option.some.inj (hv.symm.trans rfl)
            subst e7
            exact VL.finS hO21 rfl ⟨_, _, rfl, hA7⟩
           refine Obs.cons ?_ ?_
           ·refine obS (by kernel_rfl) rfl rfl (fun ph21 w21 hO21 => ?_)
            rintro _ ⟨pz1, cz1, rfl, hz1⟩
            refine VL.index (xs := ((openP (hd nm l))[1]'(show 1 < (openP (hd nm l)).length by omega))) rfl rfl Try.underlying24 sz24 hz1 (by omega) (by have := len1 hall1 (k := 1) (by decide) (show 1 < (openP (hd nm l)).length by omega); omega) ?_
            exact VL.finS hO21 rfl ⟨_, _, rfl, hz1⟩
           refine Obs.cons ?_ ?_
           ·refine obS (by kernel_rfl) rfl rfl (fun ph21 w21 hO21 => ?_)
            rintro _ ⟨py1, cy1, rfl, hy1⟩
            have hl0 : 0 < ((openP (hd nm l))[1]'(show 1 < (openP (hd nm l)).length by omega)).length := by rw [len1 hall1 (by decide) (by omega)]; decide
            refine VL.byteO (s := ⟨wPP, _⟩) (l := ((openP (hd nm l))[1]'(show 1 < (openP (hd nm l)).length by omega))) (o := 0) (y := ((openP (hd nm l))[1]'(show 1 < (openP (hd nm l)).length by omega))[0]'hl0) rfl kd5 (fun _ e => e ▸ Still.ok hO21 (by repeat (first | exact List.mem_cons_self .. | apply List.mem_cons_of_mem))) hy1 (List.getElem?_eq_getElem hl0) ?_
            refine VL.newv (v' := .int .u8 ((num ((openP (hd nm l)).getD 1 []) : Nat) : Int)) (congrArg (Value.int .u8) (congrArg (fun n : Nat => (n : Int)) (by rw [pickk (show 1 < (openP (hd nm l)).length by omega)]; exact (num_one (len1 hall1 (by decide) (by omega)) hl0).symm))) ?_
            exact VL.finS hO21 rfl rfl
           refine Obs.cons ?_ ?_
           ·refine obS (by kernel_rfl) rfl rfl (fun ph21 w21 hO21 => ?_)
            rintro _ rfl
            refine VL.conv (by rw [Try.underlying5]; rfl) Try.underlying3 rfl (by simp only [InR]; omega) ?_
            exact VL.finS hO21 rfl rfl
           refine Obs.cons ?_ ?_
           ·refine obS (by kernel_rfl) rfl rfl (fun ph21 w21 hO21 => ?_)
            refine VL.move rfl ?_
            exact VL.finS hO21 rfl rfl
           refine Obs.cons ?_ ?_
           ·refine obS (by kernel_rfl) rfl rfl (fun ph21 w21 hO21 => ?_)
            rintro _ rfl
            refine VL.index (xs := (openP (hd nm l))) rfl rfl Try.underlying31 sz31 hPP (by omega) (by have hi := (show 2 < (openP (hd nm l)).length by omega); omega) ?_
            exact VL.finS hO21 rfl rfl
           refine Obs.cons ?_ ?_
           ·refine obS (by kernel_rfl) rfl rfl (fun ph21 w21 hO21 => ?_)
            rintro _ rfl
            refine VL.elemO (s := ⟨wPP, _⟩) (2) 0 rfl kd24 (fun _ e => e ▸ Still.ok hO21 (by repeat (first | exact List.mem_cons_self .. | apply List.mem_cons_of_mem))) hPP (List.getElem?_eq_getElem (show 2 < (openP (hd nm l)).length by omega)) (by simp) (by decide) (fun vs v hl hr hv => ?_)
            obtain ⟨p7, c7, rfl, hA7⟩ := hr
            have e7 : v = .slice p7 ((openP (hd nm l))[2]'(by omega)).length c7 := Option.some.inj (hv.symm.trans rfl)
            subst e7
            exact VL.finS hO21 rfl ⟨_, _, rfl, hA7⟩
           refine Obs.cons ?_ ?_
           ·refine obS (by kernel_rfl) rfl rfl (fun ph21 w21 hO21 => ?_)
            rintro _ ⟨pz2, cz2, rfl, hz2⟩
            refine VL.index (xs := ((openP (hd nm l))[2]'(show 2 < (openP (hd nm l)).length by omega))) rfl rfl Try.underlying24 sz24 hz2 (by omega) (by have := len1 hall1 (k := 2) (by decide) (show 2 < (openP (hd nm l)).length by omega); omega) ?_
            exact VL.finS hO21 rfl ⟨_, _, rfl, hz2⟩
           refine Obs.cons ?_ ?_
           ·refine obS (by kernel_rfl) rfl rfl (fun ph21 w21 hO21 => ?_)
            rintro _ ⟨py2, cy2, rfl, hy2⟩
            have hl0 : 0 < ((openP (hd nm l))[2]'(show 2 < (openP (hd nm l)).length by omega)).length := by rw [len1 hall1 (by decide) (by omega)]; decide
            refine VL.byteO (s := ⟨wPP, _⟩) (l := ((openP (hd nm l))[2]'(show 2 < (openP (hd nm l)).length by omega))) (o := 0) (y := ((openP (hd nm l))[2]'(show 2 < (openP (hd nm l)).length by omega))[0]'hl0) rfl kd5 (fun _ e => e ▸ Still.ok hO21 (by repeat (first | exact List.mem_cons_self .. | apply List.mem_cons_of_mem))) hy2 (List.getElem?_eq_getElem hl0) ?_
            refine VL.newv (v' := .int .u8 ((num ((openP (hd nm l)).getD 2 []) : Nat) : Int)) (congrArg (Value.int .u8) (congrArg (fun n : Nat => (n : Int)) (by rw [pickk (show 2 < (openP (hd nm l)).length by omega)]; exact (num_one (len1 hall1 (by decide) (by omega)) hl0).symm))) ?_
            exact VL.finS hO21 rfl rfl
           refine Obs.cons ?_ ?_
           ·refine obS (by kernel_rfl) rfl rfl (fun ph21 w21 hO21 => ?_)
            refine VL.move rfl ?_
            exact VL.finS hO21 rfl rfl
           refine Obs.cons ?_ ?_
           ·refine obS (by kernel_rfl) rfl rfl (fun ph21 w21 hO21 => ?_)
            rintro _ rfl
            refine VL.index (xs := (openP (hd nm l))) rfl rfl Try.underlying31 sz31 hPP (by omega) (by have hi := (show 3 < (openP (hd nm l)).length by omega); omega) ?_
            exact VL.finS hO21 rfl rfl
           refine Obs.cons ?_ ?_
           ·refine obS (by kernel_rfl) rfl rfl (fun ph21 w21 hO21 => ?_)
            rintro _ rfl
            refine VL.elemO (s := ⟨wPP, _⟩) (3) 0 rfl kd24 (fun _ e => e ▸ Still.ok hO21 (by repeat (first | exact List.mem_cons_self .. | apply List.mem_cons_of_mem))) hPP (List.getElem?_eq_getElem (show 3 < (openP (hd nm l)).length by omega)) (by simp) (by decide) (fun vs v hl hr hv => ?_)
            obtain ⟨p7, c7, rfl, hA7⟩ := hr
            have e7 : v = .slice p7 ((openP (hd nm l))[3]'(by omega)).length c7 := Option.some.inj (hv.symm.trans rfl)
            subst e7
            exact VL.finS hO21 rfl ⟨_, _, rfl, hA7⟩
           refine Obs.cons ?_ ?_
           ·refine obS (by kernel_rfl) rfl rfl (fun ph21 w21 hO21 => ?_)
            rintro _ ⟨pz3, cz3, rfl, hz3⟩
            refine VL.index (xs := ((openP (hd nm l))[3]'(show 3 < (openP (hd nm l)).length by omega))) rfl rfl Try.underlying24 sz24 hz3 (by omega) (by have := len1 hall1 (k := 3) (by decide) (show 3 < (openP (hd nm l)).length by omega); omega) ?_
            exact VL.finS hO21 rfl ⟨_, _, rfl, hz3⟩
           refine Obs.cons ?_ ?_
           ·refine obS (by kernel_rfl) rfl rfl (fun ph21 w21 hO21 => ?_)
            rintro _ ⟨py3, cy3, rfl, hy3⟩
            have hl0 : 0 < ((openP (hd nm l))[3]'(show 3 < (openP (hd nm l)).length by omega)).length := by rw [len1 hall1 (by decide) (by omega)]; decide
            refine VL.byteO (s := ⟨wPP, _⟩) (l := ((openP (hd nm l))[3]'(show 3 < (openP (hd nm l)).length by omega))) (o := 0) (y := ((openP (hd nm l))[3]'(show 3 < (openP (hd nm l)).length by omega))[0]'hl0) rfl kd5 (fun _ e => e ▸ Still.ok hO21 (by repeat (first | exact List.mem_cons_self .. | apply List.mem_cons_of_mem))) hy3 (List.getElem?_eq_getElem hl0) ?_
            refine VL.newv (v' := .int .u8 ((num ((openP (hd nm l)).getD 3 []) : Nat) : Int)) (congrArg (Value.int .u8) (congrArg (fun n : Nat => (n : Int)) (by rw [pickk (show 3 < (openP (hd nm l)).length by omega)]; exact (num_one (len1 hall1 (by decide) (by omega)) hl0).symm))) ?_
            exact VL.finS hO21 rfl rfl
           refine Obs.cons ?_ ?_
           ·refine obS (by kernel_rfl) rfl rfl (fun ph21 w21 hO21 => ?_)
            rintro _ rfl _ rfl _ rfl _ rfl
            refine VL.build (zs := queZ) (L := queFL) [(2, [.int .u16 (num ((openP (hd nm l)).getD 0 []))]), (1, [.int .i64 (num ((openP (hd nm l)).getD 1 []))]), (3, [.int .u8 (num ((openP (hd nm l)).getD 2 []))]), (4, [.int .u8 (num ((openP (hd nm l)).getD 3 []))])] plan157 rfl ⟨⟨rfl, ⟨_, rfl, rfl⟩, rfl⟩, ⟨⟨rfl, ⟨_, rfl, rfl⟩, rfl⟩, ⟨⟨rfl, ⟨_, rfl, rfl⟩, rfl⟩, ⟨⟨rfl, ⟨_, rfl, rfl⟩, rfl⟩, trivial⟩⟩⟩⟩ rfl ?_
            refine VL.newv (v' := .agg (cat (queV ((Q0 nm l ([] : List Itm))) none 0)).toArray) rfl ?_
            exact VL.finS hO21 rfl rfl
           refine Obs.cons ?_ ?_
           ·refine obK (by kernel_rfl) rfl (fun w21 hO21 => ?_)
            refine VL.toOwn hO21 ?_
            refine VL.allocB (L := queL) (ps := (queV (que0) none 0)) zero157 rfl rfl (fun v => ?_)
            exact VL.finX rfl (fun _ ⟨_, _, h⟩ => ⟨_, h⟩) (fun _ h => ⟨w21, h⟩)
           exact Obs.nil
          case end21 =>
           intro w21 hO21
           rintro _ rfl _ ⟨wk21, g42, rfl, hK43⟩
           replace hK43 : Own _ (blk g42 157 queL (queV (que0) none 0) :: blk g2 157 queL (queV (que0) none 0) :: H) w21 := hK43
           refine VL.toOwn hK43 ?_
           refine VL.store (L := queL) (qs := (queV ((Q0 nm l ([] : List Itm))) none 0)) (ps' := (queV ((Q0 nm l ([] : List Itm))) none 0)) 0 0 5 rfl rfl rfl (.inl kd157) rfl rfl (queV_len (Q0_ok (fun y hy => by cases hy) h2q h5q hall1)) (queV_ok1 ((Q0 nm l ([] : List Itm))) none 0) rfl rfl ?_
           refine VL.set0 ?_
           refine VL.nn ?_
           refine VC.seq ?_
           refine VC.sr ?_
           refine VL.move rfl ?_
           refine VL.dropS 1 rfl rfl Try.underlying158 sz158 hG (by omega) (fun p6 hG1 => ?_)
           refine VL.len Try.underlying158 rfl rfl ?_
           refine VL.move rfl ?_
           refine VL.nn ?_
           refine VC.block ?_
           refine VC.turn (G' := Own _ (arow 87 433 itemR' Mono_item none 0 ([] : List Itm) :: blk g42 157 queL (queV ((Q0 nm l ([] : List Itm))) none 0) :: blk g2 157 queL (queV (que0) none 0) :: H)) (fun w' h => newRowI h) ?_
           refine VC.loop (X := Nat × Option Nat × Nat) (fun (n2, gi, ci) => [(2, .pointer (some ⟨g1, 0, none⟩)), (4, .pointer (some ⟨g2, 0, none⟩)), (6, rowV gv (gotK nm l 3).length cv), (16, .pointer (some ⟨g42, 0, none⟩)), (118, .slice p6 ((gotK nm l 3).drop 1).length (cv - 1)), (119, .int .i64 (((gotK nm l 3).drop 1).length : Int)), (120, .int .i64 (n2 : Int))]) (fun (n2, gi, ci) w' => (n2 ≤ ((gotK nm l 3).drop 1).length ∧ (itsOf (((gotK nm l 3).drop 1).take n2)).length ≤ 4 * n2) ∧ Own (⟨wG, keys (blk g2 157 queL (queV (que0) none 0) :: H)⟩ :: ⟨w3, keys (blk g2 157 queL (queV (que0) none 0) :: H)⟩ :: ⟨w, keys H⟩ :: S) (arow 87 433 itemR' Mono_item gi ci (itsOf (((gotK nm l 3).drop 1).take n2)) :: blk g42 157 queL (queV ((Q0 nm l (itsOf (((gotK nm l 3).drop 1).take n2)))) (gi.map fun g => (⟨g, 0, none⟩ : Addr)) ci) :: blk g2 157 queL (queV (que0) none 0) :: H) w') (fun (n2, _) => ((gotK nm l 3).drop 1).length - n2) (0, none, 0) ⟨rfl, rfl, rfl, rfl, rfl, rfl, rfl, trivial⟩ (fun w' h => ⟨⟨Nat.zero_le _, Nat.zero_le _⟩, h.sub (sub_cons (by repeat (first | exact List.mem_cons_self .. | apply List.mem_cons_of_mem)) (sub_cons (by repeat (first | exact List.mem_cons_self .. | apply List.mem_cons_of_mem)) (sub_cons (by repeat (first | exact List.mem_cons_self .. | apply List.mem_cons_of_mem)) (fun _ hs => by repeat (first | exact hs | apply List.mem_cons_of_mem)))))⟩) (fun (n2, gi, ci) => VC.fact fun ⟨hn2, hit4⟩ => ?_)
           ·skip
            refine VC.seq ?_
            have hgl : ((gotK nm l 3).drop 1).length ≤ 2 := by have := gotK_len nm l 3; rw [List.length_drop]; omega
            refine VC.region ?_
            refine VL.lss rfl rfl ?_
            refine VL.case (fun h23 => ?_) (fun h23 => ?_)
            ·have hlt3 : n2 < ((gotK nm l 3).drop 1).length := by omega
             refine VL.nn ?_
             refine VC.seq ?_
             refine VC.yes rfl ?_
             refine VC.skip ?_
             refine VX.next ?_
             refine VC.seq ?_
             refine VC.block ?_
             refine VC.sr ?_
             refine VL.index (xs := ((gotK nm l 3).drop 1)) rfl rfl Try.underlying158 sz158 hG1 (by omega) (by have hi := hlt3; omega) ?_
             refine VL.elems (s := ⟨wG, _⟩) (m := 3) (n2) 0 rfl kd167 (fun _ h => h) (by repeat (first | exact List.mem_cons_self .. | apply List.mem_cons_of_mem)) hG1 (List.getElem?_eq_getElem hlt3) (by simp) (by decide) (fun vs hl hr => ?_)
             obtain ⟨p46, c47, rfl, hA48⟩ := hr
             refine VL.newv (v' := .agg (cat (chgV (((gotK nm l 3).drop 1)[n2]'hlt3) p46 c47)).toArray) (by rw [List.drop_zero, List.take_of_length_le (by rw [hl]; decide)]) ?_
             refine VL.alloc (L := chgL) (ps := (chgV (chg0) none 0)) zero167 rfl rfl (fun g49 => ?_)
             refine VL.store (L := chgL) (qs := (chgV ((((gotK nm l 3).drop 1)[n2]'hlt3)) p46 c47)) (ps' := (chgV ((((gotK nm l 3).drop 1)[n2]'hlt3)) p46 c47)) 0 0 3 rfl rfl rfl (.inl kd167) rfl rfl (chgV_len (chg_ok (((gotK nm l 3).drop 1)[n2]'hlt3))) (chgV_ok1 ((((gotK nm l 3).drop 1)[n2]'hlt3)) p46 c47) rfl rfl ?_
             refine VL.set0 ?_
             refine VL.nn ?_
             refine VC.sr ?_
             refine VL.fieldAddr rfl fo167_1 rfl ?_
             refine VL.load (v := .slice p46 ((((gotK nm l 3).drop 1)[n2]'hlt3).value).length c47) 0 1 rfl kd24 (fun _ h => h) rfl rfl rfl ?_
             refine VL.call Try.func32 rfl (by decide) rfl (fun w' hw => split_P hw (hA48.nowA (s := ⟨wG, _⟩) Mono.byte hw)) (fun v => ?_)
             refine VL.at (fun w50 h1w => ?_)
             obtain ⟨p51, c52, rfl, hO54, hA53⟩ := h1w
             refine VL.toOwn hO54 ?_
             refine VL.move rfl ?_
             refine VL.extract rfl rfl ?_
             refine VL.extract rfl rfl ?_
             refine VL.assign rfl ?_
             refine VL.assign rfl ?_
             refine VL.nn ?_
             refine VC.seq ?_
             refine VC.sr ?_
             refine VL.move rfl ?_
             refine VL.neq rfl rfl ?_
             refine VL.case (fun h26 => ?_) (fun h26 => ?_)
             ·refine VL.move rfl ?_
              refine VL.pass rfl rfl rfl rfl rfl ?_
              refine VL.pass rfl rfl rfl rfl rfl ?_
              refine VL.pick_t rfl rfl ?_
              refine VL.move rfl ?_
              refine VL.pass rfl rfl rfl rfl rfl ?_
              refine VL.pass rfl rfl rfl rfl rfl ?_
              refine VL.pass rfl rfl rfl rfl rfl ?_
              refine VL.pick_t rfl rfl ?_
              refine VL.nn ?_
              refine VC.yes rfl ?_
              refine VC.sr ?_
              refine VL.build0 (cs := cat (queV (que0) none 0)) built157 ?_
              refine VL.store (L := queL) (qs := (queV (que0) none 0)) (ps' := (queV (que0) none 0)) 3 0 5 rfl rfl rfl (.inl kd157) rfl rfl rfl (queV_ok1 que0 none 0) rfl rfl ?_
              refine VL.set3 ?_
              refine VL.assign rfl ?_
              refine VL.nn ?_
              refine VC.ret ?_
              refine VX.then_ret ?_
              refine VX.block_ret ?_
              refine VX.then_ret ?_
              refine VX.then_ret ?_
              refine VX.block_ret ?_
              refine VX.then_ret ?_
              refine VX.ret_cell (cs := cat (queV (que0) none 0)) 3 rfl rfl rfl (by rw [cat_size rfl]; exact kd157) (fun _ h => h) rfl rfl (fun we hw => ?_)
              exact load_res (load_bad (fun hc => h26 (congrArg (fun n : Nat => (n : Int)) (hc.rest _ (drop_mem hlt3)).1))) (hw.drop.drop.drop.drop.subA)
             ·refine VL.move rfl ?_
              refine VL.go rfl rfl rfl ?_
              refine VL.fieldAddr rfl fo167_2 rfl ?_
              refine VL.go rfl rfl rfl ?_
              refine VL.load (v := .bool ((((gotK nm l 3).drop 1)[n2]'hlt3).gone)) 0 2 rfl kd4 (fun _ h => h) rfl rfl rfl ?_
              cases h26_4 : (((gotK nm l 3).drop 1)[n2]'hlt3).gone
              ·refine VL.pick_f rfl rfl ?_
               refine VL.move rfl ?_
               refine VL.go rfl rfl rfl ?_
               refine VL.move rfl ?_
               refine VL.go rfl rfl rfl ?_
               refine VL.len Try.underlying31 rfl rfl ?_
               refine VL.go rfl rfl rfl ?_
               refine VL.gtr rfl rfl ?_
               refine VL.case (fun h26b => ?_) (fun h26b => ?_)
               ·refine VL.pick_f rfl rfl ?_
                refine VL.nn ?_
                refine VC.yes rfl ?_
                refine VC.sr ?_
                refine VL.build0 (cs := cat (queV (que0) none 0)) built157 ?_
                refine VL.store (L := queL) (qs := (queV (que0) none 0)) (ps' := (queV (que0) none 0)) 3 0 5 rfl rfl rfl (.inl kd157) rfl rfl rfl (queV_ok1 que0 none 0) rfl rfl ?_
                refine VL.set3 ?_
                refine VL.assign rfl ?_
                refine VL.nn ?_
                refine VC.ret ?_
                refine VX.then_ret ?_
                refine VX.block_ret ?_
                refine VX.then_ret ?_
                refine VX.then_ret ?_
                refine VX.block_ret ?_
                refine VX.then_ret ?_
                refine VX.ret_cell (cs := cat (queV (que0) none 0)) 3 rfl rfl rfl (by rw [cat_size rfl]; exact kd157) (fun _ h => h) rfl rfl (fun we hw => ?_)
                exact load_res (load_bad (fun hc => by have h1 := (hc.rest _ (drop_mem hlt3)).2.2.1; exact absurd (show (openP (((gotK nm l 3).drop 1)[n2]'hlt3).value).length ≤ 4 from h1) (by omega))) (hw.drop.drop.drop.drop.subA)
               ·refine VL.pick_f rfl rfl ?_
                refine VL.nn ?_
                refine VC.no rfl ?_
                refine VC.skip ?_
                refine VX.next ?_
                refine VC.sr ?_
                refine VL.move rfl ?_
                refine VL.len Try.underlying31 rfl rfl ?_
                refine VL.move rfl ?_
                refine VL.nn ?_
                refine VC.block ?_
                refine VC.loop (X := Nat × Option Nat × Nat) (fun (k2, gj, cj) => [(2, .pointer (some ⟨g1, 0, none⟩)), (4, .pointer (some ⟨g2, 0, none⟩)), (6, rowV gv (gotK nm l 3).length cv), (16, .pointer (some ⟨g42, 0, none⟩)), (118, .slice p6 ((gotK nm l 3).drop 1).length (cv - 1)), (119, .int .i64 (((gotK nm l 3).drop 1).length : Int)), (120, .int .i64 (n2 : Int)), (142, .slice p51 (openP (((gotK nm l 3).drop 1)[n2]'hlt3).value).length c52), (143, .int .i64 ((openP (((gotK nm l 3).drop 1)[n2]'hlt3).value).length : Int)), (144, .int .i64 (k2 : Int))]) (fun (k2, gj, cj) w' => k2 ≤ (openP (((gotK nm l 3).drop 1)[n2]'hlt3).value).length ∧ Own (⟨w50, keys (blk g49 167 chgL (chgV ((((gotK nm l 3).drop 1)[n2]'hlt3)) p46 c47) :: arow 87 433 itemR' Mono_item gi ci (itsOf (((gotK nm l 3).drop 1).take n2)) :: blk g42 157 queL (queV ((Q0 nm l (itsOf (((gotK nm l 3).drop 1).take n2)))) (gi.map fun g => (⟨g, 0, none⟩ : Addr)) ci) :: blk g2 157 queL (queV (que0) none 0) :: H)⟩ :: ⟨wG, keys (blk g2 157 queL (queV (que0) none 0) :: H)⟩ :: ⟨w3, keys (blk g2 157 queL (queV (que0) none 0) :: H)⟩ :: ⟨w, keys H⟩ :: S) (blk g49 167 chgL (chgV ((((gotK nm l 3).drop 1)[n2]'hlt3)) p46 c47) :: arow 87 433 itemR' Mono_item gj cj (itsJ ((gotK nm l 3).drop 1) n2 (openP (((gotK nm l 3).drop 1)[n2]'hlt3).value) k2) :: blk g42 157 queL (queV ((Q0 nm l (itsJ ((gotK nm l 3).drop 1) n2 (openP (((gotK nm l 3).drop 1)[n2]'hlt3).value) k2))) (gj.map fun g => (⟨g, 0, none⟩ : Addr)) cj) :: blk g2 157 queL (queV (que0) none 0) :: H) w') (fun (k2, _) => (openP (((gotK nm l 3).drop 1)[n2]'hlt3).value).length - k2) (0, gi, ci) ⟨rfl, rfl, rfl, rfl, rfl, rfl, rfl, rfl, rfl, rfl, trivial⟩ (fun w' h => ⟨Nat.zero_le _, by rw [itsJ_0]; exact h.sub (sub_cons (by repeat (first | exact List.mem_cons_self .. | apply List.mem_cons_of_mem)) (sub_cons (by repeat (first | exact List.mem_cons_self .. | apply List.mem_cons_of_mem)) (sub_cons (by repeat (first | exact List.mem_cons_self .. | apply List.mem_cons_of_mem)) (sub_cons (by repeat (first | exact List.mem_cons_self .. | apply List.mem_cons_of_mem)) (fun _ hs => by repeat (first | exact hs | apply List.mem_cons_of_mem))))))⟩) (fun (k2, gj, cj) => VC.fact fun hk2 => ?_)
                ·have hj8 := itsJ_len (ps := (openP (((gotK nm l 3).drop 1)[n2]'hlt3).value)) hit4 (show k2 ≤ 4 by omega)
                 refine VC.sr ?_
                 refine VL.lss rfl rfl ?_
                 refine VL.case (fun h29 => ?_) (fun h29 => ?_)
                 ·have hlt4 : k2 < (openP (((gotK nm l 3).drop 1)[n2]'hlt3).value).length := by omega
                  refine VL.nn ?_
                  refine VC.seq ?_
                  refine VC.yes rfl ?_
                  refine VC.skip ?_
                  refine VX.next ?_
                  refine VC.seq ?_
                  refine VC.block ?_
                  refine VC.sr ?_
                  refine VL.index (xs := (openP (((gotK nm l 3).drop 1)[n2]'hlt3).value)) rfl rfl Try.underlying31 sz31 hA53 (by omega) (by have hi := hlt4; omega) ?_
                  refine VL.elem (s := ⟨w50, _⟩) (k2) 0 rfl kd24 (fun _ h => h) (by repeat (first | exact List.mem_cons_self .. | apply List.mem_cons_of_mem)) (Mono.slice Mono.byte) hA53 (List.getElem?_eq_getElem hlt4) (by simp) (by decide) (fun vs v hl hr hv => ?_)
                  obtain ⟨p57, c58, rfl, hA59⟩ := hr
                  have ehy56 : v = .slice p57 ((openP (((gotK nm l 3).drop 1)[n2]'hlt3).value)[k2]'hlt4).length c58 := Option.some.inj (hv.symm.trans rfl)
                  subst ehy56
                  refine VL.assign rfl ?_
                  refine VL.nn ?_
                  refine VC.sr ?_
                  refine VL.move rfl ?_
                  refine VL.call Try.func58 rfl (by decide) rfl (fun w' hw => getItem_w hw (hA59.nowA (s := ⟨w50, _⟩) Mono.byte hw)) (fun v => ?_)
                  refine VL.at (fun w60 h1w => ?_)
                  obtain ⟨p62, c63, q65, d66, rfl, hO61, hA64, hB67⟩ := h1w
                  refine VL.toOwn hO61 ?_
                  refine VL.move rfl ?_
                  refine VL.extract rfl rfl ?_
                  refine VL.extract rfl rfl ?_
                  refine VL.alloc (L := itemL) (ps := (itemV (item0) none 0 none 0)) zero87 rfl rfl (fun g68 => ?_)
                  refine VL.store (L := itemL) (qs := (itemV (((itemR (((openP (((gotK nm l 3).drop 1)[n2]'hlt3).value)[k2]'hlt4))).getD item0)) p62 c63 q65 d66)) (ps' := (itemV (((itemR (((openP (((gotK nm l 3).drop 1)[n2]'hlt3).value)[k2]'hlt4))).getD item0)) p62 c63 q65 d66)) 0 0 28 rfl rfl rfl (.inl kd87) rfl rfl (itemV_len (itemR_ok (((openP (((gotK nm l 3).drop 1)[n2]'hlt3).value)[k2]'hlt4)))) (itemV_ok1 (((itemR (((openP (((gotK nm l 3).drop 1)[n2]'hlt3).value)[k2]'hlt4))).getD item0)) p62 c63 q65 d66) rfl rfl ?_
                  refine VL.set0 ?_
                  refine VL.assign rfl ?_
                  refine VL.nn ?_
                  refine VC.seq ?_
                  refine VC.sr ?_
                  refine VL.move rfl ?_
                  refine VL.neq rfl rfl ?_
                  refine VL.case (fun h32 => ?_) (fun h32 => ?_)
                  ·refine VL.nn ?_
                   refine VC.yes rfl ?_
                   refine VC.sr ?_
                   refine VL.build0 (cs := cat (queV (que0) none 0)) built157 ?_
                   refine VL.store (L := queL) (qs := (queV (que0) none 0)) (ps' := (queV (que0) none 0)) 4 0 5 rfl rfl rfl (.inl kd157) rfl rfl rfl (queV_ok1 que0 none 0) rfl rfl ?_
                   refine VL.set4 ?_
                   refine VL.assign rfl ?_
                   refine VL.nn ?_
                   refine VC.ret ?_
                   refine VX.then_ret ?_
                   refine VX.block_ret ?_
                   refine VX.then_ret ?_
                   refine VX.then_ret ?_
                   refine VX.block_ret ?_
                   refine VX.block_ret ?_
                   refine VX.then_ret ?_
                   refine VX.then_ret ?_
                   refine VX.block_ret ?_
                   refine VX.then_ret ?_
                   refine VX.ret_cell (cs := cat (queV (que0) none 0)) 4 rfl rfl rfl (by rw [cat_size rfl]; exact kd157) (fun _ h => h) rfl rfl (fun we hw => ?_)
                   exact load_res (load_bad (fun hc => by have h1 := (hc.rest _ (drop_mem hlt3)).2.2.2 ((openP (((gotK nm l 3).drop 1)[n2]'hlt3).value)[k2]'hlt4) (List.getElem_mem hlt4); rw [item_no h32] at h1; cases h1)) (hw.drop.drop.drop.drop.drop.subA)
                  ·refine VL.nn ?_
                   refine VC.no rfl ?_
                   refine VC.skip ?_
                   refine VX.next ?_
                   refine VC.region ?_
                   refine VL.fieldAddr rfl fo157_0 rfl ?_
                   refine VL.load (v := .slice (gj.map fun g => (⟨g, 0, none⟩ : Addr)) ((itsJ ((gotK nm l 3).drop 1) n2 (openP (((gotK nm l 3).drop 1)[n2]'hlt3).value) k2)).length cj) 3 0 rfl kd126 (fun _ h => h) rfl rfl rfl ?_
                   refine VL.loads (cs := cat (itemV (((itemR (((openP (((gotK nm l 3).drop 1)[n2]'hlt3).value)[k2]'hlt4))).getD item0)) p62 c63 q65 d66)) 0 0 28 rfl kd87 (fun _ h => h) rfl rfl rfl rfl ?_
                   refine VL.lit el126 rfl rfl rfl (by intro v hv; simp only [List.mem_singleton] at hv; subst hv; show (cat (itemV (itmOf ((openP (((gotK nm l 3).drop 1)[n2]'hlt3).value)[k2]'hlt4)) p62 c63 q65 d66)).toArray.size = 433; rw [List.size_toArray, cat_size (itemV_len (itemR_ok ((openP (((gotK nm l 3).drop 1)[n2]'hlt3).value)[k2]'hlt4)))]; rfl) (by rw [show [Value.agg (cat (itemV (itmOf ((openP (((gotK nm l 3).drop 1)[n2]'hlt3).value)[k2]'hlt4)) p62 c63 q65 d66)).toArray].flatMap (·.cells.toList) = (cat (itemV (itmOf ((openP (((gotK nm l 3).drop 1)[n2]'hlt3).value)[k2]'hlt4)) p62 c63 q65 d66)) by simp [Value.cells]]; exact itemV_ok1 _ _ _ _ _) (fun gl => ?_)
                   refine VL.letRow itemR' [(itmOf ((openP (((gotK nm l 3).drop 1)[n2]'hlt3).value)[k2]'hlt4))] rfl (fun w' hw => one_item (itemR_ok ((openP (((gotK nm l 3).drop 1)[n2]'hlt3).value)[k2]'hlt4)) (hA64.nowA (s := ⟨w60, _⟩) Mono.byte hw) (hB67.nowA (s := ⟨w60, _⟩) Mono_vouch hw)) (fun wl hOl hAl => ?_)
                   refine VL.appends (R := itemR') (hR := Mono_item) (ys := (itsJ ((gotK nm l 3).drop 1) n2 (openP (((gotK nm l 3).drop 1)[n2]'hlt3).value) k2)) (zs := [(itmOf ((openP (((gotK nm l 3).drop 1)[n2]'hlt3).value)[k2]'hlt4))]) 2 el126 rfl rfl rfl (fun _ h => h) rfl (fun _ hw => hAl.nowA (s := ⟨wl, _⟩) Mono_item hw) itemR'_ok1 (by simp only [List.length_cons, List.length_nil]; omega) (fun gv2 cv2 => ?_) (by simp only [List.length_cons, List.length_nil]; omega)
                   refine VL.set2 ?_
                   refine VL.fieldAddr rfl fo157_0 rfl ?_
                   refine VL.store (L := queL) (qs := [[.slice (gv2.map fun g => (⟨g, 0, none⟩ : Addr)) (((itsJ ((gotK nm l 3).drop 1) n2 (openP (((gotK nm l 3).drop 1)[n2]'hlt3).value) k2) ++ [(itmOf ((openP (((gotK nm l 3).drop 1)[n2]'hlt3).value)[k2]'hlt4))])).length cv2]]) 3 0 1 rfl rfl rfl (.inr ⟨kd126, rfl⟩) rfl rfl rfl (by intro u hu; simp [cat] at hu; subst hu; rfl) rfl rfl ?_
                   refine VL.set3 ?_
                   refine VL.nil ?_
                   refine VX.block_normal ?_
                   refine VX.next ?_
                   refine VC.region ?_
                   refine VL.add rfl rfl (by simp only [InR]; omega) ?_
                   refine VL.move rfl ?_
                   refine VL.nil ?_
                   refine VX.round (k2 + 1, gv2, cv2) ⟨rfl, rfl, rfl, rfl, rfl, rfl, rfl, rfl, rfl, rfl, trivial⟩ (fun w' h => ⟨by omega, ?_⟩) (by show (openP (((gotK nm l 3).drop 1)[n2]'hlt3).value).length - (k2 + 1) < (openP (((gotK nm l 3).drop 1)[n2]'hlt3).value).length - k2; omega)
                   rw [itsJ_next hlt4]
                   exact ((ownDropAt 0 h)).sub (sub_cons (by repeat (first | exact List.mem_cons_self .. | apply List.mem_cons_of_mem)) (sub_cons (by repeat (first | exact List.mem_cons_self .. | apply List.mem_cons_of_mem)) (sub_cons (by repeat (first | exact List.mem_cons_self .. | apply List.mem_cons_of_mem)) (sub_cons (by repeat (first | exact List.mem_cons_self .. | apply List.mem_cons_of_mem)) (fun _ hs => by repeat (first | exact hs | apply List.mem_cons_of_mem))))))
                 ·have hke3 : k2 = (openP (((gotK nm l 3).drop 1)[n2]'hlt3).value).length := by omega
                  refine VL.nn ?_
                  refine VC.seq ?_
                  refine VC.no rfl ?_
                  refine VC.exit ?_
                  refine VX.then_exit ?_
                  refine VX.then_exit ?_
                  refine VX.block_here ?_
                  refine VX.block_normal ?_
                  refine VX.next ?_
                  refine VC.region ?_
                  refine VL.add rfl rfl (by simp only [InR]; omega) ?_
                  refine VL.move rfl ?_
                  refine VL.nil ?_
                  have el : (itsJ ((gotK nm l 3).drop 1) n2 (openP (((gotK nm l 3).drop 1)[n2]'hlt3).value) k2) = itsOf (((gotK nm l 3).drop 1).take (n2 + 1)) := itsJ_all hlt3 hke3
                  refine VX.round (n2 + 1, gj, cj) ⟨rfl, rfl, rfl, rfl, rfl, rfl, rfl, trivial⟩ (fun w' h => ⟨⟨by omega, ?_⟩, ?_⟩) (by show ((gotK nm l 3).drop 1).length - (n2 + 1) < ((gotK nm l 3).drop 1).length - n2; omega)
                  ·rw [← el]
                   have := itsJ_len (ps := (openP (((gotK nm l 3).drop 1)[n2]'hlt3).value)) hit4 (show k2 ≤ 4 by omega)
                   omega
                  ·rw [← el]
                   exact ((ownDropAt 0 h)).sub (sub_cons (by repeat (first | exact List.mem_cons_self .. | apply List.mem_cons_of_mem)) (sub_cons (by repeat (first | exact List.mem_cons_self .. | apply List.mem_cons_of_mem)) (sub_cons (by repeat (first | exact List.mem_cons_self .. | apply List.mem_cons_of_mem)) (fun _ hs => by repeat (first | exact hs | apply List.mem_cons_of_mem)))))
              ·refine VL.pick_f rfl rfl ?_
               refine VL.move rfl ?_
               refine VL.pass rfl rfl rfl rfl rfl ?_
               refine VL.pass rfl rfl rfl rfl rfl ?_
               refine VL.pass rfl rfl rfl rfl rfl ?_
               refine VL.pick_t rfl rfl ?_
               refine VL.nn ?_
               refine VC.yes rfl ?_
               refine VC.sr ?_
               refine VL.build0 (cs := cat (queV (que0) none 0)) built157 ?_
               refine VL.store (L := queL) (qs := (queV (que0) none 0)) (ps' := (queV (que0) none 0)) 3 0 5 rfl rfl rfl (.inl kd157) rfl rfl rfl (queV_ok1 que0 none 0) rfl rfl ?_
               refine VL.set3 ?_
               refine VL.assign rfl ?_
               refine VL.nn ?_
               refine VC.ret ?_
               refine VX.then_ret ?_
               refine VX.block_ret ?_
               refine VX.then_ret ?_
               refine VX.then_ret ?_
               refine VX.block_ret ?_
               refine VX.then_ret ?_
               refine VX.ret_cell (cs := cat (queV (que0) none 0)) 3 rfl rfl rfl (by rw [cat_size rfl]; exact kd157) (fun _ h => h) rfl rfl (fun we hw => ?_)
               exact load_res (load_bad (fun hc => by have h1 := (hc.rest _ (drop_mem hlt3)).2.1; rw [show _ = true from h26_4] at h1; cases h1)) (hw.drop.drop.drop.drop.subA)
            ·refine VL.nn ?_
             refine VC.seq ?_
             refine VC.no rfl ?_
             refine VC.exit ?_
             refine VX.then_exit ?_
             refine VX.then_exit ?_
             refine VX.block_here ?_
             refine VX.next ?_
             refine VC.seq ?_
             have hn3 : n2 = ((gotK nm l 3).drop 1).length := by omega
             refine VC.letArr (fun wI hOI hIt => ?_)
             refine VC.region ?_
             refine VL.loadF (s := ⟨w3, _⟩) (v := .string nm) 0 rfl kd9 hF4 (fun _ h => (h.after (by repeat (first | exact List.mem_cons_self .. | apply List.mem_cons_of_mem))).1) rfl rfl ?_
             refine VL.loads (cs := cat (queV ((Q0 nm l (itsOf (((gotK nm l 3).drop 1).take n2)))) (gi.map fun g => (⟨g, 0, none⟩ : Addr)) ci)) 0 0 5 rfl kd157 (fun _ h => h) rfl rfl rfl rfl ?_
             refine VL.call Try.func102 rfl (by decide) rfl (fun w' hw => rows_w hw (Q0_ok its_ok h2q h5q hall1) (hIt.nowA (s := ⟨wI, _⟩) Mono_item hw) nm) (fun v => ?_)
             refine VL.at (fun w69 h1w => ?_)
             obtain ⟨p70, c71, rfl, hO73, hA72⟩ := h1w
             refine VL.toOwn hO73 ?_
             refine VL.move rfl ?_
             refine VL.extract rfl rfl ?_
             refine VL.extract rfl rfl ?_
             refine VL.assign rfl ?_
             refine VL.assign rfl ?_
             refine VL.nn ?_
             refine VC.seq ?_
             refine VC.sr ?_
             refine VL.move rfl ?_
             cases hs : (rowsO nm (Q0 nm l (itsOf (((gotK nm l 3).drop 1).take n2)))).isSome
             ·refine VL.not rfl ?_
              refine VL.move rfl ?_
              refine VL.pass rfl rfl rfl rfl rfl ?_
              refine VL.pass rfl rfl rfl rfl rfl ?_
              refine VL.pass rfl rfl rfl rfl rfl ?_
              refine VL.pass rfl rfl rfl rfl rfl ?_
              refine VL.pick_t rfl rfl ?_
              refine VL.nn ?_
              refine VC.yes rfl ?_
              refine VC.sr ?_
              refine VL.build0 (cs := cat (queV (que0) none 0)) built157 ?_
              refine VL.store (L := queL) (qs := (queV (que0) none 0)) (ps' := (queV (que0) none 0)) 1 0 5 rfl rfl rfl (.inl kd157) rfl rfl rfl (queV_ok1 que0 none 0) rfl rfl ?_
              refine VL.set1 ?_
              refine VL.assign rfl ?_
              refine VL.nn ?_
              refine VC.ret ?_
              refine VX.then_ret ?_
              have eQ : (Q0 nm l (itsOf (((gotK nm l 3).drop 1).take n2))) = cq (gotL nm l) := by rw [hn3, List.take_length]; exact Q0_cq nm l
              refine VX.ret_cell (cs := cat (queV (que0) none 0)) 1 rfl rfl rfl (by rw [cat_size rfl]; exact kd157) (fun _ h => h) rfl rfl (fun we hw => ?_)
              exact load_res (load_differ (by rw [← eQ]; intro h; rw [h] at hs; cases hs)) (hw.drop.drop.subA)
             ·refine VL.not rfl ?_
              refine VL.move rfl ?_
              refine VL.go rfl rfl rfl ?_
              refine VL.move rfl ?_
              refine VL.go rfl rfl rfl ?_
              refine VL.move rfl ?_
              refine VL.go rfl rfl rfl ?_
              refine VL.call Try.func154 rfl (by decide) rfl (fun w' hw => eqRows_w hw (hA72.nowA (s := ⟨w69, _⟩) Mono_chg hw) (hG.nowA (s := ⟨wG, _⟩) Mono_chg hw)) (fun v => ?_)
              refine VL.ex fun b => VL.fact fun e => VL.fact fun h38 => ?_
              subst e
              cases b
              ·have h38 := mt h38.2 (by decide)
               refine VL.go rfl rfl rfl ?_
               refine VL.not rfl ?_
               refine VL.pick_f rfl rfl ?_
               refine VL.nn ?_
               refine VC.yes rfl ?_
               refine VC.sr ?_
               refine VL.build0 (cs := cat (queV (que0) none 0)) built157 ?_
               refine VL.store (L := queL) (qs := (queV (que0) none 0)) (ps' := (queV (que0) none 0)) 1 0 5 rfl rfl rfl (.inl kd157) rfl rfl rfl (queV_ok1 que0 none 0) rfl rfl ?_
               refine VL.set1 ?_
               refine VL.assign rfl ?_
               refine VL.nn ?_
               refine VC.ret ?_
               refine VX.then_ret ?_
               have eQ : (Q0 nm l (itsOf (((gotK nm l 3).drop 1).take n2))) = cq (gotL nm l) := by rw [hn3, List.take_length]; exact Q0_cq nm l
               refine VX.ret_cell (cs := cat (queV (que0) none 0)) 1 rfl rfl rfl (by rw [cat_size rfl]; exact kd157) (fun _ h => h) rfl rfl (fun we hw => ?_)
               exact load_res (load_differ (by rw [← eQ]; intro h; rw [h] at h38; exact h38 rfl)) (hw.drop.drop.subA)
              ·have h38 := h38.1 rfl
               refine VL.go rfl rfl rfl ?_
               refine VL.not rfl ?_
               refine VL.pick_f rfl rfl ?_
               refine VL.nn ?_
               refine VC.no rfl ?_
               refine VC.skip ?_
               refine VX.next ?_
               refine VC.sr ?_
               refine VL.loads (cs := cat (queV ((Q0 nm l (itsOf (((gotK nm l 3).drop 1).take n2)))) (gi.map fun g => (⟨g, 0, none⟩ : Addr)) ci)) 0 0 5 rfl kd157 (fun _ h => h) rfl rfl rfl rfl ?_
               refine VL.store (L := queL) (qs := (queV ((Q0 nm l (itsOf (((gotK nm l 3).drop 1).take n2)))) (gi.map fun g => (⟨g, 0, none⟩ : Addr)) ci)) (ps' := (queV ((Q0 nm l (itsOf (((gotK nm l 3).drop 1).take n2)))) (gi.map fun g => (⟨g, 0, none⟩ : Addr)) ci)) 1 0 5 rfl rfl rfl (.inl kd157) rfl rfl (queV_len (Q0_ok its_ok h2q h5q hall1)) (queV_ok1 ((Q0 nm l (itsOf (((gotK nm l 3).drop 1).take n2)))) (gi.map fun g => (⟨g, 0, none⟩ : Addr)) ci) rfl rfl ?_
               refine VL.set1 ?_
               refine VL.assign rfl ?_
               refine VL.nn ?_
               refine VC.ret ?_
               refine VX.ret_cell (cs := cat (queV ((Q0 nm l (itsOf (((gotK nm l 3).drop 1).take n2)))) (gi.map fun g => (⟨g, 0, none⟩ : Addr)) ci)) 1 rfl rfl rfl (by rw [cat_size (queV_len (Q0_ok its_ok h2q h5q hall1))]; exact kd157) (fun _ h => h) rfl rfl (fun we hw => ?_)
               have eQ : (Q0 nm l (itsOf (((gotK nm l 3).drop 1).take n2))) = cq (gotL nm l) := by rw [hn3, List.take_length]; exact Q0_cq nm l
               obtain ⟨r, hr⟩ := Option.isSome_iff_exists.1 hs
               have hgt : rowsO nm (Q0 nm l (itsOf (((gotK nm l 3).drop 1).take n2))) = some (gotL nm l) := by rw [hr] at h38; rw [hr]; exact congrArg some h38
               have e1 : loadO nm l = some (Q0 nm l (itsOf (((gotK nm l 3).drop 1).take n2))) := load_some (Q0_ok its_ok h2q h5q hall1) hgt
               rw [e1]
               exact ⟨_, _, rfl, hw.drop.drop.subA, (hIt.nowA (s := ⟨wI, _⟩) Mono_item hw.drop.drop)⟩

end Go.Proofs.Ytcfecmoagfgnaaa

