/- The statement Takes is proved, for every input: part 12 of 14 of the texts that it needs. -/
import Derived.Test.YtcfecmoagfgnaaaMtakAK
/- Queues as cells. -/
namespace Go.Proofs.Ytcfecmoagfgnaaa
open Go.Vc Go.Pl

structure Que where
  items : List Itm
  sent : Int
  id : Nat
  wait : Nat
  back : Nat
structure Que.ok (x : Que) : Prop where
  items : ∀ i ∈ x.items, i.ok
  id : x.id < 65536
  wait : x.wait < 256
  back : x.back < 256
def que0 : Que := ⟨[], 0, 0, 0, 0⟩
abbrev queV (x : Que) (q : Option Addr) (d : Nat) : List (List Value) := [[.slice q x.items.length d], [.int .i64 x.sent], [.int .u16 x.id], [.int .u8 x.wait], [.int .u8 x.back]]
abbrev queL : List Nat := [1, 1, 1, 1, 1]
theorem zero157 : (Try.prog.info? 157).bind (·.zero) = some (.agg (cat (queV que0 none 0)).toArray) := by kernel_rfl
theorem queV_len {x : Que} (h : x.ok) {q : Option Addr} {d : Nat} : (queV x q d).map List.length = queL := by simp []
theorem queV_ok1 (x : Que) (q : Option Addr) (d : Nat) : ok1 (cat (queV x q d)) := by
 intro u hu
 rw [cat_eq] at hu
 simp only [List.mem_flatten, List.mem_cons, List.not_mem_nil, or_false] at hu
 obtain ⟨l, hl, hu⟩ := hu
 rcases hl with rfl | rfl | rfl | rfl | rfl <;> first | (simp only [List.mem_singleton] at hu; subst hu; rfl) | exact ok1_bytes _ u hu
end Go.Proofs.Ytcfecmoagfgnaaa

/- fedq: queues. -/
namespace Go.Proofs.Ytcfecmoagfgnaaa
open Go.Vc Go.Pl

theorem row_arow {S : List Snap} {H : List Chunk} {w : World} {g : Option Nat} {c : Nat} (h : Own S (row 87 433 g 0 c [] :: H) w) : Own S (arow 87 433 itemR' Mono_item g c ([] : List Itm) :: H) w := h.asArr Mono_item rfl (fun j y hj => by simp at hj)
theorem ask_ok (n : Nat) (h : n < 256) : (Itm.mk 2 n 0 letter0 bundle0 object0).ok := ⟨(show (2 : Nat) < 256 by decide), h, (show (0 : Nat) < 256 by decide), letter0_ok, bundle0_ok, object0_ok⟩
abbrev askI (n : Nat) : Itm := ⟨2, n, 0, letter0, bundle0, object0⟩
theorem ask_O (n : Nat) : itemO (askI n) = some (joinB [be 1 2, be 1 n, be 1 0]) := by
 have e1 : itemP (askI n) = [be 1 2, be 1 n, be 1 0] := by unfold itemP; rw [if_neg (show ¬ (2 : Nat) = 1 by decide), if_pos (.inl rfl)]
 have e2 : itemGood (askI n) = true := by unfold itemGood; rw [if_neg (show ¬ (2 : Nat) = 1 by decide), if_pos (.inl rfl)]; simp
 unfold itemO
 rw [e1, e2, joinO_some ⟨by simp, fun p hp => by
  simp only [List.mem_cons, List.not_mem_nil, or_false] at hp
  rcases hp with rfl | rfl | rfl <;> rw [be_length] <;> decide⟩ rfl]
theorem ask_len (n : Nat) : ((itemO (askI n)).getD []).length ≤ 900 := by
 rw [ask_O]
 show (joinB [be 1 2, be 1 n, be 1 0]).length ≤ 900
 simp [joinB, body, be_length]
theorem item_back' {x : Itm} (hx : x.ok) (h : (itemO x).isSome = true) : itemR ((itemO x).getD []) = some x := by
 obtain ⟨l, hl⟩ := Option.isSome_iff_exists.1 h
 rw [hl]
 exact itemR_iff.2 ⟨hx, hl⟩
theorem get_back {x : Itm} (hx : x.ok) (h : (itemO x).isSome = true) : (itemR ((itemO x).getD [])).getD item0 = x := by rw [item_back' hx h]; rfl

theorem clone_i0 {S : List Snap} {H : List Chunk} {w : World} (ho : Own S H w) {c0 : Nat} : Calls Try.prog 165 #[.slice none 0 c0] w (Ret fun v w' => ∃ g c', v = rowV g 0 c' ∧ Own S (arow 87 433 itemR' Mono_item g c' ([] : List Itm) :: H) w') := by
 refine enter (G := Own (⟨w, keys H⟩ :: S) H) ho.keep Try.func165 rfl Try.ntmps165 rfl ?_
 refine VC.sr ?_
 refine VL.assign rfl ?_
 refine VL.nn ?_
 refine VC.seq ?_
 refine VC.sr ?_
 refine VL.move rfl ?_
 refine VL.eqnil Try.underlying126 rfl rfl ?_
 refine VL.nn ?_
 refine VC.yes rfl ?_
 refine VC.sr ?_
 refine VL.assign rfl ?_
 refine VL.nn ?_
 refine VC.ret ?_
 refine VX.then_ret ?_
 refine VX.ret1 rfl rfl (fun we hw => ?_)
 exact ⟨none, 0, rfl, (newRowI hw).subA⟩

theorem clone_i1 {S : List Snap} {H : List Chunk} {w : World} (ho : Own S H w) {xs : List Itm} {a : Addr} {c : Nat} (hX : Arr 433 itemR' (keys H) w (some a) xs c) (hl : xs.length ≤ 1000) : Calls Try.prog 165 #[.slice (some a) xs.length c] w (Ret fun v w' => ∃ g c', v = rowV g xs.length c' ∧ Own S (arow 87 433 itemR' Mono_item g c' xs :: H) w') := by
 refine enter (G := Own (⟨w, keys H⟩ :: S) H) ho.keep Try.func165 rfl Try.ntmps165 rfl ?_
 refine VC.sr ?_
 refine VL.assign rfl ?_
 refine VL.nn ?_
 refine VC.seq ?_
 refine VC.sr ?_
 refine VL.move rfl ?_
 refine VL.eqnil Try.underlying126 rfl rfl ?_
 refine VL.nn ?_
 refine VC.no rfl ?_
 refine VC.skip ?_
 refine VX.next ?_
 refine VC.sr ?_
 refine VL.lit el126 rfl rfl rfl (by simp) (by simp [ok1]) (fun g => ?_)
 refine VL.turn (fun w' h => row_arow h) ?_
 refine VL.move rfl ?_
 refine VL.appends (R := itemR') (hR := Mono_item) (ys := ([] : List Itm)) (zs := xs) 0 el126 rfl rfl rfl (fun _ h => h) rfl (fun _ hw => hX.nowA (s := ⟨w, _⟩) Mono_item hw) itemR'_ok1 (by simp only [List.length_nil]; omega) (fun g1 c1 => ?_) (by simp only [List.length_nil]; omega)
 refine VL.assign rfl ?_
 refine VL.nn ?_
 refine VC.ret ?_
 refine VX.ret1 rfl rfl (fun we hw => ?_)
 exact ⟨g1, c1, rfl, hw.subA⟩

theorem clone_i {S : List Snap} {H : List Chunk} {w : World} (ho : Own S H w) {xs : List Itm} {p : Option Addr} {c : Nat} (hX : Arr 433 itemR' (keys H) w p xs c) (hl : xs.length ≤ 1000) : Calls Try.prog 165 #[.slice p xs.length c] w (Ret fun v w' => ∃ g c', v = rowV g xs.length c' ∧ Own S (arow 87 433 itemR' Mono_item g c' xs :: H) w') := by
 cases p with
 | none =>
  have h1 := hX.nil rfl
  have h2 := hX.le
  obtain rfl : xs = [] := List.eq_nil_of_length_eq_zero (by omega)
  exact clone_i0 ho
 | some a => exact clone_i1 ho hX hl
theorem clone_l {S : List Snap} {H : List Chunk} {w : World} (ho : Own S H w) {xs : List Itm} {p : Option Addr} {c : Nat} (hX : Arr 433 itemR' (keys H) w p xs c) (hl : xs.length ≤ 1000) : Calls Try.prog 165 #[.slice p xs.length c] w (Ret fun v w' => ∃ q d, v = .slice q xs.length d ∧ Own S H w' ∧ Arr 433 itemR' (keys H) w' q xs d) :=
 calls_mono (clone_i ho hX hl) fun v w' ⟨g, c', e, h⟩ => ⟨_, _, e, h.drop, h.letArr⟩

/-- The second and the third chunk are dropped. -/
theorem ownDrop2 {S : List Snap} {a b c : Chunk} {H : List Chunk} {w : World} (h : Own S (a :: b :: c :: H) w) : Own S (a :: H) w := Own.drop (c := c) (Own.perm (Own.drop (c := b) (h.perm (List.Perm.swap a b (c :: H)))) (List.Perm.swap a c H))

theorem own_w {S : List Snap} {H : List Chunk} {w : World} (ho : Own S H w) {x : Que} (hx : x.ok) {q : Option Addr} {d : Nat} (hV : Arr 433 itemR' (keys H) w q x.items d) (hl : x.items.length ≤ 1000) : Calls Try.prog 164 #[.agg (cat (queV x q d)).toArray] w (Ret fun v w' => ∃ g c, v = .agg (cat (queV x (g.map fun g => (⟨g, 0, none⟩ : Addr)) c)).toArray ∧ Own S (arow 87 433 itemR' Mono_item g c x.items :: H) w') := by
 refine enter (G := Own (⟨w, keys H⟩ :: S) H) ho.keep Try.func164 rfl Try.ntmps164 rfl ?_
 refine VC.sr ?_
 refine VL.box (L := queL) (ps := (queV (x) q d)) rfl rfl (queV_len hx) (fun g1 => ?_)
 refine VL.alloc (L := queL) (ps := (queV (que0) none 0)) zero157 rfl rfl (fun g2 => ?_)
 refine VL.nn ?_
 refine VC.sr ?_
 refine VL.fieldAddr rfl fo157_0 rfl ?_
 refine VL.load (v := .slice q (x.items).length d) 1 0 rfl kd126 (fun _ h => h) rfl rfl rfl ?_
 refine VL.call Try.func165 rfl (by decide) rfl (fun w' hw => clone_i hw (hV.nowA (s := ⟨w, _⟩) Mono_item hw) (by omega)) (fun v => ?_)
 refine VL.at (fun w5 h1w => ?_)
 obtain ⟨gv3, cv4, rfl, hO6⟩ := h1w
 refine VL.toOwn hO6 ?_
 refine VL.fieldAddr rfl fo157_0 rfl ?_
 refine VL.store (L := queL) (qs := [[.slice (gv3.map fun g => (⟨g, 0, none⟩ : Addr)) (x.items).length cv4]]) 2 0 1 rfl rfl rfl (.inr ⟨kd126, rfl⟩) rfl rfl rfl (by intro u hu; simp [cat] at hu; subst hu; rfl) rfl rfl ?_
 refine VL.set2 ?_
 refine VL.nn ?_
 refine VC.sr ?_
 refine VL.loads (cs := cat (queV (x) (gv3.map fun g => (⟨g, 0, none⟩ : Addr)) cv4)) 2 0 5 rfl kd157 (fun _ h => h) rfl rfl rfl rfl ?_
 refine VL.store (L := queL) (qs := (queV (x) (gv3.map fun g => (⟨g, 0, none⟩ : Addr)) cv4)) (ps' := (queV (x) (gv3.map fun g => (⟨g, 0, none⟩ : Addr)) cv4)) 1 0 5 rfl rfl rfl (.inl kd157) rfl rfl (queV_len hx) (queV_ok1 x (gv3.map fun g => (⟨g, 0, none⟩ : Addr)) cv4) rfl rfl ?_
 refine VL.set1 ?_
 refine VL.nn ?_
 refine VC.ret ?_
 refine VX.ret_cell1 (cs := cat (queV x (gv3.map fun g => (⟨g, 0, none⟩ : Addr)) cv4)) 1 rfl rfl (by rw [cat_size (queV_len hx)]; exact kd157) (fun _ h => h) rfl rfl (fun we hw => ?_)
 exact ⟨_, _, rfl, (ownDrop2 hw).subA⟩

end Go.Proofs.Ytcfecmoagfgnaaa

/- Packets: their bytes; what bytes are read as. -/
namespace Go.Pl

structure Pkt where
  src : Nat
  dst : Nat
  kind : Nat
  chain : List Object
  body : List UInt8
  sig : List UInt8
structure Pkt.ok (x : Pkt) : Prop where
  src : x.src < 256
  dst : x.dst < 256
  kind : x.kind < 256
  chain : ∀ i ∈ x.chain, i.ok
  sig : x.sig.length = 64
def kindIn (k : Nat) : Bool := decide (1 ≤ k) && decide (k ≤ 4)
def restObjs (c : List (List UInt8)) : Option (List Object) :=
  if c.length ≤ 4 ∧ ∀ p ∈ c, (objectR p).isSome = true then some (c.map fun p => (objectR p).getD object0) else none
abbrev at2 (ps : List (List UInt8)) : List (List UInt8) := (ps.drop 1).drop 1
/-- The kind is a byte, and none of them. -/
def kindBad (ps : List (List UInt8)) : Prop := 2 < ps.length ∧ (nextP (at2 ps)).length = 1 ∧ kindIn (num (nextP (at2 ps))) = false
instance (ps : List (List UInt8)) : Decidable (kindBad ps) := by unfold kindBad; infer_instance
theorem objectR_ok (l : List UInt8) : ((objectR l).getD object0).ok := by
 cases h : objectR l with
 | none => exact object0_ok
 | some x => exact (objectR_iff.1 h).1
/-! The loop that reads objects: c: all pieces; xs: read; ps: left; er: the error. -/
def OInv (c : List (List UInt8)) (why0 : Nat) (xs : List Object) (ps : List (List UInt8)) (why : Nat) : Prop :=
  (∀ x ∈ xs, x.ok) ∧ xs.length ≤ 4 ∧ ((why = why0 ∧ ∃ d, c = d ++ ps ∧ d.map objectR = xs.map some) ∨ (why = 141 ∧ ∃ p ∈ c, objectR p = none))
theorem OInv.start (c : List (List UInt8)) (why0 : Nat) : OInv c why0 [] c why0 := ⟨by simp, by simp, .inl ⟨rfl, [], rfl, rfl⟩⟩
theorem OInv.step {c : List (List UInt8)} {xs : List Object} {p : List UInt8} {r : List (List UInt8)} (h : OInv c 0 xs (p :: r) 0) (h4 : xs.length < 4) : OInv c 0 (xs ++ [(objectR p).getD object0]) r (if (objectR p).isSome then 0 else 141) := by
 obtain ⟨h1, h2, h3⟩ := h
 refine ⟨fun b hb => ?_, by simp; omega, ?_⟩
 ·rcases List.mem_append.1 hb with hb | hb
  ·exact h1 b hb
  ·rw [List.mem_singleton] at hb; subst hb; exact objectR_ok p
 ·rcases h3 with ⟨_, d, hd, hm⟩ | ⟨h, _⟩
  ·cases hp : objectR p with
   | none => exact .inr ⟨rfl, p, by rw [hd]; simp, hp⟩
   | some b => exact .inl ⟨rfl, d ++ [p], by rw [hd]; simp, by simp [hm, hp]⟩
  ·cases h
theorem OInv.done {c : List (List UInt8)} {why0 : Nat} (h0 : why0 = 0 ∨ why0 = 141) {xs : List Object} {ps : List (List UInt8)} {why : Nat} (h : OInv c why0 xs ps why) (hx : ps = [] ∨ 4 ≤ xs.length ∨ why ≠ 0) : endW ps why = (if why0 = 0 ∧ (restObjs c).isSome = true then 0 else 141) ∧ (why0 = 0 → ∀ ys, restObjs c = some ys → ys = xs) := by
 obtain ⟨h1, h2, h3⟩ := h
 rcases h3 with ⟨rfl, d, hd, hm⟩ | ⟨rfl, p, hp, hpn⟩
 ·rcases h0 with rfl | rfl
  ·have hlen : d.length = xs.length := by have := congrArg List.length hm; simpa using this
   by_cases hps : ps = []
   ·subst hps
    rw [List.append_nil] at hd
    have hall : ∀ p ∈ d, (objectR p).isSome = true := fun p hp => by
     have : objectR p ∈ xs.map some := by rw [← hm]; exact List.mem_map.2 ⟨p, hp, rfl⟩
     obtain ⟨b, _, e⟩ := List.mem_map.1 this
     rw [← e]; rfl
    have e2 : d.map (fun p => (objectR p).getD object0) = xs := by
     have := congrArg (List.map fun o : Option Object => o.getD object0) hm
     rw [List.map_map, List.map_map] at this
     refine this.trans ?_
     conv => rhs; rw [← List.map_id xs]
     exact List.map_congr_left fun _ _ => rfl
    have hr : restObjs c = some xs := by
     unfold restObjs
     rw [hd, if_pos ⟨by omega, hall⟩, e2]
    rw [hr]
    exact ⟨rfl, fun _ ys hy => (Option.some.inj hy).symm⟩
   ·have h9 : 4 ≤ xs.length := by
     rcases hx with hx | hx | hx
     ·exact absurd hx hps
     ·exact hx
     ·exact absurd rfl hx
    have hpl : 0 < ps.length := List.length_pos_iff.2 hps
    have hr : restObjs c = none := by
     unfold restObjs
     exact if_neg (fun h => by have h1 := h.1; rw [hd, List.length_append] at h1; omega)
    rw [hr]
    refine ⟨?_, fun _ ys hy => by cases hy⟩
    unfold endW
    rw [if_neg hps]; rfl
  ·exact ⟨(endW_141 _).trans (if_neg (fun h => by cases h.1)).symm, fun h => by cases h⟩
 ·have hr : restObjs c = none := by
   unfold restObjs
   exact if_neg (fun h => by have := h.2 p hp; rw [hpn] at this; cases this)
  rw [hr]
  exact ⟨(endW_141 _).trans (if_neg (fun h => by cases h.2)).symm, fun _ ys hy => by cases hy⟩
end Go.Pl

/- The rules of the walks, continued: ways that meet again. -/
namespace Go.Vc
section
variable {P : Program} {n : Nat} {Q Q' : Exit → Act → World → Prop} {σ : Sl} {G : World → Prop}
/-- Code behind other code is walked once, however many ways lead to it: x: what the ways differ in. -/
theorem VC.join {X : Type} {c y : Code} (τ : X → Sl) (G' : X → World → Prop) (p : X → Prop) (hx : (∀ x, p x → VC P n Q y (τ x) (G' x)) → VC P n (Exit.then (y.wp P Q) Q) c σ G) (hy : ∀ x, p x → VC P n Q y (τ x) (G' x)) : VC P n Q (.seq c y) σ G := VC.seq (hx hy)
theorem VX.join {X : Type} {y : Code} {τ : X → Sl} {G' : X → World → Prop} {p : X → Prop} (h : ∀ x, p x → VC P n Q y (τ x) (G' x)) (x : X) (hp : p x) (hs : sub (τ x) σ) (hG : ∀ w, G w → G' x w) : VX n (Exit.then (y.wp P Q) Q') .normal σ G :=
 fun a w ha hw => h x hp a w (ha.mono hs) (hG w hw)
end
end Go.Vc

/- Replies as cells. -/
namespace Go.Proofs.Ytcfecmoagfgnaaa
open Go.Vc Go.Pl

abbrev trnV (x : Trn) (q : Option Addr) (d : Nat) : List (List Value) := [[.int .u16 x.seq], [.slice q x.items.length d]]
abbrev trnL : List Nat := [1, 1]
theorem zero132 : (Try.prog.info? 132).bind (·.zero) = some (.agg (cat (trnV trn0 none 0)).toArray) := by kernel_rfl
theorem built132 : Try.prog.built 132 [] = some (cat (trnV trn0 none 0)).toArray := by kernel_rfl
abbrev trnZ : List (List Value) := [[.int .u16 0], [.slice none 0 0]]
abbrev trnFL : List Nat := [1, 1]
theorem plan132 : planOf Try.prog 132 = some (placesL 0 trnFL, (cat trnZ).toArray) := by kernel_rfl
theorem trnV_len {x : Trn} (h : x.ok) {q : Option Addr} {d : Nat} : (trnV x q d).map List.length = trnL := by simp []
theorem trnV_ok1 (x : Trn) (q : Option Addr) (d : Nat) : ok1 (cat (trnV x q d)) := by
 intro u hu
 rw [cat_eq] at hu
 simp only [List.mem_flatten, List.mem_cons, List.not_mem_nil, or_false] at hu
 obtain ⟨l, hl, hu⟩ := hu
 rcases hl with rfl | rfl <;> first | (simp only [List.mem_singleton] at hu; subst hu; rfl) | exact ok1_bytes _ u hu
end Go.Proofs.Ytcfecmoagfgnaaa

/- The reference: what bytes are read as: items, replies. -/
namespace Go.Proofs.Ytcfecmoagfgnaaa
open Go.Vc Go.Pl

theorem ownDropAt {S : List Snap} {H : List Chunk} {w : World} (i : Nat) (h : Own S H w) : Own S (H.eraseIdx i) w := by
 cases hi : H[i]? with
 | none => rw [List.eraseIdx_of_length_le (by simpa using hi)]; exact h
 | some c => exact (h.front hi).drop
end Go.Proofs.Ytcfecmoagfgnaaa

/- fedq: put, poll, tick, acknowledged, take. -/
namespace Go.Proofs.Ytcfecmoagfgnaaa
open Go.Vc Go.Pl

theorem ask_w {S : List Snap} {H : List Chunk} {w : World} (ho : Own S H w) (n : Nat) (hn : n < 256) : Calls Try.prog 134 #[.int .i64 (n : Int)] w (Ret fun v w' => v = .agg (cat (itemV (askI n) none 0 none 0)).toArray ∧ Own S H w') := by
 refine enter (G := Own (⟨w, keys H⟩ :: S) H) ho.keep Try.func134 rfl Try.ntmps134 rfl ?_
 refine VC.sr ?_
 refine VL.alloc (L := itemL) (ps := (itemV (item0) none 0 none 0)) zero87 rfl rfl (fun g1 => ?_)
 refine VL.nn ?_
 refine VC.sr ?_
 refine VL.move rfl ?_
 refine VL.conv (by rw [Try.underlying3]; rfl) Try.underlying5 rfl (by simp only [InR]; omega) ?_
 refine VL.move rfl ?_
 refine VL.shr rfl rfl (by omega) (by simp only [IntKind.bits]; omega) ?_
 refine VL.newv (v' := .int .i64 0) (congrArg (Value.int .i64) (by rw [show (2 : Int) ^ (8 : Int).toNat = 256 by decide]; omega)) ?_
 refine VL.conv (by rw [Try.underlying3]; rfl) Try.underlying5 rfl (by simp only [InR]; omega) ?_
 refine VL.build (zs := itemZ) (L := itemFL) [(0, [.int .u8 (2)]), (1, [.int .u8 (n)]), (2, [.int .u8 (0)])] plan87 rfl ⟨⟨rfl, ⟨_, rfl, rfl⟩, rfl⟩, ⟨⟨rfl, ⟨_, rfl, rfl⟩, rfl⟩, ⟨⟨rfl, ⟨_, rfl, rfl⟩, rfl⟩, trivial⟩⟩⟩ rfl ?_
 refine VL.newv (v' := .agg (cat (itemV ((askI n)) none 0 none 0)).toArray) (by kernel_rfl) ?_
 refine VL.store (L := itemL) (qs := (itemV ((askI n)) none 0 none 0)) (ps' := (itemV ((askI n)) none 0 none 0)) 0 0 28 rfl rfl rfl (.inl kd87) rfl rfl (itemV_len (ask_ok n hn)) (itemV_ok1 ((askI n)) none 0 none 0) rfl rfl ?_
 refine VL.set0 ?_
 refine VL.nn ?_
 refine VC.ret ?_
 refine VX.ret_cell1 (cs := cat (itemV (askI n) none 0 none 0)) 0 rfl rfl (by rw [cat_size (itemV_len (ask_ok n hn))]; exact kd87) (fun _ h => h) rfl rfl (fun we hw => ?_)
 exact ⟨rfl, hw.drop.subA⟩

theorem getBack_w {S : List Snap} {H : List Chunk} {w : World} (ho : Own S H w) {y : Itm} (hy : y.ok) (hg : (itemO y).isSome = true) {p : Option Addr} {c : Nat} (hA : Bytes (keys H) w p ((itemO y).getD []) c) : Calls Try.prog 58 #[.slice p ((itemO y).getD []).length c] w (Ret fun v w' => ∃ p c q d, v = .tuple #[.agg (cat (itemV y p c q d)).toArray, .int .i64 ((itemW ((itemO y).getD []) : Nat) : Int)] ∧ Own S H w' ∧ Bytes (keys H) w' p y.letter.body c ∧ Arr 65 vouchR (keys H) w' q y.object.vouches d) := by
 have h := getItem_w ho hA
 rw [get_back hy hg] at h
 exact h

theorem puts_ok {x : Que} {y : Itm} (hx : x.ok) (hy : y.ok) : ∀ i ∈ x.items ++ [y], i.ok := fun i hi => (List.mem_append.1 hi).elim (hx.items i) (fun h => by rw [List.mem_singleton] at h; subst h; exact hy)

theorem put_w {S : List Snap} {H : List Chunk} {w : World} (ho : Own S H w) {x : Que} (hx : x.ok) {q : Option Addr} {d : Nat} (hV : Arr 433 itemR' (keys H) w q x.items d) (hl : x.items.length ≤ 1000) {y : Itm} (hy : y.ok) (hg : (itemO y).isSome = true) (h9 : ((itemO y).getD []).length ≤ 900) (h8 : x.items.length < 8) {p : Option Addr} {c : Nat} (hA : Bytes (keys H) w p y.letter.body c) {q2 : Option Addr} {d2 : Nat} (hU : Arr 65 vouchR (keys H) w q2 y.object.vouches d2) : Calls Try.prog 133 #[.agg (cat (queV x q d)).toArray, .agg (cat (itemV y p c q2 d2)).toArray] w (Ret fun v w' => ∃ q d, v = .tuple #[.agg (cat (queV (Que.mk (x.items ++ [y]) x.sent x.id x.wait x.back) q d)).toArray, .int .i64 0] ∧ Own S H w' ∧ Arr 433 itemR' (keys H) w' q (x.items ++ [y]) d) := by
 refine enter (G := Own (⟨w, keys H⟩ :: S) H) ho.keep Try.func133 rfl Try.ntmps133 rfl ?_
 refine VC.sr ?_
 refine VL.box (L := queL) (ps := (queV (x) q d)) rfl rfl (queV_len hx) (fun g1 => ?_)
 refine VL.box (L := itemL) (ps := (itemV (y) p c q2 d2)) rfl rfl (itemV_len hy) (fun g2 => ?_)
 refine VL.alloc (L := queL) (ps := (queV (que0) none 0)) zero157 rfl rfl (fun g3 => ?_)
 refine VL.assign rfl ?_
 refine VL.nn ?_
 refine VC.sr ?_
 refine VL.loads (cs := cat (queV (x) q d)) 2 0 5 rfl kd157 (fun _ h => h) rfl rfl rfl rfl ?_
 refine VL.call Try.func164 rfl (by decide) rfl (fun w' hw => own_w hw (x := x) hx (hV.nowA (s := ⟨w, _⟩) Mono_item hw) (by first | omega | decide)) (fun v => ?_)
 refine VL.at (fun w6 h1w => ?_)
 obtain ⟨gv4, cv5, rfl, hO7⟩ := h1w
 refine VL.toOwn hO7 ?_
 refine VL.store (L := queL) (qs := (queV (x) (gv4.map fun g => (⟨g, 0, none⟩ : Addr)) cv5)) (ps' := (queV (x) (gv4.map fun g => (⟨g, 0, none⟩ : Addr)) cv5)) 3 0 5 rfl rfl rfl (.inl kd157) rfl rfl (queV_len hx) (queV_ok1 x (gv4.map fun g => (⟨g, 0, none⟩ : Addr)) cv5) rfl rfl ?_
 refine VL.set3 ?_
 refine VL.nn ?_
 refine VC.sr ?_
 refine VL.loads (cs := cat (itemV (y) p c q2 d2)) 2 0 28 rfl kd87 (fun _ h => h) rfl rfl rfl rfl ?_
 refine VL.call Try.func56 rfl (by decide) rfl (fun w' hw => putItem_w hw (x := y) hy (hA.nowA (s := ⟨w, _⟩) Mono.byte hw) (hU.nowA (s := ⟨w, _⟩) Mono_vouch hw)) (fun v => ?_)
 refine VL.at (fun w8 h1w => ?_)
 obtain ⟨p9, c10, rfl, hO12, hA11⟩ := h1w
 refine VL.toOwn hO12 ?_
 refine VL.move rfl ?_
 refine VL.extract rfl rfl ?_
 refine VL.extract rfl rfl ?_
 refine VL.assign rfl ?_
 refine VL.assign rfl ?_
 refine VL.nn ?_
 refine VC.seq ?_
 refine VC.block ?_
 refine VC.sr ?_
 refine VL.move rfl ?_
 refine VL.sets hg ?_
 refine VL.not rfl ?_
 refine VL.assign rfl ?_
 refine VL.nn ?_
 refine VC.no rfl ?_
 refine VC.sr ?_
 refine VL.move rfl ?_
 refine VL.len Try.underlying24 rfl rfl ?_
 refine VL.gtr rfl rfl ?_
 refine VL.no (by omega) ?_
 refine VL.assign rfl ?_
 refine VL.nn ?_
 refine VC.no rfl ?_
 refine VC.sr ?_
 refine VL.fieldAddr rfl fo157_0 rfl ?_
 refine VL.load (v := .slice (gv4.map fun g => (⟨g, 0, none⟩ : Addr)) (x.items).length cv5) 3 0 rfl kd126 (fun _ h => h) rfl rfl rfl ?_
 refine VL.len Try.underlying126 rfl rfl ?_
 refine VL.geq rfl rfl ?_
 refine VL.no (by omega) ?_
 refine VL.assign rfl ?_
 refine VL.nn ?_
 refine VC.no rfl ?_
 refine VC.skip ?_
 refine VX.block_normal ?_
 refine VX.next ?_
 refine VC.sr ?_
 refine VL.move rfl ?_
 refine VL.call Try.func58 rfl (by decide) rfl (fun w' hw => getBack_w hw hy hg (hA11.nowA (s := ⟨w8, _⟩) Mono.byte hw)) (fun v => ?_)
 refine VL.at (fun w13 h1w => ?_)
 obtain ⟨p15, c16, q18, d19, rfl, hO14, hA17, hB20⟩ := h1w
 refine VL.toOwn hO14 ?_
 refine VL.move rfl ?_
 refine VL.extract rfl rfl ?_
 refine VL.extract rfl rfl ?_
 refine VL.store (L := itemL) (qs := (itemV (y) p15 c16 q18 d19)) (ps' := (itemV (y) p15 c16 q18 d19)) 2 0 28 rfl rfl rfl (.inl kd87) rfl rfl (itemV_len hy) (itemV_ok1 y p15 c16 q18 d19) rfl rfl ?_
 refine VL.set2 ?_
 refine VL.nn ?_
 refine VC.sr ?_
 refine VL.fieldAddr rfl fo157_0 rfl ?_
 refine VL.load (v := .slice (gv4.map fun g => (⟨g, 0, none⟩ : Addr)) (x.items).length cv5) 3 0 rfl kd126 (fun _ h => h) rfl rfl rfl ?_
 refine VL.loads (cs := cat (itemV (y) p15 c16 q18 d19)) 2 0 28 rfl kd87 (fun _ h => h) rfl rfl rfl rfl ?_
 refine VL.lit el126 rfl rfl rfl (by intro v hv; simp only [List.mem_singleton] at hv; subst hv; show (cat (itemV y p15 c16 q18 d19)).toArray.size = 433; rw [List.size_toArray, cat_size (itemV_len hy)]; rfl) (by rw [show [Value.agg (cat (itemV y p15 c16 q18 d19)).toArray].flatMap (·.cells.toList) = (cat (itemV y p15 c16 q18 d19)) by simp [Value.cells]]; exact itemV_ok1 _ _ _ _ _) (fun gl => ?_)
 refine VL.letRow itemR' [y] rfl (fun w' hw => one_item hy (hA17.nowA (s := ⟨w13, _⟩) Mono.byte hw) (hB20.nowA (s := ⟨w13, _⟩) Mono_vouch hw)) (fun wl hOl hAl => ?_)
 refine VL.appends (R := itemR') (hR := Mono_item) (ys := x.items) (zs := [y]) 0 el126 rfl rfl rfl (fun _ h => h) rfl (fun _ hw => hAl.nowA (s := ⟨wl, _⟩) Mono_item hw) itemR'_ok1 (by simp only [List.length_cons, List.length_nil]; omega) (fun gv2 cv2 => ?_) (by simp only [List.length_cons, List.length_nil]; omega)
 refine VL.set0 ?_
 refine VL.fieldAddr rfl fo157_0 rfl ?_
 refine VL.store (L := queL) (qs := [[.slice (gv2.map fun g => (⟨g, 0, none⟩ : Addr)) ((x.items ++ [y])).length cv2]]) 3 0 1 rfl rfl rfl (.inr ⟨kd126, rfl⟩) rfl rfl rfl (by intro u hu; simp [cat] at hu; subst hu; rfl) rfl rfl ?_
 refine VL.set3 ?_
 refine VL.nn ?_
 refine VC.sr ?_
 refine VL.loads (cs := cat (queV ((Que.mk (x.items ++ [y]) x.sent x.id x.wait x.back)) (gv2.map fun g => (⟨g, 0, none⟩ : Addr)) cv2)) 3 0 5 rfl kd157 (fun _ h => h) rfl rfl rfl rfl ?_
 refine VL.store (L := queL) (qs := (queV ((Que.mk (x.items ++ [y]) x.sent x.id x.wait x.back)) (gv2.map fun g => (⟨g, 0, none⟩ : Addr)) cv2)) (ps' := (queV ((Que.mk (x.items ++ [y]) x.sent x.id x.wait x.back)) (gv2.map fun g => (⟨g, 0, none⟩ : Addr)) cv2)) 1 0 5 rfl rfl rfl (.inl kd157) rfl rfl (queV_len (⟨puts_ok hx hy, hx.id, hx.wait, hx.back⟩ : Que.ok (Que.mk (x.items ++ [y]) x.sent x.id x.wait x.back))) (queV_ok1 ((Que.mk (x.items ++ [y]) x.sent x.id x.wait x.back)) (gv2.map fun g => (⟨g, 0, none⟩ : Addr)) cv2) rfl rfl ?_
 refine VL.set1 ?_
 refine VL.assign rfl ?_
 refine VL.nn ?_
 refine VC.ret ?_
 refine VX.ret_cell (cs := cat (queV ((Que.mk (x.items ++ [y]) x.sent x.id x.wait x.back)) (gv2.map fun g => (⟨g, 0, none⟩ : Addr)) cv2)) 1 rfl rfl rfl (by rw [cat_size (queV_len (⟨puts_ok hx hy, hx.id, hx.wait, hx.back⟩ : Que.ok (Que.mk (x.items ++ [y]) x.sent x.id x.wait x.back)))]; exact kd157) (fun _ h => h) rfl rfl (fun we hw => ?_)
 have h7 := (ownDropAt 1 (ownDropAt 2 (ownDropAt 3 hw)))
 exact ⟨_, _, rfl, h7.drop.subA, h7.letArr⟩

theorem tick_lt {x : Que} (hx : x.ok) : x.wait - 1 < 256 := by have := hx.wait; omega

theorem tick_w {S : List Snap} {H : List Chunk} {w : World} (ho : Own S H w) {x : Que} (hx : x.ok) {q : Option Addr} {d : Nat} (hV : Arr 433 itemR' (keys H) w q x.items d) (hl : x.items.length ≤ 1000) (hp : 0 < x.wait) : Calls Try.prog 136 #[.agg (cat (queV x q d)).toArray] w (Ret fun v w' => ∃ q d, v = .agg (cat (queV (Que.mk x.items x.sent x.id (x.wait - 1) x.back) q d)).toArray ∧ Own S H w' ∧ Arr 433 itemR' (keys H) w' q x.items d) := by
 have hx1 := hx.wait
 refine enter (G := Own (⟨w, keys H⟩ :: S) H) ho.keep Try.func136 rfl Try.ntmps136 rfl ?_
 refine VC.sr ?_
 refine VL.box (L := queL) (ps := (queV (x) q d)) rfl rfl (queV_len hx) (fun g1 => ?_)
 refine VL.alloc (L := queL) (ps := (queV (que0) none 0)) zero157 rfl rfl (fun g2 => ?_)
 refine VL.nn ?_
 refine VC.seq ?_
 refine VC.sr ?_
 refine VL.fieldAddr rfl fo157_3 rfl ?_
 refine VL.load (v := .int .u8 (x.wait)) 1 3 rfl kd5 (fun _ h => h) rfl rfl rfl ?_
 refine VL.gtr rfl rfl ?_
 refine VL.yes (by omega) ?_
 refine VL.nn ?_
 refine VC.yes rfl ?_
 refine VC.region ?_
 refine VL.fieldAddr rfl fo157_3 rfl ?_
 refine VL.load (v := .int .u8 (x.wait)) 1 3 rfl kd5 (fun _ h => h) rfl rfl rfl ?_
 refine VL.sub rfl rfl (by simp only [InR]; omega) ?_
 refine VL.newv (v' := .int .u8 ((x.wait - 1 : Nat) : Int)) (congrArg (Value.int .u8) (by omega)) ?_
 refine VL.fieldAddr rfl fo157_3 rfl ?_
 refine VL.store (L := queL) (qs := [[.int .u8 ((x.wait - 1 : Nat))]]) (ps' := [[.slice q (x.items).length d], [.int .i64 (x.sent)], [.int .u16 (x.id)], [.int .u8 ((x.wait - 1 : Nat))], [.int .u8 (x.back)]]) 1 3 1 rfl rfl rfl (.inr ⟨kd5, rfl⟩) rfl rfl rfl (by intro u hu; simp [cat] at hu; subst hu; rfl) rfl rfl ?_
 refine VL.set1 ?_
 refine VL.nn ?_
 refine VC.sr ?_
 refine VL.loads (cs := cat (queV ((Que.mk x.items x.sent x.id (x.wait - 1) x.back)) q d)) 1 0 5 rfl kd157 (fun _ h => h) rfl rfl rfl rfl ?_
 refine VL.call Try.func164 rfl (by decide) rfl (fun w' hw => own_w hw (x := (Que.mk x.items x.sent x.id (x.wait - 1) x.back)) (⟨hx.items, hx.id, tick_lt hx, hx.back⟩ : Que.ok (Que.mk x.items x.sent x.id (x.wait - 1) x.back)) (hV.nowA (s := ⟨w, _⟩) Mono_item hw) (by first | omega | decide)) (fun v => ?_)
 refine VL.at (fun w5 h1w => ?_)
 obtain ⟨gv3, cv4, rfl, hO6⟩ := h1w
 refine VL.toOwn hO6 ?_
 refine VL.store (L := queL) (qs := (queV ((Que.mk x.items x.sent x.id (x.wait - 1) x.back)) (gv3.map fun g => (⟨g, 0, none⟩ : Addr)) cv4)) (ps' := (queV ((Que.mk x.items x.sent x.id (x.wait - 1) x.back)) (gv3.map fun g => (⟨g, 0, none⟩ : Addr)) cv4)) 1 0 5 rfl rfl rfl (.inl kd157) rfl rfl (queV_len (⟨hx.items, hx.id, tick_lt hx, hx.back⟩ : Que.ok (Que.mk x.items x.sent x.id (x.wait - 1) x.back))) (queV_ok1 ((Que.mk x.items x.sent x.id (x.wait - 1) x.back)) (gv3.map fun g => (⟨g, 0, none⟩ : Addr)) cv4) rfl rfl ?_
 refine VL.set1 ?_
 refine VL.nn ?_
 refine VC.ret ?_
 refine VX.ret_cell1 (cs := cat (queV ((Que.mk x.items x.sent x.id (x.wait - 1) x.back)) (gv3.map fun g => (⟨g, 0, none⟩ : Addr)) cv4)) 1 rfl rfl (by rw [cat_size (queV_len (⟨hx.items, hx.id, tick_lt hx, hx.back⟩ : Que.ok (Que.mk x.items x.sent x.id (x.wait - 1) x.back)))]; exact kd157) (fun _ h => h) rfl rfl (fun we hw => ?_)
 have h7 := (ownDropAt 1 (ownDropAt 2 hw))
 exact ⟨_, _, rfl, h7.drop.subA, h7.letArr⟩

end Go.Proofs.Ytcfecmoagfgnaaa

