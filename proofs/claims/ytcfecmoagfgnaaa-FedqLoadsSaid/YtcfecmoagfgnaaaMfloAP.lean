/- The statement FedqLoads is proved, for every input: part 16 of 26 of the texts that it needs. -/
import Derived.Test.YtcfecmoagfgnaaaMfloAO
/- The rules of the walks, continued: a region whose order is open, whose state is said by what has been done and what each gave. -/
namespace Go.Vc
section
variable {P : Program} {n : Nat} {Q : Exit → Act → World → Prop} {ops : Array Oper}
/-- What operation j left in its slot. -/
def valAt (ops : Array Oper) (a : Act) (j : Nat) : Value := match ops[j]? with
  | some p => match p.dst with
    | some d => a.tmps.getD d undef
    | none => undef
  | none => undef
def rhoOf (ops : Array Oper) (listed : Array Bool) (a : Act) : Nat → Option Value := fun j => if listed.getD j false = true then some (valAt ops a j) else none
structure InvJ (n : Nat) (ops : Array Oper) (J : (Nat → Option Value) → World → Prop) (σ : Sl) (listed : Array Bool) (a : Act) (w : World) : Prop where
  size : listed.size = ops.size
  closed : ∀ j o, ops[j]? = some o → listed.getD j false = true → ∀ e ∈ o.after, Region.binds .any e = true → listed.getD e.on false = true
  base : ∀ t v, look σ t = some v → (∀ j o, ops[j]? = some o → listed.getD j false = true → o.dst ≠ some t) → a.tmps.getD t undef = v
  dfr : a.defers = []
  tsz : a.tmps.size = n
  inv : J (rhoOf ops listed a) w
end
end Go.Vc

/- The rules of the walks, continued: such a region, where what is owned is said by three operations, and each value by a fact of its own. -/
namespace Go.Vc
section
variable {P : Program} {n : Nat} {Q : Exit → Act → World → Prop} {ops : Array Oper} {σ : Sl}
/-- One value after the other, each with its fact. -/
def EachE (E : Nat → Value → Prop) (ρ : Nat → Option Value) : List (Nat × Nat) → Sl → (Sl → Prop) → Prop
  | [], acc, C => C acc
  | (d, j) :: r, acc, C => ∀ v, ρ j = some v → E j v → EachE E ρ r ((d, v) :: acc) C
theorem EachE.spec {E : Nat → Value → Prop} {ρ : Nat → Option Value} {vals : Nat → Value} (hE : ∀ j v, ρ j = some v → E j v) : ∀ (pre : List (Nat × Nat)) (acc : Sl) (C : Sl → Prop), EachE E ρ pre acc C → (∀ p ∈ pre, ρ p.2 = some (vals p.2)) → C ((preSlots pre vals).reverse ++ acc)
 | [], acc, C, h, _ => h
 | (d, j) :: r, acc, C, h, hf => by
  have h1 := hf (d, j) (by simp)
  have h2 := h (vals j) h1 (hE j _ h1)
  have := EachE.spec hE r _ C h2 (fun p hp => hf p (by simp [hp]))
  simpa [preSlots] using this
end
end Go.Vc

/- The rules of the walks, continued: one operation after the other; a row is let go. -/
namespace Go.Vc
section
variable {P : Program} {n : Nat} {Q : Exit → Act → World → Prop} {ops : Array Oper} {σ : Sl}
/-- A law of each element, with its place. -/
def AllAt (Pr : Nat → Oper → Prop) : Nat → List Oper → Prop
  | _, [] => True
  | k, o :: r => Pr k o ∧ AllAt Pr (k + 1) r
theorem AllAt.cons {Pr : Nat → Oper → Prop} {k : Nat} {o : Oper} {r : List Oper} (h : Pr k o) (hr : AllAt Pr (k + 1) r) : AllAt Pr k (o :: r) := ⟨h, hr⟩
theorem AllAt.nil {Pr : Nat → Oper → Prop} {k : Nat} : AllAt Pr k [] := trivial
theorem AllAt.spec {Pr : Nat → Oper → Prop} : ∀ {l : List Oper} {k : Nat}, AllAt Pr k l → ∀ i o, l[i]? = some o → Pr (k + i) o
 | [], _, _, i, o, h => by cases i <;> cases h
 | x :: r, k, ⟨h1, h2⟩, i, o, h => by
  cases i with
  | zero => cases h; exact h1
  | succ i =>
   have := AllAt.spec h2 i o (by simpa using h)
   rw [show k + 1 + i = k + (i + 1) by omega] at this
   exact this
end
end Go.Vc

/- The rules of the walks, continued: strings, function values. -/
namespace Go.Vc
section
variable {P : Program} {n : Nat} {Q : Exit → Act → World → Prop} {ops : Array Oper} {rest : List Oper} {σ : Sl} {G : World → Prop} {d : Nat} {ty : TypeId} {pos : String} {aft : Array Edge}
/-- Two strings, one behind the other. -/
theorem VL.cats {x y : Operand} {t ty' : TypeId} {a b : ByteArray} (hx : ev σ x = some (.string a)) (hy : ev σ y = some (.string b)) (hl : a.size + b.size ≤ 9223372036854775807) (h : VL P n ops Q rest ((d, .string (a ++ b)) :: σ) G) (hdn : Nat.blt d n = true := by rfl) : VL P n ops Q (⟨some d, .binOp .add t x y ty', ty, pos, aft, none⟩ :: rest) σ G :=
 VL.val rfl rfl hdn (fun c w ha _ => by
  have e : eqGuard .add t x y (.string a) (.string b) = pure () := rfl
  have e2 : ¬ (((a.size + b.size : Nat) : Int) > IntKind.i64.max) := by
   show ¬ ((9223372036854775807 : Int) < ((a.size + b.size : Nat) : Int))
   omega
  have e3 : Op.stringOp .add a b = pure (.string (a ++ b)) := by
   unfold Op.stringOp
   simp only
   rw [if_neg e2]
  simp [execOp, ha.ev hx, ha.ev hy, e, binOp, e3]) h
theorem VL.neqs {x y : Operand} {t ty' : TypeId} {a b : ByteArray} (hx : ev σ x = some (.string a)) (hy : ev σ y = some (.string b)) (h : VL P n ops Q rest ((d, .bool (decide (a ≠ b))) :: σ) G) (hdn : Nat.blt d n = true := by rfl) : VL P n ops Q (⟨some d, .binOp .neq t x y ty', ty, pos, aft, none⟩ :: rest) σ G :=
 VL.val rfl rfl hdn (fun c w ha _ => by
  have e : eqGuard .neq t x y (.string a) (.string b) = pure () := rfl
  have e2 : (a.toList == b.toList) = decide (a = b) := by
   by_cases hab : a = b
   ·subst hab; simp
   ·have : a.toList ≠ b.toList := fun h0 => hab (by
     rw [ByteArray.toList_eq, ByteArray.toList_eq] at h0
     obtain ⟨⟨u⟩⟩ := a
     obtain ⟨⟨v⟩⟩ := b
     simp at h0
     rw [h0])
    simp [hab, this]
  simp [execOp, ha.ev hx, ha.ev hy, e, binOp, Op.stringOp, e2]) h
/-- A rune as a string. -/
theorem VL.runeS {src dst : TypeId} {x : Operand} {k k' : IntKind} {a : Int} (hs1 : P.underlying src = some (.int k)) (hd1 : P.underlying dst = some .string) (hx : ev σ x = some (.int k' a))
  (h : VL P n ops Q rest ((d, .string (Utf8.encode a)) :: σ) G) (hdn : Nat.blt d n = true := by rfl) : VL P n ops Q (⟨some d, .convert src dst x, ty, pos, aft, none⟩ :: rest) σ G :=
 VL.val rfl rfl hdn (fun c w ha _ => by
  simp [execOp, ha.ev hx, convert, run_underlying hs1, run_underlying hd1, Conv.intToString]) h
/-- A function with what it holds. -/
theorem VL.makeFunc {f : FuncId} {xs : Array Operand} {vs : List Value} (hxs : evs σ xs.toList = some vs) (h : VL P n ops Q rest ((d, .func (.func f) #[] vs.toArray) :: σ) G) (hdn : Nat.blt d n = true := by rfl) :
  VL P n ops Q (⟨some d, .makeFunc (.func f) #[] xs, ty, pos, aft, none⟩ :: rest) σ G :=
 VL.val rfl rfl hdn (fun a w ha _ => by
  have e : xs.map a.eval = vs.toArray := by
   have := ha.evs hxs
   rw [← this]
   simp [← Array.toList_map]
  simp [execOp, Instr.makeFunc, e]) h
/-- A function value is called. -/
theorem VL.callv {f : FuncId} {fn : Func} {fx : Operand} {xs : Array Operand} {tys : Array TypeId} {vs cs : List Value} {K : Value → World → Prop} (hfx : ev σ fx = some (.func (.func f) #[] cs.toArray))
  (hf : P.funcs[f]? = some fn) (hb : fn.body.isNone = false) (hn : (fn.name == "runtime.NumGoroutine") = false) (hxs : evs σ xs.toList = some vs)
  (hc : ∀ w, G w → Calls P f (vs ++ cs).toArray w (Ret K)) (h : ∀ v, VL P n ops Q rest ((d, v) :: σ) (K v)) (hdn : Nat.blt d n = true := by rfl) :
  VL P n ops Q (⟨some d, .call ⟨.value fx, xs, tys⟩, ty, pos, aft, none⟩ :: rest) σ G :=
 fun a w ha hw => wpList_plain rfl fun K' hK => by
  have e : xs.map a.eval = vs.toArray := by
   have := ha.evs hxs
   rw [← this]
   simp [← Array.toList_map]
  have hr : (execOp a.eval ⟨some d, .call ⟨.value fx, xs, tys⟩, ty, pos, aft, none⟩).run P w = .ok (.enter f (vs ++ cs).toArray) w := by
   have hn2 : ¬ fn.name = "runtime.NumGoroutine" := by simpa using hn
   have hb2 : ¬ fn.body = none := by intro h0; rw [h0] at hb; cases hb
   simp [execOp, resolve, e, ha.ev hfx, Deferred.ofValue, invoke, callFunc, hf, hn2, hb2, run_program]
  unfold Oper.wp
  rw [hr, Oper.upon_enter]
  refine (hc w hw).mono fun e' w' r => ?_
  cases e' with
  | returned v => exact hK _ _ (h v _ _ (ha.put hdn) r)
  | panicked _ => exact r.elim
  | outgrown => exact r.elim
end
/-- A variable's cells, later on. -/
theorem CellsIn.then {S : List Snap} {H : List Chunk} {s : Snap} {w : World} {g : Nat} {T : TypeId} {L : List Nat} {ps : List (List Value)} (h : CellsIn s.K s.w g T L ps) (ho : Own S H w) (hs : s ∈ S) : CellsIn (keys H) w g T L ps :=
 ⟨h.now (ho.snap s hs).1, h.lens, fun hk => ((ho.snap s hs).2 g hk).elim h.out (fun h2 => absurd h.lt (by omega)), Nat.lt_of_lt_of_le h.lt (ho.snap s hs).1.size⟩
/-- A string, as a cell. -/
def strR : Rel ByteArray := fun _ _ vs s => vs = [.string s]
theorem Mono_str : Mono strR := fun _ _ _ _ _ _ h => h
/-- Strings that begin alike. -/
theorem cat_inj {a b c : ByteArray} (h : a ++ b = a ++ c) : b = c := by
 have h1 := congrArg ByteArray.toList h
 rw [ByteArray.toList_eq, ByteArray.toList_eq] at h1
 obtain ⟨⟨a⟩⟩ := a
 obtain ⟨⟨b⟩⟩ := b
 obtain ⟨⟨c⟩⟩ := c
 simp at h1
 rw [h1]
end Go.Vc

/- Lists of items; replies: their bytes; what bytes are read as. -/
namespace Go.Proofs.Ytcfecmoagfgnaaa
open Go.Vc Go.Pl

structure Rep where
  seq : Nat
  tag : Nat
  mark : Nat
  items : List Itm
structure Rep.ok (x : Rep) : Prop where
  seq : x.seq < 65536
  tag : x.tag < 256
  mark : x.mark < 65536
  items : ∀ i ∈ x.items, i.ok
structure Trn where
  seq : Nat
  items : List Itm
structure Trn.ok (x : Trn) : Prop where
  seq : x.seq < 65536
  items : ∀ i ∈ x.items, i.ok
def trn0 : Trn := ⟨0, []⟩
def restItems (c : List (List UInt8)) : Option (List Itm) :=
  if c.length ≤ 4 ∧ ∀ p ∈ c, (itemR p).isSome = true then some (c.map fun p => (itemR p).getD item0) else none
/-! The loop that reads items. -/
def IInv (c : List (List UInt8)) (why0 : Nat) (xs : List Itm) (ps : List (List UInt8)) (why : Nat) : Prop :=
  (∀ x ∈ xs, x.ok) ∧ xs.length ≤ 4 ∧ ((why = why0 ∧ ∃ d, c = d ++ ps ∧ d.map itemR = xs.map some) ∨ (why = 141 ∧ ∃ p ∈ c, itemR p = none))
theorem IInv.start (c : List (List UInt8)) (why0 : Nat) : IInv c why0 [] c why0 := ⟨by simp, by simp, .inl ⟨rfl, [], rfl, rfl⟩⟩
theorem IInv.step {c : List (List UInt8)} {xs : List Itm} {p : List UInt8} {r : List (List UInt8)} (h : IInv c 0 xs (p :: r) 0) (h4 : xs.length < 4) : IInv c 0 (xs ++ [(itemR p).getD item0]) r (if (itemR p).isSome then 0 else 141) := by
 obtain ⟨h1, h2, h3⟩ := h
 refine ⟨fun b hb => ?_, by simp; omega, ?_⟩
 ·rcases List.mem_append.1 hb with hb | hb
  ·exact h1 b hb
  ·rw [List.mem_singleton] at hb; subst hb; exact itemR_ok p
 ·rcases h3 with ⟨_, d, hd, hm⟩ | ⟨h, _⟩
  ·cases hp : itemR p with
   | none => exact .inr ⟨rfl, p, by rw [hd]; simp, hp⟩
   | some b => exact .inl ⟨rfl, d ++ [p], by rw [hd]; simp, by simp [hm, hp]⟩
  ·cases h
theorem IInv.done {c : List (List UInt8)} {why0 : Nat} (h0 : why0 = 0 ∨ why0 = 141) {xs : List Itm} {ps : List (List UInt8)} {why : Nat} (h : IInv c why0 xs ps why) (hx : ps = [] ∨ 4 ≤ xs.length ∨ why ≠ 0) : endW ps why = (if why0 = 0 ∧ (restItems c).isSome = true then 0 else 141) ∧ (why0 = 0 → ∀ ys, restItems c = some ys → ys = xs) := by
 obtain ⟨h1, h2, h3⟩ := h
 rcases h3 with ⟨rfl, d, hd, hm⟩ | ⟨rfl, p, hp, hpn⟩
 ·rcases h0 with rfl | rfl
  ·have hlen : d.length = xs.length := by have := congrArg List.length hm; simpa using this
   by_cases hps : ps = []
   ·subst hps
    rw [List.append_nil] at hd
    have hall : ∀ p ∈ d, (itemR p).isSome = true := fun p hp => by
     have : itemR p ∈ xs.map some := by rw [← hm]; exact List.mem_map.2 ⟨p, hp, rfl⟩
     obtain ⟨b, _, e⟩ := List.mem_map.1 this
     rw [← e]; rfl
    have e2 : d.map (fun p => (itemR p).getD item0) = xs := by
     have := congrArg (List.map fun o : Option Itm => o.getD item0) hm
     rw [List.map_map, List.map_map] at this
     refine this.trans ?_
     conv => rhs; rw [← List.map_id xs]
     exact List.map_congr_left fun _ _ => rfl
    have hr : restItems c = some xs := by
     unfold restItems
     rw [hd, if_pos ⟨by omega, hall⟩, e2]
    rw [hr]
    exact ⟨rfl, fun _ ys hy => (Option.some.inj hy).symm⟩
   ·have h9 : 4 ≤ xs.length := by
     rcases hx with hx | hx | hx
     ·exact absurd hx hps
     ·exact hx
     ·exact absurd rfl hx
    have hpl : 0 < ps.length := List.length_pos_iff.2 hps
    have hr : restItems c = none := by
     unfold restItems
     exact if_neg (fun h => by have h1 := h.1; rw [hd, List.length_append] at h1; omega)
    rw [hr]
    refine ⟨?_, fun _ ys hy => by cases hy⟩
    unfold endW
    rw [if_neg hps]; rfl
  ·exact ⟨(endW_141 _).trans (if_neg (fun h => by cases h.1)).symm, fun h => by cases h⟩
 ·have hr : restItems c = none := by
   unfold restItems
   exact if_neg (fun h => by have := h.2 p hp; rw [hpn] at this; cases this)
  rw [hr]
  exact ⟨(endW_141 _).trans (if_neg (fun h => by cases h.2)).symm, fun _ ys hy => by cases hy⟩
theorem Mono_item : Mono itemR' := fun _ _ _ _ _ ha ⟨p, c, q, d, h1, h2, h3, h4⟩ => ⟨p, c, q, d, h1, h2, h3.after Mono.byte ha, h4.after Mono_vouch ha⟩
end Go.Proofs.Ytcfecmoagfgnaaa

/- wire: lists of items, read. -/
namespace Go.Proofs.Ytcfecmoagfgnaaa
open Go.Vc Go.Pl

theorem el126 : Elem Try.prog 126 87 433 512 (.agg (cat (itemV item0 none 0 none 0)).toArray) := ⟨Try.underlying126, by kernel_rfl, by kernel_rfl, by kernel_rfl, by decide⟩
theorem one_item {K : List Nat} {w : World} {v : Itm} (hv : v.ok) {p : Option Addr} {c : Nat} {q : Option Addr} {d : Nat} (hA : Bytes K w p v.letter.body c) (hV : Arr 65 vouchR K w q v.object.vouches d) (j : Nat) (y : Itm) (hj : [v][j]? = some y) : itemR' K w ((([Value.agg (cat (itemV v p c q d)).toArray].flatMap (·.cells.toList)).drop (j * 433)).take 433) y := by
 have hj0 : j = 0 := by have := (List.getElem?_eq_some_iff.1 hj).1; simp at this; exact this
 subst hj0
 simp at hj; subst hj
 refine ⟨p, c, q, d, hv, ?_, hA, hV⟩
 have e : [Value.agg (cat (itemV v p c q d)).toArray].flatMap (·.cells.toList) = cat (itemV v p c q d) := by simp [Value.cells]
 rw [e, Nat.zero_mul, List.drop_zero, List.take_of_length_le (by rw [cat_size (itemV_len hv)]; decide)]
theorem newRowI {S : List Snap} {H : List Chunk} {w : World} (h : Own S H w) : Own S (arow 87 433 itemR' Mono_item none 0 ([] : List Itm) :: H) w := Own.arow_nil Mono_item 87 433 h
theorem itemR'_ok1 : ∀ (K : List Nat) (w : World) (vs : List Value) (y : Itm), itemR' K w vs y → ok1 vs := by
 rintro K w vs y ⟨p, c, q, d, _, rfl, _, _⟩
 exact itemV_ok1 _ _ _ _ _
end Go.Proofs.Ytcfecmoagfgnaaa

/- Calls: their bytes; what bytes are read as. -/
namespace Go.Proofs.Ytcfecmoagfgnaaa
open Go.Vc Go.Pl

/-! The error's number. -/
/-- Where the loop over bundles stands. -/
def CInv (c : List (List UInt8)) (bs : List Bundle) (ps : List (List UInt8)) (e : Nat) : Prop :=
  (∀ b ∈ bs, b.ok) ∧ bs.length ≤ 9 ∧ ((e = 0 ∧ ∃ d, c = d ++ ps ∧ d.map bundleR = bs.map some) ∨ (e = 141 ∧ ∃ p ∈ c, bundleR p = none))
theorem CInv.start (c : List (List UInt8)) : CInv c [] c 0 := ⟨by simp, by simp, .inl ⟨rfl, [], rfl, rfl⟩⟩
theorem CInv.step {c : List (List UInt8)} {bs : List Bundle} {p : List UInt8} {r : List (List UInt8)} (h : CInv c bs (p :: r) 0) (h8 : bs.length ≤ 8) : CInv c (bs ++ [(bundleR p).getD bundle0]) r (if (bundleR p).isSome then 0 else 141) := by
 obtain ⟨h1, h2, h3⟩ := h
 refine ⟨fun b hb => ?_, by simp; omega, ?_⟩
 ·rcases List.mem_append.1 hb with hb | hb
  ·exact h1 b hb
  ·rw [List.mem_singleton] at hb; subst hb; exact bundleR_ok p
 ·rcases h3 with ⟨_, d, hd, hm⟩ | ⟨h, _⟩
  ·cases hp : bundleR p with
   | none => exact .inr ⟨rfl, p, by rw [hd]; simp, hp⟩
   | some b => exact .inl ⟨rfl, d ++ [p], by rw [hd]; simp, by simp [hm, hp]⟩
  ·cases h
end Go.Proofs.Ytcfecmoagfgnaaa

/- Queues as cells. -/
namespace Go.Proofs.Ytcfecmoagfgnaaa
open Go.Vc Go.Pl

structure Que where
  items : List Itm
  sent : Int
  id : Nat
  wait : Nat
  back : Nat
structure Que.ok (x : Que) : Prop where
  items : ∀ i ∈ x.items, i.ok
  id : x.id < 65536
  wait : x.wait < 256
  back : x.back < 256
def que0 : Que := ⟨[], 0, 0, 0, 0⟩
theorem que0_ok : que0.ok := ⟨by simp [que0], by decide, by decide, by decide⟩

abbrev queV (x : Que) (q : Option Addr) (d : Nat) : List (List Value) := [[.slice q x.items.length d], [.int .i64 x.sent], [.int .u16 x.id], [.int .u8 x.wait], [.int .u8 x.back]]
abbrev queL : List Nat := [1, 1, 1, 1, 1]
theorem zero157 : (Try.prog.info? 157).bind (·.zero) = some (.agg (cat (queV que0 none 0)).toArray) := by kernel_rfl
theorem built157 : Try.prog.built 157 [] = some (cat (queV que0 none 0)).toArray := by kernel_rfl
abbrev queZ : List (List Value) := [[.slice none 0 0], [.int .i64 0], [.int .u16 0], [.int .u8 0], [.int .u8 0]]
abbrev queFL : List Nat := [1, 1, 1, 1, 1]
theorem plan157 : planOf Try.prog 157 = some (placesL 0 queFL, (cat queZ).toArray) := by kernel_rfl
theorem queV_len {x : Que} (h : x.ok) {q : Option Addr} {d : Nat} : (queV x q d).map List.length = queL := by simp []
theorem queV_ok1 (x : Que) (q : Option Addr) (d : Nat) : ok1 (cat (queV x q d)) := by
 intro u hu
 rw [cat_eq] at hu
 simp only [List.mem_flatten, List.mem_cons, List.not_mem_nil, or_false] at hu
 obtain ⟨l, hl, hu⟩ := hu
 rcases hl with rfl | rfl | rfl | rfl | rfl <;> first | (simp only [List.mem_singleton] at hu; subst hu; rfl) | exact ok1_bytes _ u hu
end Go.Proofs.Ytcfecmoagfgnaaa

/- Rows as cells. -/
namespace Go.Proofs.Ytcfecmoagfgnaaa
open Go.Vc Go.Pl

structure Chg where
  name : ByteArray
  value : List UInt8
  gone : Bool
structure Chg.ok (x : Chg) : Prop where
  triv : True
def chg0 : Chg := ⟨ByteArray.empty, [], false⟩
theorem chg_ok (x : Chg) : x.ok := ⟨trivial⟩

abbrev chgV (x : Chg) (p : Option Addr) (c : Nat) : List (List Value) := [[.string x.name], [.slice p x.value.length c], [.bool x.gone]]
abbrev chgL : List Nat := [1, 1, 1]
theorem zero167 : (Try.prog.info? 167).bind (·.zero) = some (.agg (cat (chgV chg0 none 0)).toArray) := by kernel_rfl
theorem built167 : Try.prog.built 167 [] = some (cat (chgV chg0 none 0)).toArray := by kernel_rfl
abbrev chgZ : List (List Value) := [[.string ByteArray.empty], [.slice none 0 0], [.bool false]]
abbrev chgFL : List Nat := [1, 1, 1]
theorem plan167 : planOf Try.prog 167 = some (placesL 0 chgFL, (cat chgZ).toArray) := by kernel_rfl
theorem chgV_len {x : Chg} (h : x.ok) {p : Option Addr} {c : Nat} : (chgV x p c).map List.length = chgL := by simp []
theorem chgV_ok1 (x : Chg) (p : Option Addr) (c : Nat) : ok1 (cat (chgV x p c)) := by
 intro u hu
 rw [cat_eq] at hu
 simp only [List.mem_flatten, List.mem_cons, List.not_mem_nil, or_false] at hu
 obtain ⟨l, hl, hu⟩ := hu
 rcases hl with rfl | rfl | rfl <;> first | (simp only [List.mem_singleton] at hu; subst hu; rfl) | exact ok1_bytes _ u hu
/-- A row's cells. -/
def chgR : Rel Chg := fun K w vs y => ∃ p c, vs = cat (chgV y p c) ∧ Bytes K w p y.value c
theorem Mono_chg : Mono chgR := fun _ _ _ _ _ ha ⟨p, c, h2, h3⟩ => ⟨p, c, h2, h3.after Mono.byte ha⟩
theorem el158 : Elem Try.prog 158 167 3 48 (.agg (cat (chgV chg0 none 0)).toArray) := ⟨Try.underlying158, by kernel_rfl, by kernel_rfl, by kernel_rfl, by decide⟩
theorem one_chg {K : List Nat} {w : World} {v : Chg} {p : Option Addr} {c : Nat} (hA : Bytes K w p v.value c) (j : Nat) (y : Chg) (hj : [v][j]? = some y) : chgR K w ((([Value.agg (cat (chgV v p c)).toArray].flatMap (·.cells.toList)).drop (j * 3)).take 3) y := by
 have hj0 : j = 0 := by have := (List.getElem?_eq_some_iff.1 hj).1; simp at this; exact this
 subst hj0
 simp at hj; subst hj
 exact ⟨p, c, rfl, hA⟩
theorem newRowC {S : List Snap} {H : List Chunk} {w : World} (h : Own S H w) : Own S (arow 167 3 chgR Mono_chg none 0 ([] : List Chg) :: H) w := Own.arow_nil Mono_chg 167 3 h
theorem chgR_ok1 : ∀ (K : List Nat) (w : World) (vs : List Value) (y : Chg), chgR K w vs y → ok1 vs := by
 rintro K w vs y ⟨p, c, rfl, _⟩
 exact chgV_ok1 _ _ _
theorem zero9 : (Try.prog.info? 9).bind (·.zero) = some (.string ByteArray.empty) := by kernel_rfl

end Go.Proofs.Ytcfecmoagfgnaaa

/- Packets: their bytes; what bytes are read as. -/
namespace Go.Pl

structure Pkt where
  src : Nat
  dst : Nat
  kind : Nat
  chain : List Object
  body : List UInt8
  sig : List UInt8
structure Pkt.ok (x : Pkt) : Prop where
  src : x.src < 256
  dst : x.dst < 256
  kind : x.kind < 256
  chain : ∀ i ∈ x.chain, i.ok
  sig : x.sig.length = 64
def kindIn (k : Nat) : Bool := decide (1 ≤ k) && decide (k ≤ 4)
def restObjs (c : List (List UInt8)) : Option (List Object) :=
  if c.length ≤ 4 ∧ ∀ p ∈ c, (objectR p).isSome = true then some (c.map fun p => (objectR p).getD object0) else none
abbrev at2 (ps : List (List UInt8)) : List (List UInt8) := (ps.drop 1).drop 1
/-- The kind is a byte, and none of them. -/
def kindBad (ps : List (List UInt8)) : Prop := 2 < ps.length ∧ (nextP (at2 ps)).length = 1 ∧ kindIn (num (nextP (at2 ps))) = false
instance (ps : List (List UInt8)) : Decidable (kindBad ps) := by unfold kindBad; infer_instance
theorem objectR_ok (l : List UInt8) : ((objectR l).getD object0).ok := by
 cases h : objectR l with
 | none => exact object0_ok
 | some x => exact (objectR_iff.1 h).1
/-! The loop that reads objects: c: all pieces; xs: read; ps: left; er: the error. -/
def OInv (c : List (List UInt8)) (why0 : Nat) (xs : List Object) (ps : List (List UInt8)) (why : Nat) : Prop :=
  (∀ x ∈ xs, x.ok) ∧ xs.length ≤ 4 ∧ ((why = why0 ∧ ∃ d, c = d ++ ps ∧ d.map objectR = xs.map some) ∨ (why = 141 ∧ ∃ p ∈ c, objectR p = none))
theorem OInv.start (c : List (List UInt8)) (why0 : Nat) : OInv c why0 [] c why0 := ⟨by simp, by simp, .inl ⟨rfl, [], rfl, rfl⟩⟩
theorem OInv.step {c : List (List UInt8)} {xs : List Object} {p : List UInt8} {r : List (List UInt8)} (h : OInv c 0 xs (p :: r) 0) (h4 : xs.length < 4) : OInv c 0 (xs ++ [(objectR p).getD object0]) r (if (objectR p).isSome then 0 else 141) := by
 obtain ⟨h1, h2, h3⟩ := h
 refine ⟨fun b hb => ?_, by simp; omega, ?_⟩
 ·rcases List.mem_append.1 hb with hb | hb
  ·exact h1 b hb
  ·rw [List.mem_singleton] at hb; subst hb; exact objectR_ok p
 ·rcases h3 with ⟨_, d, hd, hm⟩ | ⟨h, _⟩
  ·cases hp : objectR p with
   | none => exact .inr ⟨rfl, p, by rw [hd]; simp, hp⟩
   | some b => exact .inl ⟨rfl, d ++ [p], by rw [hd]; simp, by simp [hm, hp]⟩
  ·cases h
theorem OInv.done {c : List (List UInt8)} {why0 : Nat} (h0 : why0 = 0 ∨ why0 = 141) {xs : List Object} {ps : List (List UInt8)} {why : Nat} (h : OInv c why0 xs ps why) (hx : ps = [] ∨ 4 ≤ xs.length ∨ why ≠ 0) : endW ps why = (if why0 = 0 ∧ (restObjs c).isSome = true then 0 else 141) ∧ (why0 = 0 → ∀ ys, restObjs c = some ys → ys = xs) := by
 obtain ⟨h1, h2, h3⟩ := h
 rcases h3 with ⟨rfl, d, hd, hm⟩ | ⟨rfl, p, hp, hpn⟩
 ·rcases h0 with rfl | rfl
  ·have hlen : d.length = xs.length := by have := congrArg List.length hm; simpa using this
   by_cases hps : ps = []
   ·subst hps
    rw [List.append_nil] at hd
    have hall : ∀ p ∈ d, (objectR p).isSome = true := fun p hp => by
     have : objectR p ∈ xs.map some := by rw [← hm]; exact List.mem_map.2 ⟨p, hp, rfl⟩
     obtain ⟨b, _, e⟩ := List.mem_map.1 this
     rw [← e]; rfl
    have e2 : d.map (fun p => (objectR p).getD object0) = xs := by
     have := congrArg (List.map fun o : Option Object => o.getD object0) hm
     rw [List.map_map, List.map_map] at this
     refine this.trans ?_
     conv => rhs; rw [← List.map_id xs]
     exact List.map_congr_left fun _ _ => rfl
    have hr : restObjs c = some xs := by
     unfold restObjs
     rw [hd, if_pos ⟨by omega, hall⟩, e2]
    rw [hr]
    exact ⟨rfl, fun _ ys hy => (Option.some.inj hy).symm⟩
   ·have h9 : 4 ≤ xs.length := by
     rcases hx with hx | hx | hx
     ·exact absurd hx hps
     ·exact hx
     ·exact absurd rfl hx
    have hpl : 0 < ps.length := List.length_pos_iff.2 hps
    have hr : restObjs c = none := by
     unfold restObjs
     exact if_neg (fun h => by have h1 := h.1; rw [hd, List.length_append] at h1; omega)
    rw [hr]
    refine ⟨?_, fun _ ys hy => by cases hy⟩
    unfold endW
    rw [if_neg hps]; rfl
  ·exact ⟨(endW_141 _).trans (if_neg (fun h => by cases h.1)).symm, fun h => by cases h⟩
 ·have hr : restObjs c = none := by
   unfold restObjs
   exact if_neg (fun h => by have := h.2 p hp; rw [hpn] at this; cases this)
  rw [hr]
  exact ⟨(endW_141 _).trans (if_neg (fun h => by cases h.2)).symm, fun _ ys hy => by cases hy⟩
end Go.Pl

/- What the document's answer takes bytes for: pieces, whatever they are. -/
namespace Go.Pl

/-- Bytes copied to an array of k bytes. -/
def padB (k : Nat) (l : List UInt8) : List UInt8 := l.take k ++ zeros (k - l.length)
theorem padB_length (k : Nat) (l : List UInt8) : (padB k l).length = k := by
 unfold padB; rw [List.length_append, List.length_take, zeros_length]; omega
theorem padB_self {l : List UInt8} {k : Nat} (h : l.length = k) : padB k l = l := by
 unfold padB; rw [List.take_of_length_le (by omega), h, Nat.sub_self]; exact List.append_nil l
def refN (p : List UInt8) : Nat := num (p.take 4)
def tkN (k : Nat) (ps : List (List UInt8)) : Nat := refN (nextP ps) % 256 ^ k
def tkB (k : Nat) (ps : List (List UInt8)) : List UInt8 := padB k (nextP ps)
theorem tkN_lt (k : Nat) (ps : List (List UInt8)) : tkN k ps < 256 ^ k := Nat.mod_lt _ (Nat.pow_pos (by decide))
theorem tkB_length (k : Nat) (ps : List (List UInt8)) : (tkB k ps).length = k := padB_length _ _
theorem refN_be {k n : Nat} (hk : k ≤ 4) (h : n < 256 ^ k) : refN (be k n) = n := by
 unfold refN; rw [List.take_of_length_le (by rw [be_length]; exact hk), num_be' h]
theorem tkN_be {k n : Nat} {r : List (List UInt8)} (hk : k ≤ 4) (h : n < 256 ^ k) : tkN k (be k n :: r) = n := by
 show refN (be k n) % 256 ^ k = n
 rw [refN_be hk h, Nat.mod_eq_of_lt h]
theorem tkB_cons {p : List UInt8} {r : List (List UInt8)} {k : Nat} (h : p.length = k) : tkB k (p :: r) = p := padB_self h

/-- What is read is that whose bytes these are. -/
theorem readT {α : Type} {R : List UInt8 → Option α} {O : α → Option (List UInt8)} {okp : α → Prop} (hR : ∀ l x, R l = some x ↔ okp x ∧ O x = some l) {l : List UInt8} {x0 : α} (h0 : okp x0) (h : ∀ y, okp y → O y = some l → y = x0) : R l = if O x0 = some l then some x0 else none := by
 split
 ·rename_i h1
  exact (hR l x0).2 ⟨h0, h1⟩
 ·rename_i h1
  cases hr : R l with
  | none => rfl
  | some y =>
   obtain ⟨h2, h3⟩ := (hR l y).1 hr
   exact absurd (h y h2 h3 ▸ h3) h1

def bundleT' (a : List (List UInt8)) : Bundle :=
  ⟨tkN 1 a, tkB 32 (a.drop 1), tkB 32 ((a.drop 1).drop 1), tkN 2 (((a.drop 1).drop 1).drop 1), tkB 32 ((((a.drop 1).drop 1).drop 1).drop 1), tkB 64 (((((a.drop 1).drop 1).drop 1).drop 1).drop 1)⟩
theorem bundleT'_ok (a : List (List UInt8)) : (bundleT' a).ok := ⟨tkN_lt 1 _, tkB_length _ _, tkB_length _ _, tkN_lt 2 _, tkB_length _ _, tkB_length _ _⟩
theorem bundleT'_P {y : Bundle} (h : y.ok) : bundleT' (bundleP y) = y := by
 obtain ⟨a, b, c, d, e, f⟩ := y
 have h1 := h.device; have h2 := h.agree; have h3 := h.signer; have h4 := h.id; have h5 := h.once; have h6 := h.sig
 simp only at h1 h2 h3 h4 h5 h6
 simp only [bundleT', bundleP, List.drop_succ_cons, List.drop_zero]
 rw [tkN_be (by decide) (by omega), tkB_cons h2, tkB_cons h3, tkN_be (by decide) (by omega), tkB_cons h5, tkB_cons h6]
theorem bundle_rd (l : List UInt8) : bundleR l = if bundleB (bundleT' (openP l)) = l then some (bundleT' (openP l)) else none := by
 have h := readT (R := bundleR) (O := fun x => some (bundleB x)) (okp := Bundle.ok) (fun l x => by rw [bundleR_iff, Option.some_inj]) (l := l) (bundleT'_ok (openP l)) (fun y hy e => by
  have e := Option.some.inj e
  rw [← e, show openP (bundleB y) = bundleP y from open_join (bundleP_ok hy), bundleT'_P hy])
 rw [h]
 simp only [Option.some_inj]
theorem bundle_open {l : List UInt8} {y : Bundle} (h : bundleR l = some y) : openP l ≠ [] := by
 obtain ⟨h1, h2⟩ := bundleR_iff.1 h
 rw [← h2, show openP (bundleB y) = bundleP y from open_join (bundleP_ok h1)]
 simp [bundleP]

def headerT' (a : List (List UInt8)) : Header :=
  ⟨tkB 32 a, decide (refN (nextP (a.drop 1)) = 1), tkB 32 ((a.drop 1).drop 1), tkB 32 (((a.drop 1).drop 1).drop 1), tkB 32 ((((a.drop 1).drop 1).drop 1).drop 1), tkN 2 (((((a.drop 1).drop 1).drop 1).drop 1).drop 1), tkB 32 ((((((a.drop 1).drop 1).drop 1).drop 1).drop 1).drop 1), tkN 2 (((((((a.drop 1).drop 1).drop 1).drop 1).drop 1).drop 1).drop 1), tkN 2 ((((((((a.drop 1).drop 1).drop 1).drop 1).drop 1).drop 1).drop 1).drop 1)⟩
theorem headerT'_ok (a : List (List UInt8)) : (headerT' a).ok := ⟨tkB_length _ _, tkB_length _ _, tkB_length _ _, tkB_length _ _, tkN_lt 2 _, tkB_length _ _, tkN_lt 2 _, tkN_lt 2 _⟩
theorem headerT'_P {y : Header} (h : y.ok) : headerT' (headerP y) = y := by
 obtain ⟨a, b, c, d, e, f, g, i, j⟩ := y
 have h1 := h.session; have h2 := h.agree; have h3 := h.signer; have h4 := h.base; have h5 := h.id; have h6 := h.ratchet; have h7 := h.n; have h8 := h.prev
 simp only at h1 h2 h3 h4 h5 h6 h7 h8
 simp only [headerT', headerP, List.drop_succ_cons, List.drop_zero]
 have e1 : decide (refN (nextP [be 1 (if b = true then 1 else 0), c, d, e, be 2 f, g, be 2 i, be 2 j]) = 1) = b := by
  show decide (refN (be 1 (if b = true then 1 else 0)) = 1) = b
  rw [refN_be (by decide) (by split <;> decide)]
  cases b <;> rfl
 rw [e1, tkB_cons h1, tkB_cons h2, tkB_cons h3, tkB_cons h4, tkN_be (by decide) (by omega), tkB_cons h6, tkN_be (by decide) (by omega), tkN_be (by decide) (by omega)]
def letterT' (a : List (List UInt8)) : Letter := ⟨tkN 1 a, tkN 1 (a.drop 1), headerT' (openP (nextP ((a.drop 1).drop 1))), nextP (((a.drop 1).drop 1).drop 1)⟩
theorem letterT'_ok (a : List (List UInt8)) : (letterT' a).ok := ⟨tkN_lt 1 _, tkN_lt 1 _, headerT'_ok _⟩
theorem letterO_P {y : Letter} (h : y.ok) {l : List UInt8} (e : letterO y = some l) : openP l = letterP y ∧ letterT' (openP l) = y := by
 obtain ⟨h1, h2, rfl⟩ := joinO_eq e
 have eo := open_join h1
 refine ⟨eo, ?_⟩
 rw [eo]
 obtain ⟨t, ht⟩ := Option.isSome_iff_exists.1 h2
 have e2 : openP t = headerP y.header := by
  unfold headerO at ht
  split at ht
  ·cases ht; exact open_join (headerP_ok h.header)
  ·cases ht
 obtain ⟨a, b, c, d⟩ := y
 have h3 := h.src; have h4 := h.dst
 simp only at h3 h4 ht e2
 simp only [letterT', letterP, List.drop_succ_cons, List.drop_zero]
 rw [tkN_be (by decide) (by omega), tkN_be (by decide) (by omega), show nextP [(headerO c).getD [], d] = t by show (headerO c).getD [] = t; rw [ht]; rfl, e2, headerT'_P h.header]
 rfl
theorem letter_rd (l : List UInt8) : letterR l = if letterO (letterT' (openP l)) = some l then some (letterT' (openP l)) else none :=
 readT (okp := Letter.ok) (fun _ _ => letterR_iff) (letterT'_ok (openP l)) (fun y hy e => ((letterO_P hy e).2).symm)
theorem letter_open {l : List UInt8} {y : Letter} (h : letterR l = some y) : openP l ≠ [] := by
 obtain ⟨h1, h2⟩ := letterR_iff.1 h
 rw [(letterO_P h1 h2).1]; simp [letterP]

def vouchT' (p : List UInt8) : Vouch := if p = [] then vouch0 else ⟨(p.headD 0).toNat, padB 64 (p.drop 1)⟩
theorem vouchT'_ok (p : List UInt8) : (vouchT' p).ok := by
 unfold vouchT'; split
 ·exact ⟨by decide, rfl⟩
 ·exact ⟨UInt8.toNat_lt _, padB_length _ _⟩
theorem vouchT'_B {v : Vouch} (h : v.ok) : vouchT' (vouchB v) = v := by
 unfold vouchT'
 rw [if_neg (by simp [vouchB])]
 have h1 := h.notary
 obtain ⟨a, b⟩ := v
 simp only at h1
 show Vouch.mk (UInt8.ofNat a).toNat (padB 64 b) = _
 rw [padB_self h.sig, UInt8.toNat_ofNat_of_lt' (by simpa using h1)]
def objectT' (a : List (List UInt8)) (vs : List Vouch) : Object :=
  ⟨tkN 1 a, tkN 1 (a.drop 1), tkB 32 ((a.drop 1).drop 1), tkN 4 (((a.drop 1).drop 1).drop 1), tkN 4 ((((a.drop 1).drop 1).drop 1).drop 1), tkB 64 (((((a.drop 1).drop 1).drop 1).drop 1).drop 1), vs⟩
def objectV' (a : List (List UInt8)) : List Vouch := ((((((((a.drop 1).drop 1).drop 1).drop 1).drop 1).drop 1)).map vouchT')
theorem objectT'_ok (a : List (List UInt8)) {vs : List Vouch} (h : ∀ v ∈ vs, v.ok) : (objectT' a vs).ok := ⟨tkN_lt 1 _, tkN_lt 1 _, tkB_length _ _, tkN_lt 4 _, tkN_lt 4 _, tkB_length _ _, h⟩
theorem objectV'_ok (a : List (List UInt8)) : ∀ v ∈ objectV' a, v.ok := fun v hv => by
 obtain ⟨p, _, rfl⟩ := List.mem_map.1 hv
 exact vouchT'_ok p
theorem vouches_back {vs : List Vouch} (h : ∀ v ∈ vs, v.ok) : (vs.map vouchB).map vouchT' = vs := by
 rw [List.map_map]
 conv => rhs; rw [← List.map_id vs]
 exact List.map_congr_left fun v hv => vouchT'_B (h v hv)
theorem objectO_P {y : Object} (h : y.ok) {l : List UInt8} (e : objectO y = some l) : openP l = objectP y ∧ objectT' (openP l) (objectV' (openP l)) = y := by
 unfold objectO at e
 split at e
 ·rename_i h4
  cases e
  have eo : openP (joinB (objectP y)) = objectP y := open_join (objectP_ok h h4)
  refine ⟨eo, ?_⟩
  rw [eo]
  obtain ⟨a, b, c, d, e, f, g⟩ := y
  have h1 := h.server; have h2 := h.n; have h3 := h.key; have h4 := h.since; have h5 := h.till; have h6 := h.sig
  simp only at h1 h2 h3 h4 h5 h6
  simp only [objectT', objectV', objectP, objectP0, List.cons_append, List.nil_append, List.drop_succ_cons, List.drop_zero]
  rw [tkN_be (by decide) (by omega), tkN_be (by decide) (by omega), tkB_cons h3, tkN_be (by decide) (by omega), tkN_be (by decide) (by omega), tkB_cons h6, vouches_back h.vouches]
 ·cases e
theorem object_rd (l : List UInt8) : objectR l = if objectO (objectT' (openP l) (objectV' (openP l))) = some l then some (objectT' (openP l) (objectV' (openP l))) else none :=
 readT (okp := Object.ok) (fun _ _ => objectR_iff) (objectT'_ok (openP l) (objectV'_ok _)) (fun y hy e => ((objectO_P hy e).2).symm)
theorem object_open {l : List UInt8} {y : Object} (h : objectR l = some y) : openP l ≠ [] := by
 obtain ⟨h1, h2⟩ := objectR_iff.1 h
 rw [(objectO_P h1 h2).1]; simp [objectP, objectP0]

end Go.Pl

/- fedq: queues. -/
namespace Go.Proofs.Ytcfecmoagfgnaaa
open Go.Vc Go.Pl

theorem row_arow {S : List Snap} {H : List Chunk} {w : World} {g : Option Nat} {c : Nat} (h : Own S (row 87 433 g 0 c [] :: H) w) : Own S (arow 87 433 itemR' Mono_item g c ([] : List Itm) :: H) w := h.asArr Mono_item rfl (fun j y hj => by simp at hj)
theorem ask_ok (n : Nat) (h : n < 256) : (Itm.mk 2 n 0 letter0 bundle0 object0).ok := ⟨(show (2 : Nat) < 256 by decide), h, (show (0 : Nat) < 256 by decide), letter0_ok, bundle0_ok, object0_ok⟩
abbrev askI (n : Nat) : Itm := ⟨2, n, 0, letter0, bundle0, object0⟩
theorem ask_O (n : Nat) : itemO (askI n) = some (joinB [be 1 2, be 1 n, be 1 0]) := by
 have e1 : itemP (askI n) = [be 1 2, be 1 n, be 1 0] := by unfold itemP; rw [if_neg (show ¬ (2 : Nat) = 1 by decide), if_pos (.inl rfl)]
 have e2 : itemGood (askI n) = true := by unfold itemGood; rw [if_neg (show ¬ (2 : Nat) = 1 by decide), if_pos (.inl rfl)]; simp
 unfold itemO
 rw [e1, e2, joinO_some ⟨by simp, fun p hp => by
  simp only [List.mem_cons, List.not_mem_nil, or_false] at hp
  rcases hp with rfl | rfl | rfl <;> rw [be_length] <;> decide⟩ rfl]
theorem ask_len (n : Nat) : ((itemO (askI n)).getD []).length ≤ 900 := by
 rw [ask_O]
 show (joinB [be 1 2, be 1 n, be 1 0]).length ≤ 900
 simp [joinB, body, be_length]
theorem item_back' {x : Itm} (hx : x.ok) (h : (itemO x).isSome = true) : itemR ((itemO x).getD []) = some x := by
 obtain ⟨l, hl⟩ := Option.isSome_iff_exists.1 h
 rw [hl]
 exact itemR_iff.2 ⟨hx, hl⟩
theorem get_back {x : Itm} (hx : x.ok) (h : (itemO x).isSome = true) : (itemR ((itemO x).getD [])).getD item0 = x := by rw [item_back' hx h]; rfl

theorem clone_i0 {S : List Snap} {H : List Chunk} {w : World} (ho : Own S H w) {c0 : Nat} : Calls Try.prog 165 #[.slice none 0 c0] w (Ret fun v w' => ∃ g c', v = rowV g 0 c' ∧ Own S (arow 87 433 itemR' Mono_item g c' ([] : List Itm) :: H) w') := by
 refine enter (G := Own (⟨w, keys H⟩ :: S) H) ho.keep Try.func165 rfl Try.ntmps165 rfl ?_
 refine VC.sr ?_
 refine VL.assign rfl ?_
 refine VL.nn ?_
 refine VC.seq ?_
 refine VC.sr ?_
 refine VL.move rfl ?_
 refine VL.eqnil Try.underlying126 rfl rfl ?_
 refine VL.nn ?_
 refine VC.yes rfl ?_
 refine VC.sr ?_
 refine VL.assign rfl ?_
 refine VL.nn ?_
 refine VC.ret ?_
 refine VX.then_ret ?_
 refine VX.ret1 rfl rfl (fun we hw => ?_)
 exact ⟨none, 0, rfl, (newRowI hw).subA⟩

theorem clone_i1 {S : List Snap} {H : List Chunk} {w : World} (ho : Own S H w) {xs : List Itm} {a : Addr} {c : Nat} (hX : Arr 433 itemR' (keys H) w (some a) xs c) (hl : xs.length ≤ 1000) : Calls Try.prog 165 #[.slice (some a) xs.length c] w (Ret fun v w' => ∃ g c', v = rowV g xs.length c' ∧ Own S (arow 87 433 itemR' Mono_item g c' xs :: H) w') := by
 refine enter (G := Own (⟨w, keys H⟩ :: S) H) ho.keep Try.func165 rfl Try.ntmps165 rfl ?_
 refine VC.sr ?_
 refine VL.assign rfl ?_
 refine VL.nn ?_
 refine VC.seq ?_
 refine VC.sr ?_
 refine VL.move rfl ?_
 refine VL.eqnil Try.underlying126 rfl rfl ?_
 refine VL.nn ?_
 refine VC.no rfl ?_
 refine VC.skip ?_
 refine VX.next ?_
 refine VC.sr ?_
 refine VL.lit el126 rfl rfl rfl (by simp) (by simp [ok1]) (fun g => ?_)
 refine VL.turn (fun w' h => row_arow h) ?_
 refine VL.move rfl ?_
 refine VL.appends (R := itemR') (hR := Mono_item) (ys := ([] : List Itm)) (zs := xs) 0 el126 rfl rfl rfl (fun _ h => h) rfl (fun _ hw => hX.nowA (s := ⟨w, _⟩) Mono_item hw) itemR'_ok1 (by simp only [List.length_nil]; omega) (fun g1 c1 => ?_) (by simp only [List.length_nil]; omega)
 refine VL.assign rfl ?_
 refine VL.nn ?_
 refine VC.ret ?_
 refine VX.ret1 rfl rfl (fun we hw => ?_)
 exact ⟨g1, c1, rfl, hw.subA⟩

theorem clone_i {S : List Snap} {H : List Chunk} {w : World} (ho : Own S H w) {xs : List Itm} {p : Option Addr} {c : Nat} (hX : Arr 433 itemR' (keys H) w p xs c) (hl : xs.length ≤ 1000) : Calls Try.prog 165 #[.slice p xs.length c] w (Ret fun v w' => ∃ g c', v = rowV g xs.length c' ∧ Own S (arow 87 433 itemR' Mono_item g c' xs :: H) w') := by
 cases p with
 | none =>
  have h1 := hX.nil rfl
  have h2 := hX.le
  obtain rfl : xs = [] := List.eq_nil_of_length_eq_zero (by omega)
  exact clone_i0 ho
 | some a => exact clone_i1 ho hX hl
theorem clone_l {S : List Snap} {H : List Chunk} {w : World} (ho : Own S H w) {xs : List Itm} {p : Option Addr} {c : Nat} (hX : Arr 433 itemR' (keys H) w p xs c) (hl : xs.length ≤ 1000) : Calls Try.prog 165 #[.slice p xs.length c] w (Ret fun v w' => ∃ q d, v = .slice q xs.length d ∧ Own S H w' ∧ Arr 433 itemR' (keys H) w' q xs d) :=
 calls_mono (clone_i ho hX hl) fun v w' ⟨g, c', e, h⟩ => ⟨_, _, e, h.drop, h.letArr⟩

/-- The second and the third chunk are dropped. -/
theorem ownDrop2 {S : List Snap} {a b c : Chunk} {H : List Chunk} {w : World} (h : Own S (a :: b :: c :: H) w) : Own S (a :: H) w := Own.drop (c := c) (Own.perm (Own.drop (c := b) (h.perm (List.Perm.swap a b (c :: H)))) (List.Perm.swap a c H))

theorem own_w {S : List Snap} {H : List Chunk} {w : World} (ho : Own S H w) {x : Que} (hx : x.ok) {q : Option Addr} {d : Nat} (hV : Arr 433 itemR' (keys H) w q x.items d) (hl : x.items.length ≤ 1000) : Calls Try.prog 164 #[.agg (cat (queV x q d)).toArray] w (Ret fun v w' => ∃ g c, v = .agg (cat (queV x (g.map fun g => (⟨g, 0, none⟩ : Addr)) c)).toArray ∧ Own S (arow 87 433 itemR' Mono_item g c x.items :: H) w') := by
 refine enter (G := Own (⟨w, keys H⟩ :: S) H) ho.keep Try.func164 rfl Try.ntmps164 rfl ?_
 refine VC.sr ?_
 refine VL.box (L := queL) (ps := (queV (x) q d)) rfl rfl (queV_len hx) (fun g1 => ?_)
 refine VL.alloc (L := queL) (ps := (queV (que0) none 0)) zero157 rfl rfl (fun g2 => ?_)
 refine VL.nn ?_
 refine VC.sr ?_
 refine VL.fieldAddr rfl fo157_0 rfl ?_
 refine VL.load (v := .slice q (x.items).length d) 1 0 rfl kd126 (fun _ h => h) rfl rfl rfl ?_
 refine VL.call Try.func165 rfl (by decide) rfl (fun w' hw => clone_i hw (hV.nowA (s := ⟨w, _⟩) Mono_item hw) (by omega)) (fun v => ?_)
 refine VL.at (fun w5 h1w => ?_)
 obtain ⟨gv3, cv4, rfl, hO6⟩ := h1w
 refine VL.toOwn hO6 ?_
 refine VL.fieldAddr rfl fo157_0 rfl ?_
 refine VL.store (L := queL) (qs := [[.slice (gv3.map fun g => (⟨g, 0, none⟩ : Addr)) (x.items).length cv4]]) 2 0 1 rfl rfl rfl (.inr ⟨kd126, rfl⟩) rfl rfl rfl (by intro u hu; simp [cat] at hu; subst hu; rfl) rfl rfl ?_
 refine VL.set2 ?_
 refine VL.nn ?_
 refine VC.sr ?_
 refine VL.loads (cs := cat (queV (x) (gv3.map fun g => (⟨g, 0, none⟩ : Addr)) cv4)) 2 0 5 rfl kd157 (fun _ h => h) rfl rfl rfl rfl ?_
 refine VL.store (L := queL) (qs := (queV (x) (gv3.map fun g => (⟨g, 0, none⟩ : Addr)) cv4)) (ps' := (queV (x) (gv3.map fun g => (⟨g, 0, none⟩ : Addr)) cv4)) 1 0 5 rfl rfl rfl (.inl kd157) rfl rfl (queV_len hx) (queV_ok1 x (gv3.map fun g => (⟨g, 0, none⟩ : Addr)) cv4) rfl rfl ?_
 refine VL.set1 ?_
 refine VL.nn ?_
 refine VC.ret ?_
 refine VX.ret_cell1 (cs := cat (queV x (gv3.map fun g => (⟨g, 0, none⟩ : Addr)) cv4)) 1 rfl rfl (by rw [cat_size (queV_len hx)]; exact kd157) (fun _ h => h) rfl rfl (fun we hw => ?_)
 exact ⟨_, _, rfl, (ownDrop2 hw).subA⟩

end Go.Proofs.Ytcfecmoagfgnaaa

/- Rows of a queue: what they are, what they are read as. -/
namespace Go.Proofs.Ytcfecmoagfgnaaa
open Go.Vc Go.Pl
def sH : ByteArray := ⟨#[104]⟩
def s0 : ByteArray := ⟨#[48]⟩
def s1 : ByteArray := ⟨#[49]⟩
theorem sH0 : sH ≠ s0 := by decide
theorem sH1 : sH ≠ s1 := by decide
theorem s01 : s0 ≠ s1 := by decide
theorem nm_ne {nm a b : ByteArray} (h : a ≠ b) : nm ++ a ≠ nm ++ b := fun e => h (cat_inj e)
/-- The first row of a name. -/
def fnd (l : List Chg) (nm : ByteArray) : Option Chg := l.find? fun c => decide (c.name = nm)
theorem fnd_hit {l : List Chg} {k : Nat} {nm : ByteArray} (h : k < l.length) (e : (l[k]'h).name = nm) : fnd (l.drop k) nm = some (l[k]'h) := by
 unfold fnd
 rw [List.drop_eq_getElem_cons h, List.find?_cons_of_pos (by simpa using e)]
theorem fnd_miss {l : List Chg} {k : Nat} {nm : ByteArray} (h : k < l.length) (e : ¬ (l[k]'h).name = nm) : fnd (l.drop k) nm = fnd (l.drop (k + 1)) nm := by
 unfold fnd
 rw [List.drop_eq_getElem_cons h, List.find?_cons_of_neg (by simpa using e)]
theorem fnd_end {l : List Chg} {k : Nat} {nm : ByteArray} (h : k = l.length) : fnd (l.drop k) nm = none := by
 subst h
 rw [List.drop_length]; rfl
theorem fnd_name {l : List Chg} {c : Chg} {nm : ByteArray} (h : fnd l nm = some c) : c.name = nm := by simpa using List.find?_some h
theorem fnd_app (x y : List Chg) (nm : ByteArray) : fnd (x ++ y) nm = (fnd x nm).or (fnd y nm) := List.find?_append
theorem fnd_toList {o : Option Chg} {a b : ByteArray} (h : ∀ c, o = some c → c.name = a) : fnd o.toList b = if a = b then o else none := by
 cases o with
 | none => simp [fnd]
 | some c =>
  have e := h c rfl
  subst e
  by_cases hb : c.name = b <;> simp [fnd, hb]
/-- What is found of a queue, in order. -/
def gotL (nm : ByteArray) (l : List Chg) : List Chg := (fnd l (nm ++ sH)).toList ++ ((fnd l (nm ++ s0)).toList ++ (fnd l (nm ++ s1)).toList)
theorem fnd_got (nm : ByteArray) (l : List Chg) : fnd (gotL nm l) (nm ++ sH) = fnd l (nm ++ sH) ∧ fnd (gotL nm l) (nm ++ s0) = fnd l (nm ++ s0) ∧ fnd (gotL nm l) (nm ++ s1) = fnd l (nm ++ s1) := by
 have hA := fun b => fnd_toList (o := fnd l (nm ++ sH)) (a := nm ++ sH) (b := b) (fun c h => fnd_name h)
 have hB := fun b => fnd_toList (o := fnd l (nm ++ s0)) (a := nm ++ s0) (b := b) (fun c h => fnd_name h)
 have hC := fun b => fnd_toList (o := fnd l (nm ++ s1)) (a := nm ++ s1) (b := b) (fun c h => fnd_name h)
 unfold gotL
 simp only [fnd_app, hA, hB, hC]
 simp [nm_ne sH0, nm_ne sH1, nm_ne s01, (nm_ne sH0).symm, (nm_ne sH1).symm, (nm_ne s01).symm]
/-! What the rows are. -/
def byt (x : Itm) : List UInt8 := (itemO x).getD []
def good9 (x : Itm) : Bool := (itemO x).isSome && decide ((byt x).length ≤ 900)
theorem good9_iff {x : Itm} : good9 x = true ↔ (itemO x).isSome = true ∧ (byt x).length ≤ 900 := by unfold good9; rw [Bool.and_eq_true, decide_eq_true_iff]
def part9 (nm : ByteArray) (its : List Itm) : List Chg := if its.length = 0 then [] else [⟨nm, joinB (its.map byt), false⟩]
theorem part_nil {nm : ByteArray} {its : List Itm} (h : its.length = 0) : part9 nm its = [] := if_pos h
theorem part_some {nm : ByteArray} {its : List Itm} (h : ¬ its.length = 0) : part9 nm its = [⟨nm, joinB (its.map byt), false⟩] := if_neg h
theorem fnd_part (nm b : ByteArray) (its : List Itm) : fnd (part9 nm its) b = if nm = b then (part9 nm its).head? else none := by
 unfold part9
 by_cases h : its.length = 0
 ·rw [if_pos h]; simp [fnd]
 ·rw [if_neg h]
  by_cases hb : nm = b <;> simp [fnd, hb]
def headL (q : Que) : List (List UInt8) := [be 2 q.id, be 1 q.sent.toNat, be 1 q.wait, be 1 q.back, be 1 q.items.length]
def rowH (nm : ByteArray) (q : Que) : Chg := ⟨nm ++ sH, joinB (headL q), false⟩
def rowsL (nm : ByteArray) (q : Que) : List Chg := rowH nm q :: (part9 (nm ++ s0) (q.items.take 4) ++ part9 (nm ++ s1) (q.items.drop 4))
def rowsGood (nm : ByteArray) (q : Que) : Prop := nm.size ≤ 31 ∧ q.items.length ≤ 8 ∧ 0 ≤ q.sent ∧ q.sent ≤ 4 ∧ q.sent ≤ q.items.length ∧ ∀ x ∈ q.items, good9 x = true
instance (nm : ByteArray) (q : Que) : Decidable (rowsGood nm q) := by unfold rowsGood; infer_instance
def rowsO (nm : ByteArray) (q : Que) : Option (List Chg) := if rowsGood nm q then some (rowsL nm q) else none
theorem rowsO_some {nm : ByteArray} {q : Que} (h : rowsGood nm q) : rowsO nm q = some (rowsL nm q) := if_pos h
theorem rowsO_none {nm : ByteArray} {q : Que} (h : ¬ rowsGood nm q) : rowsO nm q = none := if_neg h
theorem rowsO_good {nm : ByteArray} {q : Que} {r : List Chg} (h : rowsO nm q = some r) : rowsGood nm q ∧ r = rowsL nm q := by
 by_cases hg : rowsGood nm q
 ·rw [rowsO_some hg] at h; cases h; exact ⟨hg, rfl⟩
 ·rw [rowsO_none hg] at h; cases h
theorem head_joinOk (q : Que) : joinOk (headL q) := ⟨by simp [headL], fun p hp => by
 simp only [headL, List.mem_cons, List.not_mem_nil, or_false] at hp
 rcases hp with rfl | rfl | rfl | rfl | rfl <;> rw [be_length] <;> decide⟩
theorem part_joinOk {its : List Itm} (hl : its.length ≤ 8) (hg : ∀ x ∈ its, good9 x = true) : joinOk (its.map byt) := ⟨by rw [List.length_map]; omega, fun p hp => by
 obtain ⟨x, hx, rfl⟩ := List.mem_map.1 hp
 have := (good9_iff.1 (hg x hx)).2
 omega⟩
theorem head_split (q : Que) : splitB (joinB (headL q)) = (0, headL q) := split_join (head_joinOk q)
theorem part_split {its : List Itm} (hl : its.length ≤ 8) (hg : ∀ x ∈ its, good9 x = true) : splitB (joinB (its.map byt)) = (0, its.map byt) := split_join (part_joinOk hl hg)
theorem back9 {x : Itm} (hx : x.ok) (h : good9 x = true) : itemR (byt x) = some x := item_back' hx (good9_iff.1 h).1
abbrev itmOf (b : List UInt8) : Itm := (itemR b).getD item0
theorem backs {its : List Itm} (hk : ∀ x ∈ its, x.ok) (hg : ∀ x ∈ its, good9 x = true) : (its.map byt).map itmOf = its := by
 rw [List.map_map]
 refine (List.map_congr_left (g := id) fun x hx => ?_).trans (List.map_id _)
 show (itemR (byt x)).getD item0 = x
 rw [back9 (hk x hx) (hg x hx)]; rfl
/-! What the program reads. -/
def hP (got : List Chg) : List (List UInt8) := (splitB (got.headD chg0).value).2
def itsOf (l : List Chg) : List Itm := l.flatMap fun c => (splitB c.value).2.map itmOf
def cq (got : List Chg) : Que := ⟨itsOf (got.drop 1), ((num ((hP got).getD 1 []) : Nat) : Int), num ((hP got).getD 0 []), num ((hP got).getD 2 []), num ((hP got).getD 3 [])⟩
theorem its_part {nm : ByteArray} {its : List Itm} (hl : its.length ≤ 8) (hk : ∀ x ∈ its, x.ok) (hg : ∀ x ∈ its, good9 x = true) : itsOf (part9 nm its) = its := by
 by_cases h : its.length = 0
 ·rw [part_nil h, List.eq_nil_of_length_eq_zero h]; rfl
 ·rw [part_some h]
  show (splitB (joinB (its.map byt))).2.map itmOf ++ [] = its
  rw [part_split hl hg, List.append_nil]
  exact backs hk hg
theorem fit_cq {nm : ByteArray} {q : Que} (hq : q.ok) (h : rowsGood nm q) : cq (rowsL nm q) = q := by
 obtain ⟨h1, h2, h3, h4, h5, h6⟩ := h
 have ha : ∀ x ∈ q.items.take 4, x ∈ q.items := fun x hx => List.mem_of_mem_take hx
 have hb : ∀ x ∈ q.items.drop 4, x ∈ q.items := fun x hx => List.mem_of_mem_drop hx
 have e1 : itsOf ((rowsL nm q).drop 1) = q.items := by
  show itsOf (part9 (nm ++ s0) (q.items.take 4) ++ part9 (nm ++ s1) (q.items.drop 4)) = q.items
  unfold itsOf
  rw [List.flatMap_append]
  show itsOf _ ++ itsOf _ = _
  rw [its_part (by rw [List.length_take]; omega) (fun x hx => hq.items x (ha x hx)) (fun x hx => h6 x (ha x hx)), its_part (by rw [List.length_drop]; omega) (fun x hx => hq.items x (hb x hx)) (fun x hx => h6 x (hb x hx)), List.take_append_drop]
 have e2 : hP (rowsL nm q) = headL q := by
  show (splitB (joinB (headL q))).2 = headL q
  rw [head_split]
 unfold cq
 rw [e1, e2]
 obtain ⟨items, sent, id, wait, back⟩ := q
 have g1 : num ([be 2 id, be 1 sent.toNat, be 1 wait, be 1 back, be 1 items.length].getD 1 []) = sent.toNat := num_be' (k := 1) (by simp only at h4; show sent.toNat < 256; omega)
 have g2 : num ([be 2 id, be 1 sent.toNat, be 1 wait, be 1 back, be 1 items.length].getD 0 []) = id := num_be' (k := 2) hq.id
 have g3 : num ([be 2 id, be 1 sent.toNat, be 1 wait, be 1 back, be 1 items.length].getD 2 []) = wait := num_be' (k := 1) hq.wait
 have g4 : num ([be 2 id, be 1 sent.toNat, be 1 wait, be 1 back, be 1 items.length].getD 3 []) = back := num_be' (k := 1) hq.back
 have g5 : ((sent.toNat : Nat) : Int) = sent := Int.toNat_of_nonneg h3
 unfold headL
 simp only [g1, g2, g3, g4, g5]
/-- What the program asks for on its way. -/
structure CodeOk (got : List Chg) : Prop where
  ne : 0 < got.length
  live : (got.headD chg0).gone = false
  err : (splitB (got.headD chg0).value).1 = 0
  five : (hP got).length = 5
  two : ((hP got).getD 0 []).length = 2
  ones : ∀ b ∈ (hP got).drop 1, b.length = 1
  rest : ∀ c ∈ got.drop 1, (splitB c.value).1 = 0 ∧ c.gone = false ∧ (splitB c.value).2.length ≤ 4 ∧ ∀ b ∈ (splitB c.value).2, (itemR b).isSome = true
theorem part_code {nm : ByteArray} {its : List Itm} (hl : its.length ≤ 4) (hk : ∀ x ∈ its, x.ok) (hg : ∀ x ∈ its, good9 x = true) : ∀ c ∈ part9 nm its, (splitB c.value).1 = 0 ∧ c.gone = false ∧ (splitB c.value).2.length ≤ 4 ∧ ∀ b ∈ (splitB c.value).2, (itemR b).isSome = true := by
 intro c hc
 by_cases h : its.length = 0
 ·rw [part_nil h] at hc; cases hc
 ·rw [part_some h, List.mem_singleton] at hc
  subst hc
  have e : splitB (joinB (its.map byt)) = (0, its.map byt) := part_split (by omega) hg
  refine ⟨by show (splitB (joinB (its.map byt))).1 = 0; rw [e], rfl, by show (splitB (joinB (its.map byt))).2.length ≤ 4; rw [e, List.length_map]; exact hl, fun b hb => ?_⟩
  have hb : b ∈ (splitB (joinB (its.map byt))).2 := hb
  rw [e] at hb
  obtain ⟨x, hx, rfl⟩ := List.mem_map.1 hb
  rw [back9 (hk x hx) (hg x hx)]; rfl
theorem fit_code {nm : ByteArray} {q : Que} (hq : q.ok) (h : rowsGood nm q) : CodeOk (rowsL nm q) := by
 obtain ⟨h1, h2, h3, h4, h5, h6⟩ := h
 have ha : ∀ x ∈ q.items.take 4, x ∈ q.items := fun x hx => List.mem_of_mem_take hx
 have hb : ∀ x ∈ q.items.drop 4, x ∈ q.items := fun x hx => List.mem_of_mem_drop hx
 have e2 : hP (rowsL nm q) = headL q := by
  show (splitB (joinB (headL q))).2 = headL q
  rw [head_split]
 refine ⟨by simp [rowsL], rfl, by show (splitB (joinB (headL q))).1 = 0; rw [head_split], by rw [e2]; rfl, by rw [e2]; exact be_length 2 _, ?_, ?_⟩
 ·rw [e2]
  intro b hb
  simp only [headL, List.drop_succ_cons, List.drop_zero, List.mem_cons, List.not_mem_nil, or_false] at hb
  rcases hb with rfl | rfl | rfl | rfl <;> exact be_length 1 _
 ·intro c hc
  have hc : c ∈ part9 (nm ++ s0) (q.items.take 4) ++ part9 (nm ++ s1) (q.items.drop 4) := hc
  rcases List.mem_append.1 hc with hc | hc
  ·exact part_code (by rw [List.length_take]; omega) (fun x hx => hq.items x (ha x hx)) (fun x hx => h6 x (ha x hx)) c hc
  ·exact part_code (by rw [List.length_drop]; omega) (fun x hx => hq.items x (hb x hx)) (fun x hx => h6 x (hb x hx)) c hc
open Classical in
/-- What rows are read as. -/
noncomputable def loadO (nm : ByteArray) (l : List Chg) : Option Que := if (cq (gotL nm l)).ok ∧ rowsO nm (cq (gotL nm l)) = some (gotL nm l) then some (cq (gotL nm l)) else none
theorem load_some {nm : ByteArray} {l : List Chg} {q : Que} (hq : q.ok) (h : rowsO nm q = some (gotL nm l)) : loadO nm l = some q := by
 obtain ⟨h1, h2⟩ := rowsO_good h
 have e : cq (gotL nm l) = q := by rw [h2]; exact fit_cq hq h1
 unfold loadO
 rw [e, if_pos ⟨hq, h⟩]
theorem load_none {nm : ByteArray} {l : List Chg} (h : ∀ q : Que, q.ok → rowsO nm q = some (gotL nm l) → False) : loadO nm l = none := by
 unfold loadO
 rw [if_neg fun ⟨h1, h2⟩ => h _ h1 h2]
theorem load_bad {nm : ByteArray} {l : List Chg} (h : ¬ CodeOk (gotL nm l)) : loadO nm l = none := load_none fun q hq hr => h (by
 obtain ⟨h1, h2⟩ := rowsO_good hr
 rw [h2]; exact fit_code hq h1)
theorem load_differ {nm : ByteArray} {l : List Chg} (h : ¬ rowsO nm (cq (gotL nm l)) = some (gotL nm l)) : loadO nm l = none := load_none fun q hq hr => h (by
 obtain ⟨h1, h2⟩ := rowsO_good hr
 have e : cq (gotL nm l) = q := by rw [h2]; exact fit_cq hq h1
 rw [e]; exact hr)
/-! What the reference reads. -/
def pcs (o : Option Chg) : List (List UInt8) := match o with
  | none => []
  | some c => (splitB c.value).2
def rqI (o : Option Chg) : Nat := match o with
  | none => 0
  | some c => tkN 2 (openP c.value)
def rqS (o : Option Chg) : Int := match o with
  | none => 0
  | some c => ((refN (nextP ((openP c.value).drop 1)) : Nat) : Int)
def rqW (o : Option Chg) : Nat := match o with
  | none => 0
  | some c => tkN 1 (((openP c.value).drop 1).drop 1)
def rqB (o : Option Chg) : Nat := match o with
  | none => 0
  | some c => tkN 1 ((((openP c.value).drop 1).drop 1).drop 1)
def rq (nm : ByteArray) (l : List Chg) : Que := ⟨(pcs (fnd l (nm ++ s0)) ++ pcs (fnd l (nm ++ s1))).map itmOf, rqS (fnd l (nm ++ sH)), rqI (fnd l (nm ++ sH)), rqW (fnd l (nm ++ sH)), rqB (fnd l (nm ++ sH))⟩
theorem pcs_part {nm : ByteArray} {its : List Itm} (hl : its.length ≤ 8) (hg : ∀ x ∈ its, good9 x = true) : pcs (part9 nm its).head? = its.map byt := by
 by_cases h : its.length = 0
 ·rw [part_nil h, List.eq_nil_of_length_eq_zero h]; rfl
 ·rw [part_some h]
  show (splitB (joinB (its.map byt))).2 = its.map byt
  rw [part_split hl hg]
theorem fnd_rows (nm : ByteArray) (q : Que) : fnd (rowsL nm q) (nm ++ sH) = some (rowH nm q) ∧ fnd (rowsL nm q) (nm ++ s0) = (part9 (nm ++ s0) (q.items.take 4)).head? ∧ fnd (rowsL nm q) (nm ++ s1) = (part9 (nm ++ s1) (q.items.drop 4)).head? := by
 have hA : ∀ b, fnd [rowH nm q] b = if nm ++ sH = b then some (rowH nm q) else none := fun b => by
  by_cases hb : nm ++ sH = b <;> simp [fnd, rowH, hb]
 have e : rowsL nm q = [rowH nm q] ++ (part9 (nm ++ s0) (q.items.take 4) ++ part9 (nm ++ s1) (q.items.drop 4)) := rfl
 rw [e]
 simp only [fnd_app, hA, fnd_part]
 simp [nm_ne sH0, nm_ne sH1, nm_ne s01, (nm_ne s01).symm]
theorem refN_tk {k : Nat} {ps : List (List UInt8)} {n : Nat} (hk : k ≤ 4) (hn : n < 256 ^ k) (h : nextP ps = be k n) : tkN k ps = n := by
 unfold tkN
 rw [h, refN_be hk hn, Nat.mod_eq_of_lt hn]
theorem fit_rq {nm : ByteArray} {l : List Chg} {q : Que} (hq : q.ok) (h : rowsO nm q = some (gotL nm l)) : rq nm l = q := by
 obtain ⟨h0, e⟩ := rowsO_good h
 obtain ⟨f1, f2, f3⟩ := fnd_got nm l
 obtain ⟨r1, r2, r3⟩ := fnd_rows nm q
 rw [e] at f1 f2 f3
 rw [r1] at f1; rw [r2] at f2; rw [r3] at f3
 obtain ⟨h1, h2, h3, h4, h5, h6⟩ := h0
 have ha : ∀ x ∈ q.items.take 4, x ∈ q.items := fun x hx => List.mem_of_mem_take hx
 have hb : ∀ x ∈ q.items.drop 4, x ∈ q.items := fun x hx => List.mem_of_mem_drop hx
 unfold rq
 rw [← f1, ← f2, ← f3, pcs_part (by rw [List.length_take]; omega) (fun x hx => h6 x (ha x hx)), pcs_part (by rw [List.length_drop]; omega) (fun x hx => h6 x (hb x hx)), ← List.map_append, List.take_append_drop, backs hq.items h6]
 have eo : openP (rowH nm q).value = headL q := by
  show (splitB (joinB (headL q))).2 = headL q
  rw [head_split]
 have g1 : rqS (some (rowH nm q)) = q.sent := by
  show ((refN (nextP ((openP (rowH nm q).value).drop 1)) : Nat) : Int) = q.sent
  rw [eo, show nextP ((headL q).drop 1) = be 1 q.sent.toNat from rfl, refN_be (by decide) (by show q.sent.toNat < 256; omega)]
  exact Int.toNat_of_nonneg h3
 have g2 : rqI (some (rowH nm q)) = q.id := refN_tk (k := 2) (by decide) hq.id (by rw [eo]; rfl)
 have g3 : rqW (some (rowH nm q)) = q.wait := refN_tk (k := 1) (by decide) hq.wait (by rw [eo]; rfl)
 have g4 : rqB (some (rowH nm q)) = q.back := refN_tk (k := 1) (by decide) hq.back (by rw [eo]; rfl)
 rw [g1, g2, g3, g4]
theorem load_rq {nm : ByteArray} {l : List Chg} (h : ¬ rowsO nm (rq nm l) = some (gotL nm l)) : loadO nm l = none := load_none fun q hq hr => h (by rw [fit_rq hq hr]; exact hr)
end Go.Proofs.Ytcfecmoagfgnaaa

