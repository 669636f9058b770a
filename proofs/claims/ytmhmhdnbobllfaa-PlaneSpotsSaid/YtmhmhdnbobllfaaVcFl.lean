/- The rules of the walks, continued: floats, complex numbers, a bool against a bool, the opposite, the greatest of four. -/
import Derived.Test.YtmhmhdnbobllfaaVcMore
import Derived.Laws.FloatArith
import Derived.Laws.Cover3
import Derived.Laws.StructEq
namespace Go.Vc

abbrev fadd (a b : Nat) : Option Nat := FloatKind.f64.format.add a b
abbrev fsub (a b : Nat) : Option Nat := FloatKind.f64.format.sub a b
abbrev fmul (a b : Nat) : Option Nat := FloatKind.f64.format.mul a b
abbrev ford (a b : Nat) : Option Ordering := FloatKind.f64.format.order a b
/-- A complex number's value. -/
abbrev cx (z : Nat × Nat) : Value := .complex .f64 z.1 z.2
def cadd (a b : Nat × Nat) : Option (Nat × Nat) := (fadd a.1 b.1).bind fun x => (fadd a.2 b.2).map fun y => (x, y)
def csub (a b : Nat × Nat) : Option (Nat × Nat) := (fsub a.1 b.1).bind fun x => (fsub a.2 b.2).map fun y => (x, y)
def cmul (a b : Nat × Nat) : Option (Nat × Nat) :=
  (fmul a.1 b.1).bind fun p => (fmul a.2 b.2).bind fun q => (fsub p q).bind fun x =>
  (fmul a.1 b.2).bind fun r => (fmul a.2 b.1).bind fun s => (fadd r s).map fun y => (x, y)
def ceq (a b : Nat × Nat) : Bool := (ford a.1 b.1 == some .eq) && (ford a.2 b.2 == some .eq)

section
variable {P : Program} {n : Nat} {Q : Exit → Act → World → Prop} {σ : Sl} {G : World → Prop} {ops : Array Oper} {rest : List Oper}
variable {d : Nat} {ty : TypeId} {pos : String} {aft : Array Edge}

theorem VL.farith {op : BinOp} {x y : Operand} {t ty' : TypeId} {a b r : Nat} (hop : op = .add ∨ op = .sub ∨ op = .mul ∨ op = .quo) (hx : ev σ x = some (.float .f64 a)) (hy : ev σ y = some (.float .f64 b)) (hr : floatBits op .f64 a b = some r)
    (h : VL P n ops Q rest ((d, .float .f64 r) :: σ) G) (hdn : Nat.blt d n = true := by rfl) : VL P n ops Q (⟨some d, .binOp op t x y ty', ty, pos, aft, none⟩ :: rest) σ G :=
  VL.val rfl rfl hdn (fun c w ha _ => by
    have e : eqGuard op t x y (.float .f64 a) (.float .f64 b) = pure () := by cases op <;> rfl
    have := run_float_arith (P := P) w op t .f64 a b r hr
    simp [execOp, ha.ev hx, ha.ev hy, e, this]) h

def fcmp (op : BinOp) (a b : Nat) : Bool :=
  match op with
  | .eql => ford a b == some .eq
  | .neq => ford a b != some .eq
  | .lss => ford a b == some .lt
  | .leq => ford a b == some .lt || ford a b == some .eq
  | .gtr => ford a b == some .gt
  | .geq => ford a b == some .gt || ford a b == some .eq
  | _ => false

theorem VL.fcmp {op : BinOp} {x y : Operand} {t ty' : TypeId} {a b : Nat} {r : Bool} (hop : op = .eql ∨ op = .neq ∨ op = .lss ∨ op = .leq ∨ op = .gtr ∨ op = .geq) (hx : ev σ x = some (.float .f64 a)) (hy : ev σ y = some (.float .f64 b)) (hr : Vc.fcmp op a b = r)
    (h : VL P n ops Q rest ((d, .bool r) :: σ) G) (hdn : Nat.blt d n = true := by rfl) : VL P n ops Q (⟨some d, .binOp op t x y ty', ty, pos, aft, none⟩ :: rest) σ G :=
  VL.val rfl rfl hdn (fun c w ha _ => by
    subst hr
    have e : eqGuard op t x y (.float .f64 a) (.float .f64 b) = pure () := by cases op <;> rfl
    rcases hop with rfl | rfl | rfl | rfl | rfl | rfl <;> simp [execOp, ha.ev hx, ha.ev hy, e, binOp, Op.floatCmp, Vc.fcmp]) h

theorem run_arith {op : BinOp} {a b r : Nat} {w : World} (h : floatBits op .f64 a b = some r) : (Op.Complex.arith op .f64 a b).run P w = .ok r w := by
  unfold floatBits at h
  unfold Op.Complex.arith
  cases op <;> simp only at h <;> first | (cases h; done) | skip
  all_goals simp [Op.floatArith, h]

theorem VL.cadd {x y : Operand} {t ty' : TypeId} {a b r : Nat × Nat} (hx : ev σ x = some (cx a)) (hy : ev σ y = some (cx b)) (hr : Vc.cadd a b = some r)
    (h : VL P n ops Q rest ((d, cx r) :: σ) G) (hdn : Nat.blt d n = true := by rfl) : VL P n ops Q (⟨some d, .binOp .add t x y ty', ty, pos, aft, none⟩ :: rest) σ G :=
  VL.val rfl rfl hdn (fun c w ha _ => by
    have e : eqGuard .add t x y (cx a) (cx b) = pure () := rfl
    unfold Vc.cadd at hr
    simp only [Option.bind_eq_some_iff, Option.map_eq_some_iff] at hr
    obtain ⟨u, h1, v, h2, rfl⟩ := hr
    have r1 := run_arith (P := P) (op := .add) (w := w) h1
    have r2 := run_arith (P := P) (op := .add) (w := w) h2
    simp [execOp, ha.ev hx, ha.ev hy, e, binOp, Op.complexOp, r1, r2]) h

theorem VL.csub {x y : Operand} {t ty' : TypeId} {a b r : Nat × Nat} (hx : ev σ x = some (cx a)) (hy : ev σ y = some (cx b)) (hr : Vc.csub a b = some r)
    (h : VL P n ops Q rest ((d, cx r) :: σ) G) (hdn : Nat.blt d n = true := by rfl) : VL P n ops Q (⟨some d, .binOp .sub t x y ty', ty, pos, aft, none⟩ :: rest) σ G :=
  VL.val rfl rfl hdn (fun c w ha _ => by
    have e : eqGuard .sub t x y (cx a) (cx b) = pure () := rfl
    unfold Vc.csub at hr
    simp only [Option.bind_eq_some_iff, Option.map_eq_some_iff] at hr
    obtain ⟨u, h1, v, h2, rfl⟩ := hr
    have r1 := run_arith (P := P) (op := .sub) (w := w) h1
    have r2 := run_arith (P := P) (op := .sub) (w := w) h2
    simp [execOp, ha.ev hx, ha.ev hy, e, binOp, Op.complexOp, r1, r2]) h

theorem VL.cmul {x y : Operand} {t ty' : TypeId} {a b r : Nat × Nat} (hx : ev σ x = some (cx a)) (hy : ev σ y = some (cx b)) (hr : Vc.cmul a b = some r)
    (h : VL P n ops Q rest ((d, cx r) :: σ) G) (hdn : Nat.blt d n = true := by rfl) : VL P n ops Q (⟨some d, .binOp .mul t x y ty', ty, pos, aft, none⟩ :: rest) σ G :=
  VL.val rfl rfl hdn (fun c w ha _ => by
    have e : eqGuard .mul t x y (cx a) (cx b) = pure () := rfl
    unfold Vc.cmul at hr
    simp only [Option.bind_eq_some_iff, Option.map_eq_some_iff] at hr
    obtain ⟨p, h1, q, h2, u, h3, r', h4, s, h5, v, h6, rfl⟩ := hr
    have r1 := run_arith (P := P) (op := .mul) (w := w) h1
    have r2 := run_arith (P := P) (op := .mul) (w := w) h2
    have r3 := run_arith (P := P) (op := .sub) (w := w) h3
    have r4 := run_arith (P := P) (op := .mul) (w := w) h4
    have r5 := run_arith (P := P) (op := .mul) (w := w) h5
    have r6 := run_arith (P := P) (op := .add) (w := w) h6
    simp [execOp, ha.ev hx, ha.ev hy, e, binOp, Op.complexOp, Op.Complex.conv, Op.Complex.product, Op.Complex.mul, Op.Complex.sub, Op.Complex.add, r1, r2, r3, r4, r5, r6]) h

theorem run_ceq {a b : Nat} {w : World} : (Op.Complex.cmp .eql .f64 a b).run P w = .ok (ford a b == some .eq) w := by
  simp [Op.Complex.cmp, Op.floatCmp, asBool]

theorem VL.ceql {x y : Operand} {t ty' : TypeId} {a b : Nat × Nat} {r : Bool} (hx : ev σ x = some (cx a)) (hy : ev σ y = some (cx b)) (hr : ceq a b = r)
    (h : VL P n ops Q rest ((d, .bool r) :: σ) G) (hdn : Nat.blt d n = true := by rfl) : VL P n ops Q (⟨some d, .binOp .eql t x y ty', ty, pos, aft, none⟩ :: rest) σ G :=
  VL.val rfl rfl hdn (fun c w ha _ => by
    subst hr
    have e : eqGuard .eql t x y (cx a) (cx b) = pure () := rfl
    cases h1 : (ford a.1 b.1 == some .eq) <;> simp [execOp, ha.ev hx, ha.ev hy, e, binOp, Op.complexOp, run_ceq, ceq, h1]) h
theorem VL.cneq {x y : Operand} {t ty' : TypeId} {a b : Nat × Nat} {r : Bool} (hx : ev σ x = some (cx a)) (hy : ev σ y = some (cx b)) (hr : (!ceq a b) = r)
    (h : VL P n ops Q rest ((d, .bool r) :: σ) G) (hdn : Nat.blt d n = true := by rfl) : VL P n ops Q (⟨some d, .binOp .neq t x y ty', ty, pos, aft, none⟩ :: rest) σ G :=
  VL.val rfl rfl hdn (fun c w ha _ => by
    subst hr
    have e : eqGuard .neq t x y (cx a) (cx b) = pure () := rfl
    cases h1 : (ford a.1 b.1 == some .eq) <;> simp [execOp, ha.ev hx, ha.ev hy, e, binOp, Op.complexOp, run_ceq, ceq, h1]) h

theorem VL.real {x : Operand} {tys : Array TypeId} {a : Nat × Nat} (hx : ev σ x = some (cx a))
    (h : VL P n ops Q rest ((d, .float .f64 a.1) :: σ) G) (hdn : Nat.blt d n = true := by rfl) : VL P n ops Q (⟨some d, .call ⟨.builtin .real, #[x], tys⟩, ty, pos, aft, none⟩ :: rest) σ G :=
  VL.val rfl rfl hdn (fun c w ha _ => by
    simp [execOp, resolve, invoke, builtin, ha.ev hx, run_real]) h
theorem VL.imag {x : Operand} {tys : Array TypeId} {a : Nat × Nat} (hx : ev σ x = some (cx a))
    (h : VL P n ops Q rest ((d, .float .f64 a.2) :: σ) G) (hdn : Nat.blt d n = true := by rfl) : VL P n ops Q (⟨some d, .call ⟨.builtin .imag, #[x], tys⟩, ty, pos, aft, none⟩ :: rest) σ G :=
  VL.val rfl rfl hdn (fun c w ha _ => by
    simp [execOp, resolve, invoke, builtin, ha.ev hx, run_imag]) h
theorem VL.complex {x y : Operand} {tys : Array TypeId} {a b : Nat} (hx : ev σ x = some (.float .f64 a)) (hy : ev σ y = some (.float .f64 b))
    (h : VL P n ops Q rest ((d, cx (a, b)) :: σ) G) (hdn : Nat.blt d n = true := by rfl) : VL P n ops Q (⟨some d, .call ⟨.builtin .complex, #[x, y], tys⟩, ty, pos, aft, none⟩ :: rest) σ G :=
  VL.val rfl rfl hdn (fun c w ha _ => by
    simp [execOp, resolve, invoke, builtin, ha.ev hx, ha.ev hy, run_complex]) h

theorem VL.itof {x : Operand} {src dst : TypeId} {k : IntKind} {a : Int} (hs : (P.underlying src).isSome = true) (hd : P.underlying dst = some (.float .f64)) (hx : ev σ x = some (.int k a))
    (h : VL P n ops Q rest ((d, .float .f64 (FloatKind.f64.nearest a)) :: σ) G) (hdn : Nat.blt d n = true := by rfl) : VL P n ops Q (⟨some d, .convert src dst x, ty, pos, aft, none⟩ :: rest) σ G :=
  VL.val rfl rfl hdn (fun c w ha _ => by
    cases e : P.underlying src with
    | none => simp [e] at hs
    | some u => simp [execOp, ha.ev hx, convert, run_underlying e, run_underlying hd, Conv.intToFloat]) h
theorem VL.ftoi {x : Operand} {src dst : TypeId} {k : IntKind} {a : Nat} {i : Int} (hs : (P.underlying src).isSome = true) (hd : P.underlying dst = some (.int k)) (hx : ev σ x = some (.float .f64 a)) (hi : floatToIntVal .f64 a k = some i)
    (h : VL P n ops Q rest ((d, .int k i) :: σ) G) (hdn : Nat.blt d n = true := by rfl) : VL P n ops Q (⟨some d, .convert src dst x, ty, pos, aft, none⟩ :: rest) σ G :=
  VL.val rfl rfl hdn (fun c w ha _ => by
    have := run_convert_float_int (P := P) w src dst .f64 k a i hs hd hi
    simp [execOp, ha.ev hx, this]) h

theorem VL.neg {x : Operand} {t : TypeId} {k : IntKind} {a : Int} (hx : ev σ x = some (.int k a)) (hi : InR k (0 - a))
    (h : VL P n ops Q rest ((d, .int k (0 - a)) :: σ) G) (hdn : Nat.blt d n = true := by rfl) : VL P n ops Q (⟨some d, .unOp .neg t x, ty, pos, aft, none⟩ :: rest) σ G :=
  VL.val rfl rfl hdn (fun c w ha _ => by
    simp [execOp, ha.ev hx, Op.unary, Op.intArith]
    have := wrap_in hi
    simpa using this) h

theorem VL.beql {x y : Operand} {t ty' : TypeId} {a b : Bool} (ht : P.underlying t = some .bool) (hx : ev σ x = some (.bool a)) (hy : ev σ y = some (.bool b))
    (h : VL P n ops Q rest ((d, .bool (a == b)) :: σ) G) (hdn : Nat.blt d n = true := by rfl) : VL P n ops Q (⟨some d, .binOp .eql t x y ty', ty, pos, aft, none⟩ :: rest) σ G :=
  VL.val rfl rfl hdn (fun c w ha _ => by
    have e : eqGuard .eql t x y (.bool a) (.bool b) = pure () := rfl
    have e2 : (binOp .eql t (.bool a) (.bool b)).run P w = .ok (.bool (a == b)) w := by
      have := run_equalIn_bool (P := P) w 9999 t a b ht
      simp only [binOp]
      simp [Op.equal, Op.maxDepth, this]
    simp [execOp, ha.ev hx, ha.ev hy, e, e2]) h
theorem VL.bneq {x y : Operand} {t ty' : TypeId} {a b : Bool} (ht : P.underlying t = some .bool) (hx : ev σ x = some (.bool a)) (hy : ev σ y = some (.bool b))
    (h : VL P n ops Q rest ((d, .bool (a != b)) :: σ) G) (hdn : Nat.blt d n = true := by rfl) : VL P n ops Q (⟨some d, .binOp .neq t x y ty', ty, pos, aft, none⟩ :: rest) σ G :=
  VL.val rfl rfl hdn (fun c w ha _ => by
    have e : eqGuard .neq t x y (.bool a) (.bool b) = pure () := rfl
    have e2 : (binOp .neq t (.bool a) (.bool b)).run P w = .ok (.bool (a != b)) w := by
      have := run_equalIn_bool (P := P) w 9999 t a b ht
      simp only [binOp]
      simp [Op.equal, Op.maxDepth, this, bne]
    simp [execOp, ha.ev hx, ha.ev hy, e, e2]) h

theorem VL.max4 {x y u v : Operand} {k : IntKind} {a b c e : Int} {tys : Array TypeId} (hx : ev σ x = some (.int k a)) (hy : ev σ y = some (.int k b)) (hu : ev σ u = some (.int k c)) (hv : ev σ v = some (.int k e))
    (h : VL P n ops Q rest ((d, .int k (max (max (max a b) c) e)) :: σ) G) (hdn : Nat.blt d n = true := by rfl) : VL P n ops Q (⟨some d, .call ⟨.builtin .max, #[x, y, u, v], tys⟩, ty, pos, aft, none⟩ :: rest) σ G :=
  VL.val rfl rfl hdn (fun s w ha _ => by
    have m : ∀ p q : Int, (if p < q then q else p) = max p q := fun p q => by rw [Int.max_def]; split <;> split <;> omega
    simp [execOp, resolve, invoke, builtin, Builtin.max_, Builtin.max2, ha.ev hx, ha.ev hy, ha.ev hu, ha.ev hv, m]) h
end
end Go.Vc
