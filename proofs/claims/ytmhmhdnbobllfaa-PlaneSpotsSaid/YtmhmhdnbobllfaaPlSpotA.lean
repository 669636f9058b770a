/- Plain facts on the spiral: where the numbers stand; closed checks on small whole floats. -/
import Derived.Test.YtmhmhdnbobllfaaVcFl
namespace Go.Pl
open Go.Vc

/-- The float of a whole number. -/
abbrev fi (x : Int) : Nat := FloatKind.f64.nearest x

/-- Where leg k begins, which way it goes, how long it is, which number stands there. -/
def cX (k : Nat) : Int := if k % 4 = 0 then -(k / 4 : Nat) else if k % 4 = 3 then -(k / 4 : Nat) - 1 else (k / 4 : Nat) + 1
def cY (k : Nat) : Int := if k % 4 = 0 ∨ k % 4 = 1 then -(k / 4 : Nat) else (k / 4 : Nat) + 1
def dX (k : Nat) : Int := if k % 4 = 0 then 1 else if k % 4 = 2 then -1 else 0
def dY (k : Nat) : Int := if k % 4 = 1 then 1 else if k % 4 = 3 then -1 else 0
def long (k : Nat) : Nat := k / 2 + 1
def base (k : Nat) : Nat := ((k + 1) / 2) * ((k + 2) / 2)
def pX (k r : Nat) : Int := cX k + dX k * r
def pY (k r : Nat) : Int := cY k + dY k * r

/-- Which way the float goes. -/
def wF : Nat → Nat × Nat
  | 0 => (fi 1, 0)
  | k + 1 => if (k + 1) % 4 = 1 then (0, fi 1) else if (k + 1) % 4 = 2 then (fi (-1), 0) else if (k + 1) % 4 = 3 then (9223372036854775808, fi (-1)) else (fi 1, 9223372036854775808)
/-- Row and column, all of them. -/
def allB (n : Nat) (f : Nat → Bool) : Bool := Nat.rec true (fun k ih => f k && ih) n
theorem allB_spec {f : Nat → Bool} : ∀ {n : Nat}, allB n f = true → ∀ i, i < n → f i = true
  | 0, _, i, hi => by omega
  | n + 1, h, i, hi => by
    have h' : (f n && allB n f) = true := h
    rw [Bool.and_eq_true] at h'
    by_cases e : i = n
    · subst e; exact h'.1
    · exact allB_spec h'.2 i (by omega)

def turnOk (r : Nat) : Bool :=
  decide (cmul (wF 0) (fi (r + 1 : Nat), 0) = some (fi (r + 1 : Nat), 0)) && decide (cmul (wF 4) (fi (r + 1 : Nat), 0) = some (fi (r + 1 : Nat), 0)) && decide (cmul (wF 1) (fi (r + 1 : Nat), 0) = some (0, fi (r + 1 : Nat))) &&
  decide (cmul (wF 2) (fi (r + 1 : Nat), 0) = some (fi (-(r + 1 : Nat)), 0)) && decide (cmul (wF 3) (fi (r + 1 : Nat), 0) = some (0, fi (-(r + 1 : Nat))))
theorem turns : allB 66 turnOk = true := by decide +kernel
def sumOk (q r : Nat) : Bool := decide (fadd (fi (-(q : Int))) (fi r) = some (fi (-(q : Int) + r))) && decide (fadd (fi ((q : Int) + 1)) (fi (-(r : Int))) = some (fi ((q : Int) + 1 + -(r : Int))))
theorem sums : allB 32 (fun q => allB (2 * q + 3) (sumOk q)) = true := by decide +kernel

/-- A small whole float. -/
def smallOk (i : Nat) : Bool :=
  let x : Int := (i : Int) - 65
  decide (fadd (fi x) 0 = some (fi x)) && decide (floatToIntVal .f64 (fi x) .i64 = some x) && fcmp .geq (fi x) 13920626448202203136 && fcmp .leq (fi x) 4697254411347427328 && fcmp .eql (fi x) (fi x) &&
  (decide (x = 0) || fcmp .neq (fi x) 0) && decide (fsub (fi x) (fi x) = some (fi 0)) && decide (fsub (fi x) (fi (x + 1)) = some (fi (-1))) && decide (fsub (fi x) (fi (x - 1)) = some (fi 1))
theorem smalls : allB 131 smallOk = true := by decide +kernel
/-- The number on the ring. -/
def ring (x y : Int) : Int := max (max (max x (0 - x)) y) (0 - y)
def placeI (x y : Int) : Int :=
  (2 * ring x y + 1) * (2 * ring x y + 1) -
  if y = 0 - ring x y then 1 + ring x y - x else if x = 0 - ring x y then 1 + 2 * ring x y + y + ring x y else if y = ring x y then 1 + 4 * ring x y + x + ring x y else 1 + 6 * ring x y + ring x y - y
def placeOk (k r : Nat) : Bool := decide (placeI (pX k r) (pY k r) = base k + r)
theorem places : allB 128 (fun k => allB (k / 2 + 1) (placeOk k)) = true := by decide +kernel
end Go.Pl
