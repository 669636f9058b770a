/-
  No cell of these rows narrows 'for every input' (looked for: loops, veiled, ifaces, maps, wideKeys, modest, calm, conditions, laid).
  DERIVED. THE GIVEN ROWS OF THIS SEAT. 2 by the template 'for every input the law returns true; each argument reads behind the call as it read before'; 0 by the template 'total and deterministic' (their statements: YtmhmhdnbobllfaaTotals.lean).
  GIVEN WITH THE SEED: the statements are not yours to turn. If you find one false, say at which input.
  Laid BY PROGRAM, IN A SANDBOX (cutbox-rows.mjs): the forced cells as the released guide's own fill.sh prints them over the translation 0609690dd16daa87… (all of the seat's roots in one cut). By AI agents, Wed Nov 11 2026. No macro, syntax, notation, axiom, sorry.
-/
import Derived.Test.YtmhmhdnbobllfaaChecked
import GoSem.Claim
import GoSem.ClaimJoined
import GoSem.ClaimMapViews
import Derived.JoinedTies
import Derived.KernelRfl
namespace Go.Proofs.Ytmhmhdnbobllfaa
/- THE CELL 'sum', in the pinned program and in every row, IS THE sha256 OF THE DUMP (.gsa) THAT YtmhmhdnbobllfaaProg.lean LOADS. Nothing in Lean hashes anything: it is a label: what it is worth is what the hold of that sum in a sandbox is worth. -/
noncomputable def Try.pinned : Pinned := { name := "ytmhmhdnbobllfaa", sum := "0609690dd16daa878542e7bd4317877f2a841a506f816572fed3ad1ee5c447e4", checked := Try.checked }
namespace Rows
def none {H : Type} : Left H := { results := [], args := [] }

/-- 'missivelaw01.PlaneSpots': WHATEVER THE INPUT: true; the input reads as it did. -/
def planeSpotsSpec : ChangeSpec := { name := "planeSpots", fn := fun _ => fun
  | [d] => { results := [.lit (.bool true)], args := [d] }
  | _ => none }
def planeSpotsRow : OpenClaim := { program := "ytmhmhdnbobllfaa", sum := "0609690dd16daa878542e7bd4317877f2a841a506f816572fed3ad1ee5c447e4", func := "missive/missivelaw01.PlaneSpots", spec := "planeSpots", apart := false }
def PlaneSpotsSaid : Prop := planeSpotsRow.holds Try.pinned (OpenSpec.ofChange planeSpotsSpec)

/-- ITS FALSE NEIGHBOUR: 'it returns false'. Refute it at one input. -/
def planeSpotsWrong : ChangeSpec := { name := "planeSpots", fn := fun _ => fun
  | [d] => { results := [.lit (.bool false)], args := [d] }
  | _ => none }
def PlaneSpotsWrongFalsely : Prop := planeSpotsRow.holds Try.pinned (OpenSpec.ofChange planeSpotsWrong)

/-- 'missivelaw01.PlaneSteps': WHATEVER THE INPUT: true; the input reads as it did. -/
def planeStepsSpec : ChangeSpec := { name := "planeSteps", fn := fun _ => fun
  | [d] => { results := [.lit (.bool true)], args := [d] }
  | _ => none }
def planeStepsRow : OpenClaim := { program := "ytmhmhdnbobllfaa", sum := "0609690dd16daa878542e7bd4317877f2a841a506f816572fed3ad1ee5c447e4", func := "missive/missivelaw01.PlaneSteps", spec := "planeSteps", apart := false }
def PlaneStepsSaid : Prop := planeStepsRow.holds Try.pinned (OpenSpec.ofChange planeStepsSpec)

/-- ITS FALSE NEIGHBOUR: 'it returns false'. Refute it at one input. -/
def planeStepsWrong : ChangeSpec := { name := "planeSteps", fn := fun _ => fun
  | [d] => { results := [.lit (.bool false)], args := [d] }
  | _ => none }
def PlaneStepsWrongFalsely : Prop := planeStepsRow.holds Try.pinned (OpenSpec.ofChange planeStepsWrong)

/- THE SECOND FORM. 'bulk': how many values and letters a reading holds, each counted each time it is reached (what is shared counts as often as it is met; a slice's spare places count too). A statement '..UptoSaid' is the law's where the arguments, and the package variables that the reading takes, are together of bulk at most 1048576: NARROWER than '..Said'. Prove '..Said' where nothing that the law and all that it calls make is longer than what came in: it says more and counts as full. Else prove '..UptoSaid'. A law counts once. -/
mutual
def uptoBulk {H : Type} : DataW H → Nat
  | .lit (.string bytes) => bytes.length + 1
  | .lit _ => 1
  | .nil => 1
  | .ptr d => uptoBulk d + 1
  | .slice elems spare => uptoBulkAll elems + uptoBulkAll spare + 1
  | .agg parts => uptoBulkAll parts + 1
  | .iface _ d => uptoBulk d + 1
  | .map entries => uptoBulkEntries entries + 1
  | .held _ => 1
def uptoBulkAll {H : Type} : List (DataW H) → Nat
  | [] => 0
  | d :: r => uptoBulk d + uptoBulkAll r
def uptoBulkEntries {H : Type} : List (Lit × DataW H) → Nat
  | [] => 0
  | x :: r => uptoBulkEntry x + uptoBulkEntries r
def uptoBulkEntry {H : Type} : Lit × DataW H → Nat
  | (.string bytes, d) => bytes.length + uptoBulk d + 1
  | (_, d) => uptoBulk d + 1
 end
def uptoSmall : (H : Type) → List (DataW H) → Bool := fun _ ds => decide (uptoBulkAll ds ≤ 1048576)
def OpenSpec.upto (s : _root_.Go.ChangeSpec) : _root_.Go.OpenSpec := { _root_.Go.OpenSpec.ofChange s with cond := some uptoSmall }

/-- 'missivelaw01.PlaneSpots', WHERE WHAT IT READS IS OF BULK AT MOST 1048576: true; the input reads as it did. -/
def planeSpotsUptoRow : OpenClaim := { program := "ytmhmhdnbobllfaa", sum := "0609690dd16daa878542e7bd4317877f2a841a506f816572fed3ad1ee5c447e4", func := "missive/missivelaw01.PlaneSpots", spec := "planeSpots", apart := false, narrowed := true }
def PlaneSpotsUptoSaid : Prop := planeSpotsUptoRow.holds Try.pinned (OpenSpec.upto planeSpotsSpec)

/-- 'missivelaw01.PlaneSteps', WHERE WHAT IT READS IS OF BULK AT MOST 1048576: true; the input reads as it did. -/
def planeStepsUptoRow : OpenClaim := { program := "ytmhmhdnbobllfaa", sum := "0609690dd16daa878542e7bd4317877f2a841a506f816572fed3ad1ee5c447e4", func := "missive/missivelaw01.PlaneSteps", spec := "planeSteps", apart := false, narrowed := true }
def PlaneStepsUptoSaid : Prop := planeStepsUptoRow.holds Try.pinned (OpenSpec.upto planeStepsSpec)

end Rows
end Go.Proofs.Ytmhmhdnbobllfaa
