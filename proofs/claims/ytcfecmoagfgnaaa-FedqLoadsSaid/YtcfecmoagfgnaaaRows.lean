/-
  No cell of these rows narrows 'for every input' (looked for: loops, veiled, ifaces, maps, wideKeys, modest, calm, conditions, laid).
  DERIVED. THE GIVEN ROWS OF THIS SEAT. 21 by the template 'for every input the law returns true; each argument reads behind the call as it read before'; 0 by the template 'total and deterministic' (their statements: YtcfecmoagfgnaaaTotals.lean).
  GIVEN WITH THE SEED: the statements are not yours to turn. If you find one false, say at which input.
  Laid BY PROGRAM, IN A SANDBOX (cutbox-rows.mjs): the forced cells as the released guide's own fill.sh prints them over the translation 6bcc8fab7e0ff9a3… (all of the seat's roots in one cut). By AI agents, Wed Nov 11 2026. No macro, syntax, notation, axiom, sorry.
-/
import Derived.Test.YtcfecmoagfgnaaaChecked
import GoSem.Claim
import GoSem.ClaimJoined
import GoSem.ClaimMapViews
import Derived.JoinedTies
import Derived.KernelRfl
namespace Go.Proofs.Ytcfecmoagfgnaaa
/- THE CELL 'sum', in the pinned program and in every row, IS THE sha256 OF THE DUMP (.gsa) THAT YtcfecmoagfgnaaaProg.lean LOADS. Nothing in Lean hashes anything: it is a label: what it is worth is what the hold of that sum in a sandbox is worth. -/
noncomputable def Try.pinned : Pinned := { name := "ytcfecmoagfgnaaa", sum := "6bcc8fab7e0ff9a3677dd9aff0ea0fd4e465b3ac6a4237f071f3ce6fe3b13f0c", checked := Try.checked }
namespace Rows
def none {H : Type} : Left H := { results := [], args := [] }

/-- 'missivelaw02.OctetNumbers': WHATEVER THE INPUT: true; the input reads as it did. -/
def octetNumbersSpec : ChangeSpec := { name := "octetNumbers", fn := fun _ => fun
  | [d1, d2] => { results := [.lit (.bool true)], args := [d1, d2] }
  | _ => none }
def octetNumbersRow : OpenClaim := { program := "ytcfecmoagfgnaaa", sum := "6bcc8fab7e0ff9a3677dd9aff0ea0fd4e465b3ac6a4237f071f3ce6fe3b13f0c", func := "missive/missivelaw02.OctetNumbers", spec := "octetNumbers", apart := false }
def OctetNumbersSaid : Prop := octetNumbersRow.holds Try.pinned (OpenSpec.ofChange octetNumbersSpec)

/-- ITS FALSE NEIGHBOUR: 'it returns false'. Refute it at one input. -/
def octetNumbersWrong : ChangeSpec := { name := "octetNumbers", fn := fun _ => fun
  | [d1, d2] => { results := [.lit (.bool false)], args := [d1, d2] }
  | _ => none }
def OctetNumbersWrongFalsely : Prop := octetNumbersRow.holds Try.pinned (OpenSpec.ofChange octetNumbersWrong)

/-- 'missivelaw02.OctetJoins': WHATEVER THE INPUT: true; the input reads as it did. -/
def octetJoinsSpec : ChangeSpec := { name := "octetJoins", fn := fun _ => fun
  | [d] => { results := [.lit (.bool true)], args := [d] }
  | _ => none }
def octetJoinsRow : OpenClaim := { program := "ytcfecmoagfgnaaa", sum := "6bcc8fab7e0ff9a3677dd9aff0ea0fd4e465b3ac6a4237f071f3ce6fe3b13f0c", func := "missive/missivelaw02.OctetJoins", spec := "octetJoins", apart := false }
def OctetJoinsSaid : Prop := octetJoinsRow.holds Try.pinned (OpenSpec.ofChange octetJoinsSpec)

/-- ITS FALSE NEIGHBOUR: 'it returns false'. Refute it at one input. -/
def octetJoinsWrong : ChangeSpec := { name := "octetJoins", fn := fun _ => fun
  | [d] => { results := [.lit (.bool false)], args := [d] }
  | _ => none }
def OctetJoinsWrongFalsely : Prop := octetJoinsRow.holds Try.pinned (OpenSpec.ofChange octetJoinsWrong)

/-- 'missivelaw02.OctetSplits': WHATEVER THE INPUT: true; the input reads as it did. -/
def octetSplitsSpec : ChangeSpec := { name := "octetSplits", fn := fun _ => fun
  | [d] => { results := [.lit (.bool true)], args := [d] }
  | _ => none }
def octetSplitsRow : OpenClaim := { program := "ytcfecmoagfgnaaa", sum := "6bcc8fab7e0ff9a3677dd9aff0ea0fd4e465b3ac6a4237f071f3ce6fe3b13f0c", func := "missive/missivelaw02.OctetSplits", spec := "octetSplits", apart := false }
def OctetSplitsSaid : Prop := octetSplitsRow.holds Try.pinned (OpenSpec.ofChange octetSplitsSpec)

/-- ITS FALSE NEIGHBOUR: 'it returns false'. Refute it at one input. -/
def octetSplitsWrong : ChangeSpec := { name := "octetSplits", fn := fun _ => fun
  | [d] => { results := [.lit (.bool false)], args := [d] }
  | _ => none }
def OctetSplitsWrongFalsely : Prop := octetSplitsRow.holds Try.pinned (OpenSpec.ofChange octetSplitsWrong)

/-- 'missivelaw02.OctetCut': WHATEVER THE INPUT: true; the input reads as it did. -/
def octetCutSpec : ChangeSpec := { name := "octetCut", fn := fun _ => fun
  | [d1, d2, d3] => { results := [.lit (.bool true)], args := [d1, d2, d3] }
  | _ => none }
def octetCutRow : OpenClaim := { program := "ytcfecmoagfgnaaa", sum := "6bcc8fab7e0ff9a3677dd9aff0ea0fd4e465b3ac6a4237f071f3ce6fe3b13f0c", func := "missive/missivelaw02.OctetCut", spec := "octetCut", apart := false }
def OctetCutSaid : Prop := octetCutRow.holds Try.pinned (OpenSpec.ofChange octetCutSpec)

/-- ITS FALSE NEIGHBOUR: 'it returns false'. Refute it at one input. -/
def octetCutWrong : ChangeSpec := { name := "octetCut", fn := fun _ => fun
  | [d1, d2, d3] => { results := [.lit (.bool false)], args := [d1, d2, d3] }
  | _ => none }
def OctetCutWrongFalsely : Prop := octetCutRow.holds Try.pinned (OpenSpec.ofChange octetCutWrong)

/-- 'missivelaw02.OctetOwn': WHATEVER THE INPUT: true; the input reads as it did. -/
def octetOwnSpec : ChangeSpec := { name := "octetOwn", fn := fun _ => fun
  | [d] => { results := [.lit (.bool true)], args := [d] }
  | _ => none }
def octetOwnRow : OpenClaim := { program := "ytcfecmoagfgnaaa", sum := "6bcc8fab7e0ff9a3677dd9aff0ea0fd4e465b3ac6a4237f071f3ce6fe3b13f0c", func := "missive/missivelaw02.OctetOwn", spec := "octetOwn", apart := false }
def OctetOwnSaid : Prop := octetOwnRow.holds Try.pinned (OpenSpec.ofChange octetOwnSpec)

/-- ITS FALSE NEIGHBOUR: 'it returns false'. Refute it at one input. -/
def octetOwnWrong : ChangeSpec := { name := "octetOwn", fn := fun _ => fun
  | [d] => { results := [.lit (.bool false)], args := [d] }
  | _ => none }
def OctetOwnWrongFalsely : Prop := octetOwnRow.holds Try.pinned (OpenSpec.ofChange octetOwnWrong)

/-- 'missivelaw02.OctetBytes': WHATEVER THE INPUT: true; the input reads as it did. -/
def octetBytesSpec : ChangeSpec := { name := "octetBytes", fn := fun _ => fun
  | [d] => { results := [.lit (.bool true)], args := [d] }
  | _ => none }
def octetBytesRow : OpenClaim := { program := "ytcfecmoagfgnaaa", sum := "6bcc8fab7e0ff9a3677dd9aff0ea0fd4e465b3ac6a4237f071f3ce6fe3b13f0c", func := "missive/missivelaw02.OctetBytes", spec := "octetBytes", apart := false }
def OctetBytesSaid : Prop := octetBytesRow.holds Try.pinned (OpenSpec.ofChange octetBytesSpec)

/-- ITS FALSE NEIGHBOUR: 'it returns false'. Refute it at one input. -/
def octetBytesWrong : ChangeSpec := { name := "octetBytes", fn := fun _ => fun
  | [d] => { results := [.lit (.bool false)], args := [d] }
  | _ => none }
def OctetBytesWrongFalsely : Prop := octetBytesRow.holds Try.pinned (OpenSpec.ofChange octetBytesWrong)

/-- 'missivelaw24.BagRipe': WHATEVER THE INPUT: true; the input reads as it did. -/
def bagRipeSpec : ChangeSpec := { name := "bagRipe", fn := fun _ => fun
  | [d1, d2] => { results := [.lit (.bool true)], args := [d1, d2] }
  | _ => none }
def bagRipeRow : OpenClaim := { program := "ytcfecmoagfgnaaa", sum := "6bcc8fab7e0ff9a3677dd9aff0ea0fd4e465b3ac6a4237f071f3ce6fe3b13f0c", func := "missive/missivelaw24.BagRipe", spec := "bagRipe", apart := false }
def BagRipeSaid : Prop := bagRipeRow.holds Try.pinned (OpenSpec.ofChange bagRipeSpec)

/-- ITS FALSE NEIGHBOUR: 'it returns false'. Refute it at one input. -/
def bagRipeWrong : ChangeSpec := { name := "bagRipe", fn := fun _ => fun
  | [d1, d2] => { results := [.lit (.bool false)], args := [d1, d2] }
  | _ => none }
def BagRipeWrongFalsely : Prop := bagRipeRow.holds Try.pinned (OpenSpec.ofChange bagRipeWrong)

/-- 'missivelaw24.BagPlays': WHATEVER THE INPUT: true; the input reads as it did. -/
def bagPlaysSpec : ChangeSpec := { name := "bagPlays", fn := fun _ => fun
  | [d] => { results := [.lit (.bool true)], args := [d] }
  | _ => none }
def bagPlaysRow : OpenClaim := { program := "ytcfecmoagfgnaaa", sum := "6bcc8fab7e0ff9a3677dd9aff0ea0fd4e465b3ac6a4237f071f3ce6fe3b13f0c", func := "missive/missivelaw24.BagPlays", spec := "bagPlays", apart := false }
def BagPlaysSaid : Prop := bagPlaysRow.holds Try.pinned (OpenSpec.ofChange bagPlaysSpec)

/-- ITS FALSE NEIGHBOUR: 'it returns false'. Refute it at one input. -/
def bagPlaysWrong : ChangeSpec := { name := "bagPlays", fn := fun _ => fun
  | [d] => { results := [.lit (.bool false)], args := [d] }
  | _ => none }
def BagPlaysWrongFalsely : Prop := bagPlaysRow.holds Try.pinned (OpenSpec.ofChange bagPlaysWrong)

/-- 'missivelaw24.BagOwn': WHATEVER THE INPUT: true; the input reads as it did. -/
def bagOwnSpec : ChangeSpec := { name := "bagOwn", fn := fun _ => fun
  | [d1, d2, d3] => { results := [.lit (.bool true)], args := [d1, d2, d3] }
  | _ => none }
def bagOwnRow : OpenClaim := { program := "ytcfecmoagfgnaaa", sum := "6bcc8fab7e0ff9a3677dd9aff0ea0fd4e465b3ac6a4237f071f3ce6fe3b13f0c", func := "missive/missivelaw24.BagOwn", spec := "bagOwn", apart := false }
def BagOwnSaid : Prop := bagOwnRow.holds Try.pinned (OpenSpec.ofChange bagOwnSpec)

/-- ITS FALSE NEIGHBOUR: 'it returns false'. Refute it at one input. -/
def bagOwnWrong : ChangeSpec := { name := "bagOwn", fn := fun _ => fun
  | [d1, d2, d3] => { results := [.lit (.bool false)], args := [d1, d2, d3] }
  | _ => none }
def BagOwnWrongFalsely : Prop := bagOwnRow.holds Try.pinned (OpenSpec.ofChange bagOwnWrong)

/-- 'missivelaw14.WireLetters': WHATEVER THE INPUT: true; the input reads as it did. -/
def wireLettersSpec : ChangeSpec := { name := "wireLetters", fn := fun _ => fun
  | [d] => { results := [.lit (.bool true)], args := [d] }
  | _ => none }
def wireLettersRow : OpenClaim := { program := "ytcfecmoagfgnaaa", sum := "6bcc8fab7e0ff9a3677dd9aff0ea0fd4e465b3ac6a4237f071f3ce6fe3b13f0c", func := "missive/missivelaw14.WireLetters", spec := "wireLetters", apart := false }
def WireLettersSaid : Prop := wireLettersRow.holds Try.pinned (OpenSpec.ofChange wireLettersSpec)

/-- ITS FALSE NEIGHBOUR: 'it returns false'. Refute it at one input. -/
def wireLettersWrong : ChangeSpec := { name := "wireLetters", fn := fun _ => fun
  | [d] => { results := [.lit (.bool false)], args := [d] }
  | _ => none }
def WireLettersWrongFalsely : Prop := wireLettersRow.holds Try.pinned (OpenSpec.ofChange wireLettersWrong)

/-- 'missivelaw14.WireItems': WHATEVER THE INPUT: true; the input reads as it did. -/
def wireItemsSpec : ChangeSpec := { name := "wireItems", fn := fun _ => fun
  | [d] => { results := [.lit (.bool true)], args := [d] }
  | _ => none }
def wireItemsRow : OpenClaim := { program := "ytcfecmoagfgnaaa", sum := "6bcc8fab7e0ff9a3677dd9aff0ea0fd4e465b3ac6a4237f071f3ce6fe3b13f0c", func := "missive/missivelaw14.WireItems", spec := "wireItems", apart := false }
def WireItemsSaid : Prop := wireItemsRow.holds Try.pinned (OpenSpec.ofChange wireItemsSpec)

/-- ITS FALSE NEIGHBOUR: 'it returns false'. Refute it at one input. -/
def wireItemsWrong : ChangeSpec := { name := "wireItems", fn := fun _ => fun
  | [d] => { results := [.lit (.bool false)], args := [d] }
  | _ => none }
def WireItemsWrongFalsely : Prop := wireItemsRow.holds Try.pinned (OpenSpec.ofChange wireItemsWrong)

/-- 'missivelaw14.WireBundles': WHATEVER THE INPUT: true; the input reads as it did. -/
def wireBundlesSpec : ChangeSpec := { name := "wireBundles", fn := fun _ => fun
  | [d] => { results := [.lit (.bool true)], args := [d] }
  | _ => none }
def wireBundlesRow : OpenClaim := { program := "ytcfecmoagfgnaaa", sum := "6bcc8fab7e0ff9a3677dd9aff0ea0fd4e465b3ac6a4237f071f3ce6fe3b13f0c", func := "missive/missivelaw14.WireBundles", spec := "wireBundles", apart := false }
def WireBundlesSaid : Prop := wireBundlesRow.holds Try.pinned (OpenSpec.ofChange wireBundlesSpec)

/-- ITS FALSE NEIGHBOUR: 'it returns false'. Refute it at one input. -/
def wireBundlesWrong : ChangeSpec := { name := "wireBundles", fn := fun _ => fun
  | [d] => { results := [.lit (.bool false)], args := [d] }
  | _ => none }
def WireBundlesWrongFalsely : Prop := wireBundlesRow.holds Try.pinned (OpenSpec.ofChange wireBundlesWrong)

/-- 'missivelaw14.WireObjects': WHATEVER THE INPUT: true; the input reads as it did. -/
def wireObjectsSpec : ChangeSpec := { name := "wireObjects", fn := fun _ => fun
  | [d1, d2] => { results := [.lit (.bool true)], args := [d1, d2] }
  | _ => none }
def wireObjectsRow : OpenClaim := { program := "ytcfecmoagfgnaaa", sum := "6bcc8fab7e0ff9a3677dd9aff0ea0fd4e465b3ac6a4237f071f3ce6fe3b13f0c", func := "missive/missivelaw14.WireObjects", spec := "wireObjects", apart := false }
def WireObjectsSaid : Prop := wireObjectsRow.holds Try.pinned (OpenSpec.ofChange wireObjectsSpec)

/-- ITS FALSE NEIGHBOUR: 'it returns false'. Refute it at one input. -/
def wireObjectsWrong : ChangeSpec := { name := "wireObjects", fn := fun _ => fun
  | [d1, d2] => { results := [.lit (.bool false)], args := [d1, d2] }
  | _ => none }
def WireObjectsWrongFalsely : Prop := wireObjectsRow.holds Try.pinned (OpenSpec.ofChange wireObjectsWrong)

/-- 'missivelaw21.FedqTakes': WHATEVER THE INPUT: true; the input reads as it did. -/
def fedqTakesSpec : ChangeSpec := { name := "fedqTakes", fn := fun _ => fun
  | [d1, d2] => { results := [.lit (.bool true)], args := [d1, d2] }
  | _ => none }
def fedqTakesRow : OpenClaim := { program := "ytcfecmoagfgnaaa", sum := "6bcc8fab7e0ff9a3677dd9aff0ea0fd4e465b3ac6a4237f071f3ce6fe3b13f0c", func := "missive/missivelaw21.FedqTakes", spec := "fedqTakes", apart := false }
def FedqTakesSaid : Prop := fedqTakesRow.holds Try.pinned (OpenSpec.ofChange fedqTakesSpec)

/-- ITS FALSE NEIGHBOUR: 'it returns false'. Refute it at one input. -/
def fedqTakesWrong : ChangeSpec := { name := "fedqTakes", fn := fun _ => fun
  | [d1, d2] => { results := [.lit (.bool false)], args := [d1, d2] }
  | _ => none }
def FedqTakesWrongFalsely : Prop := fedqTakesRow.holds Try.pinned (OpenSpec.ofChange fedqTakesWrong)

/-- 'missivelaw14.WireCalls': WHATEVER THE INPUT: true; the input reads as it did. -/
def wireCallsSpec : ChangeSpec := { name := "wireCalls", fn := fun _ => fun
  | [d] => { results := [.lit (.bool true)], args := [d] }
  | _ => none }
def wireCallsRow : OpenClaim := { program := "ytcfecmoagfgnaaa", sum := "6bcc8fab7e0ff9a3677dd9aff0ea0fd4e465b3ac6a4237f071f3ce6fe3b13f0c", func := "missive/missivelaw14.WireCalls", spec := "wireCalls", apart := false }
def WireCallsSaid : Prop := wireCallsRow.holds Try.pinned (OpenSpec.ofChange wireCallsSpec)

/-- ITS FALSE NEIGHBOUR: 'it returns false'. Refute it at one input. -/
def wireCallsWrong : ChangeSpec := { name := "wireCalls", fn := fun _ => fun
  | [d] => { results := [.lit (.bool false)], args := [d] }
  | _ => none }
def WireCallsWrongFalsely : Prop := wireCallsRow.holds Try.pinned (OpenSpec.ofChange wireCallsWrong)

/-- 'missivelaw14.WireTurned': WHATEVER THE INPUT: true; the input reads as it did. -/
def wireTurnedSpec : ChangeSpec := { name := "wireTurned", fn := fun _ => fun
  | [d1, d2, d3] => { results := [.lit (.bool true)], args := [d1, d2, d3] }
  | _ => none }
def wireTurnedRow : OpenClaim := { program := "ytcfecmoagfgnaaa", sum := "6bcc8fab7e0ff9a3677dd9aff0ea0fd4e465b3ac6a4237f071f3ce6fe3b13f0c", func := "missive/missivelaw14.WireTurned", spec := "wireTurned", apart := false }
def WireTurnedSaid : Prop := wireTurnedRow.holds Try.pinned (OpenSpec.ofChange wireTurnedSpec)

/-- ITS FALSE NEIGHBOUR: 'it returns false'. Refute it at one input. -/
def wireTurnedWrong : ChangeSpec := { name := "wireTurned", fn := fun _ => fun
  | [d1, d2, d3] => { results := [.lit (.bool false)], args := [d1, d2, d3] }
  | _ => none }
def WireTurnedWrongFalsely : Prop := wireTurnedRow.holds Try.pinned (OpenSpec.ofChange wireTurnedWrong)

/-- 'missivelaw14.WireReplies': WHATEVER THE INPUT: true; the input reads as it did. -/
def wireRepliesSpec : ChangeSpec := { name := "wireReplies", fn := fun _ => fun
  | [d] => { results := [.lit (.bool true)], args := [d] }
  | _ => none }
def wireRepliesRow : OpenClaim := { program := "ytcfecmoagfgnaaa", sum := "6bcc8fab7e0ff9a3677dd9aff0ea0fd4e465b3ac6a4237f071f3ce6fe3b13f0c", func := "missive/missivelaw14.WireReplies", spec := "wireReplies", apart := false }
def WireRepliesSaid : Prop := wireRepliesRow.holds Try.pinned (OpenSpec.ofChange wireRepliesSpec)

/-- ITS FALSE NEIGHBOUR: 'it returns false'. Refute it at one input. -/
def wireRepliesWrong : ChangeSpec := { name := "wireReplies", fn := fun _ => fun
  | [d] => { results := [.lit (.bool false)], args := [d] }
  | _ => none }
def WireRepliesWrongFalsely : Prop := wireRepliesRow.holds Try.pinned (OpenSpec.ofChange wireRepliesWrong)

/-- 'missivelaw14.WirePackets': WHATEVER THE INPUT: true; the input reads as it did. -/
def wirePacketsSpec : ChangeSpec := { name := "wirePackets", fn := fun _ => fun
  | [d] => { results := [.lit (.bool true)], args := [d] }
  | _ => none }
def wirePacketsRow : OpenClaim := { program := "ytcfecmoagfgnaaa", sum := "6bcc8fab7e0ff9a3677dd9aff0ea0fd4e465b3ac6a4237f071f3ce6fe3b13f0c", func := "missive/missivelaw14.WirePackets", spec := "wirePackets", apart := false }
def WirePacketsSaid : Prop := wirePacketsRow.holds Try.pinned (OpenSpec.ofChange wirePacketsSpec)

/-- ITS FALSE NEIGHBOUR: 'it returns false'. Refute it at one input. -/
def wirePacketsWrong : ChangeSpec := { name := "wirePackets", fn := fun _ => fun
  | [d] => { results := [.lit (.bool false)], args := [d] }
  | _ => none }
def WirePacketsWrongFalsely : Prop := wirePacketsRow.holds Try.pinned (OpenSpec.ofChange wirePacketsWrong)

/-- 'missivelaw14.WireReads': WHATEVER THE INPUT: true; the input reads as it did. -/
def wireReadsSpec : ChangeSpec := { name := "wireReads", fn := fun _ => fun
  | [d] => { results := [.lit (.bool true)], args := [d] }
  | _ => none }
def wireReadsRow : OpenClaim := { program := "ytcfecmoagfgnaaa", sum := "6bcc8fab7e0ff9a3677dd9aff0ea0fd4e465b3ac6a4237f071f3ce6fe3b13f0c", func := "missive/missivelaw14.WireReads", spec := "wireReads", apart := false }
def WireReadsSaid : Prop := wireReadsRow.holds Try.pinned (OpenSpec.ofChange wireReadsSpec)

/-- ITS FALSE NEIGHBOUR: 'it returns false'. Refute it at one input. -/
def wireReadsWrong : ChangeSpec := { name := "wireReads", fn := fun _ => fun
  | [d] => { results := [.lit (.bool false)], args := [d] }
  | _ => none }
def WireReadsWrongFalsely : Prop := wireReadsRow.holds Try.pinned (OpenSpec.ofChange wireReadsWrong)

/-- 'missivelaw21.FedqRows': WHATEVER THE INPUT: true; the input reads as it did. -/
def fedqRowsSpec : ChangeSpec := { name := "fedqRows", fn := fun _ => fun
  | [d1, d2] => { results := [.lit (.bool true)], args := [d1, d2] }
  | _ => none }
def fedqRowsRow : OpenClaim := { program := "ytcfecmoagfgnaaa", sum := "6bcc8fab7e0ff9a3677dd9aff0ea0fd4e465b3ac6a4237f071f3ce6fe3b13f0c", func := "missive/missivelaw21.FedqRows", spec := "fedqRows", unfollowed := true, recurses := true, apart := false }
def FedqRowsSaid : Prop := fedqRowsRow.holds Try.pinned (OpenSpec.ofChange fedqRowsSpec)

/-- ITS FALSE NEIGHBOUR: 'it returns false'. Refute it at one input. -/
def fedqRowsWrong : ChangeSpec := { name := "fedqRows", fn := fun _ => fun
  | [d1, d2] => { results := [.lit (.bool false)], args := [d1, d2] }
  | _ => none }
def FedqRowsWrongFalsely : Prop := fedqRowsRow.holds Try.pinned (OpenSpec.ofChange fedqRowsWrong)

/-- 'missivelaw21.FedqLoads': WHATEVER THE INPUT: true; the input reads as it did. -/
def fedqLoadsSpec : ChangeSpec := { name := "fedqLoads", fn := fun _ => fun
  | [d1, d2] => { results := [.lit (.bool true)], args := [d1, d2] }
  | _ => none }
def fedqLoadsRow : OpenClaim := { program := "ytcfecmoagfgnaaa", sum := "6bcc8fab7e0ff9a3677dd9aff0ea0fd4e465b3ac6a4237f071f3ce6fe3b13f0c", func := "missive/missivelaw21.FedqLoads", spec := "fedqLoads", unfollowed := true, recurses := true, apart := false }
def FedqLoadsSaid : Prop := fedqLoadsRow.holds Try.pinned (OpenSpec.ofChange fedqLoadsSpec)

/-- ITS FALSE NEIGHBOUR: 'it returns false'. Refute it at one input. -/
def fedqLoadsWrong : ChangeSpec := { name := "fedqLoads", fn := fun _ => fun
  | [d1, d2] => { results := [.lit (.bool false)], args := [d1, d2] }
  | _ => none }
def FedqLoadsWrongFalsely : Prop := fedqLoadsRow.holds Try.pinned (OpenSpec.ofChange fedqLoadsWrong)

/- THE SECOND FORM. 'bulk': how many values and letters a reading holds, each counted each time it is reached (what is shared counts as often as it is met; a slice's spare places count too). A statement '..UptoSaid' is the law's where the arguments, and the package variables that the reading takes, are together of bulk at most 1048576: NARROWER than '..Said'. Prove '..Said' where nothing that the law and all that it calls make is longer than what came in: it says more and counts as full. Else prove '..UptoSaid'. A law counts once. -/
mutual
def uptoBulk {H : Type} : DataW H → Nat
  | .lit (.string bytes) => bytes.length + 1
  | .lit _ => 1
  | .nil => 1
  | .ptr d => uptoBulk d + 1
  | .slice elems spare => uptoBulkAll elems + uptoBulkAll spare + 1
  | .agg parts => uptoBulkAll parts + 1
  | .iface _ d => uptoBulk d + 1
  | .map entries => uptoBulkEntries entries + 1
  | .held _ => 1
def uptoBulkAll {H : Type} : List (DataW H) → Nat
  | [] => 0
  | d :: r => uptoBulk d + uptoBulkAll r
def uptoBulkEntries {H : Type} : List (Lit × DataW H) → Nat
  | [] => 0
  | x :: r => uptoBulkEntry x + uptoBulkEntries r
def uptoBulkEntry {H : Type} : Lit × DataW H → Nat
  | (.string bytes, d) => bytes.length + uptoBulk d + 1
  | (_, d) => uptoBulk d + 1
 end
def uptoSmall : (H : Type) → List (DataW H) → Bool := fun _ ds => decide (uptoBulkAll ds ≤ 1048576)
def OpenSpec.upto (s : _root_.Go.ChangeSpec) : _root_.Go.OpenSpec := { _root_.Go.OpenSpec.ofChange s with cond := some uptoSmall }

/-- 'missivelaw02.OctetNumbers', WHERE WHAT IT READS IS OF BULK AT MOST 1048576: true; the input reads as it did. -/
def octetNumbersUptoRow : OpenClaim := { program := "ytcfecmoagfgnaaa", sum := "6bcc8fab7e0ff9a3677dd9aff0ea0fd4e465b3ac6a4237f071f3ce6fe3b13f0c", func := "missive/missivelaw02.OctetNumbers", spec := "octetNumbers", apart := false, narrowed := true }
def OctetNumbersUptoSaid : Prop := octetNumbersUptoRow.holds Try.pinned (OpenSpec.upto octetNumbersSpec)

/-- 'missivelaw02.OctetJoins', WHERE WHAT IT READS IS OF BULK AT MOST 1048576: true; the input reads as it did. -/
def octetJoinsUptoRow : OpenClaim := { program := "ytcfecmoagfgnaaa", sum := "6bcc8fab7e0ff9a3677dd9aff0ea0fd4e465b3ac6a4237f071f3ce6fe3b13f0c", func := "missive/missivelaw02.OctetJoins", spec := "octetJoins", apart := false, narrowed := true }
def OctetJoinsUptoSaid : Prop := octetJoinsUptoRow.holds Try.pinned (OpenSpec.upto octetJoinsSpec)

/-- 'missivelaw02.OctetSplits', WHERE WHAT IT READS IS OF BULK AT MOST 1048576: true; the input reads as it did. -/
def octetSplitsUptoRow : OpenClaim := { program := "ytcfecmoagfgnaaa", sum := "6bcc8fab7e0ff9a3677dd9aff0ea0fd4e465b3ac6a4237f071f3ce6fe3b13f0c", func := "missive/missivelaw02.OctetSplits", spec := "octetSplits", apart := false, narrowed := true }
def OctetSplitsUptoSaid : Prop := octetSplitsUptoRow.holds Try.pinned (OpenSpec.upto octetSplitsSpec)

/-- 'missivelaw02.OctetCut', WHERE WHAT IT READS IS OF BULK AT MOST 1048576: true; the input reads as it did. -/
def octetCutUptoRow : OpenClaim := { program := "ytcfecmoagfgnaaa", sum := "6bcc8fab7e0ff9a3677dd9aff0ea0fd4e465b3ac6a4237f071f3ce6fe3b13f0c", func := "missive/missivelaw02.OctetCut", spec := "octetCut", apart := false, narrowed := true }
def OctetCutUptoSaid : Prop := octetCutUptoRow.holds Try.pinned (OpenSpec.upto octetCutSpec)

/-- 'missivelaw02.OctetOwn', WHERE WHAT IT READS IS OF BULK AT MOST 1048576: true; the input reads as it did. -/
def octetOwnUptoRow : OpenClaim := { program := "ytcfecmoagfgnaaa", sum := "6bcc8fab7e0ff9a3677dd9aff0ea0fd4e465b3ac6a4237f071f3ce6fe3b13f0c", func := "missive/missivelaw02.OctetOwn", spec := "octetOwn", apart := false, narrowed := true }
def OctetOwnUptoSaid : Prop := octetOwnUptoRow.holds Try.pinned (OpenSpec.upto octetOwnSpec)

/-- 'missivelaw02.OctetBytes', WHERE WHAT IT READS IS OF BULK AT MOST 1048576: true; the input reads as it did. -/
def octetBytesUptoRow : OpenClaim := { program := "ytcfecmoagfgnaaa", sum := "6bcc8fab7e0ff9a3677dd9aff0ea0fd4e465b3ac6a4237f071f3ce6fe3b13f0c", func := "missive/missivelaw02.OctetBytes", spec := "octetBytes", apart := false, narrowed := true }
def OctetBytesUptoSaid : Prop := octetBytesUptoRow.holds Try.pinned (OpenSpec.upto octetBytesSpec)

/-- 'missivelaw24.BagRipe', WHERE WHAT IT READS IS OF BULK AT MOST 1048576: true; the input reads as it did. -/
def bagRipeUptoRow : OpenClaim := { program := "ytcfecmoagfgnaaa", sum := "6bcc8fab7e0ff9a3677dd9aff0ea0fd4e465b3ac6a4237f071f3ce6fe3b13f0c", func := "missive/missivelaw24.BagRipe", spec := "bagRipe", apart := false, narrowed := true }
def BagRipeUptoSaid : Prop := bagRipeUptoRow.holds Try.pinned (OpenSpec.upto bagRipeSpec)

/-- 'missivelaw24.BagPlays', WHERE WHAT IT READS IS OF BULK AT MOST 1048576: true; the input reads as it did. -/
def bagPlaysUptoRow : OpenClaim := { program := "ytcfecmoagfgnaaa", sum := "6bcc8fab7e0ff9a3677dd9aff0ea0fd4e465b3ac6a4237f071f3ce6fe3b13f0c", func := "missive/missivelaw24.BagPlays", spec := "bagPlays", apart := false, narrowed := true }
def BagPlaysUptoSaid : Prop := bagPlaysUptoRow.holds Try.pinned (OpenSpec.upto bagPlaysSpec)

/-- 'missivelaw24.BagOwn', WHERE WHAT IT READS IS OF BULK AT MOST 1048576: true; the input reads as it did. -/
def bagOwnUptoRow : OpenClaim := { program := "ytcfecmoagfgnaaa", sum := "6bcc8fab7e0ff9a3677dd9aff0ea0fd4e465b3ac6a4237f071f3ce6fe3b13f0c", func := "missive/missivelaw24.BagOwn", spec := "bagOwn", apart := false, narrowed := true }
def BagOwnUptoSaid : Prop := bagOwnUptoRow.holds Try.pinned (OpenSpec.upto bagOwnSpec)

/-- 'missivelaw14.WireLetters', WHERE WHAT IT READS IS OF BULK AT MOST 1048576: true; the input reads as it did. -/
def wireLettersUptoRow : OpenClaim := { program := "ytcfecmoagfgnaaa", sum := "6bcc8fab7e0ff9a3677dd9aff0ea0fd4e465b3ac6a4237f071f3ce6fe3b13f0c", func := "missive/missivelaw14.WireLetters", spec := "wireLetters", apart := false, narrowed := true }
def WireLettersUptoSaid : Prop := wireLettersUptoRow.holds Try.pinned (OpenSpec.upto wireLettersSpec)

/-- 'missivelaw14.WireItems', WHERE WHAT IT READS IS OF BULK AT MOST 1048576: true; the input reads as it did. -/
def wireItemsUptoRow : OpenClaim := { program := "ytcfecmoagfgnaaa", sum := "6bcc8fab7e0ff9a3677dd9aff0ea0fd4e465b3ac6a4237f071f3ce6fe3b13f0c", func := "missive/missivelaw14.WireItems", spec := "wireItems", apart := false, narrowed := true }
def WireItemsUptoSaid : Prop := wireItemsUptoRow.holds Try.pinned (OpenSpec.upto wireItemsSpec)

/-- 'missivelaw14.WireBundles', WHERE WHAT IT READS IS OF BULK AT MOST 1048576: true; the input reads as it did. -/
def wireBundlesUptoRow : OpenClaim := { program := "ytcfecmoagfgnaaa", sum := "6bcc8fab7e0ff9a3677dd9aff0ea0fd4e465b3ac6a4237f071f3ce6fe3b13f0c", func := "missive/missivelaw14.WireBundles", spec := "wireBundles", apart := false, narrowed := true }
def WireBundlesUptoSaid : Prop := wireBundlesUptoRow.holds Try.pinned (OpenSpec.upto wireBundlesSpec)

/-- 'missivelaw14.WireObjects', WHERE WHAT IT READS IS OF BULK AT MOST 1048576: true; the input reads as it did. -/
def wireObjectsUptoRow : OpenClaim := { program := "ytcfecmoagfgnaaa", sum := "6bcc8fab7e0ff9a3677dd9aff0ea0fd4e465b3ac6a4237f071f3ce6fe3b13f0c", func := "missive/missivelaw14.WireObjects", spec := "wireObjects", apart := false, narrowed := true }
def WireObjectsUptoSaid : Prop := wireObjectsUptoRow.holds Try.pinned (OpenSpec.upto wireObjectsSpec)

/-- 'missivelaw21.FedqTakes', WHERE WHAT IT READS IS OF BULK AT MOST 1048576: true; the input reads as it did. -/
def fedqTakesUptoRow : OpenClaim := { program := "ytcfecmoagfgnaaa", sum := "6bcc8fab7e0ff9a3677dd9aff0ea0fd4e465b3ac6a4237f071f3ce6fe3b13f0c", func := "missive/missivelaw21.FedqTakes", spec := "fedqTakes", apart := false, narrowed := true }
def FedqTakesUptoSaid : Prop := fedqTakesUptoRow.holds Try.pinned (OpenSpec.upto fedqTakesSpec)

/-- 'missivelaw14.WireCalls', WHERE WHAT IT READS IS OF BULK AT MOST 1048576: true; the input reads as it did. -/
def wireCallsUptoRow : OpenClaim := { program := "ytcfecmoagfgnaaa", sum := "6bcc8fab7e0ff9a3677dd9aff0ea0fd4e465b3ac6a4237f071f3ce6fe3b13f0c", func := "missive/missivelaw14.WireCalls", spec := "wireCalls", apart := false, narrowed := true }
def WireCallsUptoSaid : Prop := wireCallsUptoRow.holds Try.pinned (OpenSpec.upto wireCallsSpec)

/-- 'missivelaw14.WireTurned', WHERE WHAT IT READS IS OF BULK AT MOST 1048576: true; the input reads as it did. -/
def wireTurnedUptoRow : OpenClaim := { program := "ytcfecmoagfgnaaa", sum := "6bcc8fab7e0ff9a3677dd9aff0ea0fd4e465b3ac6a4237f071f3ce6fe3b13f0c", func := "missive/missivelaw14.WireTurned", spec := "wireTurned", apart := false, narrowed := true }
def WireTurnedUptoSaid : Prop := wireTurnedUptoRow.holds Try.pinned (OpenSpec.upto wireTurnedSpec)

/-- 'missivelaw14.WireReplies', WHERE WHAT IT READS IS OF BULK AT MOST 1048576: true; the input reads as it did. -/
def wireRepliesUptoRow : OpenClaim := { program := "ytcfecmoagfgnaaa", sum := "6bcc8fab7e0ff9a3677dd9aff0ea0fd4e465b3ac6a4237f071f3ce6fe3b13f0c", func := "missive/missivelaw14.WireReplies", spec := "wireReplies", apart := false, narrowed := true }
def WireRepliesUptoSaid : Prop := wireRepliesUptoRow.holds Try.pinned (OpenSpec.upto wireRepliesSpec)

/-- 'missivelaw14.WirePackets', WHERE WHAT IT READS IS OF BULK AT MOST 1048576: true; the input reads as it did. -/
def wirePacketsUptoRow : OpenClaim := { program := "ytcfecmoagfgnaaa", sum := "6bcc8fab7e0ff9a3677dd9aff0ea0fd4e465b3ac6a4237f071f3ce6fe3b13f0c", func := "missive/missivelaw14.WirePackets", spec := "wirePackets", apart := false, narrowed := true }
def WirePacketsUptoSaid : Prop := wirePacketsUptoRow.holds Try.pinned (OpenSpec.upto wirePacketsSpec)

/-- 'missivelaw14.WireReads', WHERE WHAT IT READS IS OF BULK AT MOST 1048576: true; the input reads as it did. -/
def wireReadsUptoRow : OpenClaim := { program := "ytcfecmoagfgnaaa", sum := "6bcc8fab7e0ff9a3677dd9aff0ea0fd4e465b3ac6a4237f071f3ce6fe3b13f0c", func := "missive/missivelaw14.WireReads", spec := "wireReads", apart := false, narrowed := true }
def WireReadsUptoSaid : Prop := wireReadsUptoRow.holds Try.pinned (OpenSpec.upto wireReadsSpec)

/-- 'missivelaw21.FedqRows', WHERE WHAT IT READS IS OF BULK AT MOST 1048576: true; the input reads as it did. -/
def fedqRowsUptoRow : OpenClaim := { program := "ytcfecmoagfgnaaa", sum := "6bcc8fab7e0ff9a3677dd9aff0ea0fd4e465b3ac6a4237f071f3ce6fe3b13f0c", func := "missive/missivelaw21.FedqRows", spec := "fedqRows", unfollowed := true, recurses := true, apart := false, narrowed := true }
def FedqRowsUptoSaid : Prop := fedqRowsUptoRow.holds Try.pinned (OpenSpec.upto fedqRowsSpec)

/-- 'missivelaw21.FedqLoads', WHERE WHAT IT READS IS OF BULK AT MOST 1048576: true; the input reads as it did. -/
def fedqLoadsUptoRow : OpenClaim := { program := "ytcfecmoagfgnaaa", sum := "6bcc8fab7e0ff9a3677dd9aff0ea0fd4e465b3ac6a4237f071f3ce6fe3b13f0c", func := "missive/missivelaw21.FedqLoads", spec := "fedqLoads", unfollowed := true, recurses := true, apart := false, narrowed := true }
def FedqLoadsUptoSaid : Prop := fedqLoadsUptoRow.holds Try.pinned (OpenSpec.upto fedqLoadsSpec)

end Rows
end Go.Proofs.Ytcfecmoagfgnaaa
