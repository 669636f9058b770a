/- The dump's head, taken apart once: its kernel's run is long. -/
import Derived.Test.YtmhmhdnbobllfaaFr
import Derived.Test.YtmhmhdnbobllfaaRows
set_option maxRecDepth 100000
namespace Go.Proofs.Ytmhmhdnbobllfaa
open Go

def signs : List Char := [104, 97, 114, 110, 101, 115, 115, 32, 55, 102, 99, 55, 98, 56, 51, 50, 100, 55, 49, 54, 99, 52, 54, 56, 54, 54, 102, 51, 57, 54, 56, 51, 101, 100, 55, 48, 97, 54, 49, 102, 99, 55, 50, 51, 50, 56, 57, 101, 56, 102, 98, 56, 50, 49, 51, 48, 102, 53, 99, 98, 102, 97, 55, 55, 53, 52, 56, 49, 53, 98, 101, 56, 32, 99, 117, 116, 32, 97, 116, 32, 109, 105, 115, 115, 105, 118, 101, 47, 109, 105, 115, 115, 105, 118, 101, 108, 97, 119, 48, 49, 46, 80, 108, 97, 110, 101, 83, 112, 111, 116, 115, 32, 109, 105, 115, 115, 105, 118, 101, 47, 109, 105, 115, 115, 105, 118, 101, 108, 97, 119, 48, 49, 46, 80, 108, 97, 110, 101, 83, 116, 101, 112, 115].map Char.ofNat
def words : List (List Char) := [[104, 97, 114, 110, 101, 115, 115], [55, 102, 99, 55, 98, 56, 51, 50, 100, 55, 49, 54, 99, 52, 54, 56, 54, 54, 102, 51, 57, 54, 56, 51, 101, 100, 55, 48, 97, 54, 49, 102, 99, 55, 50, 51, 50, 56, 57, 101, 56, 102, 98, 56, 50, 49, 51, 48, 102, 53, 99, 98, 102, 97, 55, 55, 53, 52, 56, 49, 53, 98, 101, 56], [99, 117, 116], [97, 116], [109, 105, 115, 115, 105, 118, 101, 47, 109, 105, 115, 115, 105, 118, 101, 108, 97, 119, 48, 49, 46, 80, 108, 97, 110, 101, 83, 112, 111, 116, 115], [109, 105, 115, 115, 105, 118, 101, 47, 109, 105, 115, 115, 105, 118, 101, 108, 97, 119, 48, 49, 46, 80, 108, 97, 110, 101, 83, 116, 101, 112, 115]].map (List.map Char.ofNat)
theorem signs_is : Try.prog.initOrder.toList = signs := String.toList_ofList (l := signs)
theorem words_is : wordsSigns Try.prog.initOrder.toList = words := by rw [signs_is]; kernel_rfl
theorem mayEnter_is : Try.prog.mayEnter = true := by unfold Program.mayEnter; rw [words_is]; kernel_rfl
theorem headLifts_is : Try.prog.headLifts = [] := by unfold Program.headLifts; rw [words_is]; kernel_rfl
theorem liftsFinal_is : Try.prog.liftsFinal = Rows.planeSpotsRow.lifted := by unfold Program.liftsFinal; rw [words_is, headLifts_is]; kernel_rfl
theorem make_is : Try.prog.make = some Rows.planeSpotsRow.make := by unfold Program.make; rw [words_is, headLifts_is]; kernel_rfl
end Go.Proofs.Ytmhmhdnbobllfaa
