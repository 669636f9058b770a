/- What the walks want of the program's tables of types: closed facts, written by a program. -/
import Derived.Test.YtmhmhdnbobllfaaRows
import Derived.Test.YtmhmhdnbobllfaaVcRow
namespace Go.Proofs.Ytmhmhdnbobllfaa
open Go.Vc

theorem kd3 : kindOf Try.prog 3 = some none := by kernel_rfl
theorem sz34 : (Try.prog.info? 3).map (·.size) = some 1 := by kernel_rfl
theorem el34 : Elem Try.prog 34 3 1 8 (.int .i64 0) := ⟨Try.underlying34, by kernel_rfl, by kernel_rfl, rfl, by decide⟩
end Go.Proofs.Ytmhmhdnbobllfaa
