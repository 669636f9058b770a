/- What the walks want of the program's tables of types: closed facts, written by a program. -/
import Derived.Test.YtcfecmoagfgnaaaRows
import Derived.Test.YtcfecmoagfgnaaaVcRow
namespace Go.Proofs.Ytcfecmoagfgnaaa
open Go.Vc

theorem kd3 : kindOf Try.prog 3 = some none := by kernel_rfl
theorem kd4 : kindOf Try.prog 4 = some none := by kernel_rfl
theorem kd5 : kindOf Try.prog 5 = some none := by kernel_rfl
theorem kd9 : kindOf Try.prog 9 = some none := by kernel_rfl
theorem kd24 : kindOf Try.prog 24 = some none := by kernel_rfl
theorem kd31 : kindOf Try.prog 31 = some none := by kernel_rfl
theorem kd35 : kindOf Try.prog 35 = some none := by kernel_rfl
theorem kd43 : kindOf Try.prog 43 = some (some 32) := by kernel_rfl
theorem kd44 : kindOf Try.prog 44 = some (some 32) := by kernel_rfl
theorem kd48 : kindOf Try.prog 48 = some none := by kernel_rfl
theorem kd50 : kindOf Try.prog 50 = some (some 4) := by kernel_rfl
theorem kd57 : kindOf Try.prog 57 = some (some 6) := by kernel_rfl
theorem kd68 : kindOf Try.prog 68 = some none := by kernel_rfl
theorem kd70 : kindOf Try.prog 70 = some (some 164) := by kernel_rfl
theorem kd72 : kindOf Try.prog 72 = some (some 167) := by kernel_rfl
theorem kd79 : kindOf Try.prog 79 = some (some 64) := by kernel_rfl
theorem kd80 : kindOf Try.prog 80 = some (some 64) := by kernel_rfl
theorem kd82 : kindOf Try.prog 82 = some (some 162) := by kernel_rfl
theorem kd83 : kindOf Try.prog 83 = some none := by kernel_rfl
theorem kd85 : kindOf Try.prog 85 = some (some 101) := by kernel_rfl
theorem kd87 : kindOf Try.prog 87 = some (some 433) := by kernel_rfl
theorem kd108 : kindOf Try.prog 108 = some none := by kernel_rfl
theorem kd110 : kindOf Try.prog 110 = some (some 172) := by kernel_rfl
theorem kd116 : kindOf Try.prog 116 = some none := by kernel_rfl
theorem kd118 : kindOf Try.prog 118 = some (some 69) := by kernel_rfl
theorem kd126 : kindOf Try.prog 126 = some none := by kernel_rfl
theorem kd128 : kindOf Try.prog 128 = some (some 4) := by kernel_rfl
theorem kd132 : kindOf Try.prog 132 = some (some 2) := by kernel_rfl
theorem kd157 : kindOf Try.prog 157 = some (some 5) := by kernel_rfl
theorem kd167 : kindOf Try.prog 167 = some (some 3) := by kernel_rfl
theorem kd181 : kindOf Try.prog 181 = some (some 2) := by kernel_rfl
theorem kd196 : kindOf Try.prog 196 = some (some 2) := by kernel_rfl
theorem kd202 : kindOf Try.prog 202 = some (some 65) := by kernel_rfl
theorem kd216 : kindOf Try.prog 216 = some (some 2) := by kernel_rfl
theorem sz24 : (Try.prog.info? 5).map (·.size) = some 1 := by kernel_rfl
theorem el24 : Elem Try.prog 24 5 1 1 (.int .u8 0) := ⟨Try.underlying24, by kernel_rfl, by kernel_rfl, rfl, by decide⟩
theorem sz31 : (Try.prog.info? 24).map (·.size) = some 1 := by kernel_rfl
theorem el31 : Elem Try.prog 31 24 1 24 (.slice none 0 0) := ⟨Try.underlying31, by kernel_rfl, by kernel_rfl, rfl, by decide⟩
theorem sz47 : (Try.prog.info? 50).map (·.size) = some 4 := by kernel_rfl
theorem sz55 : (Try.prog.info? 57).map (·.size) = some 6 := by kernel_rfl
theorem sz83 : (Try.prog.info? 202).map (·.size) = some 65 := by kernel_rfl
theorem sz108 : (Try.prog.info? 82).map (·.size) = some 162 := by kernel_rfl
theorem sz116 : (Try.prog.info? 85).map (·.size) = some 101 := by kernel_rfl
theorem sz126 : (Try.prog.info? 87).map (·.size) = some 433 := by kernel_rfl
theorem sz158 : (Try.prog.info? 167).map (·.size) = some 3 := by kernel_rfl
theorem sz224 : (Try.prog.info? 126).map (·.size) = some 1 := by kernel_rfl
theorem el224 : Elem Try.prog 224 126 1 24 (.slice none 0 0) := ⟨Try.underlying224, by kernel_rfl, by kernel_rfl, rfl, by decide⟩
theorem sz225 : (Try.prog.info? 9).map (·.size) = some 1 := by kernel_rfl
theorem el225 : Elem Try.prog 225 9 1 16 (.string ByteArray.empty) := ⟨Try.underlying225, by kernel_rfl, by kernel_rfl, rfl, by decide⟩
theorem sz234 : (Try.prog.info? 3).map (·.size) = some 1 := by kernel_rfl
theorem el234 : Elem Try.prog 234 3 1 8 (.int .i64 0) := ⟨Try.underlying234, by kernel_rfl, by kernel_rfl, rfl, by decide⟩
theorem fo50_0 : fieldOff Try.prog 50 0 = some 0 := by kernel_rfl
theorem fo50_1 : fieldOff Try.prog 50 1 = some 1 := by kernel_rfl
theorem fo50_2 : fieldOff Try.prog 50 2 = some 2 := by kernel_rfl
theorem fo50_3 : fieldOff Try.prog 50 3 = some 3 := by kernel_rfl
theorem fo57_0 : fieldOff Try.prog 57 0 = some 0 := by kernel_rfl
theorem fo57_1 : fieldOff Try.prog 57 1 = some 1 := by kernel_rfl
theorem fo57_2 : fieldOff Try.prog 57 2 = some 2 := by kernel_rfl
theorem fo57_3 : fieldOff Try.prog 57 3 = some 3 := by kernel_rfl
theorem fo57_4 : fieldOff Try.prog 57 4 = some 4 := by kernel_rfl
theorem fo57_5 : fieldOff Try.prog 57 5 = some 5 := by kernel_rfl
theorem fo70_0 : fieldOff Try.prog 70 0 = some 0 := by kernel_rfl
theorem fo70_1 : fieldOff Try.prog 70 1 = some 32 := by kernel_rfl
theorem fo70_2 : fieldOff Try.prog 70 2 = some 33 := by kernel_rfl
theorem fo70_3 : fieldOff Try.prog 70 3 = some 65 := by kernel_rfl
theorem fo70_4 : fieldOff Try.prog 70 4 = some 97 := by kernel_rfl
theorem fo70_5 : fieldOff Try.prog 70 5 = some 129 := by kernel_rfl
theorem fo70_6 : fieldOff Try.prog 70 6 = some 130 := by kernel_rfl
theorem fo70_7 : fieldOff Try.prog 70 7 = some 162 := by kernel_rfl
theorem fo70_8 : fieldOff Try.prog 70 8 = some 163 := by kernel_rfl
theorem fo72_0 : fieldOff Try.prog 72 0 = some 0 := by kernel_rfl
theorem fo72_1 : fieldOff Try.prog 72 1 = some 1 := by kernel_rfl
theorem fo72_2 : fieldOff Try.prog 72 2 = some 2 := by kernel_rfl
theorem fo72_3 : fieldOff Try.prog 72 3 = some 166 := by kernel_rfl
theorem fo82_0 : fieldOff Try.prog 82 0 = some 0 := by kernel_rfl
theorem fo82_1 : fieldOff Try.prog 82 1 = some 1 := by kernel_rfl
theorem fo82_2 : fieldOff Try.prog 82 2 = some 33 := by kernel_rfl
theorem fo82_3 : fieldOff Try.prog 82 3 = some 65 := by kernel_rfl
theorem fo82_4 : fieldOff Try.prog 82 4 = some 66 := by kernel_rfl
theorem fo82_5 : fieldOff Try.prog 82 5 = some 98 := by kernel_rfl
theorem fo85_0 : fieldOff Try.prog 85 0 = some 0 := by kernel_rfl
theorem fo85_1 : fieldOff Try.prog 85 1 = some 1 := by kernel_rfl
theorem fo85_2 : fieldOff Try.prog 85 2 = some 2 := by kernel_rfl
theorem fo85_3 : fieldOff Try.prog 85 3 = some 34 := by kernel_rfl
theorem fo85_4 : fieldOff Try.prog 85 4 = some 35 := by kernel_rfl
theorem fo85_5 : fieldOff Try.prog 85 5 = some 36 := by kernel_rfl
theorem fo85_6 : fieldOff Try.prog 85 6 = some 100 := by kernel_rfl
theorem fo87_0 : fieldOff Try.prog 87 0 = some 0 := by kernel_rfl
theorem fo87_1 : fieldOff Try.prog 87 1 = some 1 := by kernel_rfl
theorem fo87_2 : fieldOff Try.prog 87 2 = some 2 := by kernel_rfl
theorem fo87_3 : fieldOff Try.prog 87 3 = some 3 := by kernel_rfl
theorem fo87_4 : fieldOff Try.prog 87 4 = some 170 := by kernel_rfl
theorem fo87_5 : fieldOff Try.prog 87 5 = some 332 := by kernel_rfl
theorem fo110_0 : fieldOff Try.prog 110 0 = some 0 := by kernel_rfl
theorem fo110_1 : fieldOff Try.prog 110 1 = some 1 := by kernel_rfl
theorem fo110_2 : fieldOff Try.prog 110 2 = some 2 := by kernel_rfl
theorem fo110_3 : fieldOff Try.prog 110 3 = some 3 := by kernel_rfl
theorem fo110_4 : fieldOff Try.prog 110 4 = some 4 := by kernel_rfl
theorem fo110_5 : fieldOff Try.prog 110 5 = some 5 := by kernel_rfl
theorem fo118_0 : fieldOff Try.prog 118 0 = some 0 := by kernel_rfl
theorem fo118_1 : fieldOff Try.prog 118 1 = some 1 := by kernel_rfl
theorem fo118_2 : fieldOff Try.prog 118 2 = some 2 := by kernel_rfl
theorem fo118_3 : fieldOff Try.prog 118 3 = some 3 := by kernel_rfl
theorem fo118_4 : fieldOff Try.prog 118 4 = some 4 := by kernel_rfl
theorem fo118_5 : fieldOff Try.prog 118 5 = some 5 := by kernel_rfl
theorem fo128_0 : fieldOff Try.prog 128 0 = some 0 := by kernel_rfl
theorem fo128_1 : fieldOff Try.prog 128 1 = some 1 := by kernel_rfl
theorem fo128_2 : fieldOff Try.prog 128 2 = some 2 := by kernel_rfl
theorem fo128_3 : fieldOff Try.prog 128 3 = some 3 := by kernel_rfl
theorem fo132_0 : fieldOff Try.prog 132 0 = some 0 := by kernel_rfl
theorem fo132_1 : fieldOff Try.prog 132 1 = some 1 := by kernel_rfl
theorem fo157_0 : fieldOff Try.prog 157 0 = some 0 := by kernel_rfl
theorem fo157_1 : fieldOff Try.prog 157 1 = some 1 := by kernel_rfl
theorem fo157_2 : fieldOff Try.prog 157 2 = some 2 := by kernel_rfl
theorem fo157_3 : fieldOff Try.prog 157 3 = some 3 := by kernel_rfl
theorem fo157_4 : fieldOff Try.prog 157 4 = some 4 := by kernel_rfl
theorem fo167_0 : fieldOff Try.prog 167 0 = some 0 := by kernel_rfl
theorem fo167_1 : fieldOff Try.prog 167 1 = some 1 := by kernel_rfl
theorem fo167_2 : fieldOff Try.prog 167 2 = some 2 := by kernel_rfl
theorem fo181_0 : fieldOff Try.prog 181 0 = some 0 := by kernel_rfl
theorem fo181_1 : fieldOff Try.prog 181 1 = some 1 := by kernel_rfl
theorem fo196_0 : fieldOff Try.prog 196 0 = some 0 := by kernel_rfl
theorem fo196_1 : fieldOff Try.prog 196 1 = some 1 := by kernel_rfl
theorem fo202_0 : fieldOff Try.prog 202 0 = some 0 := by kernel_rfl
theorem fo202_1 : fieldOff Try.prog 202 1 = some 1 := by kernel_rfl
theorem fo216_0 : fieldOff Try.prog 216 0 = some 0 := by kernel_rfl
theorem fo216_1 : fieldOff Try.prog 216 1 = some 1 := by kernel_rfl
end Go.Proofs.Ytcfecmoagfgnaaa
