/- General ground for the statement: an abstract machine that the program's code is shown to follow, and the contracts of the functions that the law reaches. Part 11. -/
import Derived.Test.YtjeabbfdiiaaoaaGreatDoorA10
set_option linter.unusedVariables false
set_option linter.unusedSimpArgs false
section
/- The law AsmOperands: some of its texts, run one by one. -/
namespace M2
open Go

theorem asmOperands_r48 : isRowI 6 3 asmOperandsArg 49 (ev tab.get 1000000 s348b (frI 6 3 asmOperandsArg 48) ⟨3, [[]], [[]]⟩) = true := by kernel_rfl
theorem asmOperands_r49 : isRowI 6 3 asmOperandsArg 50 (ev tab.get 1000000 s348b (frI 6 3 asmOperandsArg 49) ⟨3, [[]], [[]]⟩) = true := by kernel_rfl
theorem asmOperands_r50 : isRowI 6 3 asmOperandsArg 51 (ev tab.get 1000000 s348b (frI 6 3 asmOperandsArg 50) ⟨3, [[]], [[]]⟩) = true := by kernel_rfl

end M2
end
