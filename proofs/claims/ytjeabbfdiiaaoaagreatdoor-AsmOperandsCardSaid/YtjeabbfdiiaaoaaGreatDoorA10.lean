/- General ground for the statement: an abstract machine that the program's code is shown to follow, and the contracts of the functions that the law reaches. Part 10. -/
import Derived.Test.YtjeabbfdiiaaoaaGreatDoorA9
set_option linter.unusedVariables false
set_option linter.unusedSimpArgs false
section
/- The law AsmOperands: some of its texts, run one by one. -/
namespace M2
open Go

theorem asmOperands_r36 : isRowI 6 3 asmOperandsArg 37 (ev tab.get 1000000 s348b (frI 6 3 asmOperandsArg 36) ⟨3, [[]], [[]]⟩) = true := by kernel_rfl
theorem asmOperands_r37 : isRowI 6 3 asmOperandsArg 38 (ev tab.get 1000000 s348b (frI 6 3 asmOperandsArg 37) ⟨3, [[]], [[]]⟩) = true := by kernel_rfl
theorem asmOperands_r38 : isRowI 6 3 asmOperandsArg 39 (ev tab.get 1000000 s348b (frI 6 3 asmOperandsArg 38) ⟨3, [[]], [[]]⟩) = true := by kernel_rfl
theorem asmOperands_r39 : isRowI 6 3 asmOperandsArg 40 (ev tab.get 1000000 s348b (frI 6 3 asmOperandsArg 39) ⟨3, [[]], [[]]⟩) = true := by kernel_rfl
theorem asmOperands_r40 : isRowI 6 3 asmOperandsArg 41 (ev tab.get 1000000 s348b (frI 6 3 asmOperandsArg 40) ⟨3, [[]], [[]]⟩) = true := by kernel_rfl
theorem asmOperands_r41 : isRowI 6 3 asmOperandsArg 42 (ev tab.get 1000000 s348b (frI 6 3 asmOperandsArg 41) ⟨3, [[]], [[]]⟩) = true := by kernel_rfl
theorem asmOperands_r42 : isRowI 6 3 asmOperandsArg 43 (ev tab.get 1000000 s348b (frI 6 3 asmOperandsArg 42) ⟨3, [[]], [[]]⟩) = true := by kernel_rfl
theorem asmOperands_r43 : isRowI 6 3 asmOperandsArg 44 (ev tab.get 1000000 s348b (frI 6 3 asmOperandsArg 43) ⟨3, [[]], [[]]⟩) = true := by kernel_rfl
theorem asmOperands_r44 : isRowI 6 3 asmOperandsArg 45 (ev tab.get 1000000 s348b (frI 6 3 asmOperandsArg 44) ⟨3, [[]], [[]]⟩) = true := by kernel_rfl
theorem asmOperands_r45 : isRowI 6 3 asmOperandsArg 46 (ev tab.get 1000000 s348b (frI 6 3 asmOperandsArg 45) ⟨3, [[]], [[]]⟩) = true := by kernel_rfl
theorem asmOperands_r46 : isRowI 6 3 asmOperandsArg 47 (ev tab.get 1000000 s348b (frI 6 3 asmOperandsArg 46) ⟨3, [[]], [[]]⟩) = true := by kernel_rfl
theorem asmOperands_r47 : isRowI 6 3 asmOperandsArg 48 (ev tab.get 1000000 s348b (frI 6 3 asmOperandsArg 47) ⟨3, [[]], [[]]⟩) = true := by kernel_rfl

end M2
end
