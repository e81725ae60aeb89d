/- General ground for the statement: an abstract machine that the program's code is shown to follow, and the contracts of the functions that the law reaches. Part 8. -/
import Derived.Test.YtjeabbfdiiaaoaaGreatDoorA7
set_option linter.unusedVariables false
set_option linter.unusedSimpArgs false
section
/- The law AsmOperands: some of its texts, run one by one. -/
namespace M2
open Go

theorem asmOperands_r12 : isRowI 6 3 asmOperandsArg 13 (ev tab.get 1000000 s348b (frI 6 3 asmOperandsArg 12) ⟨3, [[]], [[]]⟩) = true := by kernel_rfl
theorem asmOperands_r13 : isRowI 6 3 asmOperandsArg 14 (ev tab.get 1000000 s348b (frI 6 3 asmOperandsArg 13) ⟨3, [[]], [[]]⟩) = true := by kernel_rfl
theorem asmOperands_r14 : isRowI 6 3 asmOperandsArg 15 (ev tab.get 1000000 s348b (frI 6 3 asmOperandsArg 14) ⟨3, [[]], [[]]⟩) = true := by kernel_rfl
theorem asmOperands_r15 : isRowI 6 3 asmOperandsArg 16 (ev tab.get 1000000 s348b (frI 6 3 asmOperandsArg 15) ⟨3, [[]], [[]]⟩) = true := by kernel_rfl
theorem asmOperands_r16 : isRowI 6 3 asmOperandsArg 17 (ev tab.get 1000000 s348b (frI 6 3 asmOperandsArg 16) ⟨3, [[]], [[]]⟩) = true := by kernel_rfl
theorem asmOperands_r17 : isRowI 6 3 asmOperandsArg 18 (ev tab.get 1000000 s348b (frI 6 3 asmOperandsArg 17) ⟨3, [[]], [[]]⟩) = true := by kernel_rfl
theorem asmOperands_r18 : isRowI 6 3 asmOperandsArg 19 (ev tab.get 1000000 s348b (frI 6 3 asmOperandsArg 18) ⟨3, [[]], [[]]⟩) = true := by kernel_rfl
theorem asmOperands_r19 : isRowI 6 3 asmOperandsArg 20 (ev tab.get 1000000 s348b (frI 6 3 asmOperandsArg 19) ⟨3, [[]], [[]]⟩) = true := by kernel_rfl
theorem asmOperands_r20 : isRowI 6 3 asmOperandsArg 21 (ev tab.get 1000000 s348b (frI 6 3 asmOperandsArg 20) ⟨3, [[]], [[]]⟩) = true := by kernel_rfl
theorem asmOperands_r21 : isRowI 6 3 asmOperandsArg 22 (ev tab.get 1000000 s348b (frI 6 3 asmOperandsArg 21) ⟨3, [[]], [[]]⟩) = true := by kernel_rfl
theorem asmOperands_r22 : isRowI 6 3 asmOperandsArg 23 (ev tab.get 1000000 s348b (frI 6 3 asmOperandsArg 22) ⟨3, [[]], [[]]⟩) = true := by kernel_rfl
theorem asmOperands_r23 : isRowI 6 3 asmOperandsArg 24 (ev tab.get 1000000 s348b (frI 6 3 asmOperandsArg 23) ⟨3, [[]], [[]]⟩) = true := by kernel_rfl

end M2
end
