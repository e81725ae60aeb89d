/- General ground for the statement: an abstract machine that the program's code is shown to follow, and the contracts of the functions that the law reaches. Part 9. -/
import Derived.Test.YtjeabbfdiiaaoaaGreatDoorA8
set_option linter.unusedVariables false
set_option linter.unusedSimpArgs false
section
/- The law AsmOperands: some of its texts, run one by one. -/
namespace M2
open Go

theorem asmOperands_r24 : isRowI 6 3 asmOperandsArg 25 (ev tab.get 1000000 s348b (frI 6 3 asmOperandsArg 24) ⟨3, [[]], [[]]⟩) = true := by kernel_rfl
theorem asmOperands_r25 : isRowI 6 3 asmOperandsArg 26 (ev tab.get 1000000 s348b (frI 6 3 asmOperandsArg 25) ⟨3, [[]], [[]]⟩) = true := by kernel_rfl
theorem asmOperands_r26 : isRowI 6 3 asmOperandsArg 27 (ev tab.get 1000000 s348b (frI 6 3 asmOperandsArg 26) ⟨3, [[]], [[]]⟩) = true := by kernel_rfl
theorem asmOperands_r27 : isRowI 6 3 asmOperandsArg 28 (ev tab.get 1000000 s348b (frI 6 3 asmOperandsArg 27) ⟨3, [[]], [[]]⟩) = true := by kernel_rfl
theorem asmOperands_r28 : isRowI 6 3 asmOperandsArg 29 (ev tab.get 1000000 s348b (frI 6 3 asmOperandsArg 28) ⟨3, [[]], [[]]⟩) = true := by kernel_rfl
theorem asmOperands_r29 : isRowI 6 3 asmOperandsArg 30 (ev tab.get 1000000 s348b (frI 6 3 asmOperandsArg 29) ⟨3, [[]], [[]]⟩) = true := by kernel_rfl
theorem asmOperands_r30 : isRowI 6 3 asmOperandsArg 31 (ev tab.get 1000000 s348b (frI 6 3 asmOperandsArg 30) ⟨3, [[]], [[]]⟩) = true := by kernel_rfl
theorem asmOperands_r31 : isRowI 6 3 asmOperandsArg 32 (ev tab.get 1000000 s348b (frI 6 3 asmOperandsArg 31) ⟨3, [[]], [[]]⟩) = true := by kernel_rfl
theorem asmOperands_r32 : isRowI 6 3 asmOperandsArg 33 (ev tab.get 1000000 s348b (frI 6 3 asmOperandsArg 32) ⟨3, [[]], [[]]⟩) = true := by kernel_rfl
theorem asmOperands_r33 : isRowI 6 3 asmOperandsArg 34 (ev tab.get 1000000 s348b (frI 6 3 asmOperandsArg 33) ⟨3, [[]], [[]]⟩) = true := by kernel_rfl
theorem asmOperands_r34 : isRowI 6 3 asmOperandsArg 35 (ev tab.get 1000000 s348b (frI 6 3 asmOperandsArg 34) ⟨3, [[]], [[]]⟩) = true := by kernel_rfl
theorem asmOperands_r35 : isRowI 6 3 asmOperandsArg 36 (ev tab.get 1000000 s348b (frI 6 3 asmOperandsArg 35) ⟨3, [[]], [[]]⟩) = true := by kernel_rfl

end M2
end
