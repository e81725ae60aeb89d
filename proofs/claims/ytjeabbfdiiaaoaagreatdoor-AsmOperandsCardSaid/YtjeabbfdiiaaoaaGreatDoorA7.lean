/- General ground for the statement: an abstract machine that the program's code is shown to follow, and the contracts of the functions that the law reaches. Part 7. -/
import Derived.Test.YtjeabbfdiiaaoaaGreatDoorA6
set_option linter.unusedVariables false
set_option linter.unusedSimpArgs false
section
/- The law AsmOperands: some of its texts, run one by one. -/
namespace M2
open Go

theorem asmOperands_r0 : isRowI 6 3 asmOperandsArg 1 (ev tab.get 1000000 s348b (frI 6 3 asmOperandsArg 0) ⟨3, [[]], [[]]⟩) = true := by kernel_rfl
theorem asmOperands_r1 : isRowI 6 3 asmOperandsArg 2 (ev tab.get 1000000 s348b (frI 6 3 asmOperandsArg 1) ⟨3, [[]], [[]]⟩) = true := by kernel_rfl
theorem asmOperands_r2 : isRowI 6 3 asmOperandsArg 3 (ev tab.get 1000000 s348b (frI 6 3 asmOperandsArg 2) ⟨3, [[]], [[]]⟩) = true := by kernel_rfl
theorem asmOperands_r3 : isRowI 6 3 asmOperandsArg 4 (ev tab.get 1000000 s348b (frI 6 3 asmOperandsArg 3) ⟨3, [[]], [[]]⟩) = true := by kernel_rfl
theorem asmOperands_r4 : isRowI 6 3 asmOperandsArg 5 (ev tab.get 1000000 s348b (frI 6 3 asmOperandsArg 4) ⟨3, [[]], [[]]⟩) = true := by kernel_rfl
theorem asmOperands_r5 : isRowI 6 3 asmOperandsArg 6 (ev tab.get 1000000 s348b (frI 6 3 asmOperandsArg 5) ⟨3, [[]], [[]]⟩) = true := by kernel_rfl
theorem asmOperands_r6 : isRowI 6 3 asmOperandsArg 7 (ev tab.get 1000000 s348b (frI 6 3 asmOperandsArg 6) ⟨3, [[]], [[]]⟩) = true := by kernel_rfl
theorem asmOperands_r7 : isRowI 6 3 asmOperandsArg 8 (ev tab.get 1000000 s348b (frI 6 3 asmOperandsArg 7) ⟨3, [[]], [[]]⟩) = true := by kernel_rfl
theorem asmOperands_r8 : isRowI 6 3 asmOperandsArg 9 (ev tab.get 1000000 s348b (frI 6 3 asmOperandsArg 8) ⟨3, [[]], [[]]⟩) = true := by kernel_rfl
theorem asmOperands_r9 : isRowI 6 3 asmOperandsArg 10 (ev tab.get 1000000 s348b (frI 6 3 asmOperandsArg 9) ⟨3, [[]], [[]]⟩) = true := by kernel_rfl
theorem asmOperands_r10 : isRowI 6 3 asmOperandsArg 11 (ev tab.get 1000000 s348b (frI 6 3 asmOperandsArg 10) ⟨3, [[]], [[]]⟩) = true := by kernel_rfl
theorem asmOperands_r11 : isRowI 6 3 asmOperandsArg 12 (ev tab.get 1000000 s348b (frI 6 3 asmOperandsArg 11) ⟨3, [[]], [[]]⟩) = true := by kernel_rfl

end M2
end
