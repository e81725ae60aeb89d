/- General ground for the statement: an abstract machine that the program's code is shown to follow, and the contracts of the functions that the law reaches. Part 7. -/
import Derived.Test.YtjeabbfdiiaaoaaGreatDoorA6
set_option linter.unusedVariables false
set_option linter.unusedSimpArgs false
section
/- The law AsmFront: some of its texts, run one by one. -/
namespace M2
open Go

theorem asmFront_r0 : isRowI 6 3 asmFrontArg 1 (ev tab.get 1000000 s348b (frI 6 3 asmFrontArg 0) ⟨3, [[]], [[]]⟩) = true := by kernel_rfl
theorem asmFront_r1 : isRowI 6 3 asmFrontArg 2 (ev tab.get 1000000 s348b (frI 6 3 asmFrontArg 1) ⟨3, [[]], [[]]⟩) = true := by kernel_rfl
theorem asmFront_r2 : isRowI 6 3 asmFrontArg 3 (ev tab.get 1000000 s348b (frI 6 3 asmFrontArg 2) ⟨3, [[]], [[]]⟩) = true := by kernel_rfl
theorem asmFront_r3 : isRowI 6 3 asmFrontArg 4 (ev tab.get 1000000 s348b (frI 6 3 asmFrontArg 3) ⟨3, [[]], [[]]⟩) = true := by kernel_rfl
theorem asmFront_r4 : isRowI 6 3 asmFrontArg 5 (ev tab.get 1000000 s348b (frI 6 3 asmFrontArg 4) ⟨3, [[]], [[]]⟩) = true := by kernel_rfl
theorem asmFront_r5 : isRowI 6 3 asmFrontArg 6 (ev tab.get 1000000 s348b (frI 6 3 asmFrontArg 5) ⟨3, [[]], [[]]⟩) = true := by kernel_rfl
theorem asmFront_r6 : isRowI 6 3 asmFrontArg 7 (ev tab.get 1000000 s348b (frI 6 3 asmFrontArg 6) ⟨3, [[]], [[]]⟩) = true := by kernel_rfl
theorem asmFront_r7 : isRowI 6 3 asmFrontArg 8 (ev tab.get 1000000 s348b (frI 6 3 asmFrontArg 7) ⟨3, [[]], [[]]⟩) = true := by kernel_rfl

end M2
end
