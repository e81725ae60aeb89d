/- General ground for the statement: an abstract machine that the program's code is shown to follow, and the contracts of the functions that the law reaches. Part 8. -/
import Derived.Test.YtjeabbfdiiaaoaaGreatDoorA7
set_option linter.unusedVariables false
set_option linter.unusedSimpArgs false
section
/- The law AsmGlobals: some of its texts, run one by one. -/
namespace M2
open Go

theorem asmGlobals_r5 : isRowI 6 3 asmGlobalsArg 6 (ev tab.get 1000000 s348b (frI 6 3 asmGlobalsArg 5) ⟨3, [[]], [[]]⟩) = true := by kernel_rfl
theorem asmGlobals_r6 : isRowI 6 3 asmGlobalsArg 7 (ev tab.get 1000000 s348b (frI 6 3 asmGlobalsArg 6) ⟨3, [[]], [[]]⟩) = true := by kernel_rfl
theorem asmGlobals_r7 : isRowI 6 3 asmGlobalsArg 8 (ev tab.get 1000000 s348b (frI 6 3 asmGlobalsArg 7) ⟨3, [[]], [[]]⟩) = true := by kernel_rfl
theorem asmGlobals_r8 : isRowI 6 3 asmGlobalsArg 9 (ev tab.get 1000000 s348b (frI 6 3 asmGlobalsArg 8) ⟨3, [[]], [[]]⟩) = true := by kernel_rfl
theorem asmGlobals_r9 : isRowI 6 3 asmGlobalsArg 10 (ev tab.get 1000000 s348b (frI 6 3 asmGlobalsArg 9) ⟨3, [[]], [[]]⟩) = true := by kernel_rfl

end M2
end
