/- General ground for the statement: an abstract machine that the program's code is shown to follow, and the contracts of the functions that the law reaches. Part 7. -/
import Derived.Test.YtjeabbfdiiaaoaaGreatDoorA6
set_option linter.unusedVariables false
set_option linter.unusedSimpArgs false
section
/- The law AsmGlobals: some of its texts, run one by one. -/
namespace M2
open Go

theorem asmGlobals_r0 : isRowI 6 3 asmGlobalsArg 1 (ev tab.get 1000000 s348b (frI 6 3 asmGlobalsArg 0) ⟨3, [[]], [[]]⟩) = true := by kernel_rfl
theorem asmGlobals_r1 : isRowI 6 3 asmGlobalsArg 2 (ev tab.get 1000000 s348b (frI 6 3 asmGlobalsArg 1) ⟨3, [[]], [[]]⟩) = true := by kernel_rfl
theorem asmGlobals_r2 : isRowI 6 3 asmGlobalsArg 3 (ev tab.get 1000000 s348b (frI 6 3 asmGlobalsArg 2) ⟨3, [[]], [[]]⟩) = true := by kernel_rfl
theorem asmGlobals_r3 : isRowI 6 3 asmGlobalsArg 4 (ev tab.get 1000000 s348b (frI 6 3 asmGlobalsArg 3) ⟨3, [[]], [[]]⟩) = true := by kernel_rfl
theorem asmGlobals_r4 : isRowI 6 3 asmGlobalsArg 5 (ev tab.get 1000000 s348b (frI 6 3 asmGlobalsArg 4) ⟨3, [[]], [[]]⟩) = true := by kernel_rfl

end M2
end
