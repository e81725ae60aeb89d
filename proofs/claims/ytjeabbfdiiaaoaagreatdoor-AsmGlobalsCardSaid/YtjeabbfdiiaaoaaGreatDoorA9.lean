/- General ground for the statement: an abstract machine that the program's code is shown to follow, and the contracts of the functions that the law reaches. Part 9. -/
import Derived.Test.YtjeabbfdiiaaoaaGreatDoorA8
set_option linter.unusedVariables false
set_option linter.unusedSimpArgs false
section
/- The law AsmGlobals: some of its texts, run one by one. -/
namespace M2
open Go

theorem asmGlobals_r10 : isRowI 6 3 asmGlobalsArg 11 (ev tab.get 1000000 s348b (frI 6 3 asmGlobalsArg 10) ⟨3, [[]], [[]]⟩) = true := by kernel_rfl
theorem asmGlobals_r11 : isRowI 6 3 asmGlobalsArg 12 (ev tab.get 1000000 s348b (frI 6 3 asmGlobalsArg 11) ⟨3, [[]], [[]]⟩) = true := by kernel_rfl
theorem asmGlobals_r12 : isRowI 6 3 asmGlobalsArg 13 (ev tab.get 1000000 s348b (frI 6 3 asmGlobalsArg 12) ⟨3, [[]], [[]]⟩) = true := by kernel_rfl
theorem asmGlobals_r13 : isRowI 6 3 asmGlobalsArg 14 (ev tab.get 1000000 s348b (frI 6 3 asmGlobalsArg 13) ⟨3, [[]], [[]]⟩) = true := by kernel_rfl

end M2
end
