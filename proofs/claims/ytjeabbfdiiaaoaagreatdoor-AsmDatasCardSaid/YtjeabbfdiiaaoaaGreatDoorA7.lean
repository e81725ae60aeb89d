/- General ground for the statement: an abstract machine that the program's code is shown to follow, and the contracts of the functions that the law reaches. Part 7. -/
import Derived.Test.YtjeabbfdiiaaoaaGreatDoorA6
set_option linter.unusedVariables false
set_option linter.unusedSimpArgs false
section
/- The law AsmDatas: some of its texts, run one by one. -/
namespace M2
open Go

theorem asmDatas_r0 : isRowI 6 3 asmDatasArg 1 (ev tab.get 1000000 s348b (frI 6 3 asmDatasArg 0) ⟨3, [[]], [[]]⟩) = true := by kernel_rfl
theorem asmDatas_r1 : isRowI 6 3 asmDatasArg 2 (ev tab.get 1000000 s348b (frI 6 3 asmDatasArg 1) ⟨3, [[]], [[]]⟩) = true := by kernel_rfl
theorem asmDatas_r2 : isRowI 6 3 asmDatasArg 3 (ev tab.get 1000000 s348b (frI 6 3 asmDatasArg 2) ⟨3, [[]], [[]]⟩) = true := by kernel_rfl
theorem asmDatas_r3 : isRowI 6 3 asmDatasArg 4 (ev tab.get 1000000 s348b (frI 6 3 asmDatasArg 3) ⟨3, [[]], [[]]⟩) = true := by kernel_rfl
theorem asmDatas_r4 : isRowI 6 3 asmDatasArg 5 (ev tab.get 1000000 s348b (frI 6 3 asmDatasArg 4) ⟨3, [[]], [[]]⟩) = true := by kernel_rfl
theorem asmDatas_r5 : isRowI 6 3 asmDatasArg 6 (ev tab.get 1000000 s348b (frI 6 3 asmDatasArg 5) ⟨3, [[]], [[]]⟩) = true := by kernel_rfl
theorem asmDatas_r6 : isRowI 6 3 asmDatasArg 7 (ev tab.get 1000000 s348b (frI 6 3 asmDatasArg 6) ⟨3, [[]], [[]]⟩) = true := by kernel_rfl
theorem asmDatas_r7 : isRowI 6 3 asmDatasArg 8 (ev tab.get 1000000 s348b (frI 6 3 asmDatasArg 7) ⟨3, [[]], [[]]⟩) = true := by kernel_rfl
theorem asmDatas_r8 : isRowI 6 3 asmDatasArg 9 (ev tab.get 1000000 s348b (frI 6 3 asmDatasArg 8) ⟨3, [[]], [[]]⟩) = true := by kernel_rfl
theorem asmDatas_r9 : isRowI 6 3 asmDatasArg 10 (ev tab.get 1000000 s348b (frI 6 3 asmDatasArg 9) ⟨3, [[]], [[]]⟩) = true := by kernel_rfl
theorem asmDatas_r10 : isRowI 6 3 asmDatasArg 11 (ev tab.get 1000000 s348b (frI 6 3 asmDatasArg 10) ⟨3, [[]], [[]]⟩) = true := by kernel_rfl
theorem asmDatas_r11 : isRowI 6 3 asmDatasArg 12 (ev tab.get 1000000 s348b (frI 6 3 asmDatasArg 11) ⟨3, [[]], [[]]⟩) = true := by kernel_rfl

end M2
end
