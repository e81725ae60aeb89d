/- General ground for the statement: an abstract machine that the program's code is shown to follow, and the contracts of the functions that the law reaches. Part 8. -/
import Derived.Test.YtjeabbfdiiaaoaaGreatDoorA7
set_option linter.unusedVariables false
set_option linter.unusedSimpArgs false
section
/- The law AsmDatas: some of its texts, run one by one. -/
namespace M2
open Go

theorem asmDatas_r12 : isRowI 6 3 asmDatasArg 13 (ev tab.get 1000000 s348b (frI 6 3 asmDatasArg 12) ⟨3, [[]], [[]]⟩) = true := by kernel_rfl
theorem asmDatas_r13 : isRowI 6 3 asmDatasArg 14 (ev tab.get 1000000 s348b (frI 6 3 asmDatasArg 13) ⟨3, [[]], [[]]⟩) = true := by kernel_rfl
theorem asmDatas_r14 : isRowI 6 3 asmDatasArg 15 (ev tab.get 1000000 s348b (frI 6 3 asmDatasArg 14) ⟨3, [[]], [[]]⟩) = true := by kernel_rfl
theorem asmDatas_r15 : isRowI 6 3 asmDatasArg 16 (ev tab.get 1000000 s348b (frI 6 3 asmDatasArg 15) ⟨3, [[]], [[]]⟩) = true := by kernel_rfl
theorem asmDatas_r16 : isRowI 6 3 asmDatasArg 17 (ev tab.get 1000000 s348b (frI 6 3 asmDatasArg 16) ⟨3, [[]], [[]]⟩) = true := by kernel_rfl
theorem asmDatas_r17 : isRowI 6 3 asmDatasArg 18 (ev tab.get 1000000 s348b (frI 6 3 asmDatasArg 17) ⟨3, [[]], [[]]⟩) = true := by kernel_rfl
theorem asmDatas_r18 : isRowI 6 3 asmDatasArg 19 (ev tab.get 1000000 s348b (frI 6 3 asmDatasArg 18) ⟨3, [[]], [[]]⟩) = true := by kernel_rfl
theorem asmDatas_r19 : isRowI 6 3 asmDatasArg 20 (ev tab.get 1000000 s348b (frI 6 3 asmDatasArg 19) ⟨3, [[]], [[]]⟩) = true := by kernel_rfl
theorem asmDatas_r20 : isRowI 6 3 asmDatasArg 21 (ev tab.get 1000000 s348b (frI 6 3 asmDatasArg 20) ⟨3, [[]], [[]]⟩) = true := by kernel_rfl
theorem asmDatas_r21 : isRowI 6 3 asmDatasArg 22 (ev tab.get 1000000 s348b (frI 6 3 asmDatasArg 21) ⟨3, [[]], [[]]⟩) = true := by kernel_rfl
theorem asmDatas_r22 : isRowI 6 3 asmDatasArg 23 (ev tab.get 1000000 s348b (frI 6 3 asmDatasArg 22) ⟨3, [[]], [[]]⟩) = true := by kernel_rfl
theorem asmDatas_r23 : isRowI 6 3 asmDatasArg 24 (ev tab.get 1000000 s348b (frI 6 3 asmDatasArg 23) ⟨3, [[]], [[]]⟩) = true := by kernel_rfl

end M2
end
