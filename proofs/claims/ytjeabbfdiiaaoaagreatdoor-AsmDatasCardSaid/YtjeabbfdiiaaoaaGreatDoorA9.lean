/- General ground for the statement: an abstract machine that the program's code is shown to follow, and the contracts of the functions that the law reaches. Part 9. -/
import Derived.Test.YtjeabbfdiiaaoaaGreatDoorA8
set_option linter.unusedVariables false
set_option linter.unusedSimpArgs false
section
/- The law AsmDatas: some of its texts, run one by one. -/
namespace M2
open Go

theorem asmDatas_r24 : isRowI 6 3 asmDatasArg 25 (ev tab.get 1000000 s348b (frI 6 3 asmDatasArg 24) ⟨3, [[]], [[]]⟩) = true := by kernel_rfl

end M2
end
