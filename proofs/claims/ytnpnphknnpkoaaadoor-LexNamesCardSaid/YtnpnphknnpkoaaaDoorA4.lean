/- General ground for the statement: an abstract machine that the program's code is shown to follow, and the contracts of the functions that the law reaches. Part 4. -/
import Derived.Test.YtnpnphknnpkoaaaDoorA3
set_option linter.unusedVariables false
set_option linter.unusedSimpArgs false
section
/- The law LexNames: some of its texts, run one by one. -/
namespace M2
open Go

theorem lexNames_q0 : allN lexNamesRd 15 0 = true := by kernel_rfl
theorem lexNames_q15 : allN lexNamesRd 15 15 = true := by kernel_rfl
theorem lexNames_q30 : allN lexNamesRd 15 30 = true := by kernel_rfl
theorem lexNames_q45 : allN lexNamesRd 15 45 = true := by kernel_rfl

end M2
end
