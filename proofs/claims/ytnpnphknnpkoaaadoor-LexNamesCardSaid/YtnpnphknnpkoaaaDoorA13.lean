/- General ground for the statement: an abstract machine that the program's code is shown to follow, and the contracts of the functions that the law reaches. Part 13. -/
import Derived.Test.YtnpnphknnpkoaaaDoorA12
set_option linter.unusedVariables false
set_option linter.unusedSimpArgs false
section
/- The law LexNames: some of its texts, run one by one. -/
namespace M2
open Go

theorem lexNames_q540 : allN lexNamesRd 3 540 = true := by kernel_rfl
theorem lexNames_q543 : allN lexNamesRd 3 543 = true := by kernel_rfl
theorem lexNames_q546 : allN lexNamesRd 3 546 = true := by kernel_rfl
theorem lexNames_q549 : allN lexNamesRd 3 549 = true := by kernel_rfl

end M2
end
