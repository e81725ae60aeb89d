/- General ground for the statement: an abstract machine that the program's code is shown to follow, and the contracts of the functions that the law reaches. Part 10. -/
import Derived.Test.YtnpnphknnpkoaaaDoorA9
set_option linter.unusedVariables false
set_option linter.unusedSimpArgs false
section
/- The law LexNames: some of its texts, run one by one. -/
namespace M2
open Go

theorem lexNames_q360 : allN lexNamesRd 15 360 = true := by kernel_rfl
theorem lexNames_q375 : allN lexNamesRd 15 375 = true := by kernel_rfl
theorem lexNames_q390 : allN lexNamesRd 15 390 = true := by kernel_rfl
theorem lexNames_q405 : allN lexNamesRd 15 405 = true := by kernel_rfl

end M2
end
