/- General ground for the statement: an abstract machine that the program's code is shown to follow, and the contracts of the functions that the law reaches. Part 11. -/
import Derived.Test.YtnpnphknnpkoaaaDoorA10
set_option linter.unusedVariables false
set_option linter.unusedSimpArgs false
section
/- The law LexNames: some of its texts, run one by one. -/
namespace M2
open Go

theorem lexNames_q420 : allN lexNamesRd 15 420 = true := by kernel_rfl
theorem lexNames_q435 : allN lexNamesRd 15 435 = true := by kernel_rfl
theorem lexNames_q450 : allN lexNamesRd 15 450 = true := by kernel_rfl
theorem lexNames_q465 : allN lexNamesRd 15 465 = true := by kernel_rfl

end M2
end
