/- General ground for the statement: an abstract machine that the program's code is shown to follow, and the contracts of the functions that the law reaches. Part 7. -/
import Derived.Test.YtnpnphknnpkoaaaDoorA6
set_option linter.unusedVariables false
set_option linter.unusedSimpArgs false
section
/- The law LexNames: some of its texts, run one by one. -/
namespace M2
open Go

theorem lexNames_q180 : allN lexNamesRd 15 180 = true := by kernel_rfl
theorem lexNames_q195 : allN lexNamesRd 15 195 = true := by kernel_rfl
theorem lexNames_q210 : allN lexNamesRd 15 210 = true := by kernel_rfl
theorem lexNames_q225 : allN lexNamesRd 15 225 = true := by kernel_rfl

end M2
end
