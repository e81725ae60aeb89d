/- General ground for the statement: an abstract machine that the program's code is shown to follow, and the contracts of the functions that the law reaches. Part 6. -/
import Derived.Test.YtnpnphknnpkoaaaDoorA5
set_option linter.unusedVariables false
set_option linter.unusedSimpArgs false
section
/- The law LexNames: some of its texts, run one by one. -/
namespace M2
open Go

theorem lexNames_q120 : allN lexNamesRd 15 120 = true := by kernel_rfl
theorem lexNames_q135 : allN lexNamesRd 15 135 = true := by kernel_rfl
theorem lexNames_q150 : allN lexNamesRd 15 150 = true := by kernel_rfl
theorem lexNames_q165 : allN lexNamesRd 15 165 = true := by kernel_rfl

end M2
end
