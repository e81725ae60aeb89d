/- General ground for the statement: an abstract machine that the program's code is shown to follow, and the contracts of the functions that the law reaches. Part 12. -/
import Derived.Test.YtnpnphknnpkoaaaDoorA11
set_option linter.unusedVariables false
set_option linter.unusedSimpArgs false
section
/- The law LexNames: some of its texts, run one by one. -/
namespace M2
open Go

theorem lexNames_q480 : allN lexNamesRd 15 480 = true := by kernel_rfl
theorem lexNames_q495 : allN lexNamesRd 15 495 = true := by kernel_rfl
theorem lexNames_q510 : allN lexNamesRd 15 510 = true := by kernel_rfl
theorem lexNames_q525 : allN lexNamesRd 15 525 = true := by kernel_rfl

end M2
end
