/- General ground for the statement: an abstract machine that the program's code is shown to follow, and the contracts of the functions that the law reaches. Part 8. -/
import Derived.Test.YtnpnphknnpkoaaaDoorA7
set_option linter.unusedVariables false
set_option linter.unusedSimpArgs false
section
/- The law LexNames: some of its texts, run one by one. -/
namespace M2
open Go

theorem lexNames_q240 : allN lexNamesRd 15 240 = true := by kernel_rfl
theorem lexNames_q255 : allN lexNamesRd 15 255 = true := by kernel_rfl
theorem lexNames_q270 : allN lexNamesRd 15 270 = true := by kernel_rfl
theorem lexNames_q285 : allN lexNamesRd 15 285 = true := by kernel_rfl

end M2
end
