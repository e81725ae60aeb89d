/- General ground for the statement: an abstract machine that the program's code is shown to follow, and the contracts of the functions that the law reaches. Part 9. -/
import Derived.Test.YtnpnphknnpkoaaaDoorA8
set_option linter.unusedVariables false
set_option linter.unusedSimpArgs false
section
/- The law LexNames: some of its texts, run one by one. -/
namespace M2
open Go

theorem lexNames_q300 : allN lexNamesRd 15 300 = true := by kernel_rfl
theorem lexNames_q315 : allN lexNamesRd 15 315 = true := by kernel_rfl
theorem lexNames_q330 : allN lexNamesRd 15 330 = true := by kernel_rfl
theorem lexNames_q345 : allN lexNamesRd 15 345 = true := by kernel_rfl

end M2
end
