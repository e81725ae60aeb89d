/- General ground for the statement: an abstract machine that the program's code is shown to follow, and the contracts of the functions that the law reaches. Part 5. -/
import Derived.Test.YtnpnphknnpkoaaaDoorA4
set_option linter.unusedVariables false
set_option linter.unusedSimpArgs false
section
/- The law LexNames: some of its texts, run one by one. -/
namespace M2
open Go

theorem lexNames_q60 : allN lexNamesRd 15 60 = true := by kernel_rfl
theorem lexNames_q75 : allN lexNamesRd 15 75 = true := by kernel_rfl
theorem lexNames_q90 : allN lexNamesRd 15 90 = true := by kernel_rfl
theorem lexNames_q105 : allN lexNamesRd 15 105 = true := by kernel_rfl

end M2
end
