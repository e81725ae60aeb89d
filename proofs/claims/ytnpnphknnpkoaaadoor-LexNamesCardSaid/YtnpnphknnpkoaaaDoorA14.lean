/- General ground for the statement: an abstract machine that the program's code is shown to follow, and the contracts of the functions that the law reaches. Part 14. -/
import Derived.Test.YtnpnphknnpkoaaaDoorA13
set_option linter.unusedVariables false
set_option linter.unusedSimpArgs false
section
/- The law LexNames: some of its texts, run one by one. -/
namespace M2
open Go

theorem lexNames_q552 : allN lexNamesRd 3 552 = true := by kernel_rfl
theorem lexNames_q555 : allN lexNamesRd 3 555 = true := by kernel_rfl
theorem lexNames_q558 : allN lexNamesRd 3 558 = true := by kernel_rfl
theorem lexNames_q561 : allN lexNamesRd 3 561 = true := by kernel_rfl

end M2
end
