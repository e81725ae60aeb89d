/- General ground for the statement: an abstract machine that the program's code is shown to follow, and the contracts of the functions that the law reaches. Part 16. -/
import Derived.Test.YtnpnphknnpkoaaaDoorA15
set_option linter.unusedVariables false
set_option linter.unusedSimpArgs false
section
/- The law LexNames: some of its texts, run one by one. -/
namespace M2
open Go

theorem lexNames_q576 : allN lexNamesRd 3 576 = true := by kernel_rfl
theorem lexNames_q579 : allN lexNamesRd 3 579 = true := by kernel_rfl
theorem lexNames_q582 : allN lexNamesRd 3 582 = true := by kernel_rfl

end M2
end
