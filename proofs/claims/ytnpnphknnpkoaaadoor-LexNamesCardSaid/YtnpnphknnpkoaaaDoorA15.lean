/- General ground for the statement: an abstract machine that the program's code is shown to follow, and the contracts of the functions that the law reaches. Part 15. -/
import Derived.Test.YtnpnphknnpkoaaaDoorA14
set_option linter.unusedVariables false
set_option linter.unusedSimpArgs false
section
/- The law LexNames: some of its texts, run one by one. -/
namespace M2
open Go

theorem lexNames_q564 : allN lexNamesRd 3 564 = true := by kernel_rfl
theorem lexNames_q567 : allN lexNamesRd 3 567 = true := by kernel_rfl
theorem lexNames_q570 : allN lexNamesRd 3 570 = true := by kernel_rfl
theorem lexNames_q573 : allN lexNamesRd 3 573 = true := by kernel_rfl

end M2
end
