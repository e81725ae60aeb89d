/- General ground for the statement: an abstract machine that the program's code is shown to follow, and the contracts of the functions that the law reaches. Part 8. -/
import Derived.Test.YtdjfjbbmblcbbaaA7
set_option linter.unusedVariables false
set_option linter.unusedSimpArgs false
section
/- The law ChooseTwice: round 3 of its loop, in two pieces. -/
namespace M2
open Go

theorem ct_r3a : runN 8 ((9, (.int .i64 (.ofNat 0))) :: (8, .nils) :: ctLa 3) 104 (ev tab.get 1000000 ctR1 (frL 8 (ctLa 3)) ⟨41, [[]], [[]]⟩) = true := by kernel_rfl
theorem ct_r3b : runN 8 (ctLa 3) 120 (ev tab.get 1000000 ctR2 (frL 8 ((9, (.int .i64 (.ofNat 0))) :: (8, .nils) :: ctLa 3)) ⟨104, [[]], [[]]⟩) = true := by kernel_rfl
theorem ct_r30 : runN 8 (ctLa 3) 41 (ev tab.get 1000000 ctBc (frL 8 (ctLa 3)) ⟨41, [[]], [[]]⟩) = true := by kernel_rfl
theorem ct_r3c : runN 8 (ctLa 4) 120 (ev tab.get 1000000 ctInc (frL 8 (ctLa 3)) ⟨120, [[]], [[]]⟩) = true := by kernel_rfl

end M2
end
