/- General ground for the statement: an abstract machine that the program's code is shown to follow, and the contracts of the functions that the law reaches. Part 5. -/
import Derived.Test.YtdjfjbbmblcbbaaA4
set_option linter.unusedVariables false
set_option linter.unusedSimpArgs false
section
/- The law ChooseTwice: round 0 of its loop, in two pieces. -/
namespace M2
open Go

theorem ct_r0a : runN 8 ((9, (.int .i64 (.ofNat 0))) :: (8, (.sl 129 2 0 2 true 0 [(.agg [(.int .i64 (.ofNat 0)), (.int .i64 (.ofNat 0))]), (.agg [(.int .i64 (.ofNat 1)), (.int .i64 (.ofNat 0))])])) :: ctLa 0) 209 (ev tab.get 1000000 ctR1 (frL 8 (ctLa 0)) ⟨41, [[]], [[]]⟩) = true := by kernel_rfl
theorem ct_r0b : runN 8 (ctLa 0) 266 (ev tab.get 1000000 ctR2 (frL 8 ((9, (.int .i64 (.ofNat 0))) :: (8, (.sl 129 2 0 2 true 0 [(.agg [(.int .i64 (.ofNat 0)), (.int .i64 (.ofNat 0))]), (.agg [(.int .i64 (.ofNat 1)), (.int .i64 (.ofNat 0))])])) :: ctLa 0)) ⟨209, [[]], [[]]⟩) = true := by kernel_rfl
theorem ct_r00 : runN 8 (ctLa 0) 41 (ev tab.get 1000000 ctBc (frL 8 (ctLa 0)) ⟨41, [[]], [[]]⟩) = true := by kernel_rfl
theorem ct_r0c : runN 8 (ctLa 1) 266 (ev tab.get 1000000 ctInc (frL 8 (ctLa 0)) ⟨266, [[]], [[]]⟩) = true := by kernel_rfl

end M2
end
