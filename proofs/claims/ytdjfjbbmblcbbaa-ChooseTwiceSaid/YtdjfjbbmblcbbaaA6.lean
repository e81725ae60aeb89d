/- General ground for the statement: an abstract machine that the program's code is shown to follow, and the contracts of the functions that the law reaches. Part 6. -/
import Derived.Test.YtdjfjbbmblcbbaaA5
set_option linter.unusedVariables false
set_option linter.unusedSimpArgs false
section
/- The law ChooseTwice: round 1 of its loop, in two pieces. -/
namespace M2
open Go

theorem ct_r1a : runN 8 ((9, (.int .i64 (.ofNat 0))) :: (8, (.sl 149 2 0 2 true 0 [(.agg [(.int .i64 (.ofNat 1)), (.int .i64 (.ofNat 0))]), (.agg [(.int .i64 (.ofNat 2)), (.int .i64 (.ofNat 0))])])) :: ctLa 1) 188 (ev tab.get 1000000 ctR1 (frL 8 (ctLa 1)) ⟨41, [[]], [[]]⟩) = true := by kernel_rfl
theorem ct_r1b : runN 8 (ctLa 1) 235 (ev tab.get 1000000 ctR2 (frL 8 ((9, (.int .i64 (.ofNat 0))) :: (8, (.sl 149 2 0 2 true 0 [(.agg [(.int .i64 (.ofNat 1)), (.int .i64 (.ofNat 0))]), (.agg [(.int .i64 (.ofNat 2)), (.int .i64 (.ofNat 0))])])) :: ctLa 1)) ⟨188, [[]], [[]]⟩) = true := by kernel_rfl
theorem ct_r10 : runN 8 (ctLa 1) 41 (ev tab.get 1000000 ctBc (frL 8 (ctLa 1)) ⟨41, [[]], [[]]⟩) = true := by kernel_rfl
theorem ct_r1c : runN 8 (ctLa 2) 235 (ev tab.get 1000000 ctInc (frL 8 (ctLa 1)) ⟨235, [[]], [[]]⟩) = true := by kernel_rfl

end M2
end
