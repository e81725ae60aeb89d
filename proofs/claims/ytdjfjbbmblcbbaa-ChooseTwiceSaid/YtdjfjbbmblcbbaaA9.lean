/- General ground for the statement: an abstract machine that the program's code is shown to follow, and the contracts of the functions that the law reaches. Part 9. -/
import Derived.Test.YtdjfjbbmblcbbaaA8
set_option linter.unusedVariables false
set_option linter.unusedSimpArgs false
section
/- The law ChooseTwice: round 4 of its loop, in two pieces. -/
namespace M2
open Go

theorem ct_r4a : runN 8 ((9, (.int .i64 (.ofNat 0))) :: (8, (.sl 256 2 0 4 true 0 [(.agg [(.int .i64 (.ofNat 0)), (.int .i64 (.ofNat 0))]), (.agg [(.int .i64 (.ofNat 1)), (.int .i64 (.ofNat 0))]), (.agg [(.int .i64 (.ofNat 2)), (.int .i64 (.ofNat 0))]), (.agg [(.int .i64 (.ofNat 3)), (.int .i64 (.ofNat 1))])])) :: ctLa 4) 312 (ev tab.get 1000000 ctR1 (frL 8 (ctLa 4)) ⟨41, [[]], [[]]⟩) = true := by kernel_rfl
theorem ct_r4b : runN 8 (ctLa 4) 416 (ev tab.get 1000000 ctR2 (frL 8 ((9, (.int .i64 (.ofNat 0))) :: (8, (.sl 256 2 0 4 true 0 [(.agg [(.int .i64 (.ofNat 0)), (.int .i64 (.ofNat 0))]), (.agg [(.int .i64 (.ofNat 1)), (.int .i64 (.ofNat 0))]), (.agg [(.int .i64 (.ofNat 2)), (.int .i64 (.ofNat 0))]), (.agg [(.int .i64 (.ofNat 3)), (.int .i64 (.ofNat 1))])])) :: ctLa 4)) ⟨312, [[]], [[]]⟩) = true := by kernel_rfl
theorem ct_r40 : runN 8 (ctLa 4) 41 (ev tab.get 1000000 ctBc (frL 8 (ctLa 4)) ⟨41, [[]], [[]]⟩) = true := by kernel_rfl
theorem ct_r4c : runN 8 (ctLa 5) 416 (ev tab.get 1000000 ctInc (frL 8 (ctLa 4)) ⟨416, [[]], [[]]⟩) = true := by kernel_rfl

end M2
end
