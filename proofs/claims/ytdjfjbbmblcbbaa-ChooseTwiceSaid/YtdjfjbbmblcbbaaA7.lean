/- General ground for the statement: an abstract machine that the program's code is shown to follow, and the contracts of the functions that the law reaches. Part 7. -/
import Derived.Test.YtdjfjbbmblcbbaaA6
set_option linter.unusedVariables false
set_option linter.unusedSimpArgs false
section
/- The law ChooseTwice: round 2 of its loop, in two pieces. -/
namespace M2
open Go

theorem ct_r2a : runN 8 ((9, (.int .i64 (.ofNat 0))) :: (8, (.sl 168 2 0 3 true 0 [(.agg [(.int .i64 (.ofNat 0)), (.int .i64 (.ofNat 0))]), (.agg [(.int .i64 (.ofNat 1)), (.int .i64 (.ofNat 0))]), (.agg [(.int .i64 (.ofNat 2)), (.int .i64 (.ofNat 0))])])) :: ctLa 2) 222 (ev tab.get 1000000 ctR1 (frL 8 (ctLa 2)) ⟨41, [[]], [[]]⟩) = true := by kernel_rfl
theorem ct_r2b : runN 8 (ctLa 2) 277 (ev tab.get 1000000 ctR2 (frL 8 ((9, (.int .i64 (.ofNat 0))) :: (8, (.sl 168 2 0 3 true 0 [(.agg [(.int .i64 (.ofNat 0)), (.int .i64 (.ofNat 0))]), (.agg [(.int .i64 (.ofNat 1)), (.int .i64 (.ofNat 0))]), (.agg [(.int .i64 (.ofNat 2)), (.int .i64 (.ofNat 0))])])) :: ctLa 2)) ⟨222, [[]], [[]]⟩) = true := by kernel_rfl
theorem ct_r20 : runN 8 (ctLa 2) 41 (ev tab.get 1000000 ctBc (frL 8 (ctLa 2)) ⟨41, [[]], [[]]⟩) = true := by kernel_rfl
theorem ct_r2c : runN 8 (ctLa 3) 277 (ev tab.get 1000000 ctInc (frL 8 (ctLa 2)) ⟨277, [[]], [[]]⟩) = true := by kernel_rfl

end M2
end
