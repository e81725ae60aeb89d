/- General ground for the statement: an abstract machine that the program's code is shown to follow, and the contracts of the functions that the law reaches. Part 10. -/
import Derived.Test.YtdjfjbbmblcbbaaA9
set_option linter.unusedVariables false
set_option linter.unusedSimpArgs false
section
/- The law ChooseTwice: the end of its loop, and what else it asks. -/
namespace M2
open Go

theorem ct_out : isX3 0 8 1 6 7 (.ptr 1 0) ctL (.int .i64 (.ofNat 5)) (ev tab.get 1000000 ctB (ctFr 5) ⟨41, [[]], [[]]⟩) = true := by kernel_rfl
theorem ct_wakes : okR (callA tab.get (ev tab.get 1000000) 189 [] ⟨41, [], []⟩) = true := by kernel_rfl

end M2
end
