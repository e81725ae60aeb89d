/- General ground for the statement: an abstract machine that the program's code is shown to follow, and the contracts of the functions that the law reaches. Part 11. -/
import Derived.Test.YtjeabbfdiiaaoaaGreatDoorA10
import Derived.Test.YtjeabbfdiiaaoaaGreatDoorRows
import Derived.ProofKit
import Derived.SizedLaws
import Derived.LaidMore
import Derived.OpenShut
import Derived.Stop.Joined
set_option linter.unusedVariables false
set_option linter.unusedSimpArgs false
section
/- The row 'asmGlobals': closed facts of the program. -/
namespace Go.Proofs.YtjeabbfdiiaaoaaGreatDoor.asmGlobals
open Go.ChangeShapes Go.WideShapes Go.ChangeAt Go.RowKit

theorem e1 : (Rows.asmGlobalsRow.inPlace == Tryz.pinned.checked.prog.inPlace 6) = true := by kernel_rfl
theorem e2 : (Rows.asmGlobalsRow.unfollowed == Tryz.pinned.checked.prog.unfollowed 6) = true := by kernel_rfl
theorem e3 : (Rows.asmGlobalsRow.recurses == Tryz.pinned.checked.prog.recurses 6) = true := by kernel_rfl
theorem e4 : (Rows.asmGlobalsRow.named == Tryz.pinned.checked.prog.varsNamed 6) = true := by kernel_rfl
theorem closed : joinedFacts Tryz.pinned.checked.prog 6 Tryz.f6 Rows.asmGlobalsSpec Rows.asmGlobalsRow = true := by
  unfold joinedFacts
  rw [e1, e2, e3, e4]
  kernel_rfl

end Go.Proofs.YtjeabbfdiiaaoaaGreatDoor.asmGlobals
end
