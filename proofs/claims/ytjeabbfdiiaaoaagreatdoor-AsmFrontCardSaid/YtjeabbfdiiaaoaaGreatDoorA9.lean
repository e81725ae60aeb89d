/- General ground for the statement: an abstract machine that the program's code is shown to follow, and the contracts of the functions that the law reaches. Part 9. -/
import Derived.Test.YtjeabbfdiiaaoaaGreatDoorA8
import Derived.Test.YtjeabbfdiiaaoaaGreatDoorRows
import Derived.ProofKit
import Derived.SizedLaws
import Derived.LaidMore
import Derived.OpenShut
import Derived.Stop.Joined
set_option linter.unusedVariables false
set_option linter.unusedSimpArgs false
section
/- The row 'asmFront': closed facts of the program. -/
namespace Go.Proofs.YtjeabbfdiiaaoaaGreatDoor.asmFront
open Go.ChangeShapes Go.WideShapes Go.ChangeAt Go.RowKit

theorem e1 : (Rows.asmFrontRow.inPlace == Tryz.pinned.checked.prog.inPlace 7) = true := by kernel_rfl
theorem e2 : (Rows.asmFrontRow.unfollowed == Tryz.pinned.checked.prog.unfollowed 7) = true := by kernel_rfl
theorem e3 : (Rows.asmFrontRow.recurses == Tryz.pinned.checked.prog.recurses 7) = true := by kernel_rfl
theorem e4 : (Rows.asmFrontRow.named == Tryz.pinned.checked.prog.varsNamed 7) = true := by kernel_rfl
theorem closed : joinedFacts Tryz.pinned.checked.prog 7 Tryz.f7 Rows.asmFrontSpec Rows.asmFrontRow = true := by
  unfold joinedFacts
  rw [e1, e2, e3, e4]
  kernel_rfl

end Go.Proofs.YtjeabbfdiiaaoaaGreatDoor.asmFront
end
