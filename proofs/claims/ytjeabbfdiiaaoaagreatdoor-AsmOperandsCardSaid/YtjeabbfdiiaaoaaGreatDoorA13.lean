/- General ground for the statement: an abstract machine that the program's code is shown to follow, and the contracts of the functions that the law reaches. Part 13. -/
import Derived.Test.YtjeabbfdiiaaoaaGreatDoorA12
import Derived.Test.YtjeabbfdiiaaoaaGreatDoorRows
import Derived.ProofKit
import Derived.SizedLaws
import Derived.LaidMore
import Derived.OpenShut
import Derived.Stop.Joined
set_option linter.unusedVariables false
set_option linter.unusedSimpArgs false
section
/- The row 'asmOperands': closed facts of the program. -/
namespace Go.Proofs.YtjeabbfdiiaaoaaGreatDoor.asmOperands
open Go.ChangeShapes Go.WideShapes Go.ChangeAt Go.RowKit

theorem e1 : (Rows.asmOperandsRow.inPlace == Tryz.pinned.checked.prog.inPlace 4) = true := by kernel_rfl
theorem e2 : (Rows.asmOperandsRow.unfollowed == Tryz.pinned.checked.prog.unfollowed 4) = true := by kernel_rfl
theorem e3 : (Rows.asmOperandsRow.recurses == Tryz.pinned.checked.prog.recurses 4) = true := by kernel_rfl
theorem e4 : (Rows.asmOperandsRow.named == Tryz.pinned.checked.prog.varsNamed 4) = true := by kernel_rfl
theorem closed : joinedFacts Tryz.pinned.checked.prog 4 Tryz.f4 Rows.asmOperandsSpec Rows.asmOperandsRow = true := by
  unfold joinedFacts
  rw [e1, e2, e3, e4]
  kernel_rfl

end Go.Proofs.YtjeabbfdiiaaoaaGreatDoor.asmOperands
end
