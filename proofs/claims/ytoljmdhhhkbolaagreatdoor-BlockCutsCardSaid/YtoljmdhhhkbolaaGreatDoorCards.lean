/-
  DERIVED. GIVEN WITH THE SEED: THE CARDS: each row of YtoljmdhhhkbolaaGreatDoorRows.lean that lists a variable, with what it lists TIED to the program's text (the seventh form; the later family's looks); each row that meets fmt, with fmt's text TOLD by the authors' own Lean function (tested against real Go, not proved from fmt's source: count such statements apart). THE CARD IS WHAT COUNTS. Prove the row's statement (the work); the ties are given (YtoljmdhhhkbolaaGreatDoorTie.lean); close each card by the builder's one call (the guide's Derived/Test/ToyasCard.lean, 'card_holds'). Laid BY PROGRAM, IN A SANDBOX (cutbox-door.mjs). By AI agents, Wed Nov 11 2026. No macro, syntax, notation, axiom, sorry.
-/
import Derived.Test.YtoljmdhhhkbolaaGreatDoorRows
import GoSem.ClaimSeven
namespace Go.Proofs.YtoljmdhhhkbolaaGreatDoor
namespace Rows

/-- THE TIED CARD OF 'sledgelaw13.BlockCuts'. -/
def blockCutsCard : Claim7 := { stood := { row := blockCutsRow, standIns := [], harness := (true, "dd9a3eb3d0764e1c580f7bc018ca733aaf3a9a499e343961391783453630a8db"), looks := false }, kinds := [], alts := [], laidByText := true, laidKinds := [.data, .data, .data], laidTests := true, laidLooks := .later }
def BlockCutsCardSaid : Prop := Claim7.holds Tryz.pinned (.plain (OpenSpec.ofChange blockCutsSpec)) blockCutsCard

/-- THE TIED CARD OF 'sledgelaw21.FlatErrors'. -/
def flatErrorsCard : Claim7 := { stood := { row := flatErrorsRow, standIns := [], harness := (true, "dd9a3eb3d0764e1c580f7bc018ca733aaf3a9a499e343961391783453630a8db"), looks := false }, kinds := [], alts := [], laidByText := true, laidKinds := [.data, .data, .data], laidTests := true, laidLooks := .later }
def FlatErrorsCardSaid : Prop := Claim7.holds Tryz.pinned (.plain (OpenSpec.ofChange flatErrorsSpec)) flatErrorsCard

/-- THE TIED CARD OF 'sledgelaw16.EmitLabels'. -/
def emitLabelsCard : Claim7 := { stood := { row := emitLabelsRow, standIns := [], harness := (true, "dd9a3eb3d0764e1c580f7bc018ca733aaf3a9a499e343961391783453630a8db"), looks := false }, kinds := [], alts := [], laidByText := true, laidKinds := [.data, .data, .data], laidTests := true, laidLooks := .later }
def EmitLabelsCardSaid : Prop := Claim7.holds Tryz.pinned (.plain (OpenSpec.ofChange emitLabelsSpec)) emitLabelsCard

/-- THE SECOND FORM's CARD OF 'sledgelaw13.BlockCuts'. -/
def blockCutsUptoCard : Claim7 := { stood := { row := blockCutsUptoRow, standIns := [], harness := (true, "dd9a3eb3d0764e1c580f7bc018ca733aaf3a9a499e343961391783453630a8db"), looks := false }, kinds := [], alts := [], laidByText := true, laidKinds := [.data, .data, .data], laidTests := true, laidLooks := .later }
def BlockCutsUptoCardSaid : Prop := Claim7.holds Tryz.pinned (.plain (OpenSpec.upto blockCutsSpec)) blockCutsUptoCard

/-- THE SECOND FORM's CARD OF 'sledgelaw21.FlatErrors'. -/
def flatErrorsUptoCard : Claim7 := { stood := { row := flatErrorsUptoRow, standIns := [], harness := (true, "dd9a3eb3d0764e1c580f7bc018ca733aaf3a9a499e343961391783453630a8db"), looks := false }, kinds := [], alts := [], laidByText := true, laidKinds := [.data, .data, .data], laidTests := true, laidLooks := .later }
def FlatErrorsUptoCardSaid : Prop := Claim7.holds Tryz.pinned (.plain (OpenSpec.upto flatErrorsSpec)) flatErrorsUptoCard

/-- THE SECOND FORM's CARD OF 'sledgelaw16.EmitLabels'. -/
def emitLabelsUptoCard : Claim7 := { stood := { row := emitLabelsUptoRow, standIns := [], harness := (true, "dd9a3eb3d0764e1c580f7bc018ca733aaf3a9a499e343961391783453630a8db"), looks := false }, kinds := [], alts := [], laidByText := true, laidKinds := [.data, .data, .data], laidTests := true, laidLooks := .later }
def EmitLabelsUptoCardSaid : Prop := Claim7.holds Tryz.pinned (.plain (OpenSpec.upto emitLabelsSpec)) emitLabelsUptoCard
end Rows
end Go.Proofs.YtoljmdhhhkbolaaGreatDoor
