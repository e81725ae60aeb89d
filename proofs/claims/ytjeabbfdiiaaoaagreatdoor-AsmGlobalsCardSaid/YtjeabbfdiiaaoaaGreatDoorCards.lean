/-
  DERIVED. GIVEN WITH THE SEED: THE CARDS: each row of YtjeabbfdiiaaoaaGreatDoorRows.lean that lists a variable, with what it lists TIED to the program's text (the seventh form; the later family's looks); each row that meets fmt, with fmt's text TOLD by the authors' own Lean function (tested against real Go, not proved from fmt's source: count such statements apart). THE CARD IS WHAT COUNTS. Prove the row's statement (the work); the ties are given (YtjeabbfdiiaaoaaGreatDoorTie.lean); close each card by the builder's one call (the guide's Derived/Test/ToyasCard.lean, 'card_holds'). Laid BY PROGRAM, IN A SANDBOX (cutbox-door.mjs). By AI agents, Wed Nov 11 2026. No macro, syntax, notation, axiom, sorry.
-/
import Derived.Test.YtjeabbfdiiaaoaaGreatDoorRows
import GoSem.ClaimSeven
namespace Go.Proofs.YtjeabbfdiiaaoaaGreatDoor
namespace Rows

/-- THE TIED CARD OF 'sledgelaw10.LineLabels'. -/
def lineLabelsCard : Claim7 := { stood := { row := lineLabelsRow, standIns := [], harness := (true, "420f20e17c8d57acd80c77562d3cedb2174f485ca35a780623989f04c35a22e2"), looks := true }, kinds := [], alts := [], laidByText := true, laidKinds := [.data, .data, .data, .data, .sentinel, .sentinel, .pinned], laidTests := true, laidLooks := .later }
def LineLabelsCardSaid : Prop := Claim7.holds Tryz.pinned (.plain (OpenSpec.ofChange lineLabelsSpec)) lineLabelsCard

/-- THE TIED CARD OF 'sledgelaw12.AsmOperands'. -/
def asmOperandsCard : Claim7 := { stood := { row := asmOperandsRow, standIns := [], harness := (true, "420f20e17c8d57acd80c77562d3cedb2174f485ca35a780623989f04c35a22e2"), looks := true }, kinds := [], alts := [], laidByText := true, laidKinds := [.data, .data, .data, .data, .sentinel, .sentinel, .listed, .data, .pinned], laidTests := true, laidLooks := .later }
def AsmOperandsCardSaid : Prop := Claim7.holds Tryz.pinned (.plain (OpenSpec.ofChange asmOperandsSpec)) asmOperandsCard

/-- THE TIED CARD OF 'sledgelaw12.AsmDatas'. -/
def asmDatasCard : Claim7 := { stood := { row := asmDatasRow, standIns := [], harness := (true, "420f20e17c8d57acd80c77562d3cedb2174f485ca35a780623989f04c35a22e2"), looks := true }, kinds := [], alts := [], laidByText := true, laidKinds := [.data, .data, .data, .data, .sentinel, .sentinel, .listed, .data, .pinned], laidTests := true, laidLooks := .later }
def AsmDatasCardSaid : Prop := Claim7.holds Tryz.pinned (.plain (OpenSpec.ofChange asmDatasSpec)) asmDatasCard

/-- THE TIED CARD OF 'sledgelaw12.AsmGlobals'. -/
def asmGlobalsCard : Claim7 := { stood := { row := asmGlobalsRow, standIns := [], harness := (true, "420f20e17c8d57acd80c77562d3cedb2174f485ca35a780623989f04c35a22e2"), looks := true }, kinds := [], alts := [], laidByText := true, laidKinds := [.data, .data, .data, .data, .sentinel, .sentinel, .listed, .data, .pinned], laidTests := true, laidLooks := .later }
def AsmGlobalsCardSaid : Prop := Claim7.holds Tryz.pinned (.plain (OpenSpec.ofChange asmGlobalsSpec)) asmGlobalsCard

/-- THE TIED CARD OF 'sledgelaw12.AsmFront'. -/
def asmFrontCard : Claim7 := { stood := { row := asmFrontRow, standIns := [], harness := (true, "420f20e17c8d57acd80c77562d3cedb2174f485ca35a780623989f04c35a22e2"), looks := true }, kinds := [], alts := [], laidByText := true, laidKinds := [.data, .data, .data, .data, .sentinel, .sentinel, .listed, .data, .pinned], laidTests := true, laidLooks := .later }
def AsmFrontCardSaid : Prop := Claim7.holds Tryz.pinned (.plain (OpenSpec.ofChange asmFrontSpec)) asmFrontCard

/-- THE SECOND FORM's CARD OF 'sledgelaw10.LineLabels'. -/
def lineLabelsUptoCard : Claim7 := { stood := { row := lineLabelsUptoRow, standIns := [], harness := (true, "420f20e17c8d57acd80c77562d3cedb2174f485ca35a780623989f04c35a22e2"), looks := true }, kinds := [], alts := [], laidByText := true, laidKinds := [.data, .data, .data, .data, .sentinel, .sentinel, .pinned], laidTests := true, laidLooks := .later }
def LineLabelsUptoCardSaid : Prop := Claim7.holds Tryz.pinned (.plain (OpenSpec.upto lineLabelsSpec)) lineLabelsUptoCard

/-- THE SECOND FORM's CARD OF 'sledgelaw12.AsmOperands'. -/
def asmOperandsUptoCard : Claim7 := { stood := { row := asmOperandsUptoRow, standIns := [], harness := (true, "420f20e17c8d57acd80c77562d3cedb2174f485ca35a780623989f04c35a22e2"), looks := true }, kinds := [], alts := [], laidByText := true, laidKinds := [.data, .data, .data, .data, .sentinel, .sentinel, .listed, .data, .pinned], laidTests := true, laidLooks := .later }
def AsmOperandsUptoCardSaid : Prop := Claim7.holds Tryz.pinned (.plain (OpenSpec.upto asmOperandsSpec)) asmOperandsUptoCard

/-- THE SECOND FORM's CARD OF 'sledgelaw12.AsmDatas'. -/
def asmDatasUptoCard : Claim7 := { stood := { row := asmDatasUptoRow, standIns := [], harness := (true, "420f20e17c8d57acd80c77562d3cedb2174f485ca35a780623989f04c35a22e2"), looks := true }, kinds := [], alts := [], laidByText := true, laidKinds := [.data, .data, .data, .data, .sentinel, .sentinel, .listed, .data, .pinned], laidTests := true, laidLooks := .later }
def AsmDatasUptoCardSaid : Prop := Claim7.holds Tryz.pinned (.plain (OpenSpec.upto asmDatasSpec)) asmDatasUptoCard

/-- THE SECOND FORM's CARD OF 'sledgelaw12.AsmGlobals'. -/
def asmGlobalsUptoCard : Claim7 := { stood := { row := asmGlobalsUptoRow, standIns := [], harness := (true, "420f20e17c8d57acd80c77562d3cedb2174f485ca35a780623989f04c35a22e2"), looks := true }, kinds := [], alts := [], laidByText := true, laidKinds := [.data, .data, .data, .data, .sentinel, .sentinel, .listed, .data, .pinned], laidTests := true, laidLooks := .later }
def AsmGlobalsUptoCardSaid : Prop := Claim7.holds Tryz.pinned (.plain (OpenSpec.upto asmGlobalsSpec)) asmGlobalsUptoCard

/-- THE SECOND FORM's CARD OF 'sledgelaw12.AsmFront'. -/
def asmFrontUptoCard : Claim7 := { stood := { row := asmFrontUptoRow, standIns := [], harness := (true, "420f20e17c8d57acd80c77562d3cedb2174f485ca35a780623989f04c35a22e2"), looks := true }, kinds := [], alts := [], laidByText := true, laidKinds := [.data, .data, .data, .data, .sentinel, .sentinel, .listed, .data, .pinned], laidTests := true, laidLooks := .later }
def AsmFrontUptoCardSaid : Prop := Claim7.holds Tryz.pinned (.plain (OpenSpec.upto asmFrontSpec)) asmFrontUptoCard
end Rows
end Go.Proofs.YtjeabbfdiiaaoaaGreatDoor
