/-
  No cell of these rows narrows 'for every input' (looked for: loops, veiled, ifaces, maps, wideKeys, modest, calm, conditions, laid).
  DERIVED. THE GIVEN ROWS OF THIS SEAT. 10 by the template 'for every input the law returns true; each argument reads behind the call as it read before'; 0 by the template 'total and deterministic' (their statements: YtofcelckpdepaaaTotals.lean).
  GIVEN WITH THE SEED: the statements are not yours to turn. If you find one false, say at which input.
  Laid BY PROGRAM, IN A SANDBOX (cutbox-rows.mjs): the forced cells as the released guide's own fill.sh prints them over the translation 4966c2d0f91df9ff… (all of the seat's roots in one cut). By AI agents, Wed Nov 11 2026. No macro, syntax, notation, axiom, sorry.
-/
import Derived.Test.YtofcelckpdepaaaChecked
import GoSem.Claim
import GoSem.ClaimJoined
import GoSem.ClaimMapViews
import Derived.JoinedTies
import Derived.KernelRfl
namespace Go.Proofs.Ytofcelckpdepaaa
/- THE CELL 'sum', in the pinned program and in every row, IS THE sha256 OF THE DUMP (.gsa) THAT YtofcelckpdepaaaProg.lean LOADS. Nothing in Lean hashes anything: it is a label: what it is worth is what the hold of that sum in a sandbox is worth. -/
noncomputable def Try.pinned : Pinned := { name := "ytofcelckpdepaaa", sum := "4966c2d0f91df9ffd1949d86fb98747f352367289ab7dbd1760022934edf855b", checked := Try.checked }
namespace Rows
def none {H : Type} : Left H := { results := [], args := [] }

/-- 'sledgelaw2.PairField': WHATEVER THE INPUT: true; the input reads as it did. -/
def pairFieldSpec : ChangeSpec := { name := "pairField", fn := fun _ => fun
  | [d] => { results := [.lit (.bool true)], args := [d] }
  | _ => none }
def pairFieldRow : OpenClaim := { program := "ytofcelckpdepaaa", sum := "4966c2d0f91df9ffd1949d86fb98747f352367289ab7dbd1760022934edf855b", func := "sledge/sledgelaw2.PairField", spec := "pairField", apart := false }
def PairFieldSaid : Prop := pairFieldRow.holds Try.pinned (OpenSpec.ofChange pairFieldSpec)

/-- ITS FALSE NEIGHBOUR: 'it returns false'. Refute it at one input. -/
def pairFieldWrong : ChangeSpec := { name := "pairField", fn := fun _ => fun
  | [d] => { results := [.lit (.bool false)], args := [d] }
  | _ => none }
def PairFieldWrongFalsely : Prop := pairFieldRow.holds Try.pinned (OpenSpec.ofChange pairFieldWrong)

/-- 'sledgelaw2.PairEdges': WHATEVER THE INPUT: true; the input reads as it did. -/
def pairEdgesSpec : ChangeSpec := { name := "pairEdges", fn := fun _ => fun
  | [d] => { results := [.lit (.bool true)], args := [d] }
  | _ => none }
def pairEdgesRow : OpenClaim := { program := "ytofcelckpdepaaa", sum := "4966c2d0f91df9ffd1949d86fb98747f352367289ab7dbd1760022934edf855b", func := "sledge/sledgelaw2.PairEdges", spec := "pairEdges", apart := false }
def PairEdgesSaid : Prop := pairEdgesRow.holds Try.pinned (OpenSpec.ofChange pairEdgesSpec)

/-- ITS FALSE NEIGHBOUR: 'it returns false'. Refute it at one input. -/
def pairEdgesWrong : ChangeSpec := { name := "pairEdges", fn := fun _ => fun
  | [d] => { results := [.lit (.bool false)], args := [d] }
  | _ => none }
def PairEdgesWrongFalsely : Prop := pairEdgesRow.holds Try.pinned (OpenSpec.ofChange pairEdgesWrong)

/-- 'sledgelaw2.PairTurns': WHATEVER THE INPUT: true; the input reads as it did. -/
def pairTurnsSpec : ChangeSpec := { name := "pairTurns", fn := fun _ => fun
  | [d] => { results := [.lit (.bool true)], args := [d] }
  | _ => none }
def pairTurnsRow : OpenClaim := { program := "ytofcelckpdepaaa", sum := "4966c2d0f91df9ffd1949d86fb98747f352367289ab7dbd1760022934edf855b", func := "sledge/sledgelaw2.PairTurns", spec := "pairTurns", apart := false }
def PairTurnsSaid : Prop := pairTurnsRow.holds Try.pinned (OpenSpec.ofChange pairTurnsSpec)

/-- ITS FALSE NEIGHBOUR: 'it returns false'. Refute it at one input. -/
def pairTurnsWrong : ChangeSpec := { name := "pairTurns", fn := fun _ => fun
  | [d] => { results := [.lit (.bool false)], args := [d] }
  | _ => none }
def PairTurnsWrongFalsely : Prop := pairTurnsRow.holds Try.pinned (OpenSpec.ofChange pairTurnsWrong)

/-- 'sledgelaw2.PairOps': WHATEVER THE INPUT: true; the input reads as it did. -/
def pairOpsSpec : ChangeSpec := { name := "pairOps", fn := fun _ => fun
  | [d] => { results := [.lit (.bool true)], args := [d] }
  | _ => none }
def pairOpsRow : OpenClaim := { program := "ytofcelckpdepaaa", sum := "4966c2d0f91df9ffd1949d86fb98747f352367289ab7dbd1760022934edf855b", func := "sledge/sledgelaw2.PairOps", spec := "pairOps", apart := false }
def PairOpsSaid : Prop := pairOpsRow.holds Try.pinned (OpenSpec.ofChange pairOpsSpec)

/-- ITS FALSE NEIGHBOUR: 'it returns false'. Refute it at one input. -/
def pairOpsWrong : ChangeSpec := { name := "pairOps", fn := fun _ => fun
  | [d] => { results := [.lit (.bool false)], args := [d] }
  | _ => none }
def PairOpsWrongFalsely : Prop := pairOpsRow.holds Try.pinned (OpenSpec.ofChange pairOpsWrong)

/-- 'sledgelaw9.ExprTakes': WHATEVER THE INPUT: true; the input reads as it did. -/
def exprTakesSpec : ChangeSpec := { name := "exprTakes", fn := fun _ => fun
  | [d] => { results := [.lit (.bool true)], args := [d] }
  | _ => none }
def exprTakesRow : OpenClaim := { program := "ytofcelckpdepaaa", sum := "4966c2d0f91df9ffd1949d86fb98747f352367289ab7dbd1760022934edf855b", func := "sledge/sledgelaw9.ExprTakes", spec := "exprTakes", inPlace := ["internal/bytealg.IndexByteString"], unfollowed := true, recurses := true, apart := false }
def ExprTakesSaid : Prop := exprTakesRow.holds Try.pinned (OpenSpec.ofChange exprTakesSpec)

/-- ITS FALSE NEIGHBOUR: 'it returns false'. Refute it at one input. -/
def exprTakesWrong : ChangeSpec := { name := "exprTakes", fn := fun _ => fun
  | [d] => { results := [.lit (.bool false)], args := [d] }
  | _ => none }
def ExprTakesWrongFalsely : Prop := exprTakesRow.holds Try.pinned (OpenSpec.ofChange exprTakesWrong)

/-- 'sledgelaw9.ExprBrackets': WHATEVER THE INPUT: true; the input reads as it did. -/
def exprBracketsSpec : ChangeSpec := { name := "exprBrackets", fn := fun _ => fun
  | [d] => { results := [.lit (.bool true)], args := [d] }
  | _ => none }
def exprBracketsRow : OpenClaim := { program := "ytofcelckpdepaaa", sum := "4966c2d0f91df9ffd1949d86fb98747f352367289ab7dbd1760022934edf855b", func := "sledge/sledgelaw9.ExprBrackets", spec := "exprBrackets", inPlace := ["internal/bytealg.IndexByteString"], unfollowed := true, recurses := true, apart := false }
def ExprBracketsSaid : Prop := exprBracketsRow.holds Try.pinned (OpenSpec.ofChange exprBracketsSpec)

/-- ITS FALSE NEIGHBOUR: 'it returns false'. Refute it at one input. -/
def exprBracketsWrong : ChangeSpec := { name := "exprBrackets", fn := fun _ => fun
  | [d] => { results := [.lit (.bool false)], args := [d] }
  | _ => none }
def ExprBracketsWrongFalsely : Prop := exprBracketsRow.holds Try.pinned (OpenSpec.ofChange exprBracketsWrong)

/-- 'sledgelaw9.ExprDeep': WHATEVER THE INPUT: true; the input reads as it did. -/
def exprDeepSpec : ChangeSpec := { name := "exprDeep", fn := fun _ => fun
  | [d] => { results := [.lit (.bool true)], args := [d] }
  | _ => none }
def exprDeepRow : OpenClaim := { program := "ytofcelckpdepaaa", sum := "4966c2d0f91df9ffd1949d86fb98747f352367289ab7dbd1760022934edf855b", func := "sledge/sledgelaw9.ExprDeep", spec := "exprDeep", inPlace := ["internal/bytealg.IndexByteString"], unfollowed := true, recurses := true, apart := false }
def ExprDeepSaid : Prop := exprDeepRow.holds Try.pinned (OpenSpec.ofChange exprDeepSpec)

/-- ITS FALSE NEIGHBOUR: 'it returns false'. Refute it at one input. -/
def exprDeepWrong : ChangeSpec := { name := "exprDeep", fn := fun _ => fun
  | [d] => { results := [.lit (.bool false)], args := [d] }
  | _ => none }
def ExprDeepWrongFalsely : Prop := exprDeepRow.holds Try.pinned (OpenSpec.ofChange exprDeepWrong)

/-- 'sledgelaw9.ExprRanges': WHATEVER THE INPUT: true; the input reads as it did. -/
def exprRangesSpec : ChangeSpec := { name := "exprRanges", fn := fun _ => fun
  | [d] => { results := [.lit (.bool true)], args := [d] }
  | _ => none }
def exprRangesRow : OpenClaim := { program := "ytofcelckpdepaaa", sum := "4966c2d0f91df9ffd1949d86fb98747f352367289ab7dbd1760022934edf855b", func := "sledge/sledgelaw9.ExprRanges", spec := "exprRanges", inPlace := ["internal/bytealg.IndexByteString"], unfollowed := true, recurses := true, apart := false }
def ExprRangesSaid : Prop := exprRangesRow.holds Try.pinned (OpenSpec.ofChange exprRangesSpec)

/-- ITS FALSE NEIGHBOUR: 'it returns false'. Refute it at one input. -/
def exprRangesWrong : ChangeSpec := { name := "exprRanges", fn := fun _ => fun
  | [d] => { results := [.lit (.bool false)], args := [d] }
  | _ => none }
def ExprRangesWrongFalsely : Prop := exprRangesRow.holds Try.pinned (OpenSpec.ofChange exprRangesWrong)

/-- 'sledgelaw9.ExprNames': WHATEVER THE INPUT: true; the input reads as it did. -/
def exprNamesSpec : ChangeSpec := { name := "exprNames", fn := fun _ => fun
  | [d] => { results := [.lit (.bool true)], args := [d] }
  | _ => none }
def exprNamesRow : OpenClaim := { program := "ytofcelckpdepaaa", sum := "4966c2d0f91df9ffd1949d86fb98747f352367289ab7dbd1760022934edf855b", func := "sledge/sledgelaw9.ExprNames", spec := "exprNames", inPlace := ["internal/bytealg.IndexByteString"], unfollowed := true, recurses := true, apart := false }
def ExprNamesSaid : Prop := exprNamesRow.holds Try.pinned (OpenSpec.ofChange exprNamesSpec)

/-- ITS FALSE NEIGHBOUR: 'it returns false'. Refute it at one input. -/
def exprNamesWrong : ChangeSpec := { name := "exprNames", fn := fun _ => fun
  | [d] => { results := [.lit (.bool false)], args := [d] }
  | _ => none }
def ExprNamesWrongFalsely : Prop := exprNamesRow.holds Try.pinned (OpenSpec.ofChange exprNamesWrong)

/-- 'sledgelaw9.ExprAdds': WHATEVER THE INPUT: true; the input reads as it did. -/
def exprAddsSpec : ChangeSpec := { name := "exprAdds", fn := fun _ => fun
  | [d] => { results := [.lit (.bool true)], args := [d] }
  | _ => none }
def exprAddsRow : OpenClaim := { program := "ytofcelckpdepaaa", sum := "4966c2d0f91df9ffd1949d86fb98747f352367289ab7dbd1760022934edf855b", func := "sledge/sledgelaw9.ExprAdds", spec := "exprAdds", inPlace := ["internal/bytealg.IndexByteString"], unfollowed := true, recurses := true, apart := false }
def ExprAddsSaid : Prop := exprAddsRow.holds Try.pinned (OpenSpec.ofChange exprAddsSpec)

/-- ITS FALSE NEIGHBOUR: 'it returns false'. Refute it at one input. -/
def exprAddsWrong : ChangeSpec := { name := "exprAdds", fn := fun _ => fun
  | [d] => { results := [.lit (.bool false)], args := [d] }
  | _ => none }
def ExprAddsWrongFalsely : Prop := exprAddsRow.holds Try.pinned (OpenSpec.ofChange exprAddsWrong)

/- THE SECOND FORM. 'bulk': how many values and letters a reading holds, each counted each time it is reached (what is shared counts as often as it is met; a slice's spare places count too). A statement '..UptoSaid' is the law's where the arguments, and the package variables that the reading takes, are together of bulk at most 1048576: NARROWER than '..Said'. Prove '..Said' where nothing that the law and all that it calls make is longer than what came in: it says more and counts as full. Else prove '..UptoSaid'. A law counts once. -/
mutual
def uptoBulk {H : Type} : DataW H → Nat
  | .lit (.string bytes) => bytes.length + 1
  | .lit _ => 1
  | .nil => 1
  | .ptr d => uptoBulk d + 1
  | .slice elems spare => uptoBulkAll elems + uptoBulkAll spare + 1
  | .agg parts => uptoBulkAll parts + 1
  | .iface _ d => uptoBulk d + 1
  | .map entries => uptoBulkEntries entries + 1
  | .held _ => 1
def uptoBulkAll {H : Type} : List (DataW H) → Nat
  | [] => 0
  | d :: r => uptoBulk d + uptoBulkAll r
def uptoBulkEntries {H : Type} : List (Lit × DataW H) → Nat
  | [] => 0
  | x :: r => uptoBulkEntry x + uptoBulkEntries r
def uptoBulkEntry {H : Type} : Lit × DataW H → Nat
  | (.string bytes, d) => bytes.length + uptoBulk d + 1
  | (_, d) => uptoBulk d + 1
 end
def uptoSmall : (H : Type) → List (DataW H) → Bool := fun _ ds => decide (uptoBulkAll ds ≤ 1048576)
def OpenSpec.upto (s : _root_.Go.ChangeSpec) : _root_.Go.OpenSpec := { _root_.Go.OpenSpec.ofChange s with cond := some uptoSmall }

/-- 'sledgelaw2.PairField', WHERE WHAT IT READS IS OF BULK AT MOST 1048576: true; the input reads as it did. -/
def pairFieldUptoRow : OpenClaim := { program := "ytofcelckpdepaaa", sum := "4966c2d0f91df9ffd1949d86fb98747f352367289ab7dbd1760022934edf855b", func := "sledge/sledgelaw2.PairField", spec := "pairField", apart := false, narrowed := true }
def PairFieldUptoSaid : Prop := pairFieldUptoRow.holds Try.pinned (OpenSpec.upto pairFieldSpec)

/-- 'sledgelaw2.PairEdges', WHERE WHAT IT READS IS OF BULK AT MOST 1048576: true; the input reads as it did. -/
def pairEdgesUptoRow : OpenClaim := { program := "ytofcelckpdepaaa", sum := "4966c2d0f91df9ffd1949d86fb98747f352367289ab7dbd1760022934edf855b", func := "sledge/sledgelaw2.PairEdges", spec := "pairEdges", apart := false, narrowed := true }
def PairEdgesUptoSaid : Prop := pairEdgesUptoRow.holds Try.pinned (OpenSpec.upto pairEdgesSpec)

/-- 'sledgelaw2.PairTurns', WHERE WHAT IT READS IS OF BULK AT MOST 1048576: true; the input reads as it did. -/
def pairTurnsUptoRow : OpenClaim := { program := "ytofcelckpdepaaa", sum := "4966c2d0f91df9ffd1949d86fb98747f352367289ab7dbd1760022934edf855b", func := "sledge/sledgelaw2.PairTurns", spec := "pairTurns", apart := false, narrowed := true }
def PairTurnsUptoSaid : Prop := pairTurnsUptoRow.holds Try.pinned (OpenSpec.upto pairTurnsSpec)

/-- 'sledgelaw2.PairOps', WHERE WHAT IT READS IS OF BULK AT MOST 1048576: true; the input reads as it did. -/
def pairOpsUptoRow : OpenClaim := { program := "ytofcelckpdepaaa", sum := "4966c2d0f91df9ffd1949d86fb98747f352367289ab7dbd1760022934edf855b", func := "sledge/sledgelaw2.PairOps", spec := "pairOps", apart := false, narrowed := true }
def PairOpsUptoSaid : Prop := pairOpsUptoRow.holds Try.pinned (OpenSpec.upto pairOpsSpec)

/-- 'sledgelaw9.ExprTakes', WHERE WHAT IT READS IS OF BULK AT MOST 1048576: true; the input reads as it did. -/
def exprTakesUptoRow : OpenClaim := { program := "ytofcelckpdepaaa", sum := "4966c2d0f91df9ffd1949d86fb98747f352367289ab7dbd1760022934edf855b", func := "sledge/sledgelaw9.ExprTakes", spec := "exprTakes", inPlace := ["internal/bytealg.IndexByteString"], unfollowed := true, recurses := true, apart := false, narrowed := true }
def ExprTakesUptoSaid : Prop := exprTakesUptoRow.holds Try.pinned (OpenSpec.upto exprTakesSpec)

/-- 'sledgelaw9.ExprBrackets', WHERE WHAT IT READS IS OF BULK AT MOST 1048576: true; the input reads as it did. -/
def exprBracketsUptoRow : OpenClaim := { program := "ytofcelckpdepaaa", sum := "4966c2d0f91df9ffd1949d86fb98747f352367289ab7dbd1760022934edf855b", func := "sledge/sledgelaw9.ExprBrackets", spec := "exprBrackets", inPlace := ["internal/bytealg.IndexByteString"], unfollowed := true, recurses := true, apart := false, narrowed := true }
def ExprBracketsUptoSaid : Prop := exprBracketsUptoRow.holds Try.pinned (OpenSpec.upto exprBracketsSpec)

/-- 'sledgelaw9.ExprDeep', WHERE WHAT IT READS IS OF BULK AT MOST 1048576: true; the input reads as it did. -/
def exprDeepUptoRow : OpenClaim := { program := "ytofcelckpdepaaa", sum := "4966c2d0f91df9ffd1949d86fb98747f352367289ab7dbd1760022934edf855b", func := "sledge/sledgelaw9.ExprDeep", spec := "exprDeep", inPlace := ["internal/bytealg.IndexByteString"], unfollowed := true, recurses := true, apart := false, narrowed := true }
def ExprDeepUptoSaid : Prop := exprDeepUptoRow.holds Try.pinned (OpenSpec.upto exprDeepSpec)

/-- 'sledgelaw9.ExprRanges', WHERE WHAT IT READS IS OF BULK AT MOST 1048576: true; the input reads as it did. -/
def exprRangesUptoRow : OpenClaim := { program := "ytofcelckpdepaaa", sum := "4966c2d0f91df9ffd1949d86fb98747f352367289ab7dbd1760022934edf855b", func := "sledge/sledgelaw9.ExprRanges", spec := "exprRanges", inPlace := ["internal/bytealg.IndexByteString"], unfollowed := true, recurses := true, apart := false, narrowed := true }
def ExprRangesUptoSaid : Prop := exprRangesUptoRow.holds Try.pinned (OpenSpec.upto exprRangesSpec)

/-- 'sledgelaw9.ExprNames', WHERE WHAT IT READS IS OF BULK AT MOST 1048576: true; the input reads as it did. -/
def exprNamesUptoRow : OpenClaim := { program := "ytofcelckpdepaaa", sum := "4966c2d0f91df9ffd1949d86fb98747f352367289ab7dbd1760022934edf855b", func := "sledge/sledgelaw9.ExprNames", spec := "exprNames", inPlace := ["internal/bytealg.IndexByteString"], unfollowed := true, recurses := true, apart := false, narrowed := true }
def ExprNamesUptoSaid : Prop := exprNamesUptoRow.holds Try.pinned (OpenSpec.upto exprNamesSpec)

/-- 'sledgelaw9.ExprAdds', WHERE WHAT IT READS IS OF BULK AT MOST 1048576: true; the input reads as it did. -/
def exprAddsUptoRow : OpenClaim := { program := "ytofcelckpdepaaa", sum := "4966c2d0f91df9ffd1949d86fb98747f352367289ab7dbd1760022934edf855b", func := "sledge/sledgelaw9.ExprAdds", spec := "exprAdds", inPlace := ["internal/bytealg.IndexByteString"], unfollowed := true, recurses := true, apart := false, narrowed := true }
def ExprAddsUptoSaid : Prop := exprAddsUptoRow.holds Try.pinned (OpenSpec.upto exprAddsSpec)

end Rows
end Go.Proofs.Ytofcelckpdepaaa
