/-
  No cell of these rows narrows 'for every input' (looked for: loops, veiled, ifaces, maps, wideKeys, modest, calm, conditions, laid).
  DERIVED. THE GIVEN ROWS OF THIS SEAT. 6 by the template 'for every input the law returns true; each argument reads behind the call as it read before'; 0 by the template 'total and deterministic' (their statements: YtpbhojddfmajoaaGreatTotals.lean).
  GIVEN WITH THE SEED: the statements are not yours to turn. If you find one false, say at which input.
  Laid BY PROGRAM, IN A SANDBOX (cutbox-rows.mjs): the forced cells as the released guide's own fill.sh prints them over the translation e24dfcdf74da8ddc… (all of the seat's roots in one cut). By AI agents, Wed Nov 11 2026. No macro, syntax, notation, axiom, sorry.
-/
import Derived.Test.YtpbhojddfmajoaaGreatChecked
import GoSem.Claim
import GoSem.ClaimJoined
import GoSem.ClaimMapViews
import Derived.JoinedTies
import Derived.KernelRfl
namespace Go.Proofs.YtpbhojddfmajoaaGreat
/- THE CELL 'sum', in the pinned program and in every row, IS THE sha256 OF THE DUMP (.gsa) THAT YtpbhojddfmajoaaGreatProg.lean LOADS. Nothing in Lean hashes anything: it is a label: what it is worth is what the hold of that sum in a sandbox is worth. -/
noncomputable def Tryz.pinned : Pinned := { name := "ytpbhojddfmajoaagreat", sum := "e24dfcdf74da8ddc1c99441b92fe2fe4059b5994693d0bd73e6829a8f6f09162", checked := Tryz.checked }
namespace Rows
def none {H : Type} : Left H := { results := [], args := [] }

/-- 'sledgelaw11.MacroExpands': WHATEVER THE INPUT: true; the input reads as it did. -/
def macroExpandsSpec : ChangeSpec := { name := "macroExpands", fn := fun _ => fun
  | [d] => { results := [.lit (.bool true)], args := [d] }
  | _ => none }
def macroExpandsRow : OpenClaim := { program := "ytpbhojddfmajoaagreat", sum := "e24dfcdf74da8ddc1c99441b92fe2fe4059b5994693d0bd73e6829a8f6f09162", func := "sledge/sledgelaw11.MacroExpands", spec := "macroExpands", inPlace := ["internal/bytealg.IndexByteString"], unfollowed := true, recurses := true, apart := false }
def MacroExpandsSaid : Prop := macroExpandsRow.holds Tryz.pinned (OpenSpec.ofChange macroExpandsSpec)

/-- ITS FALSE NEIGHBOUR: 'it returns false'. Refute it at one input. -/
def macroExpandsWrong : ChangeSpec := { name := "macroExpands", fn := fun _ => fun
  | [d] => { results := [.lit (.bool false)], args := [d] }
  | _ => none }
def MacroExpandsWrongFalsely : Prop := macroExpandsRow.holds Tryz.pinned (OpenSpec.ofChange macroExpandsWrong)

/-- 'sledgelaw11.MacroConditions': WHATEVER THE INPUT: true; the input reads as it did. -/
def macroConditionsSpec : ChangeSpec := { name := "macroConditions", fn := fun _ => fun
  | [d] => { results := [.lit (.bool true)], args := [d] }
  | _ => none }
def macroConditionsRow : OpenClaim := { program := "ytpbhojddfmajoaagreat", sum := "e24dfcdf74da8ddc1c99441b92fe2fe4059b5994693d0bd73e6829a8f6f09162", func := "sledge/sledgelaw11.MacroConditions", spec := "macroConditions", inPlace := ["internal/bytealg.IndexByteString"], unfollowed := true, recurses := true, apart := false }
def MacroConditionsSaid : Prop := macroConditionsRow.holds Tryz.pinned (OpenSpec.ofChange macroConditionsSpec)

/-- ITS FALSE NEIGHBOUR: 'it returns false'. Refute it at one input. -/
def macroConditionsWrong : ChangeSpec := { name := "macroConditions", fn := fun _ => fun
  | [d] => { results := [.lit (.bool false)], args := [d] }
  | _ => none }
def MacroConditionsWrongFalsely : Prop := macroConditionsRow.holds Tryz.pinned (OpenSpec.ofChange macroConditionsWrong)

/-- 'sledgelaw11.MacroMacros': WHATEVER THE INPUT: true; the input reads as it did. -/
def macroMacrosSpec : ChangeSpec := { name := "macroMacros", fn := fun _ => fun
  | [d] => { results := [.lit (.bool true)], args := [d] }
  | _ => none }
def macroMacrosRow : OpenClaim := { program := "ytpbhojddfmajoaagreat", sum := "e24dfcdf74da8ddc1c99441b92fe2fe4059b5994693d0bd73e6829a8f6f09162", func := "sledge/sledgelaw11.MacroMacros", spec := "macroMacros", inPlace := ["internal/bytealg.IndexByteString"], unfollowed := true, recurses := true, apart := false }
def MacroMacrosSaid : Prop := macroMacrosRow.holds Tryz.pinned (OpenSpec.ofChange macroMacrosSpec)

/-- ITS FALSE NEIGHBOUR: 'it returns false'. Refute it at one input. -/
def macroMacrosWrong : ChangeSpec := { name := "macroMacros", fn := fun _ => fun
  | [d] => { results := [.lit (.bool false)], args := [d] }
  | _ => none }
def MacroMacrosWrongFalsely : Prop := macroMacrosRow.holds Tryz.pinned (OpenSpec.ofChange macroMacrosWrong)

/-- 'sledgelaw11.MacroParts': WHATEVER THE INPUT: true; the input reads as it did. -/
def macroPartsSpec : ChangeSpec := { name := "macroParts", fn := fun _ => fun
  | [d] => { results := [.lit (.bool true)], args := [d] }
  | _ => none }
def macroPartsRow : OpenClaim := { program := "ytpbhojddfmajoaagreat", sum := "e24dfcdf74da8ddc1c99441b92fe2fe4059b5994693d0bd73e6829a8f6f09162", func := "sledge/sledgelaw11.MacroParts", spec := "macroParts", inPlace := ["internal/bytealg.IndexByteString"], unfollowed := true, recurses := true, apart := false }
def MacroPartsSaid : Prop := macroPartsRow.holds Tryz.pinned (OpenSpec.ofChange macroPartsSpec)

/-- ITS FALSE NEIGHBOUR: 'it returns false'. Refute it at one input. -/
def macroPartsWrong : ChangeSpec := { name := "macroParts", fn := fun _ => fun
  | [d] => { results := [.lit (.bool false)], args := [d] }
  | _ => none }
def MacroPartsWrongFalsely : Prop := macroPartsRow.holds Tryz.pinned (OpenSpec.ofChange macroPartsWrong)

/-- 'sledgelaw11.MacroEqus': WHATEVER THE INPUT: true; the input reads as it did. -/
def macroEqusSpec : ChangeSpec := { name := "macroEqus", fn := fun _ => fun
  | [d] => { results := [.lit (.bool true)], args := [d] }
  | _ => none }
def macroEqusRow : OpenClaim := { program := "ytpbhojddfmajoaagreat", sum := "e24dfcdf74da8ddc1c99441b92fe2fe4059b5994693d0bd73e6829a8f6f09162", func := "sledge/sledgelaw11.MacroEqus", spec := "macroEqus", inPlace := ["internal/bytealg.IndexByteString"], unfollowed := true, recurses := true, apart := false }
def MacroEqusSaid : Prop := macroEqusRow.holds Tryz.pinned (OpenSpec.ofChange macroEqusSpec)

/-- ITS FALSE NEIGHBOUR: 'it returns false'. Refute it at one input. -/
def macroEqusWrong : ChangeSpec := { name := "macroEqus", fn := fun _ => fun
  | [d] => { results := [.lit (.bool false)], args := [d] }
  | _ => none }
def MacroEqusWrongFalsely : Prop := macroEqusRow.holds Tryz.pinned (OpenSpec.ofChange macroEqusWrong)

/-- 'sledgelaw11.MacroDeep': WHATEVER THE INPUT: true; the input reads as it did. -/
def macroDeepSpec : ChangeSpec := { name := "macroDeep", fn := fun _ => fun
  | [d] => { results := [.lit (.bool true)], args := [d] }
  | _ => none }
def macroDeepRow : OpenClaim := { program := "ytpbhojddfmajoaagreat", sum := "e24dfcdf74da8ddc1c99441b92fe2fe4059b5994693d0bd73e6829a8f6f09162", func := "sledge/sledgelaw11.MacroDeep", spec := "macroDeep", inPlace := ["internal/bytealg.IndexByteString"], unfollowed := true, recurses := true, apart := false }
def MacroDeepSaid : Prop := macroDeepRow.holds Tryz.pinned (OpenSpec.ofChange macroDeepSpec)

/-- ITS FALSE NEIGHBOUR: 'it returns false'. Refute it at one input. -/
def macroDeepWrong : ChangeSpec := { name := "macroDeep", fn := fun _ => fun
  | [d] => { results := [.lit (.bool false)], args := [d] }
  | _ => none }
def MacroDeepWrongFalsely : Prop := macroDeepRow.holds Tryz.pinned (OpenSpec.ofChange macroDeepWrong)

/- THE SECOND FORM. 'bulk': how many values and letters a reading holds, each counted each time it is reached (what is shared counts as often as it is met; a slice's spare places count too). A statement '..UptoSaid' is the law's where the arguments, and the package variables that the reading takes, are together of bulk at most 1048576: NARROWER than '..Said'. Prove '..Said' where nothing that the law and all that it calls make is longer than what came in: it says more and counts as full. Else prove '..UptoSaid'. A law counts once. -/
mutual
def uptoBulk {H : Type} : DataW H → Nat
  | .lit (.string bytes) => bytes.length + 1
  | .lit _ => 1
  | .nil => 1
  | .ptr d => uptoBulk d + 1
  | .slice elems spare => uptoBulkAll elems + uptoBulkAll spare + 1
  | .agg parts => uptoBulkAll parts + 1
  | .iface _ d => uptoBulk d + 1
  | .map entries => uptoBulkEntries entries + 1
  | .held _ => 1
def uptoBulkAll {H : Type} : List (DataW H) → Nat
  | [] => 0
  | d :: r => uptoBulk d + uptoBulkAll r
def uptoBulkEntries {H : Type} : List (Lit × DataW H) → Nat
  | [] => 0
  | x :: r => uptoBulkEntry x + uptoBulkEntries r
def uptoBulkEntry {H : Type} : Lit × DataW H → Nat
  | (.string bytes, d) => bytes.length + uptoBulk d + 1
  | (_, d) => uptoBulk d + 1
 end
def uptoSmall : (H : Type) → List (DataW H) → Bool := fun _ ds => decide (uptoBulkAll ds ≤ 1048576)
def OpenSpec.upto (s : _root_.Go.ChangeSpec) : _root_.Go.OpenSpec := { _root_.Go.OpenSpec.ofChange s with cond := some uptoSmall }

/-- 'sledgelaw11.MacroExpands', WHERE WHAT IT READS IS OF BULK AT MOST 1048576: true; the input reads as it did. -/
def macroExpandsUptoRow : OpenClaim := { program := "ytpbhojddfmajoaagreat", sum := "e24dfcdf74da8ddc1c99441b92fe2fe4059b5994693d0bd73e6829a8f6f09162", func := "sledge/sledgelaw11.MacroExpands", spec := "macroExpands", inPlace := ["internal/bytealg.IndexByteString"], unfollowed := true, recurses := true, apart := false, narrowed := true }
def MacroExpandsUptoSaid : Prop := macroExpandsUptoRow.holds Tryz.pinned (OpenSpec.upto macroExpandsSpec)

/-- 'sledgelaw11.MacroConditions', WHERE WHAT IT READS IS OF BULK AT MOST 1048576: true; the input reads as it did. -/
def macroConditionsUptoRow : OpenClaim := { program := "ytpbhojddfmajoaagreat", sum := "e24dfcdf74da8ddc1c99441b92fe2fe4059b5994693d0bd73e6829a8f6f09162", func := "sledge/sledgelaw11.MacroConditions", spec := "macroConditions", inPlace := ["internal/bytealg.IndexByteString"], unfollowed := true, recurses := true, apart := false, narrowed := true }
def MacroConditionsUptoSaid : Prop := macroConditionsUptoRow.holds Tryz.pinned (OpenSpec.upto macroConditionsSpec)

/-- 'sledgelaw11.MacroMacros', WHERE WHAT IT READS IS OF BULK AT MOST 1048576: true; the input reads as it did. -/
def macroMacrosUptoRow : OpenClaim := { program := "ytpbhojddfmajoaagreat", sum := "e24dfcdf74da8ddc1c99441b92fe2fe4059b5994693d0bd73e6829a8f6f09162", func := "sledge/sledgelaw11.MacroMacros", spec := "macroMacros", inPlace := ["internal/bytealg.IndexByteString"], unfollowed := true, recurses := true, apart := false, narrowed := true }
def MacroMacrosUptoSaid : Prop := macroMacrosUptoRow.holds Tryz.pinned (OpenSpec.upto macroMacrosSpec)

/-- 'sledgelaw11.MacroParts', WHERE WHAT IT READS IS OF BULK AT MOST 1048576: true; the input reads as it did. -/
def macroPartsUptoRow : OpenClaim := { program := "ytpbhojddfmajoaagreat", sum := "e24dfcdf74da8ddc1c99441b92fe2fe4059b5994693d0bd73e6829a8f6f09162", func := "sledge/sledgelaw11.MacroParts", spec := "macroParts", inPlace := ["internal/bytealg.IndexByteString"], unfollowed := true, recurses := true, apart := false, narrowed := true }
def MacroPartsUptoSaid : Prop := macroPartsUptoRow.holds Tryz.pinned (OpenSpec.upto macroPartsSpec)

/-- 'sledgelaw11.MacroEqus', WHERE WHAT IT READS IS OF BULK AT MOST 1048576: true; the input reads as it did. -/
def macroEqusUptoRow : OpenClaim := { program := "ytpbhojddfmajoaagreat", sum := "e24dfcdf74da8ddc1c99441b92fe2fe4059b5994693d0bd73e6829a8f6f09162", func := "sledge/sledgelaw11.MacroEqus", spec := "macroEqus", inPlace := ["internal/bytealg.IndexByteString"], unfollowed := true, recurses := true, apart := false, narrowed := true }
def MacroEqusUptoSaid : Prop := macroEqusUptoRow.holds Tryz.pinned (OpenSpec.upto macroEqusSpec)

/-- 'sledgelaw11.MacroDeep', WHERE WHAT IT READS IS OF BULK AT MOST 1048576: true; the input reads as it did. -/
def macroDeepUptoRow : OpenClaim := { program := "ytpbhojddfmajoaagreat", sum := "e24dfcdf74da8ddc1c99441b92fe2fe4059b5994693d0bd73e6829a8f6f09162", func := "sledge/sledgelaw11.MacroDeep", spec := "macroDeep", inPlace := ["internal/bytealg.IndexByteString"], unfollowed := true, recurses := true, apart := false, narrowed := true }
def MacroDeepUptoSaid : Prop := macroDeepUptoRow.holds Tryz.pinned (OpenSpec.upto macroDeepSpec)

end Rows
end Go.Proofs.YtpbhojddfmajoaaGreat
