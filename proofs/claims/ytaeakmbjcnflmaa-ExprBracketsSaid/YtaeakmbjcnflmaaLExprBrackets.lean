/- The row 'exprBrackets': the contract of the law, lifted to the statement. -/
import Derived.Test.YtaeakmbjcnflmaaA5
import Derived.Test.YtaeakmbjcnflmaaRows
import Derived.ProofKit
import Derived.SizedLaws
namespace Go.Proofs.Ytaeakmbjcnflmaa.exprBrackets
open Go.ChangeShapes Go.WideShapes Go.ChangeAt Go.RowKit M2

theorem own : ownKnob Try.prog.godebug = none := by kernel_rfl
theorem laidOut : laidOutB Try.prog = true := by kernel_rfl

theorem factsM : BrH tab.get := { h50 := rfl, h61 := rfl, h62 := rfl, h63 := rfl, h81 := rfl, h82 := rfl, h83 := rfl, h94 := rfl, h32 := rfl, h46 := rfl, h53 := rfl, h54 := rfl, h55 := rfl, h52 := rfl, h67 := rfl, h68 := rfl, h69 := rfl, h70 := rfl, h71 := rfl, h72 := rfl, h89 := rfl, h90 := rfl, h91 := rfl, h92 := rfl, h97 := rfl, h98 := rfl, h100 := rfl, h51 := rfl, h64 := rfl, h84 := rfl, h65 := rfl, h66 := rfl, h85 := rfl, h86 := rfl, h87 := rfl, h88 := rfl, h95 := rfl, h96 := rfl, h99 := rfl, h29 := rfl, h30 := rfl, h31 := rfl, h25 := rfl, h47 := rfl, h58 := rfl, h59 := rfl, h33 := rfl, h48 := rfl, h56 := rfl, h60 := rfl, h77 := rfl, h78 := rfl, h79 := rfl, h80 := rfl, h26 := rfl, h27 := rfl, h49 := rfl, h37 := rfl, h40 := rfl, h41 := rfl, h8 := rfl }

theorem law : ∀ {cs : List AV}, TyR ask9Ty cs → PuR tab.get 8 [.agg cs] (· = .bool true) := (fun h => brackets_law factsM h)

set_option maxRecDepth 100000 in
theorem lifted (os : Os) (started : os.Started) (H : Type) (enc : TypeId × Value → H) :
    ReturnsInHanded {} Try.checked os 4 .any (Rows.exprBracketsSpec.pre6 enc Try.prog Try.f4 Rows.exprBracketsRow.domain false) (Rows.exprBracketsSpec.post enc Try.prog Try.f4 false true false false) := by
  refine returnsInHanded_of_change_sized (C := Try.checked) own started (by kernel_rfl) Try.func4
    (ChangeSpec.witness6 (enc := enc) (C := Try.checked) false ⟨#[], #[.agg #[.slice none 0 0, .slice none 0 0, .slice none 0 0, .slice none 0 0]], []⟩ 8 (by kernel_rfl) (by kernel_rfl) (by kernel_rfl) (by kernel_rfl)) ?_
  intro W base args ds gs before hval0 hW hcnd hsz _
  refine law_calls (P := Try.prog) (f := Try.f4) (t := 28) (by rw [Try.params4]) (by kernel_rfl) Try.underlying4 rfl (fun d => rfl) laidOut (by kernel_rfl) (of_decide_eq_true (by kernel_rfl)) hW ?_
  intro v d p hargs hds hgs htr
  subst hargs
  have hval := hval0 0 28 v (by rw [show Try.checked.prog = Try.prog from rfl] at *; simp [Try.params4]) rfl
  have hwt : ∀ w ∈ d.weights Try.prog 28, w ≤ reachBytes := by
    subst hds
    subst hgs
    intro w hw
    exact of_decide_eq_true (List.all_eq_true.mp hsz w (DataW.weights_mem_each (j := 0) (by rw [show Try.checked.prog = Try.prog from rfl] at *; simp [Try.params4]) rfl w hw))
  exact law_ty mix him table (id := 8) (tf := 6) Try.underlying28 (by kernel_rfl) (ty := ask9Ty) (by kernel_rfl) (by kernel_rfl) hwt hval htr (fun cs _ h => law h)

theorem over : Rows.exprBracketsRow.holds Try.pinned (OpenSpec.ofChange Rows.exprBracketsSpec) :=
  OpenClaim.holds_of_wide 4 Try.f4 rfl rfl rfl rfl rfl rfl rfl ⟨rfl, rfl, rfl, rfl, rfl⟩ rfl rfl rfl rfl rfl (by kernel_rfl) Try.func4 (by kernel_rfl)
    (of_decide_eq_true (by kernel_rfl)) (by unfold Func.isWrapper; first | (rw [if_pos (by decide +kernel)]; kernel_rfl) | (rw [if_neg (by decide +kernel)]; exact ⟨rfl, rfl⟩))
    (fun os started H enc _ => lifted os started H enc)
theorem proved : Rows.ExprBracketsSaid := over
end Go.Proofs.Ytaeakmbjcnflmaa.exprBrackets
