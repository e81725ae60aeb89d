/- The row 'pairOps': the contract of the law, lifted to the statement. -/
import Derived.Test.YtofcelckpdepaaaA3
import Derived.Test.YtofcelckpdepaaaRows
import Derived.ProofKit
import Derived.SizedLaws
namespace Go.Proofs.Ytofcelckpdepaaa.pairOps
open Go.ChangeShapes Go.WideShapes Go.ChangeAt Go.RowKit M2

theorem own : ownKnob Try.prog.godebug = none := by kernel_rfl
theorem laidOut : laidOutB Try.prog = true := by kernel_rfl

theorem pairM : PairM tab.get := { h3 := rfl, h4 := rfl, h5 := rfl, h6 := rfl, h12 := rfl, h13 := rfl, h14 := rfl, h15 := rfl, h16 := rfl, h17 := rfl, h18 := rfl, h19 := rfl, h20 := rfl, h21 := rfl, h22 := rfl, h23 := rfl, h24 := rfl, h43 := rfl, h44 := rfl, h45 := rfl, h46 := rfl }

theorem law : ∀ {cs : List AV}, TyR askTy cs → PuR tab.get 6 [.agg cs] (· = .bool true) := (fun h => ops_law pairM h)

set_option maxRecDepth 100000 in
theorem lifted (os : Os) (started : os.Started) (H : Type) (enc : TypeId × Value → H) :
    ReturnsInHanded {} Try.checked os 6 .any (Rows.pairOpsSpec.pre6 enc Try.prog Try.f6 Rows.pairOpsRow.domain false) (Rows.pairOpsSpec.post enc Try.prog Try.f6 false true false false) := by
  refine returnsInHanded_of_change_sized (C := Try.checked) own started (by kernel_rfl) Try.func6
    (ChangeSpec.witness6 (enc := enc) (C := Try.checked) false ⟨#[], #[.agg #[.slice none 0 0, .slice none 0 0]], []⟩ 8 (by kernel_rfl) (by kernel_rfl) (by kernel_rfl) (by kernel_rfl)) ?_
  intro W base args ds gs before hval0 hW hcnd hsz _
  refine law_calls (P := Try.prog) (f := Try.f6) (t := 25) (by rw [Try.params6]) (by kernel_rfl) Try.underlying4 rfl (fun d => rfl) laidOut (by kernel_rfl) (of_decide_eq_true (by kernel_rfl)) hW ?_
  intro v d p hargs hds hgs htr
  subst hargs
  have hval := hval0 0 25 v (by rw [show Try.checked.prog = Try.prog from rfl] at *; simp [Try.params6]) rfl
  have hwt : ∀ w ∈ d.weights Try.prog 25, w ≤ reachBytes := by
    subst hds
    subst hgs
    intro w hw
    exact of_decide_eq_true (List.all_eq_true.mp hsz w (DataW.weights_mem_each (j := 0) (by rw [show Try.checked.prog = Try.prog from rfl] at *; simp [Try.params6]) rfl w hw))
  exact law_ty mix him table (id := 6) (tf := 6) Try.underlying25 (by kernel_rfl) (ty := askTy) (by kernel_rfl) (by kernel_rfl) hwt hval htr (fun cs _ h => law h)

theorem over : Rows.pairOpsRow.holds Try.pinned (OpenSpec.ofChange Rows.pairOpsSpec) :=
  OpenClaim.holds_of_wide 6 Try.f6 rfl rfl rfl rfl rfl rfl rfl ⟨rfl, rfl, rfl, rfl, rfl⟩ rfl rfl rfl rfl rfl (by kernel_rfl) Try.func6 (by kernel_rfl)
    (of_decide_eq_true (by kernel_rfl)) (by unfold Func.isWrapper; first | (rw [if_pos (by decide +kernel)]; kernel_rfl) | (rw [if_neg (by decide +kernel)]; exact ⟨rfl, rfl⟩))
    (fun os started H enc _ => lifted os started H enc)
theorem proved : Rows.PairOpsSaid := over
end Go.Proofs.Ytofcelckpdepaaa.pairOps
