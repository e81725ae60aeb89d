/- The row 'chooseTwice': the law, run, lifted to the statement. -/
import Derived.Test.YtdjfjbbmblcbbaaA11
import Derived.Test.YtdjfjbbmblcbbaaRows
import Derived.ProofKit
import Derived.SizedLaws
namespace Go.Proofs.Ytdjfjbbmblcbbaa.chooseTwice
open Go.ChangeShapes Go.WideShapes Go.ChangeAt Go.RowKit M2

theorem own : ownKnob Try.prog.godebug = none := by kernel_rfl
theorem laidOut : laidOutB Try.prog = true := by kernel_rfl

set_option maxRecDepth 100000 in
theorem lifted (os : Os) (started : os.Started) (H : Type) (enc : TypeId × Value → H) :
    ReturnsInHanded {} Try.checked os 3 .any (Rows.chooseTwiceSpec.pre6 enc Try.prog Try.f3 Rows.chooseTwiceRow.domain false) (Rows.chooseTwiceSpec.post enc Try.prog Try.f3 false true false false) := by
  refine returnsInHanded_of_change_sized (C := Try.checked) own started (by kernel_rfl) Try.func3
    (ChangeSpec.witness6 (enc := enc) (C := Try.checked) false ⟨#[], #[.agg #[.slice none 0 0, .slice none 0 0, .slice none 0 0, .slice none 0 0, .slice none 0 0]], []⟩ 8 (by kernel_rfl) (by kernel_rfl) (by kernel_rfl) (by kernel_rfl)) ?_
  intro W base args ds gs before hval0 hW hcnd hsz _
  refine law_calls (P := Try.prog) (f := Try.f3) (t := 32) (by rw [Try.params3]) (by kernel_rfl) Try.underlying4 rfl (fun d => rfl) laidOut (by kernel_rfl) (of_decide_eq_true (by kernel_rfl)) hW ?_
  intro v d p hargs hds hgs htr
  subst hargs
  have hval := hval0 0 32 v (by rw [show Try.checked.prog = Try.prog from rfl] at *; simp [Try.params3]) rfl
  exact law_run2 (M := maps ims) (id := 183) (tf := 8) Try.underlying32 (by kernel_rfl) hval htr (w := 5) (j := 3) (i := 1) (by kernel_rfl) rfl rfl (by decide) Try.underlying29 (by kernel_rfl) (by decide) ct_run

theorem over : Rows.chooseTwiceRow.holds Try.pinned (OpenSpec.ofChange Rows.chooseTwiceSpec) :=
  OpenClaim.holds_of_wide 3 Try.f3 rfl rfl rfl rfl rfl rfl rfl ⟨rfl, rfl, rfl, rfl, rfl⟩ rfl rfl rfl rfl rfl (by kernel_rfl) Try.func3 (by kernel_rfl)
    (of_decide_eq_true (by kernel_rfl)) (by unfold Func.isWrapper; first | (rw [if_pos (by decide +kernel)]; kernel_rfl) | (rw [if_neg (by decide +kernel)]; exact ⟨rfl, rfl⟩))
    (fun os started H enc _ => lifted os started H enc)
theorem proved : Rows.ChooseTwiceSaid := over
end Go.Proofs.Ytdjfjbbmblcbbaa.chooseTwice
