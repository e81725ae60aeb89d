/- The row 'macroConditions': the law, run, lifted to the statement. -/
import Derived.Test.YtpbhojddfmajoaaGreatA4
import Derived.Test.YtpbhojddfmajoaaGreatRows
import Derived.ProofKit
import Derived.SizedLaws
namespace Go.Proofs.YtpbhojddfmajoaaGreat.macroConditions
open Go.ChangeShapes Go.WideShapes Go.ChangeAt Go.RowKit M2

theorem own : ownKnob Tryz.prog.godebug = none := by kernel_rfl
theorem laidOut : laidOutB Tryz.prog = true := by kernel_rfl

set_option maxRecDepth 100000 in
theorem lifted (os : Os) (started : os.Started) (H : Type) (enc : TypeId × Value → H) :
    ReturnsInHanded {} Tryz.checked os 4 .any (Rows.macroConditionsSpec.pre6 enc Tryz.prog Tryz.f4 Rows.macroConditionsRow.domain false) (Rows.macroConditionsSpec.post enc Tryz.prog Tryz.f4 false true false false) := by
  refine returnsInHanded_of_change_sized (C := Tryz.checked) own started (by kernel_rfl) Tryz.func4
    (ChangeSpec.witness6 (enc := enc) (C := Tryz.checked) false ⟨#[], #[.agg #[.slice none 0 0, .slice none 0 0, .slice none 0 0]], []⟩ 8 (by kernel_rfl) (by kernel_rfl) (by kernel_rfl) (by kernel_rfl)) ?_
  intro W base args ds gs before hval0 hW hcnd hsz _
  refine law_calls (P := Tryz.prog) (f := Tryz.f4) (t := 28) (by rw [Tryz.params4]) (by kernel_rfl) Tryz.underlying4 rfl (fun d => rfl) laidOut (by kernel_rfl) (of_decide_eq_true (by kernel_rfl)) hW ?_
  intro v d p hargs hds hgs htr
  subst hargs
  have hval := hval0 0 28 v (by rw [show Tryz.checked.prog = Tryz.prog from rfl] at *; simp [Tryz.params4]) rfl
  exact law_run1 him table (id := 122) (tf := 6) Tryz.underlying28 (by kernel_rfl) hval htr (w := 3) (j := 2) (i := 1) (by kernel_rfl) rfl rfl (by decide) Tryz.underlying26 (by kernel_rfl) (by decide) macroConditions_orc (fn := a122) (by kernel_rfl) macroConditions_run

theorem over : Rows.macroConditionsRow.holds Tryz.pinned (OpenSpec.ofChange Rows.macroConditionsSpec) :=
  OpenClaim.holds_of_wide 4 Tryz.f4 rfl rfl rfl rfl rfl rfl rfl ⟨rfl, rfl, rfl, rfl, rfl⟩ rfl rfl rfl rfl rfl (by kernel_rfl) Tryz.func4 (by kernel_rfl)
    (of_decide_eq_true (by kernel_rfl)) (by unfold Func.isWrapper; first | (rw [if_pos (by decide +kernel)]; kernel_rfl) | (rw [if_neg (by decide +kernel)]; exact ⟨rfl, rfl⟩))
    (fun os started H enc _ => lifted os started H enc)
theorem proved : Rows.MacroConditionsSaid := over
end Go.Proofs.YtpbhojddfmajoaaGreat.macroConditions
