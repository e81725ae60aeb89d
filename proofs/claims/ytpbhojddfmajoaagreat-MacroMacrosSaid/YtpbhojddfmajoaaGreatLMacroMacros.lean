/- The row 'macroMacros': the law, run, lifted to the statement. -/
import Derived.Test.YtpbhojddfmajoaaGreatA4
import Derived.Test.YtpbhojddfmajoaaGreatRows
import Derived.ProofKit
import Derived.SizedLaws
namespace Go.Proofs.YtpbhojddfmajoaaGreat.macroMacros
open Go.ChangeShapes Go.WideShapes Go.ChangeAt Go.RowKit M2

theorem own : ownKnob Tryz.prog.godebug = none := by kernel_rfl
theorem laidOut : laidOutB Tryz.prog = true := by kernel_rfl

set_option maxRecDepth 100000 in
theorem lifted (os : Os) (started : os.Started) (H : Type) (enc : TypeId × Value → H) :
    ReturnsInHanded {} Tryz.checked os 5 .any (Rows.macroMacrosSpec.pre6 enc Tryz.prog Tryz.f5 Rows.macroMacrosRow.domain false) (Rows.macroMacrosSpec.post enc Tryz.prog Tryz.f5 false true false false) := by
  refine returnsInHanded_of_change_sized (C := Tryz.checked) own started (by kernel_rfl) Tryz.func5
    (ChangeSpec.witness6 (enc := enc) (C := Tryz.checked) false ⟨#[], #[.agg #[.slice none 0 0, .slice none 0 0, .slice none 0 0]], []⟩ 8 (by kernel_rfl) (by kernel_rfl) (by kernel_rfl) (by kernel_rfl)) ?_
  intro W base args ds gs before hval0 hW hcnd hsz _
  refine law_calls (P := Tryz.prog) (f := Tryz.f5) (t := 28) (by rw [Tryz.params5]) (by kernel_rfl) Tryz.underlying4 rfl (fun d => rfl) laidOut (by kernel_rfl) (of_decide_eq_true (by kernel_rfl)) hW ?_
  intro v d p hargs hds hgs htr
  subst hargs
  have hval := hval0 0 28 v (by rw [show Tryz.checked.prog = Tryz.prog from rfl] at *; simp [Tryz.params5]) rfl
  exact law_run1 him table (id := 123) (tf := 6) Tryz.underlying28 (by kernel_rfl) hval htr (w := 3) (j := 2) (i := 1) (by kernel_rfl) rfl rfl (by decide) Tryz.underlying26 (by kernel_rfl) (by decide) macroMacros_orc (fn := a123) (by kernel_rfl) macroMacros_run

theorem over : Rows.macroMacrosRow.holds Tryz.pinned (OpenSpec.ofChange Rows.macroMacrosSpec) :=
  OpenClaim.holds_of_wide 5 Tryz.f5 rfl rfl rfl rfl rfl rfl rfl ⟨rfl, rfl, rfl, rfl, rfl⟩ rfl rfl rfl rfl rfl (by kernel_rfl) Tryz.func5 (by kernel_rfl)
    (of_decide_eq_true (by kernel_rfl)) (by unfold Func.isWrapper; first | (rw [if_pos (by decide +kernel)]; kernel_rfl) | (rw [if_neg (by decide +kernel)]; exact ⟨rfl, rfl⟩))
    (fun os started H enc _ => lifted os started H enc)
theorem proved : Rows.MacroMacrosSaid := over
end Go.Proofs.YtpbhojddfmajoaaGreat.macroMacros
