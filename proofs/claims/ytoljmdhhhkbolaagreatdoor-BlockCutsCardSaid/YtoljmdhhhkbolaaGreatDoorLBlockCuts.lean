/- The row 'blockCuts', the law, run, lifted to the statement; and its tied card. -/
import Derived.Test.YtoljmdhhhkbolaaGreatDoorA5
import Derived.Test.YtoljmdhhhkbolaaGreatDoorRows
import Derived.Test.YtoljmdhhhkbolaaGreatDoorCards
import Derived.Test.YtoljmdhhhkbolaaGreatDoorTie
import Derived.ProofKit
import Derived.SizedLaws
import Derived.LaidMore
import Derived.OpenShut
import Derived.Stop.Joined
import Derived.SevenTiedAt
namespace Go.Proofs.YtoljmdhhhkbolaaGreatDoor.blockCuts
open Go.ChangeShapes Go.WideShapes Go.ChangeAt Go.RowKit M2

theorem own : ownKnob Tryz.prog.godebug = none := by kernel_rfl
theorem laidOut : laidOutB Tryz.prog = true := by kernel_rfl
abbrev laidL {H : Type} : List (String × DataW H) := [("math/bits.deBruijn32tab", Rows.laid_math_bits_deBruijn32tab), ("math/bits.deBruijn64tab", Rows.laid_math_bits_deBruijn64tab), ("internal/strconv.uint64pow10", Rows.laid_internal_strconv_uint64pow10)]

theorem door_met (os : Os) (args : Array Value) : laidMetH Tryz.prog laidL ((World.doorLaid Tryz.prog 400 os).forCall (fun _ _ => 0) ⟨#[], args, []⟩).memory :=
  laidMetH_of_parts3 (fuel := 8) (laidMet_of_run' 8 (by kernel_rfl) (by kernel_rfl)) (by kernel_rfl) (by kernel_rfl)

set_option maxRecDepth 100000 in
theorem lifted (os : Os) (started : os.Started) (H : Type) (enc : TypeId × Value → H) :
    ReturnsInHanded {} Tryz.checked os 3 .any (fun w args => (Rows.blockCutsSpec.pre enc Tryz.prog Tryz.f3 [] false w args ∧ laidMetH Tryz.prog laidL w) ∧ sizedMet enc Tryz.prog Tryz.f3 (OpenSpec.ofChange Rows.blockCutsSpec) false w args)
      (Rows.blockCutsSpec.post enc Tryz.prog Tryz.f3 false true false false) := by
  refine returnsInHanded_of_change_and (C := Tryz.checked) (X := fun w _ => laidMetH Tryz.prog laidL w) (fun _ _ _ hh h => h.of_heap hh) own started (by kernel_rfl) Tryz.func3
    (ChangeSpec.witness_shaped (enc := enc) (C := Tryz.checked) (os := os) (X := fun w _ => laidMetH Tryz.prog laidL w) false (World.doorLaid Tryz.prog 400 os) #[.agg #[.slice none 0 0, .slice none 0 0, .slice none 0 0]] 8 rfl (World.shaped_of_RefB (by kernel_rfl) (by kernel_rfl)) (by kernel_rfl) (by kernel_rfl) (by kernel_rfl) (door_met os _)) ?_
  intro W base args ds gs before hval0 hW _ _ _ _
  refine law_calls (P := Tryz.prog) (f := Tryz.f3) (t := 28) (by rw [Tryz.params3]) (by kernel_rfl) Tryz.underlying4 rfl (fun d => rfl) laidOut (by kernel_rfl) (of_decide_eq_true (by kernel_rfl)) hW ?_
  intro v d p hargs hds hgs htr
  subst hargs
  have hval := hval0 0 28 v (by rw [show Tryz.checked.prog = Tryz.prog from rfl] at *; simp [Tryz.params3]) rfl
  exact law_run2 (M := maps ims) (id := 439) (tf := 11) Tryz.underlying28 (by kernel_rfl) hval htr (w := 3) (j := 2) (i := 1) (by kernel_rfl) rfl rfl (by decide) Tryz.underlying26 (by kernel_rfl) (by decide) blockCuts_run

theorem over : Rows.blockCutsRow.holds Tryz.pinned (OpenSpec.ofChange Rows.blockCutsSpec) :=
  OpenClaim.holds_of_wide 3 Tryz.f3 rfl rfl rfl rfl rfl rfl rfl ⟨rfl, rfl, rfl, rfl, rfl⟩ rfl rfl rfl rfl rfl (by kernel_rfl) Tryz.func3 (by kernel_rfl)
    (of_decide_eq_true (by kernel_rfl)) (by unfold Func.isWrapper; first | (rw [if_pos (by decide +kernel)]; kernel_rfl) | (rw [if_neg (by decide +kernel)]; exact ⟨rfl, rfl⟩))
    (fun os started H enc _ => lifted os started H enc)
theorem proved : Rows.BlockCutsCardSaid :=
  Claim7.holds_tied_plain_at .later [] [.data, .data, .data] true (true, "dd9a3eb3d0764e1c580f7bc018ca733aaf3a9a499e343961391783453630a8db") false
    over (fun _ h => by cases h) (by kernel_rfl) (fun _ h => by cases h) blockCuts_row_tie rfl ⟨rfl, rfl⟩ (by kernel_rfl) rfl
    (fun f fn hf hfn => by
      obtain rfl : f = 3 := Option.some.inj ((show Tryz.prog.funcNamed "sledge/sledgelaw13.BlockCuts" = some 3 by kernel_rfl).symm.trans hf) |>.symm
      obtain rfl : fn = Tryz.f3 := (Option.some.inj (Tryz.func3.symm.trans hfn)).symm
      exact ⟨by kernel_rfl, fun j t ht => by
        rw [Tryz.params3] at ht
        have hm : t ∈ [28] := by simpa using Array.mem_of_getElem? ht
        have hall : ([28].all fun u => !Tryz.prog.wantsStandIn u) = true := by kernel_rfl
        exact (show Tryz.prog.wantsStandIn t = false by simpa using List.all_eq_true.1 hall t hm)⟩)
    (by kernel_rfl)
end Go.Proofs.YtoljmdhhhkbolaaGreatDoor.blockCuts
