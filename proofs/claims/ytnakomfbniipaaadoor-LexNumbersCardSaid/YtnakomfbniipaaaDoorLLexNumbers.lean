/- The row 'lexNumbers', the law, run, lifted to the statement; and its tied card. -/
import Derived.Test.YtnakomfbniipaaaDoorA3
import Derived.Test.YtnakomfbniipaaaDoorRows
import Derived.Test.YtnakomfbniipaaaDoorCards
import Derived.Test.YtnakomfbniipaaaDoorTie
import Derived.ProofKit
import Derived.SizedLaws
import Derived.LaidMore
import Derived.OpenShut
import Derived.Stop.Joined
import Derived.SevenTiedAt
import Derived.LaidSub
import Derived.Stop.LaidErr
import Derived.LaidLaws



namespace Go.Proofs.YtnakomfbniipaaaDoor.lexNumbers
open Go.ChangeShapes Go.WideShapes Go.ChangeAt Go.RowKit M2

theorem own : ownKnob Tryd.prog.godebug = none := by kernel_rfl
theorem laidOut : laidOutB Tryd.prog = true := by kernel_rfl
abbrev laidL : List (String × DataW Unit) := [("math/bits.deBruijn32tab", Rows.laid_math_bits_deBruijn32tab), ("math/bits.deBruijn64tab", Rows.laid_math_bits_deBruijn64tab), ("internal/strconv.uint64pow10", Rows.laid_internal_strconv_uint64pow10), ("strconv.ErrRange", Rows.laid_strconv_ErrRange), ("strconv.ErrSyntax", Rows.laid_strconv_ErrSyntax)]

theorem door_met (os : Os) (args : Array Value) : laidMetH Tryd.prog laidL ((World.doorLaid Tryd.prog 400 os).forCall (fun _ _ => 0) ⟨#[], args, []⟩).memory :=
  laidMetH_of_parts3 (fuel := 8) (laidMet_of_run' 8 (by kernel_rfl) (by kernel_rfl)) (by kernel_rfl) (by kernel_rfl)


theorem star : "*" ++ "errors.errorString" = "*errors.errorString" := by decide
theorem row_err (u : TypeId) (h : Tryd.prog.typeName? 3 u = some "*errors.errorString") : u = 104 :=
  typeName_ptr_named (nm := "errors.errorString") (by rw [star]; kernel_rfl) (by kernel_rfl) (by decide) u (by rw [star]; exact h)

theorem kept_es {W : World} (hX : laidMetH Tryd.prog laidL W) : ∃ ev, IfV ev ∧ W.cell? ⟨1, 0, none⟩ = some ev := by
  have h1 := hX.filter (fun x => x.1 == "strconv.ErrSyntax")
  rw [show ((laidL : List (String × DataW Unit)).filter fun x => x.1 == "strconv.ErrSyntax") = [("strconv.ErrSyntax", Rows.laid_strconv_ErrSyntax)] by kernel_rfl] at h1
  have h2 := (laidMetH_iff.1 h1).1
  rw [show (([("strconv.ErrSyntax", Rows.laid_strconv_ErrSyntax)] : List (String × DataW Unit)).filter fun x => x.2.handleName?.isNone) = [("strconv.ErrSyntax", Rows.laid_strconv_ErrSyntax)] by kernel_rfl] at h2
  have hg : Tryd.prog.globalNamed "strconv.ErrSyntax" = some 1 := by kernel_rfl
  obtain ⟨a0, s0, hv0, -, -, -⟩ := laid_sentinel h2 hg (by kernel_rfl) Tryd.underlying56 row_err Tryd.underlying104 Tryd.underlying106 rfl rfl Tryd.underlying9 (by kernel_rfl) (by kernel_rfl)
  exact ⟨_, .inr ⟨_, _, rfl⟩, by have h0 := World.var?_cell hg hv0 0; simpa using h0⟩

theorem kept_er {W : World} (hX : laidMetH Tryd.prog laidL W) : ∃ ev, IfV ev ∧ W.cell? ⟨2, 0, none⟩ = some ev := by
  have h1 := hX.filter (fun x => x.1 == "strconv.ErrRange")
  rw [show ((laidL : List (String × DataW Unit)).filter fun x => x.1 == "strconv.ErrRange") = [("strconv.ErrRange", Rows.laid_strconv_ErrRange)] by kernel_rfl] at h1
  have h2 := (laidMetH_iff.1 h1).1
  rw [show (([("strconv.ErrRange", Rows.laid_strconv_ErrRange)] : List (String × DataW Unit)).filter fun x => x.2.handleName?.isNone) = [("strconv.ErrRange", Rows.laid_strconv_ErrRange)] by kernel_rfl] at h2
  have hg : Tryd.prog.globalNamed "strconv.ErrRange" = some 2 := by kernel_rfl
  obtain ⟨a0, s0, hv0, -, -, -⟩ := laid_sentinel h2 hg (by kernel_rfl) Tryd.underlying56 row_err Tryd.underlying104 Tryd.underlying106 rfl rfl Tryd.underlying9 (by kernel_rfl) (by kernel_rfl)
  exact ⟨_, .inr ⟨_, _, rfl⟩, by have h0 := World.var?_cell hg hv0 0; simpa using h0⟩

theorem kept_at {W : World} {es er : Value} (h1 : W.cell? ⟨1, 0, none⟩ = some es) (h2 : W.cell? ⟨2, 0, none⟩ = some er) : ∀ b o v, (mp es er).kb b o = some v → W.cell? ⟨b, o, none⟩ = some v := by
  intro b o v h
  have h' : kb es er b o = some v := h
  unfold kb at h'
  split at h'
  · rename_i hc; obtain ⟨rfl, rfl⟩ := hc; rw [h1]; exact h'
  · split at h'
    · rename_i hc; obtain ⟨rfl, rfl⟩ := hc; rw [h2]; exact h'
    · cases h'

set_option maxRecDepth 100000 in
theorem lifted (os : Os) (started : os.Started) (H : Type) (enc : TypeId × Value → H) :
    ReturnsInHanded {} Tryd.checked os 3 .any (fun w args => (Rows.lexNumbersSpec.pre enc Tryd.prog Tryd.f3 [] false w args ∧ laidMetH Tryd.prog laidL w) ∧ sizedMet enc Tryd.prog Tryd.f3 (OpenSpec.ofChange Rows.lexNumbersSpec) false w args)
      (Rows.lexNumbersSpec.post enc Tryd.prog Tryd.f3 false true false false) := by
  refine returnsInHanded_of_change_and (C := Tryd.checked) (X := fun w _ => laidMetH Tryd.prog laidL w) (fun _ _ _ hh h => h.of_heap hh) own started (by kernel_rfl) Tryd.func3
    (ChangeSpec.witness_shaped (enc := enc) (C := Tryd.checked) (os := os) (X := fun w _ => laidMetH Tryd.prog laidL w) false (World.doorLaid Tryd.prog 400 os) #[.agg #[.slice none 0 0, .slice none 0 0]] 8 rfl (World.shaped_of_RefB (by kernel_rfl) (by kernel_rfl)) (by kernel_rfl) (by kernel_rfl) (by kernel_rfl) (door_met os _)) ?_
  intro W base args ds gs before hval0 hW _ _ hX _
  refine law_calls (P := Tryd.prog) (f := Tryd.f3) (t := 25) (by rw [Tryd.params3]) (by kernel_rfl) Tryd.underlying4 rfl (fun d => rfl) laidOut (by kernel_rfl) (of_decide_eq_true (by kernel_rfl)) hW ?_
  intro v d p hargs hds hgs htr
  subst hargs
  have hval := hval0 0 25 v (by rw [show Tryd.checked.prog = Tryd.prog from rfl] at *; simp [Tryd.params3]) rfl
  obtain ⟨es, i1, c1⟩ := kept_es hX
  obtain ⟨er, i2, c2⟩ := kept_er hX
  exact law_run1 (M := mp es er) him (table i1 i2) (id := 277) (tf := 6) Tryd.underlying25 (by kernel_rfl) hval htr (w := 2) (j := 0) (i := 0) (by kernel_rfl) rfl rfl (by decide) Tryd.underlying22 (by kernel_rfl) (by decide) (lexNumbers_orc i1 i2) (fn := a277) (by kernel_rfl) (hrun := lexNumbers_run) (hkb := kept_at c1 c2)

theorem over : Rows.lexNumbersRow.holds Tryd.pinned (OpenSpec.ofChange Rows.lexNumbersSpec) :=
  OpenClaim.holds_of_wide 3 Tryd.f3 rfl rfl rfl rfl rfl rfl rfl ⟨rfl, rfl, rfl, rfl, rfl⟩ rfl rfl rfl rfl rfl (by kernel_rfl) Tryd.func3 (by kernel_rfl)
    (of_decide_eq_true (by kernel_rfl)) (by unfold Func.isWrapper; first | (rw [if_pos (by decide +kernel)]; kernel_rfl) | (rw [if_neg (by decide +kernel)]; exact ⟨rfl, rfl⟩))
    (fun os started H enc _ => lifted os started H enc)
theorem proved : Rows.LexNumbersCardSaid :=
  Claim7.holds_tied_plain_at .later [] [.data, .data, .data, .sentinel, .sentinel] true (true, "de603338825067a61d20bfaf33ae0493f2a38e3924d9318e181e7386897b033b") true
    over (fun _ h => by cases h) (by kernel_rfl) (fun _ h => by cases h) lexNumbers_row_tie rfl ⟨rfl, rfl⟩ (by kernel_rfl) rfl
    (fun f fn hf hfn => by
      obtain rfl : f = 3 := Option.some.inj ((show Tryd.prog.funcNamed "sledge/sledgelaw8.LexNumbers" = some 3 by kernel_rfl).symm.trans hf) |>.symm
      obtain rfl : fn = Tryd.f3 := (Option.some.inj (Tryd.func3.symm.trans hfn)).symm
      exact ⟨by kernel_rfl, fun j t ht => by
        rw [Tryd.params3] at ht
        have hm : t ∈ [25] := by simpa using Array.mem_of_getElem? ht
        have hall : ([25].all fun u => !Tryd.prog.wantsStandIn u) = true := by kernel_rfl
        exact (show Tryd.prog.wantsStandIn t = false by simpa using List.all_eq_true.1 hall t hm)⟩)
    (by kernel_rfl)
end Go.Proofs.YtnakomfbniipaaaDoor.lexNumbers
