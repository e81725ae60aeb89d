/- The row 'asmGlobals', the law, run, lifted to the statement; and its tied card. -/
import Derived.Test.YtjeabbfdiiaaoaaGreatDoorA11
import Derived.Test.YtjeabbfdiiaaoaaGreatDoorRows
import Derived.Test.YtjeabbfdiiaaoaaGreatDoorCards
import Derived.Test.YtjeabbfdiiaaoaaGreatDoorTie
import Derived.ProofKit
import Derived.SizedLaws
import Derived.LaidMore
import Derived.OpenShut
import Derived.Stop.Joined
import Derived.SevenTiedAt
import Derived.LaidSub
import Derived.Lib.LaidTab
import Derived.Lay
import Derived.MakeChecks
namespace Go.Proofs.YtjeabbfdiiaaoaaGreatDoor.asmGlobals
open Go.ChangeShapes Go.WideShapes Go.ChangeAt Go.RowKit M2

theorem own : ownKnob Tryz.prog.godebug = none := by kernel_rfl
theorem laidOut : laidOutB Tryz.prog = true := by kernel_rfl
abbrev laidL : List (String × DataW Unit) := [("math/bits.deBruijn32tab", Rows.laid_math_bits_deBruijn32tab), ("math/bits.deBruijn64tab", Rows.laid_math_bits_deBruijn64tab), ("internal/strconv.uint64pow10", Rows.laid_internal_strconv_uint64pow10), ("unicode/utf8.acceptRanges", Rows.laid_unicode_utf8_acceptRanges), ("strconv.ErrRange", Rows.laid_strconv_ErrRange), ("strconv.ErrSyntax", Rows.laid_strconv_ErrSyntax), ("unicode.White_Space", Rows.laid_unicode_White_Space), ("strings.asciiSpace", Rows.laid_strings_asciiSpace), ("unicode/utf8.first", Rows.laid_unicode_utf8_first)]



theorem kept_at {W : World} (hX : laidMetH Tryz.prog laidL W) : ∀ b o v, mp.kb b o = some v → W.cell? ⟨b, o, none⟩ = some v := by
  have h1 := hX.filter (fun x => x.1 == "strings.asciiSpace")
  rw [show ((laidL : List (String × DataW Unit)).filter fun x => x.1 == "strings.asciiSpace") = [("strings.asciiSpace", Lib.tabData .u8 Lib.asciiSpaceTab)] by kernel_rfl] at h1
  have h2 := (laidMetH_iff.1 h1).1
  rw [show (([("strings.asciiSpace", Lib.tabData .u8 Lib.asciiSpaceTab)] : List (String × DataW Unit)).filter fun x => x.2.handleName?.isNone) = [("strings.asciiSpace", Lib.tabData .u8 Lib.asciiSpaceTab)] by kernel_rfl] at h2
  have hg : Tryz.prog.globalNamed "strings.asciiSpace" = some 1 := by kernel_rfl
  have h3 := Lib.tabIs_of_head hg (t := 289) (e := 5) (n := 256) (by kernel_rfl) Tryz.underlying289 Tryz.underlying5 (by kernel_rfl) (by kernel_rfl) h2
  intro b o v h
  have h' : kb b o = some v := h
  unfold kb at h'
  split at h'
  · rename_i hc
    obtain ⟨rfl, ho⟩ := hc
    have h4 := h3.cell hg o (by rw [Lib.asciiSpaceTab_length]; exact ho)
    rw [h4, Lib.asciiSpaceTab_at o ho]
    exact h'
  · cases h'

set_option maxRecDepth 100000 in
theorem lifted (os : Os) (started : os.Started) (H : Type) (enc : TypeId × Value → H) :
    ReturnsInHanded {} Tryz.checked os 6 .any (fun w args => (Rows.asmGlobalsSpec.pre enc Tryz.prog Tryz.f6 [] false w args ∧ laidMetH Tryz.prog laidL w) ∧ sizedMet enc Tryz.prog Tryz.f6 (OpenSpec.ofChange Rows.asmGlobalsSpec) false w args)
      (Rows.asmGlobalsSpec.post enc Tryz.prog Tryz.f6 false true false false) := by
  refine returnsInHanded_of_change_and (C := Tryz.checked) (X := fun w _ => laidMetH Tryz.prog laidL w) (fun _ _ _ hh h => h.of_heap hh) own started (by kernel_rfl) Tryz.func6
    (ChangeSpec.witness_shaped (enc := enc) (C := Tryz.checked) (os := os) (X := fun w _ => laidMetH Tryz.prog laidL w) false (World.laidAll Tryz.prog os laidL) #[.agg #[.slice none 0 0, .slice none 0 0]] 8 (World.laidAll_os _ _ _) (World.shaped_of_ZipB (by kernel_rfl) (by kernel_rfl)) (by kernel_rfl) (by kernel_rfl) (by kernel_rfl) (by rw [MakeChecks.laidMetH_plain _ _ _ (by kernel_rfl)]; exact laidMet_laidAll _ (by kernel_rfl) (by kernel_rfl))) ?_
  intro W base args ds gs before hval0 hW _ _ hX _
  refine law_calls (P := Tryz.prog) (f := Tryz.f6) (t := 33) (by rw [Tryz.params6]) (by kernel_rfl) Tryz.underlying4 rfl (fun d => rfl) laidOut (by kernel_rfl) (of_decide_eq_true (by kernel_rfl)) hW ?_
  intro v d p hargs hds hgs htr
  subst hargs
  have hval := hval0 0 33 v (by rw [show Tryz.checked.prog = Tryz.prog from rfl] at *; simp [Tryz.params6]) rfl
  exact law_run1 (M := mp) him table (id := 345) (tf := 6) Tryz.underlying33 (by kernel_rfl) hval htr (w := 2) (j := 0) (i := 0) (by kernel_rfl) rfl rfl (by decide) Tryz.underlying22 (by kernel_rfl) (by decide) asmGlobals_orc (fn := a345) (by kernel_rfl) (hrun := asmGlobals_run) (hkb := kept_at hX)

theorem over : Rows.asmGlobalsRow.holds Tryz.pinned (OpenSpec.ofChange Rows.asmGlobalsSpec) :=
  OpenClaim.holds_of_wide 6 Tryz.f6 rfl rfl rfl rfl rfl rfl rfl ⟨rfl, rfl, rfl, rfl, rfl⟩ rfl rfl rfl rfl rfl (by kernel_rfl) Tryz.func6 closed
    (of_decide_eq_true (by kernel_rfl)) (by unfold Func.isWrapper; first | (rw [if_pos (by decide +kernel)]; kernel_rfl) | (rw [if_neg (by decide +kernel)]; exact ⟨rfl, rfl⟩))
    (fun os started H enc _ => lifted os started H enc)
theorem proved : Rows.AsmGlobalsCardSaid :=
  Claim7.holds_tied_plain_at .later [] [.data, .data, .data, .data, .sentinel, .sentinel, .listed, .data, .pinned] true (true, "420f20e17c8d57acd80c77562d3cedb2174f485ca35a780623989f04c35a22e2") true
    over (fun _ h => by cases h) (by kernel_rfl) (fun _ h => by cases h) asmGlobals_row_tie rfl ⟨rfl, rfl⟩ (by kernel_rfl) rfl
    (fun f fn hf hfn => by
      obtain rfl : f = 6 := Option.some.inj ((show Tryz.prog.funcNamed "sledge/sledgelaw12.AsmGlobals" = some 6 by kernel_rfl).symm.trans hf) |>.symm
      obtain rfl : fn = Tryz.f6 := (Option.some.inj (Tryz.func6.symm.trans hfn)).symm
      exact ⟨by kernel_rfl, fun j t ht => by
        rw [Tryz.params6] at ht
        have hm : t ∈ [33] := by simpa using Array.mem_of_getElem? ht
        have hall : ([33].all fun u => !Tryz.prog.wantsStandIn u) = true := by kernel_rfl
        exact (show Tryz.prog.wantsStandIn t = false by simpa using List.all_eq_true.1 hall t hm)⟩)
    (by kernel_rfl)
end Go.Proofs.YtjeabbfdiiaaoaaGreatDoor.asmGlobals
