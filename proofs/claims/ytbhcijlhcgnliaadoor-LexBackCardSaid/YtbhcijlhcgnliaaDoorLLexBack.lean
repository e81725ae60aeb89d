/- The row 'lexBack', the law, run, lifted to the statement; and its tied card. -/
import Derived.Test.YtbhcijlhcgnliaaDoorA5
import Derived.Test.YtbhcijlhcgnliaaDoorRows
import Derived.Test.YtbhcijlhcgnliaaDoorCards
import Derived.Test.YtbhcijlhcgnliaaDoorTie
import Derived.ProofKit
import Derived.SizedLaws
import Derived.LaidMore
import Derived.OpenShut
import Derived.Stop.Joined
import Derived.SevenTiedAt
import Derived.LaidSub
import Derived.Lib.LaidTab
import Derived.Lay
import Derived.MakeChecks


namespace Go.Proofs.YtbhcijlhcgnliaaDoor.lexBack
open Go.ChangeShapes Go.WideShapes Go.ChangeAt Go.RowKit M2

theorem own : ownKnob Tryd.prog.godebug = none := by kernel_rfl
theorem laidOut : laidOutB Tryd.prog = true := by kernel_rfl
abbrev laidL : List (String × DataW Unit) := [("math/bits.deBruijn32tab", Rows.laid_math_bits_deBruijn32tab), ("math/bits.deBruijn64tab", Rows.laid_math_bits_deBruijn64tab), ("internal/strconv.uint64pow10", Rows.laid_internal_strconv_uint64pow10), ("strconv.ErrRange", Rows.laid_strconv_ErrRange), ("strconv.ErrSyntax", Rows.laid_strconv_ErrSyntax)]



theorem kept_at {W : World} (hX : laidMetH Tryd.prog laidL W) : ∀ b o v, mp.kb b o = some v → W.cell? ⟨b, o, none⟩ = some v ∧ csize W b ≤ mp.tm b := by
  have h1 := hX.filter (fun x => x.1 == "internal/strconv.uint64pow10")
  rw [show ((laidL : List (String × DataW Unit)).filter fun x => x.1 == "internal/strconv.uint64pow10") = [("internal/strconv.uint64pow10", Lib.tabData .u64 Lib.pow10Tab)] by kernel_rfl] at h1
  have h2 := (laidMetH_iff.1 h1).1
  rw [show (([("internal/strconv.uint64pow10", Lib.tabData .u64 Lib.pow10Tab)] : List (String × DataW Unit)).filter fun x => x.2.handleName?.isNone) = [("internal/strconv.uint64pow10", Lib.tabData .u64 Lib.pow10Tab)] by kernel_rfl] at h2
  have hg : Tryd.prog.globalNamed "internal/strconv.uint64pow10" = some 1 := by kernel_rfl
  have h3 := Lib.tabIs_of_head hg (t := 101) (e := 86) (n := 20) (by kernel_rfl) Tryd.underlying101 Tryd.underlying86 (by kernel_rfl) (by kernel_rfl) h2
  have h5 : csize W 1 = 20 := by
    have h6 := h3
    unfold Lib.TabIs World.var? at h6
    rw [hg] at h6
    simp only [Option.bind_some] at h6
    unfold csize
    split at h6
    · rename_i cs ty fz hh
      rw [hh]
      injection h6 with h6
      rw [h6]
      simp [Lib.pow10Tab_length]
    · cases h6
  intro b o v h
  have h' : kb b o = some v := h
  unfold kb at h'
  split at h'
  · rename_i hc
    obtain ⟨rfl, ho⟩ := hc
    have h4 := h3.cell hg o (by rw [Lib.pow10Tab_length]; exact ho)
    exact ⟨h4.trans h', by rw [h5]; exact Nat.le_refl 20⟩
  · cases h'

theorem factsM : BackH tbl1 := { h51 := rfl, h64 := rfl, h84 := rfl, h65 := rfl, h66 := rfl, h85 := rfl, h86 := rfl, h87 := rfl, h88 := rfl, h95 := rfl, h96 := rfl, h99 := rfl, h33 := rfl, h48 := rfl, h56 := rfl, h60 := rfl, h77 := rfl, h78 := rfl, h79 := rfl, h80 := rfl, h286 := rfl, h289 := rfl, h290 := rfl, h560 := rfl, h561 := rfl, h303 := rfl, h309 := rfl, h320 := rfl, h294 := rfl, h292 := rfl, h302 := rfl, h288 := rfl, h293 := rfl, h280 := rfl, h283 := rfl, h284 := rfl, h285 := rfl, h287 := rfl, h291 := rfl, h47 := rfl, h58 := rfl, h59 := rfl, h281 := rfl, h282 := rfl, h558 := rfl }

set_option maxRecDepth 100000 in
theorem lifted (os : Os) (started : os.Started) (H : Type) (enc : TypeId × Value → H) :
    ReturnsInHanded {} Tryd.checked os 3 .any (fun w args => (Rows.lexBackSpec.pre enc Tryd.prog Tryd.f3 [] false w args ∧ laidMetH Tryd.prog laidL w) ∧ sizedMet enc Tryd.prog Tryd.f3 (OpenSpec.ofChange Rows.lexBackSpec) false w args)
      (Rows.lexBackSpec.post enc Tryd.prog Tryd.f3 false true false false) := by
  refine returnsInHanded_of_change_and (C := Tryd.checked) (X := fun w _ => laidMetH Tryd.prog laidL w) (fun _ _ _ hh h => h.of_heap hh) own started (by kernel_rfl) Tryd.func3
    (ChangeSpec.witness_shaped (enc := enc) (C := Tryd.checked) (os := os) (X := fun w _ => laidMetH Tryd.prog laidL w) false (World.laidAll Tryd.prog os laidL) #[.agg #[.slice none 0 0, .slice none 0 0]] 8 (World.laidAll_os _ _ _) (World.shaped_of_ZipB (by kernel_rfl) (by kernel_rfl)) (by kernel_rfl) (by kernel_rfl) (by kernel_rfl) (by rw [MakeChecks.laidMetH_plain _ _ _ (by kernel_rfl)]; exact laidMet_laidAll _ (by kernel_rfl) (by kernel_rfl))) ?_
  intro W base args ds gs before hval0 hW _ hsz hX _
  refine law_calls (P := Tryd.prog) (f := Tryd.f3) (t := 25) (by rw [Tryd.params3]) (by kernel_rfl) Tryd.underlying4 rfl (fun d => rfl) laidOut (by kernel_rfl) (of_decide_eq_true (by kernel_rfl)) hW ?_
  intro v d p hargs hds hgs htr
  subst hargs
  have hval := hval0 0 25 v (by rw [show Tryd.checked.prog = Tryd.prog from rfl] at *; simp [Tryd.params3]) rfl
  have hwt : ∀ w ∈ d.weights Tryd.prog 25, w ≤ reachBytes := by
    subst hds
    subst hgs
    intro w hw
    exact of_decide_eq_true (List.all_eq_true.mp hsz w (DataW.weights_mem_each (j := 0) (by rw [show Tryd.checked.prog = Tryd.prog from rfl] at *; simp [Tryd.params3]) rfl w hw))
  exact law_ty (M := mp) mix him table (id := 558) (tf := 6) Tryd.underlying25 (by kernel_rfl) (ty := ask8Ty) (by kernel_rfl) (by kernel_rfl) hwt hval htr (fun cs _ h => lexback_law factsM h) (hkb := kept_at hX)

theorem over : Rows.lexBackRow.holds Tryd.pinned (OpenSpec.ofChange Rows.lexBackSpec) :=
  OpenClaim.holds_of_wide 3 Tryd.f3 rfl rfl rfl rfl rfl rfl rfl ⟨rfl, rfl, rfl, rfl, rfl⟩ rfl rfl rfl rfl rfl (by kernel_rfl) Tryd.func3 (by kernel_rfl)
    (of_decide_eq_true (by kernel_rfl)) (by unfold Func.isWrapper; first | (rw [if_pos (by decide +kernel)]; kernel_rfl) | (rw [if_neg (by decide +kernel)]; exact ⟨rfl, rfl⟩))
    (fun os started H enc _ => lifted os started H enc)
theorem proved : Rows.LexBackCardSaid :=
  Claim7.holds_tied_plain_at .later [] [.data, .data, .data, .sentinel, .sentinel] true (true, "d46d34c3de096bec46cba96d90b14a6c7639c87b2303393a2553f96228fc7299") true
    over (fun _ h => by cases h) (by kernel_rfl) (fun _ h => by cases h) lexBack_row_tie rfl ⟨rfl, rfl⟩ (by kernel_rfl) rfl
    (fun f fn hf hfn => by
      obtain rfl : f = 3 := Option.some.inj ((show Tryd.prog.funcNamed "sledge/sledgelaw8.LexBack" = some 3 by kernel_rfl).symm.trans hf) |>.symm
      obtain rfl : fn = Tryd.f3 := (Option.some.inj (Tryd.func3.symm.trans hfn)).symm
      exact ⟨by kernel_rfl, fun j t ht => by
        rw [Tryd.params3] at ht
        have hm : t ∈ [25] := by simpa using Array.mem_of_getElem? ht
        have hall : ([25].all fun u => !Tryd.prog.wantsStandIn u) = true := by kernel_rfl
        exact (show Tryd.prog.wantsStandIn t = false by simpa using List.all_eq_true.1 hall t hm)⟩)
    (by kernel_rfl)
end Go.Proofs.YtbhcijlhcgnliaaDoor.lexBack
