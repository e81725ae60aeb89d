/- General ground for the statement: an abstract machine that the program's code is shown to follow, and the contracts of the functions that the law reaches. Part 17. -/
import Derived.Test.YtnpnphknnpkoaaaDoorA16
set_option linter.unusedVariables false
set_option linter.unusedSimpArgs false
section
/- The law LexNames, run in pieces. -/
namespace M2
open Go Go.Proofs Go.Proofs.YtnpnphknnpkoaaaDoor

theorem lexNames_rounds : ∀ i, i < 585 → lexNamesRd i = true := by
  intro i hi
  by_cases h0 : i < 15
  · exact allN_ok 15 0 lexNames_q0 i (by omega) (by omega)
  by_cases h15 : i < 30
  · exact allN_ok 15 15 lexNames_q15 i (by omega) (by omega)
  by_cases h30 : i < 45
  · exact allN_ok 15 30 lexNames_q30 i (by omega) (by omega)
  by_cases h45 : i < 60
  · exact allN_ok 15 45 lexNames_q45 i (by omega) (by omega)
  by_cases h60 : i < 75
  · exact allN_ok 15 60 lexNames_q60 i (by omega) (by omega)
  by_cases h75 : i < 90
  · exact allN_ok 15 75 lexNames_q75 i (by omega) (by omega)
  by_cases h90 : i < 105
  · exact allN_ok 15 90 lexNames_q90 i (by omega) (by omega)
  by_cases h105 : i < 120
  · exact allN_ok 15 105 lexNames_q105 i (by omega) (by omega)
  by_cases h120 : i < 135
  · exact allN_ok 15 120 lexNames_q120 i (by omega) (by omega)
  by_cases h135 : i < 150
  · exact allN_ok 15 135 lexNames_q135 i (by omega) (by omega)
  by_cases h150 : i < 165
  · exact allN_ok 15 150 lexNames_q150 i (by omega) (by omega)
  by_cases h165 : i < 180
  · exact allN_ok 15 165 lexNames_q165 i (by omega) (by omega)
  by_cases h180 : i < 195
  · exact allN_ok 15 180 lexNames_q180 i (by omega) (by omega)
  by_cases h195 : i < 210
  · exact allN_ok 15 195 lexNames_q195 i (by omega) (by omega)
  by_cases h210 : i < 225
  · exact allN_ok 15 210 lexNames_q210 i (by omega) (by omega)
  by_cases h225 : i < 240
  · exact allN_ok 15 225 lexNames_q225 i (by omega) (by omega)
  by_cases h240 : i < 255
  · exact allN_ok 15 240 lexNames_q240 i (by omega) (by omega)
  by_cases h255 : i < 270
  · exact allN_ok 15 255 lexNames_q255 i (by omega) (by omega)
  by_cases h270 : i < 285
  · exact allN_ok 15 270 lexNames_q270 i (by omega) (by omega)
  by_cases h285 : i < 300
  · exact allN_ok 15 285 lexNames_q285 i (by omega) (by omega)
  by_cases h300 : i < 315
  · exact allN_ok 15 300 lexNames_q300 i (by omega) (by omega)
  by_cases h315 : i < 330
  · exact allN_ok 15 315 lexNames_q315 i (by omega) (by omega)
  by_cases h330 : i < 345
  · exact allN_ok 15 330 lexNames_q330 i (by omega) (by omega)
  by_cases h345 : i < 360
  · exact allN_ok 15 345 lexNames_q345 i (by omega) (by omega)
  by_cases h360 : i < 375
  · exact allN_ok 15 360 lexNames_q360 i (by omega) (by omega)
  by_cases h375 : i < 390
  · exact allN_ok 15 375 lexNames_q375 i (by omega) (by omega)
  by_cases h390 : i < 405
  · exact allN_ok 15 390 lexNames_q390 i (by omega) (by omega)
  by_cases h405 : i < 420
  · exact allN_ok 15 405 lexNames_q405 i (by omega) (by omega)
  by_cases h420 : i < 435
  · exact allN_ok 15 420 lexNames_q420 i (by omega) (by omega)
  by_cases h435 : i < 450
  · exact allN_ok 15 435 lexNames_q435 i (by omega) (by omega)
  by_cases h450 : i < 465
  · exact allN_ok 15 450 lexNames_q450 i (by omega) (by omega)
  by_cases h465 : i < 480
  · exact allN_ok 15 465 lexNames_q465 i (by omega) (by omega)
  by_cases h480 : i < 495
  · exact allN_ok 15 480 lexNames_q480 i (by omega) (by omega)
  by_cases h495 : i < 510
  · exact allN_ok 15 495 lexNames_q495 i (by omega) (by omega)
  by_cases h510 : i < 525
  · exact allN_ok 15 510 lexNames_q510 i (by omega) (by omega)
  by_cases h525 : i < 540
  · exact allN_ok 15 525 lexNames_q525 i (by omega) (by omega)
  by_cases h540 : i < 543
  · exact allN_ok 3 540 lexNames_q540 i (by omega) (by omega)
  by_cases h543 : i < 546
  · exact allN_ok 3 543 lexNames_q543 i (by omega) (by omega)
  by_cases h546 : i < 549
  · exact allN_ok 3 546 lexNames_q546 i (by omega) (by omega)
  by_cases h549 : i < 552
  · exact allN_ok 3 549 lexNames_q549 i (by omega) (by omega)
  by_cases h552 : i < 555
  · exact allN_ok 3 552 lexNames_q552 i (by omega) (by omega)
  by_cases h555 : i < 558
  · exact allN_ok 3 555 lexNames_q555 i (by omega) (by omega)
  by_cases h558 : i < 561
  · exact allN_ok 3 558 lexNames_q558 i (by omega) (by omega)
  by_cases h561 : i < 564
  · exact allN_ok 3 561 lexNames_q561 i (by omega) (by omega)
  by_cases h564 : i < 567
  · exact allN_ok 3 564 lexNames_q564 i (by omega) (by omega)
  by_cases h567 : i < 570
  · exact allN_ok 3 567 lexNames_q567 i (by omega) (by omega)
  by_cases h570 : i < 573
  · exact allN_ok 3 570 lexNames_q570 i (by omega) (by omega)
  by_cases h573 : i < 576
  · exact allN_ok 3 573 lexNames_q573 i (by omega) (by omega)
  by_cases h576 : i < 579
  · exact allN_ok 3 576 lexNames_q576 i (by omega) (by omega)
  by_cases h579 : i < 582
  · exact allN_ok 3 579 lexNames_q579 i (by omega) (by omega)
  by_cases h582 : i < 585
  · exact allN_ok 3 582 lexNames_q582 i (by omega) (by omega)
  omega
theorem lexNames_low : lowK 1117 3 lexNamesL = true := by kernel_rfl
theorem lexNames_rt (t : T) : ∃ t', Rt Tryd.prog (maps ims) 279 [lexNamesL] t (.bool true) t' :=
  same_rt mix him table (show tab.get 279 = some a279 by kernel_rfl) (d := 6) rfl (by decide) lexNames_same (q := 3) (z := 2) (n := 1117) (N := 1000000) (k := 585) (kk := 3) (by kernel_rfl) (by kernel_rfl) lexNames_low
    (by kernel_rfl) (by kernel_rfl) (fun i hi => lexNames_rounds i hi) (by kernel_rfl) (by kernel_rfl) t

theorem lexNames_norm (a : AV) : (lexNamesIn a).norm? = true := by kernel_rfl
theorem lexNames_fr (a : AV) : is3 6 1 3 3 (.ptr 1 0) lexNamesL lexNamesL (frOf (lexNamesIn a)) = true := by kernel_rfl
theorem lexNames_n (a : AV) : (stOf (lexNamesIn a)).n = 1117 := by kernel_rfl
theorem lexNames_vs (a : AV) : (stOf (lexNamesIn a)).vs = [[(1, .cells ((List.replicate 2 AV.und).set 1 a))]] := by kernel_rfl
def lexNamesT (a : AV) : T := ⟨1117, [[(1, .cells ((List.replicate 2 AV.und).set 1 a))]], [[]]⟩

theorem lexNames_key (a : AV) (ha : OneSl a) (c : CallF) (t2 : T) (hc : c 279 [lexNamesL] (lexNamesT a) = .ok (.bool true) t2) :
    ∃ t3, outC a278 (retOf (runOps lexNamesE c (fr3 6 1 3 3 (.ptr 1 0) lexNamesL lexNamesL) (lexNamesT a))) = .ok (.bool true) t3 := by
  have e : runOps lexNamesE c (fr3 6 1 3 3 (.ptr 1 0) lexNamesL lexNamesL) (lexNamesT a) = runOps lexNamesE (fun _ _ _ => c 279 [lexNamesL] (lexNamesT a)) (fr3 6 1 3 3 (.ptr 1 0) lexNamesL lexNamesL) (lexNamesT a) := by
    rcases ha with rfl | rfl | ⟨e, pos, cap, alt, n, rfl⟩ <;> kernel_rfl
  rw [e, hc]
  rcases ha with rfl | rfl | ⟨e, pos, cap, alt, n, rfl⟩
  · exact okR_ok (by kernel_rfl)
  · exact okR_ok (by kernel_rfl)
  · exact okR_ok (by kernel_rfl)

theorem lexNames_run (a : AV) (ha : OneSl a) : ∃ t', Rt Tryd.prog (maps ims) 278 [.agg ((List.replicate 2 AV.und).set 1 a)] ⟨1, [], []⟩ (.bool true) t' := by
  obtain ⟨t2, hrt⟩ := lexNames_rt (lexNamesT a)
  obtain ⟨t3, hout⟩ := lexNames_key a ha (orcR 279 [lexNamesL] (lexNamesT a) t2) t2 orcR_eq
  refine ⟨t3, Rt.of table (show tab.get 278 = some a278 by kernel_rfl) (by decide) (args := [.agg ((List.replicate 2 AV.und).set 1 a)]) (F := lexNamesF a) rfl (r := retOf (runOps lexNamesE (orcR 279 [lexNamesL] (lexNamesT a) t2) (fr3 6 1 3 3 (.ptr 1 0) lexNamesL lexNamesL) (lexNamesT a))) ?_ hout⟩
  rw [lexNames_shape]
  refine Ex.seqs (F1 := frOf (lexNamesIn a)) (t1 := stOf (lexNamesIn a)) (ExL.run mix him table (N := 1000000) (norm_eq (lexNames_norm a))) ?_
  refine Ex.weak (is3_under (lexNames_fr a)) (Ex.thin (t2 := lexNamesT a) ?_ (lexNames_n a).symm (by rw [lexNames_vs a]; exact List.Sublist.refl _) (List.nil_sublist _))
  exact Ex.fin mix him table (Ex.reg him (orcR_ok hrt))

end M2
end
