/- General ground for the statement: an abstract machine that the program's code is shown to follow, and the contracts of the functions that the law reaches. Part 11. -/
import Derived.Test.YtdjfjbbmblcbbaaA10
set_option linter.unusedVariables false
set_option linter.unusedSimpArgs false
section
/- The law ChooseTwice, run in pieces. -/
namespace M2
open Go Go.Proofs Go.Proofs.Ytdjfjbbmblcbbaa

noncomputable def ctT (a : AV) : T := stOf (ev tab.get 1000000 ctA (frOf (ctIn a)) (stOf (ctIn a)))
theorem ct_args (a : AV) : argsIn a183.params [.agg ((List.replicate 5 AV.und).set 3 a)] .nil = some (ctF a) := rfl
theorem ct_low : lowK 41 20 ctL = true := by kernel_rfl

theorem ct_start (a : AV) (ha : OneSl a) : (ctIn a).norm? = true ∧ isN3 8 1 6 7 (.ptr 1 0) ctL (.int .i64 (.ofNat 0)) (ev tab.get 1000000 ctA (frOf (ctIn a)) (stOf (ctIn a))) = true := by
  rcases ha with rfl | rfl | ⟨e, pos, cap, alt, n, rfl⟩
  · exact ⟨by kernel_rfl, by kernel_rfl⟩
  · exact ⟨by kernel_rfl, by kernel_rfl⟩
  · exact ⟨by kernel_rfl, by kernel_rfl⟩

theorem ct_key (a : AV) (ha : OneSl a) (c : CallF) (hc : c 189 [] (ctT a) = .ok (.bool true) (ctT a)) : ∃ t2, outC a183 (retOf (runOps ctE c (ctFr 5) (ctT a))) = .ok (.bool true) t2 := by
  have e : runOps ctE c (ctFr 5) (ctT a) = runOps ctE (fun _ _ _ => c 189 [] (ctT a)) (ctFr 5) (ctT a) := by
    rcases ha with rfl | rfl | ⟨e, pos, cap, alt, n, rfl⟩ <;> kernel_rfl
  rw [e, hc]
  rcases ha with rfl | rfl | ⟨e, pos, cap, alt, n, rfl⟩
  · exact okR_ok (by kernel_rfl)
  · exact okR_ok (by kernel_rfl)
  · exact okR_ok (by kernel_rfl)

theorem ct_n (a : AV) (ha : OneSl a) : (ctT a).n = 41 := by
  rcases ha with rfl | rfl | ⟨e, pos, cap, alt, n, rfl⟩ <;> kernel_rfl

theorem ct_run (a : AV) (ha : OneSl a) : ∃ t', Rt Try.prog (maps ims) 183 [.agg ((List.replicate 5 AV.und).set 3 a)] ⟨1, [], []⟩ (.bool true) t' := by
  obtain ⟨tw, hw⟩ := okR_ok ct_wakes
  have horc := orc_ok mix him table hw
  obtain ⟨t2, hout⟩ := ct_key a ha (orc 189 [] 41) (orc_eq (ct_n a ha))
  obtain ⟨h1, h2⟩ := ct_start a ha
  refine ⟨t2, Rt.of table (show tab.get 183 = some a183 by kernel_rfl) (by decide) (ct_args a) (r := retOf (runOps ctE (orc 189 [] 41) (ctFr 5) (ctT a))) ?_ hout⟩
  rw [ct_shape]
  refine Ex.seqs (F1 := frOf (ctIn a)) (t1 := stOf (ctIn a)) (ExL.run mix him table (N := 1000000) (norm_eq h1)) ?_
  refine Ex.seq (F1 := ctFr 5) (t1 := ctT a) ?_ (Ex.fin mix him table (Ex.reg him horc))
  obtain ⟨F2, t3, h3, h4⟩ := isN3_ok h2
  refine Ex.seq (F1 := F2) (t1 := ctT a) (Ex.run mix him table (N := 1000000) (by rw [h3]; unfold ctT; rw [h3]; rfl)) ?_
  exact Ex.weak h4 (Ex.roundsE mix him table (N := 1000000) (down_ptr (by decide)) (back_ptr (by decide)) ct_low (fun i hi => match i, hi with
    | 0, _ => round_cut mix him table ct_b ct_r00 ct_r0a ct_r0b ct_r0c
    | 1, _ => round_cut mix him table ct_b ct_r10 ct_r1a ct_r1b ct_r1c
    | 2, _ => round_cut mix him table ct_b ct_r20 ct_r2a ct_r2b ct_r2c
    | 3, _ => round_cut mix him table ct_b ct_r30 ct_r3a ct_r3b ct_r3c
    | 4, _ => round_cut mix him table ct_b ct_r40 ct_r4a ct_r4b ct_r4c
    | i + 5, h => absurd h (by omega)) ct_out (ctT a))

end M2
end
