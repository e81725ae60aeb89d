/- General ground for the statement: an abstract machine that the program's code is shown to follow, and the contracts of the functions that the law reaches. Part 8. -/
import Derived.Test.YtjeabbfdiiaaoaaGreatDoorA7
set_option linter.unusedVariables false
set_option linter.unusedSimpArgs false
section
/- The law AsmFront: all its texts, run one by one. -/
namespace M2
open Go Go.Proofs Go.Proofs.YtjeabbfdiiaaoaaGreatDoor

def asmFrontCells (a : AV) : List AV := (List.replicate 2 AV.und).set 0 a
def asmFrontSt (a : AV) : T := ⟨3, [[(1, .cells (asmFrontCells a))]], [[]]⟩

theorem asmFront_out : isOut 0 (ev tab.get 1000000 s348b (frI 6 3 asmFrontArg 8) ⟨3, [[]], [[]]⟩) = true := by kernel_rfl
theorem asmFront_free : ∀ M x, x ∈ asmFrontTexts → Free M x := by
  intro M x h
  have : asmFrontTexts.all (fun y => match y with | .str _ => true | _ => false) = true := by kernel_rfl
  have h2 := List.all_eq_true.mp this x h
  cases x <;> first | exact free_str M _ | cases h2
theorem asmFront_orc : CallOK Tryz.prog mp (orc 348 [asmFrontArg] 3) :=
  loop_orc mix him table (show tab.get 348 = some a348 by kernel_rfl) (by decide) s348_shape (q := 3) (by decide +kernel) (by kernel_rfl) (by decide) asmFront_free (k := 8) (N := 1000000)
    (show isRow 6 asmFrontArg (ev tab.get 1000000 s348a1 (Fr.nil.put (pth 6 0) asmFrontArg) ⟨3, [[]], [[]]⟩) = true by kernel_rfl)
    (show isRowI 6 3 asmFrontArg 0 (ev tab.get 1000000 s348a2 (Fr.nil.put (pth 6 0) asmFrontArg) ⟨3, [[]], [[]]⟩) = true by kernel_rfl)
    (fun i hi => match i, hi with
    | 0, _ => asmFront_r0
    | 1, _ => asmFront_r1
    | 2, _ => asmFront_r2
    | 3, _ => asmFront_r3
    | 4, _ => asmFront_r4
    | 5, _ => asmFront_r5
    | 6, _ => asmFront_r6
    | 7, _ => asmFront_r7
    | i + 8, h => absurd h (by omega)) asmFront_out s348_end

theorem asmFront_key (a : AV) (ha : OneSl a) (c : CallF) (hc : c 348 [asmFrontArg] (asmFrontSt a) = .ok (.bool true) (asmFrontSt a)) : ∃ t2, callC c a346 [.agg ((List.replicate 2 AV.und).set 0 a)] ⟨1, [], []⟩ = .ok (.bool true) t2 := by
  have e : callC c a346 [.agg ((List.replicate 2 AV.und).set 0 a)] ⟨1, [], []⟩ = callC (fun _ _ _ => c 348 [asmFrontArg] (asmFrontSt a)) a346 [.agg ((List.replicate 2 AV.und).set 0 a)] ⟨1, [], []⟩ := by
    rcases ha with rfl | rfl | ⟨e, pos, cap, alt, n, rfl⟩ <;> kernel_rfl
  rw [e, hc]
  rcases ha with rfl | rfl | ⟨e, pos, cap, alt, n, rfl⟩
  · exact okR_ok (by kernel_rfl)
  · exact okR_ok (by kernel_rfl)
  · exact okR_ok (by kernel_rfl)

theorem asmFront_run (a : AV) (ha : OneSl a) : ∃ t2, callC (orc 348 [asmFrontArg] 3) a346 [.agg ((List.replicate 2 AV.und).set 0 a)] ⟨1, [], []⟩ = .ok (.bool true) t2 :=
  asmFront_key a ha _ (orc_eq rfl)

end M2
end
