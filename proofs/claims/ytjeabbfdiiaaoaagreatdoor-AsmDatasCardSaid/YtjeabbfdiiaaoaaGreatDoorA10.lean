/- General ground for the statement: an abstract machine that the program's code is shown to follow, and the contracts of the functions that the law reaches. Part 10. -/
import Derived.Test.YtjeabbfdiiaaoaaGreatDoorA9
set_option linter.unusedVariables false
set_option linter.unusedSimpArgs false
section
/- The law AsmDatas: all its texts, run one by one. -/
namespace M2
open Go Go.Proofs Go.Proofs.YtjeabbfdiiaaoaaGreatDoor

def asmDatasCells (a : AV) : List AV := (List.replicate 2 AV.und).set 0 a
def asmDatasSt (a : AV) : T := ⟨3, [[(1, .cells (asmDatasCells a))]], [[]]⟩

theorem asmDatas_out : isOut 0 (ev tab.get 1000000 s348b (frI 6 3 asmDatasArg 25) ⟨3, [[]], [[]]⟩) = true := by kernel_rfl
theorem asmDatas_free : ∀ M x, x ∈ asmDatasTexts → Free M x := by
  intro M x h
  have : asmDatasTexts.all (fun y => match y with | .str _ => true | _ => false) = true := by kernel_rfl
  have h2 := List.all_eq_true.mp this x h
  cases x <;> first | exact free_str M _ | cases h2
theorem asmDatas_orc : CallOK Tryz.prog mp (orc 348 [asmDatasArg] 3) :=
  loop_orc mix him table (show tab.get 348 = some a348 by kernel_rfl) (by decide) s348_shape (q := 3) (by decide +kernel) (by kernel_rfl) (by decide) asmDatas_free (k := 25) (N := 1000000)
    (show isRow 6 asmDatasArg (ev tab.get 1000000 s348a1 (Fr.nil.put (pth 6 0) asmDatasArg) ⟨3, [[]], [[]]⟩) = true by kernel_rfl)
    (show isRowI 6 3 asmDatasArg 0 (ev tab.get 1000000 s348a2 (Fr.nil.put (pth 6 0) asmDatasArg) ⟨3, [[]], [[]]⟩) = true by kernel_rfl)
    (fun i hi => match i, hi with
    | 0, _ => asmDatas_r0
    | 1, _ => asmDatas_r1
    | 2, _ => asmDatas_r2
    | 3, _ => asmDatas_r3
    | 4, _ => asmDatas_r4
    | 5, _ => asmDatas_r5
    | 6, _ => asmDatas_r6
    | 7, _ => asmDatas_r7
    | 8, _ => asmDatas_r8
    | 9, _ => asmDatas_r9
    | 10, _ => asmDatas_r10
    | 11, _ => asmDatas_r11
    | 12, _ => asmDatas_r12
    | 13, _ => asmDatas_r13
    | 14, _ => asmDatas_r14
    | 15, _ => asmDatas_r15
    | 16, _ => asmDatas_r16
    | 17, _ => asmDatas_r17
    | 18, _ => asmDatas_r18
    | 19, _ => asmDatas_r19
    | 20, _ => asmDatas_r20
    | 21, _ => asmDatas_r21
    | 22, _ => asmDatas_r22
    | 23, _ => asmDatas_r23
    | 24, _ => asmDatas_r24
    | i + 25, h => absurd h (by omega)) asmDatas_out s348_end

theorem asmDatas_key (a : AV) (ha : OneSl a) (c : CallF) (hc : c 348 [asmDatasArg] (asmDatasSt a) = .ok (.bool true) (asmDatasSt a)) : ∃ t2, callC c a344 [.agg ((List.replicate 2 AV.und).set 0 a)] ⟨1, [], []⟩ = .ok (.bool true) t2 := by
  have e : callC c a344 [.agg ((List.replicate 2 AV.und).set 0 a)] ⟨1, [], []⟩ = callC (fun _ _ _ => c 348 [asmDatasArg] (asmDatasSt a)) a344 [.agg ((List.replicate 2 AV.und).set 0 a)] ⟨1, [], []⟩ := by
    rcases ha with rfl | rfl | ⟨e, pos, cap, alt, n, rfl⟩ <;> kernel_rfl
  rw [e, hc]
  rcases ha with rfl | rfl | ⟨e, pos, cap, alt, n, rfl⟩
  · exact okR_ok (by kernel_rfl)
  · exact okR_ok (by kernel_rfl)
  · exact okR_ok (by kernel_rfl)

theorem asmDatas_run (a : AV) (ha : OneSl a) : ∃ t2, callC (orc 348 [asmDatasArg] 3) a344 [.agg ((List.replicate 2 AV.und).set 0 a)] ⟨1, [], []⟩ = .ok (.bool true) t2 :=
  asmDatas_key a ha _ (orc_eq rfl)

end M2
end
