/- General ground for the statement: an abstract machine that the program's code is shown to follow, and the contracts of the functions that the law reaches. Part 12. -/
import Derived.Test.YtjeabbfdiiaaoaaGreatDoorA11
set_option linter.unusedVariables false
set_option linter.unusedSimpArgs false
section
/- The law AsmOperands: all its texts, run one by one. -/
namespace M2
open Go Go.Proofs Go.Proofs.YtjeabbfdiiaaoaaGreatDoor

def asmOperandsCells (a : AV) : List AV := (List.replicate 2 AV.und).set 0 a
def asmOperandsSt (a : AV) : T := ⟨3, [[(1, .cells (asmOperandsCells a))]], [[]]⟩

theorem asmOperands_out : isOut 0 (ev tab.get 1000000 s348b (frI 6 3 asmOperandsArg 51) ⟨3, [[]], [[]]⟩) = true := by kernel_rfl
theorem asmOperands_free : ∀ M x, x ∈ asmOperandsTexts → Free M x := by
  intro M x h
  have : asmOperandsTexts.all (fun y => match y with | .str _ => true | _ => false) = true := by kernel_rfl
  have h2 := List.all_eq_true.mp this x h
  cases x <;> first | exact free_str M _ | cases h2
theorem asmOperands_orc : CallOK Tryz.prog mp (orc 348 [asmOperandsArg] 3) :=
  loop_orc mix him table (show tab.get 348 = some a348 by kernel_rfl) (by decide) s348_shape (q := 3) (by decide +kernel) (by kernel_rfl) (by decide) asmOperands_free (k := 51) (N := 1000000)
    (show isRow 6 asmOperandsArg (ev tab.get 1000000 s348a1 (Fr.nil.put (pth 6 0) asmOperandsArg) ⟨3, [[]], [[]]⟩) = true by kernel_rfl)
    (show isRowI 6 3 asmOperandsArg 0 (ev tab.get 1000000 s348a2 (Fr.nil.put (pth 6 0) asmOperandsArg) ⟨3, [[]], [[]]⟩) = true by kernel_rfl)
    (fun i hi => match i, hi with
    | 0, _ => asmOperands_r0
    | 1, _ => asmOperands_r1
    | 2, _ => asmOperands_r2
    | 3, _ => asmOperands_r3
    | 4, _ => asmOperands_r4
    | 5, _ => asmOperands_r5
    | 6, _ => asmOperands_r6
    | 7, _ => asmOperands_r7
    | 8, _ => asmOperands_r8
    | 9, _ => asmOperands_r9
    | 10, _ => asmOperands_r10
    | 11, _ => asmOperands_r11
    | 12, _ => asmOperands_r12
    | 13, _ => asmOperands_r13
    | 14, _ => asmOperands_r14
    | 15, _ => asmOperands_r15
    | 16, _ => asmOperands_r16
    | 17, _ => asmOperands_r17
    | 18, _ => asmOperands_r18
    | 19, _ => asmOperands_r19
    | 20, _ => asmOperands_r20
    | 21, _ => asmOperands_r21
    | 22, _ => asmOperands_r22
    | 23, _ => asmOperands_r23
    | 24, _ => asmOperands_r24
    | 25, _ => asmOperands_r25
    | 26, _ => asmOperands_r26
    | 27, _ => asmOperands_r27
    | 28, _ => asmOperands_r28
    | 29, _ => asmOperands_r29
    | 30, _ => asmOperands_r30
    | 31, _ => asmOperands_r31
    | 32, _ => asmOperands_r32
    | 33, _ => asmOperands_r33
    | 34, _ => asmOperands_r34
    | 35, _ => asmOperands_r35
    | 36, _ => asmOperands_r36
    | 37, _ => asmOperands_r37
    | 38, _ => asmOperands_r38
    | 39, _ => asmOperands_r39
    | 40, _ => asmOperands_r40
    | 41, _ => asmOperands_r41
    | 42, _ => asmOperands_r42
    | 43, _ => asmOperands_r43
    | 44, _ => asmOperands_r44
    | 45, _ => asmOperands_r45
    | 46, _ => asmOperands_r46
    | 47, _ => asmOperands_r47
    | 48, _ => asmOperands_r48
    | 49, _ => asmOperands_r49
    | 50, _ => asmOperands_r50
    | i + 51, h => absurd h (by omega)) asmOperands_out s348_end

theorem asmOperands_key (a : AV) (ha : OneSl a) (c : CallF) (hc : c 348 [asmOperandsArg] (asmOperandsSt a) = .ok (.bool true) (asmOperandsSt a)) : ∃ t2, callC c a343 [.agg ((List.replicate 2 AV.und).set 0 a)] ⟨1, [], []⟩ = .ok (.bool true) t2 := by
  have e : callC c a343 [.agg ((List.replicate 2 AV.und).set 0 a)] ⟨1, [], []⟩ = callC (fun _ _ _ => c 348 [asmOperandsArg] (asmOperandsSt a)) a343 [.agg ((List.replicate 2 AV.und).set 0 a)] ⟨1, [], []⟩ := by
    rcases ha with rfl | rfl | ⟨e, pos, cap, alt, n, rfl⟩ <;> kernel_rfl
  rw [e, hc]
  rcases ha with rfl | rfl | ⟨e, pos, cap, alt, n, rfl⟩
  · exact okR_ok (by kernel_rfl)
  · exact okR_ok (by kernel_rfl)
  · exact okR_ok (by kernel_rfl)

theorem asmOperands_run (a : AV) (ha : OneSl a) : ∃ t2, callC (orc 348 [asmOperandsArg] 3) a343 [.agg ((List.replicate 2 AV.und).set 0 a)] ⟨1, [], []⟩ = .ok (.bool true) t2 :=
  asmOperands_key a ha _ (orc_eq rfl)

end M2
end
