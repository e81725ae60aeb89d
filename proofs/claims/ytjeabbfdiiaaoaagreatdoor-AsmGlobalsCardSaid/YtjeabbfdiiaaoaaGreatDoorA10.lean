/- General ground for the statement: an abstract machine that the program's code is shown to follow, and the contracts of the functions that the law reaches. Part 10. -/
import Derived.Test.YtjeabbfdiiaaoaaGreatDoorA9
set_option linter.unusedVariables false
set_option linter.unusedSimpArgs false
section
/- The law AsmGlobals: all its texts, run one by one. -/
namespace M2
open Go Go.Proofs Go.Proofs.YtjeabbfdiiaaoaaGreatDoor

def asmGlobalsCells (a : AV) : List AV := (List.replicate 2 AV.und).set 0 a
def asmGlobalsSt (a : AV) : T := ⟨3, [[(1, .cells (asmGlobalsCells a))]], [[]]⟩

theorem asmGlobals_out : isOut 0 (ev tab.get 1000000 s348b (frI 6 3 asmGlobalsArg 14) ⟨3, [[]], [[]]⟩) = true := by kernel_rfl
theorem asmGlobals_free : ∀ M x, x ∈ asmGlobalsTexts → Free M x := by
  intro M x h
  have : asmGlobalsTexts.all (fun y => match y with | .str _ => true | _ => false) = true := by kernel_rfl
  have h2 := List.all_eq_true.mp this x h
  cases x <;> first | exact free_str M _ | cases h2
theorem asmGlobals_orc : CallOK Tryz.prog mp (orc 348 [asmGlobalsArg] 3) :=
  loop_orc mix him table (show tab.get 348 = some a348 by kernel_rfl) (by decide) s348_shape (q := 3) (by decide +kernel) (by kernel_rfl) (by decide) asmGlobals_free (k := 14) (N := 1000000)
    (show isRow 6 asmGlobalsArg (ev tab.get 1000000 s348a1 (Fr.nil.put (pth 6 0) asmGlobalsArg) ⟨3, [[]], [[]]⟩) = true by kernel_rfl)
    (show isRowI 6 3 asmGlobalsArg 0 (ev tab.get 1000000 s348a2 (Fr.nil.put (pth 6 0) asmGlobalsArg) ⟨3, [[]], [[]]⟩) = true by kernel_rfl)
    (fun i hi => match i, hi with
    | 0, _ => asmGlobals_r0
    | 1, _ => asmGlobals_r1
    | 2, _ => asmGlobals_r2
    | 3, _ => asmGlobals_r3
    | 4, _ => asmGlobals_r4
    | 5, _ => asmGlobals_r5
    | 6, _ => asmGlobals_r6
    | 7, _ => asmGlobals_r7
    | 8, _ => asmGlobals_r8
    | 9, _ => asmGlobals_r9
    | 10, _ => asmGlobals_r10
    | 11, _ => asmGlobals_r11
    | 12, _ => asmGlobals_r12
    | 13, _ => asmGlobals_r13
    | i + 14, h => absurd h (by omega)) asmGlobals_out s348_end

theorem asmGlobals_key (a : AV) (ha : OneSl a) (c : CallF) (hc : c 348 [asmGlobalsArg] (asmGlobalsSt a) = .ok (.bool true) (asmGlobalsSt a)) : ∃ t2, callC c a345 [.agg ((List.replicate 2 AV.und).set 0 a)] ⟨1, [], []⟩ = .ok (.bool true) t2 := by
  have e : callC c a345 [.agg ((List.replicate 2 AV.und).set 0 a)] ⟨1, [], []⟩ = callC (fun _ _ _ => c 348 [asmGlobalsArg] (asmGlobalsSt a)) a345 [.agg ((List.replicate 2 AV.und).set 0 a)] ⟨1, [], []⟩ := by
    rcases ha with rfl | rfl | ⟨e, pos, cap, alt, n, rfl⟩ <;> kernel_rfl
  rw [e, hc]
  rcases ha with rfl | rfl | ⟨e, pos, cap, alt, n, rfl⟩
  · exact okR_ok (by kernel_rfl)
  · exact okR_ok (by kernel_rfl)
  · exact okR_ok (by kernel_rfl)

theorem asmGlobals_run (a : AV) (ha : OneSl a) : ∃ t2, callC (orc 348 [asmGlobalsArg] 3) a345 [.agg ((List.replicate 2 AV.und).set 0 a)] ⟨1, [], []⟩ = .ok (.bool true) t2 :=
  asmGlobals_key a ha _ (orc_eq rfl)

end M2
end
