/- General ground for the statement: an abstract machine that the program's code is shown to follow, and the contracts of the functions that the law reaches. Part 3. -/
import Derived.Test.YtofcelckpdepaaaA2
import Derived.Test.YtofcelckpdepaaaChecked
import Derived.KernelRfl
import Derived.SizedLaws
set_option linter.unusedVariables false
set_option linter.unusedSimpArgs false
section
/- Compiled functions as code over variables, printed by a program of mine. -/
namespace M2
open Go
noncomputable section

def x2 : XF := ⟨3, [0], [false], 0, [], false, (.reg [⟨0, .nil, [.wo 0 (.call 1 []) []]⟩])⟩
theorem w2 : wfF x2 = true := by decide +kernel
def x3l0 : XC := .seq (.ife [] 73 (.b .lss (.m 9) (.ln false (.m 3))) .skip (.exit 2)) (.seq (.block 3 (.seq (.regd 13 [] [⟨79, (.tup [0, 1] (.ca 13 (.cons (.k 18) (.cons (.ix (.ld1 hh) 1 (.m 3) (.m 4)) (.ix (.ld1 hh) 1 (.m 3) (.m 9)))))), [.mv 10 0, .mv 11 1]⟩]) (.seq (.regd 13 [] [⟨91, (.tup [0, 1] (.ca 13 (.cons (.k 18) (.cons (.ix (.ld1 hh) 1 (.m 3) (.m 9)) (.ix (.ld1 hh) 1 (.m 3) (.m 4)))))), [.mv 12 0, .mv 13 1]⟩]) (.seq (.reg [⟨103, (.tup [0, 1] (.ca 13 (.cons (.k 19) (.cons (.m 10) (.ix (.ld1 hh) 1 (.m 3) (.m 9)))))), [.mv 14 0, .mv 15 1]⟩]) (.seq (.regd 13 [] [⟨112, (.tup [0, 1] (.ca 13 (.cons (.k 20) (.cons (.ix (.ld1 hh) 1 (.m 3) (.m 4)) (.ix (.ld1 hh) 1 (.m 3) (.m 9)))))), [.mv 16 0, .mv 17 1]⟩]) (.seq (.regd 13 [] [⟨124, (.tup [0, 1] (.ca 13 (.cons (.k 20) (.cons (.ix (.ld1 hh) 1 (.m 3) (.m 9)) (.ix (.ld1 hh) 1 (.m 3) (.m 4)))))), [.mv 18 0, .mv 19 1]⟩]) (.seq (.reg [⟨136, (.ix (.ld1 hh) 1 (.m 3) (.b .rem (.b .add (.m 4) (.m 9)) (.ln false (.m 3)))), [.mv 20 0]⟩]) (.seq (.reg [⟨145, (.tup [0, 1] (.ca 13 (.cons (.k 20) (.cons (.m 20) (.m 10))))), [.mv 21 0, .mv 22 1]⟩]) (.seq (.reg [⟨151, (.tup [0, 1] (.ca 13 (.cons (.k 20) (.cons (.m 20) (.ix (.ld1 hh) 1 (.m 3) (.m 4)))))), [.mv 23 0, .mv 24 1]⟩]) (.seq (.reg [⟨160, (.tup [0, 1] (.ca 13 (.cons (.k 20) (.cons (.m 20) (.ix (.ld1 hh) 1 (.m 3) (.m 9)))))), [.mv 25 0, .mv 26 1]⟩]) (.seq (.reg [⟨169, (.tup [0, 1] (.ca 13 (.cons (.k 18) (.cons (.m 23) (.m 25))))), [.mv 27 0, .mv 28 1]⟩]) (.ife [] 175 (.or (.or (.or (.or (.b .neq (.b .add (.b .add (.b .add (.b .add (.b .add (.b .add (.b .add (.b .add (.ca 14 (.m 11)) (.ca 14 (.m 13))) (.ca 14 (.m 15))) (.ca 14 (.m 17))) (.ca 14 (.m 19))) (.ca 14 (.m 22))) (.ca 14 (.m 24))) (.ca 14 (.m 26))) (.ca 14 (.m 28))) (.k 0)) (.b .neq (.m 10) (.m 12))) (.b .neq (.m 14) (.ix (.ld1 hh) 1 (.m 3) (.m 4)))) (.b .neq (.m 16) (.m 18))) (.b .neq (.m 21) (.m 27))) (.seq (.reg [⟨0, (.c (.bool false)), [.mv 2 0]⟩]) .ret) .skip)))))))))))) (.reg [⟨77, (.b .add (.m 9) (.k 1)), [.mv 9 0]⟩]))
def x3l1 : XC := .seq (.ife [] 31 (.b .lss (.m 4) (.ln false (.m 3))) .skip (.exit 0)) (.seq (.block 1 (.seq (.reg [⟨37, (.tup [0, 1] (.ca 13 (.cons (.k 21) (.cons (.ix (.ld1 hh) 1 (.m 3) (.m 4)) (.c (.int .u32 (.ofNat 7))))))), [.mv 5 0, .mv 6 1]⟩]) (.seq (.reg [⟨45, (.tup [0, 1] (.ca 13 (.cons (.k 20) (.cons (.ix (.ld1 hh) 1 (.m 3) (.m 4)) (.m 5))))), [.mv 7 0, .mv 8 1]⟩]) (.seq (.ife [] 54 (.or (.or (.b .neq (.ca 14 (.m 6)) (.k 0)) (.b .neq (.ca 14 (.m 8)) (.k 0))) (.b .neq (.m 7) (.b .and (.cv (.int .u32) (.ca 15 (.ix (.ld1 hh) 1 (.m 3) (.m 4)))) (.c (.int .u32 (.ofNat 65535)))))) (.seq (.reg [⟨0, (.c (.bool false)), [.mv 2 0]⟩]) .ret) .skip) (.seq (.reg [⟨0, (.k 0), [.mv 9 0]⟩]) (.block 2 (.loop x3l0))))))) (.reg [⟨35, (.b .add (.m 4) (.k 1)), [.mv 4 0]⟩]))
def x3 : XF := ⟨8, [0, 1, 2, 3, 4, 5, 6, 7, 8, 9, 10, 11, 12, 13, 14, 15, 16, 17, 18, 19, 20, 21, 22, 23, 24, 25, 26, 27, 28], [false, true, false, false, false, false, false, false, false, false, false, false, false, false, false, false, false, false, false, false, false, false, false, false, false, false, false, false, false], 1, [(2, none)], false, (.seq (.reg [⟨0, (.cons (.v 0) (.c (.bool false))), [.bb 1 0, .mv 2 1]⟩]) (.seq (.reg [⟨29, (.ca 12 (.lw (.ldA 2 hh) 1)), [.mv 3 0]⟩]) (.seq (.seq (.reg [⟨0, (.k 0), [.mv 4 0]⟩]) (.block 0 (.loop x3l1))) (.seq (.reg [⟨225, (.ca 16 .nil), [.mv 2 0]⟩]) .ret))))⟩
theorem w3 : wfF x3 = true := by decide +kernel
def x4l0 : XC := .seq (.ife [] 26 (.b .lss (.m 6) (.ln false (.m 3))) .skip (.exit 2)) (.seq (.block 3 (.seq (.regd 8 [] [⟨32, (.ca 17 (.cons (.ix (.ld1 hh) 1 (.m 3) (.m 5)) (.ix (.ld1 hh) 1 (.m 3) (.m 6)))), [.mv 7 0]⟩]) (.seq (.reg [⟨41, (.tup [0, 1] (.ca 18 (.m 7))), [.mv 8 0, .mv 9 1]⟩]) (.seq (.ife [] 46 (.or (.or (.b .neq (.m 8) (.ix (.ld1 hh) 1 (.m 3) (.m 5))) (.b .neq (.m 9) (.ix (.ld1 hh) 1 (.m 3) (.m 6)))) (.b .neq (.ca 15 (.m 7)) (.b .add (.b .mul (.m 8) (.m 8)) (.b .mul (.m 9) (.m 9))))) (.seq (.reg [⟨0, (.c (.bool false)), [.mv 2 0]⟩]) .ret) .skip) (.reg [⟨72, (.ap 1 4 (.int .u32 (.ofNat 0)) (.m 4) (.m 7)), [.mv 4 0]⟩]))))) (.reg [⟨30, (.b .add (.m 6) (.k 1)), [.mv 6 0]⟩]))
def x4l1 : XC := .seq (.ife [] 20 (.b .lss (.m 5) (.ln false (.m 3))) .skip (.exit 0)) (.seq (.block 1 (.seq (.reg [⟨0, (.k 0), [.mv 6 0]⟩]) (.block 2 (.loop x4l0)))) (.reg [⟨24, (.b .add (.m 5) (.k 1)), [.mv 5 0]⟩]))
def x4l2 : XC := .seq (.ife [] 86 (.b .lss (.m 12) (.ln false (.m 4))) .skip (.exit 8)) (.seq (.block 9 (.seq (.regd 14 [] [⟨95, (.tup [0, 1] (.ca 13 (.cons (.m 10) (.cons (.ix (.ld1 hh) 1 (.m 4) (.m 11)) (.ix (.ld1 hh) 1 (.m 4) (.m 12)))))), [.mv 13 0, .mv 14 1]⟩]) (.ifd 15 [] [] 108 (.or (.b .neq (.ca 14 (.m 14)) (.k 0)) (.b .neq (.m 13) (.ca 19 (.cons (.m 10) (.cons (.ix (.ld1 hh) 1 (.m 4) (.m 11)) (.ix (.ld1 hh) 1 (.m 4) (.m 12))))))) (.seq (.reg [⟨0, (.c (.bool false)), [.mv 2 0]⟩]) .ret) .skip))) (.reg [⟨90, (.b .add (.b .add (.m 12) (.k 1)) (.b .rem (.m 11) (.k 3))), [.mv 12 0]⟩]))
def x4l3 : XC := .seq (.ife [] 80 (.b .lss (.m 11) (.ln false (.m 4))) .skip (.exit 6)) (.seq (.block 7 (.seq (.reg [⟨0, (.k 0), [.mv 12 0]⟩]) (.block 8 (.loop x4l2)))) (.reg [⟨84, (.b .add (.m 11) (.k 1)), [.mv 11 0]⟩]))
def x4l4 : XC := .seq (.ife [] 76 (.b .leq (.m 10) (.k 21)) .skip (.exit 4)) (.seq (.block 5 (.seq (.reg [⟨0, (.k 0), [.mv 11 0]⟩]) (.block 6 (.loop x4l3)))) (.reg [⟨78, (.b .add (.m 10) (.k 1)), [.mv 10 0]⟩]))
def x4 : XF := ⟨7, [0, 1, 2, 3, 4, 5, 6, 7, 8, 9, 10, 11, 12, 13, 14], [false, true, false, false, false, false, false, false, false, false, false, false, false, false, false], 1, [(2, none)], false, (.seq (.reg [⟨0, (.cons (.v 0) (.c (.bool false))), [.bb 1 0, .mv 2 1]⟩]) (.seq (.reg [⟨15, (.op (.buildS 1 11 (.int .i64 (.ofNat 0)) [(0, hh), (1, hh), (2, hh), (3, hh), (4, hh), (5, hh), (6, hh), (7, hh), (8, hh), (9, hh), (10, hh)]) (.cons (.c (.int .i64 (.negSucc 32767))) (.cons (.c (.int .i64 (.negSucc 32766))) (.cons (.c (.int .i64 (.negSucc 0))) (.cons (.k 0) (.cons (.k 1) (.cons (.k 2) (.cons (.k 181) (.cons (.k 182) (.cons (.k 32766) (.cons (.k 32767) (.b .rem (.ln false (.lf (.ld1 hh) 0 1)) (.k 100))))))))))))), [.mv 3 0]⟩]) (.seq (.reg [⟨0, (.c .nils), [.mv 4 0]⟩]) (.seq (.seq (.reg [⟨0, (.k 0), [.mv 5 0]⟩]) (.block 0 (.loop x4l1))) (.seq (.seq (.reg [⟨0, (.k 18), [.mv 10 0]⟩]) (.block 4 (.loop x4l4))) (.seq (.reg [⟨125, (.ca 16 .nil), [.mv 2 0]⟩]) .ret))))))⟩
theorem w4 : wfF x4 = true := by decide +kernel
def x5l0 : XC := .seq (.ife [] 43 (.b .lss (.m 9) (.k 4)) .skip (.exit 2)) (.seq (.block 3 (.seq (.reg [⟨47, (.tup [0, 1] (.ca 13 (.cons (.k 20) (.cons (.m 8) (.m 4))))), [.mv 10 0, .mv 11 1]⟩]) (.seq (.ifd 10 [] [] 53 (.or (.b .neq (.ca 14 (.m 11)) (.k 0)) (.b .neq (.ca 15 (.m 10)) (.ca 15 (.ix (.ld1 hh) 1 (.m 3) (.m 5))))) (.seq (.reg [⟨0, (.c (.bool false)), [.mv 2 0]⟩]) .ret) .skip) (.reg [⟨66, (.m 10), [.mv 8 0]⟩])))) (.reg [⟨45, (.b .add (.m 9) (.k 1)), [.mv 9 0]⟩]))
def x5l1 : XC := .seq (.ife [] 19 (.b .lss (.m 5) (.ln false (.m 3))) .skip (.exit 0)) (.seq (.block 1 (.seq (.reg [⟨25, (.tup [0, 1] (.ca 18 (.ix (.ld1 hh) 1 (.m 3) (.m 5)))), [.mv 6 0, .mv 7 1]⟩]) (.seq (.ife [] 33 (.or (.b .eql (.m 6) (.c (.int .i64 (.negSucc 32767)))) (.b .eql (.m 7) (.c (.int .i64 (.negSucc 32767))))) (.exit 1) .skip) (.seq (.reg [⟨39, (.ix (.ld1 hh) 1 (.m 3) (.m 5)), [.mv 8 0]⟩]) (.seq (.seq (.reg [⟨0, (.k 0), [.mv 9 0]⟩]) (.block 2 (.loop x5l0))) (.seq (.reg [⟨67, (.tup [0, 1] (.ca 13 (.cons (.k 21) (.cons (.m 8) (.c (.int .u32 (.ofNat 0))))))), [.mv 12 0, .mv 13 1]⟩]) (.seq (.reg [⟨72, (.tup [0, 1] (.ca 13 (.cons (.k 21) (.cons (.m 12) (.c (.int .u32 (.ofNat 0))))))), [.mv 14 0, .mv 15 1]⟩]) (.ifd 31 [] [] 77 (.or (.or (.or (.or (.b .neq (.m 8) (.ix (.ld1 hh) 1 (.m 3) (.m 5))) (.b .neq (.ca 14 (.m 13)) (.k 0))) (.b .neq (.ca 14 (.m 15)) (.k 0))) (.b .neq (.m 14) (.ix (.ld1 hh) 1 (.m 3) (.m 5)))) (.b .neq (.ca 15 (.m 12)) (.ca 15 (.ix (.ld1 hh) 1 (.m 3) (.m 5))))) (.seq (.reg [⟨0, (.c (.bool false)), [.mv 2 0]⟩]) .ret) .skip)))))))) (.reg [⟨23, (.b .add (.m 5) (.k 1)), [.mv 5 0]⟩]))
def x5 : XF := ⟨7, [0, 1, 2, 3, 4, 5, 6, 7, 8, 9, 10, 11, 12, 13, 14, 15], [false, true, false, false, false, false, false, false, false, false, false, false, false, false, false, false], 1, [(2, none)], false, (.seq (.reg [⟨0, (.cons (.v 0) (.c (.bool false))), [.bb 1 0, .mv 2 1]⟩]) (.seq (.reg [⟨16, (.ca 12 (.lw (.ldA 2 hh) 1)), [.mv 3 0]⟩]) (.seq (.reg [⟨18, (.ca 17 (.cons (.k 0) (.k 1))), [.mv 4 0]⟩]) (.seq (.seq (.reg [⟨0, (.k 0), [.mv 5 0]⟩]) (.block 0 (.loop x5l1))) (.seq (.reg [⟨111, (.ca 16 .nil), [.mv 2 0]⟩]) .ret)))))⟩
theorem w5 : wfF x5 = true := by decide +kernel
def x6l0 : XC := .seq (.ife [] 36 (.b .lss (.m 6) (.ln false (.m 3))) .skip (.exit 4)) (.seq (.block 5 (.seq (.regd 14 [] [⟨42, (.tup [0, 1] (.ca 13 (.cons (.m 4) (.cons (.ix (.ld1 hh) 1 (.m 3) (.m 5)) (.ix (.ld1 hh) 1 (.m 3) (.m 6)))))), [.mv 7 0, .mv 8 1]⟩]) (.seq (.reg [⟨0, (.cons (.k 1) (.c (.int .u32 (.ofNat 0)))), [.mv 9 0, .mv 10 1]⟩]) (.seq (.ife [] 55 (.ca 21 (.m 4)) (.regd 9 [] [⟨57, (.cons (.ca 19 (.cons (.m 4) (.cons (.ix (.ld1 hh) 1 (.m 3) (.m 5)) (.ix (.ld1 hh) 1 (.m 3) (.m 6))))) (.k 0)), [.mv 9 1, .mv 10 0]⟩]) .skip) (.ife [] 67 (.or (.b .neq (.ca 14 (.m 8)) (.m 9)) (.b .neq (.m 7) (.m 10))) (.seq (.reg [⟨0, (.c (.bool false)), [.mv 2 0]⟩]) .ret) .skip))))) (.reg [⟨40, (.b .add (.m 6) (.k 1)), [.mv 6 0]⟩]))
def x6l1 : XC := .seq (.ife [] 30 (.b .lss (.m 5) (.ln false (.m 3))) .skip (.exit 2)) (.seq (.block 3 (.seq (.reg [⟨0, (.k 0), [.mv 6 0]⟩]) (.block 4 (.loop x6l0)))) (.reg [⟨34, (.b .add (.m 5) (.k 1)), [.mv 5 0]⟩]))
def x6l2 : XC := .seq (.ife [] 21 (.b .leq (.m 4) (.k 34)) .skip (.exit 0)) (.seq (.block 1 (.seq (.ife [] 25 (.op (.eqk .bool true hh hh) (.cons (.ca 20 (.m 4)) (.ca 21 (.m 4)))) (.seq (.reg [⟨0, (.c (.bool false)), [.mv 2 0]⟩]) .ret) .skip) (.seq (.reg [⟨0, (.k 0), [.mv 5 0]⟩]) (.block 2 (.loop x6l1))))) (.reg [⟨23, (.b .add (.m 4) (.k 1)), [.mv 4 0]⟩]))
def x6l3 : XC := .seq (.ife [] 76 (.b .lss (.m 11) (.ln false (.m 3))) .skip (.exit 6)) (.seq (.block 7 (.seq (.reg [⟨82, (.tup [0, 1] (.ca 18 (.ix (.ld1 hh) 1 (.m 3) (.m 11)))), [.mv 12 0, .mv 13 1]⟩]) (.seq (.reg [⟨90, (.tup [0, 1] (.ca 22 (.ix (.ld1 hh) 1 (.m 3) (.m 11)))), [.mv 14 0, .mv 15 1]⟩]) (.ifd 29 [] [] 98 (.or (.or (.or (.b .neq (.m 12) (.m 14)) (.b .neq (.m 13) (.m 15))) (.b .neq (.ca 15 (.ix (.ld1 hh) 1 (.m 3) (.m 11))) (.ca 23 (.ix (.ld1 hh) 1 (.m 3) (.m 11))))) (.b .neq (.ca 17 (.cons (.m 12) (.m 13))) (.ix (.ld1 hh) 1 (.m 3) (.m 11)))) (.seq (.reg [⟨0, (.c (.bool false)), [.mv 2 0]⟩]) .ret) .skip)))) (.reg [⟨80, (.b .add (.m 11) (.k 1)), [.mv 11 0]⟩]))
def x6l4 : XC := .seq (.ife [] 143 (.and (.b .lss (.m 18) (.ln false (.m 16))) (.b .lss (.m 18) (.k 16))) .skip (.exit 10)) (.seq (.block 11 (.ifd 17 [] [] 153 (.b .neq (.ca 17 (.cons (.ix (.ld1 hh) 1 (.m 16) (.m 17)) (.ix (.ld1 hh) 1 (.m 16) (.m 18)))) (.ca 24 (.cons (.ix (.ld1 hh) 1 (.m 16) (.m 17)) (.ix (.ld1 hh) 1 (.m 16) (.m 18))))) (.seq (.reg [⟨0, (.c (.bool false)), [.mv 2 0]⟩]) .ret) .skip)) (.reg [⟨151, (.b .add (.m 18) (.k 1)), [.mv 18 0]⟩]))
def x6l5 : XC := .seq (.ife [] 133 (.and (.b .lss (.m 17) (.ln false (.m 16))) (.b .lss (.m 17) (.k 16))) .skip (.exit 8)) (.seq (.block 9 (.seq (.reg [⟨0, (.k 0), [.mv 18 0]⟩]) (.block 10 (.loop x6l4)))) (.reg [⟨141, (.b .add (.m 17) (.k 1)), [.mv 17 0]⟩]))
def x6 : XF := ⟨8, [0, 1, 2, 3, 4, 5, 6, 7, 8, 9, 10, 11, 12, 13, 14, 15, 16, 17, 18], [false, true, false, false, false, false, false, false, false, false, false, false, false, false, false, false, false, false, false], 1, [(2, none)], false, (.seq (.reg [⟨0, (.cons (.v 0) (.c (.bool false))), [.bb 1 0, .mv 2 1]⟩]) (.seq (.reg [⟨19, (.ca 12 (.lw (.ldA 2 hh) 1)), [.mv 3 0]⟩]) (.seq (.seq (.reg [⟨0, (.c (.int .i64 (.negSucc 0))), [.mv 4 0]⟩]) (.block 0 (.loop x6l2))) (.seq (.seq (.reg [⟨0, (.k 0), [.mv 11 0]⟩]) (.block 6 (.loop x6l3))) (.seq (.reg [⟨129, (.op (.app 1 8 (.int .i64 (.ofNat 0)) hh hh) (.cons (.op (.buildS 1 7 (.int .i64 (.ofNat 0)) [(0, hh), (1, hh), (2, hh), (3, hh), (4, hh), (5, hh), (6, hh)]) (.cons (.k 0) (.cons (.k 1) (.cons (.c (.int .i64 (.negSucc 0))) (.cons (.k 32767) (.cons (.k 32768) (.cons (.c (.int .i64 (.negSucc 32768))) (.k 4611686018427387904)))))))) (.lf (.ld1 hh) 1 1))), [.mv 16 0]⟩]) (.seq (.seq (.reg [⟨0, (.k 0), [.mv 17 0]⟩]) (.block 8 (.loop x6l5))) (.seq (.reg [⟨172, (.ca 16 .nil), [.mv 2 0]⟩]) .ret)))))))⟩
theorem w6 : wfF x6 = true := by decide +kernel
def x7l0 : XC := .seq (.ife [] 37 (.b .lss (.m 6) (.ln false (.m 3))) .skip (.exit 2)) (.seq (.block 3 (.seq (.reg [⟨43, (.cons (.ca 27 (.ix (.ld1 hh) 1 (.m 3) (.m 6))) (.ca 28 (.m 5))), [.mv 7 0, .mv 8 1]⟩]) (.seq (.reg [⟨50, (.tup [0, 1, 2] (.ca 29 (.cons (.m 8) (.m 7)))), [.ba 9 [.str [], .int .i64 (.ofNat 0)], .bs 2 9 0, .mv 10 1, .mv 11 2]⟩]) (.seq (.reg [⟨57, (.tup [0, 1] (.ca 30 (.cons (.m 8) (.m 7)))), [.ba 12 [.str [], .int .i64 (.ofNat 0)], .bs 2 12 0, .mv 13 1]⟩]) (.seq (.reg [⟨63, (.tup [0, 1] (.ca 31 (.cons (.m 8) (.m 7)))), [.mv 14 0, .mv 15 1]⟩]) (.seq (.reg [⟨0, (.cons (.k 1) (.cons (.k 1) (.cons (.k 1) (.cons (.k 0) (.k 0))))), [.mv 16 0, .mv 17 1, .mv 18 2, .mv 19 3, .mv 20 4]⟩]) (.seq (.reg [⟨0, .nil, [.ba 21 [.str [], .int .i64 (.ofNat 0)], .ba 22 [.str [], .int .i64 (.ofNat 0)]]⟩]) (.seq (.ife [] 69 (.and (.ca 32 (.m 5)) (.ca 33 (.ix (.ld1 hh) 1 (.m 3) (.m 6)))) (.seq (.reg [⟨78, (.tup [0, 1, 2] (.ca 34 (.cons (.m 5) (.ix (.ld1 hh) 1 (.m 3) (.m 6))))), [.bs 2 21 0, .mv 19 1, .mv 16 2]⟩]) (.seq (.reg [⟨88, (.tup [0, 1] (.ca 35 (.cons (.m 5) (.ix (.ld1 hh) 1 (.m 3) (.m 6))))), [.bs 2 22 0, .mv 17 1]⟩]) (.reg [⟨97, (.tup [0, 1] (.ca 36 (.cons (.m 5) (.ix (.ld1 hh) 1 (.m 3) (.m 6))))), [.mv 20 0, .mv 18 1]⟩]))) .skip) (.ife [] 106 (.or (.or (.or (.or (.or (.or (.or (.or (.b .neq (.ca 37 (.m 11)) (.m 16)) (.op (.eqs (.st [(0, (1, (false, .str))), (1, (1, (false, .int)))]) true hh hh) (.cons (.lw (.ldA 2 hh) 9) (.lw (.ldA 2 hh) 21)))) (.b .neq (.m 10) (.m 19))) (.b .neq (.ca 37 (.m 13)) (.m 17))) (.op (.eqs (.st [(0, (1, (false, .str))), (1, (1, (false, .int)))]) true hh hh) (.cons (.lw (.ldA 2 hh) 12) (.lw (.ldA 2 hh) 22)))) (.b .neq (.ca 37 (.m 15)) (.m 18))) (.b .neq (.m 14) (.m 20))) (.u .not (.ca 38 (.cons (.m 7) (.ix (.ld1 hh) 1 (.m 3) (.m 6)))))) (.u .not (.ca 39 (.cons (.m 8) (.m 5))))) (.seq (.reg [⟨0, (.c (.bool false)), [.mv 2 0]⟩]) .ret) .skip))))))))) (.reg [⟨41, (.b .add (.m 6) (.k 1)), [.mv 6 0]⟩]))
def x7l1 : XC := .seq (.ife [] 27 (.b .lss (.m 4) (.k 2)) .skip (.exit 0)) (.seq (.block 1 (.seq (.reg [⟨31, (.ix (.ld1 hh) 1 (.op (.buildS 1 2 .nils [(0, hh), (1, hh)]) (.cons (.c .nils) (.lf (.ld1 hh) 2 1))) (.m 4)), [.mv 5 0]⟩]) (.seq (.reg [⟨0, (.k 0), [.mv 6 0]⟩]) (.block 2 (.loop x7l0))))) (.reg [⟨29, (.b .add (.m 4) (.k 1)), [.mv 4 0]⟩]))
def x7 : XF := ⟨8, [0, 1, 2, 3, 4, 5, 6, 7, 8, 9, 10, 11, 12, 13, 14, 15, 16, 17, 18, 19, 20, 21, 22], [false, true, false, false, false, false, false, false, false, true, false, false, true, false, false, false, false, false, false, false, false, true, true], 1, [(2, none)], false, (.seq (.reg [⟨0, (.cons (.v 0) (.c (.bool false))), [.bb 1 0, .mv 2 1]⟩]) (.seq (.ife [] 23 (.ca 25 (.lw (.ldA 4 hh) 1)) (.seq (.reg [⟨0, (.c (.bool true)), [.mv 2 0]⟩]) .ret) .skip) (.seq (.reg [⟨25, (.ca 26 (.lw (.ldA 4 hh) 1)), [.mv 3 0]⟩]) (.seq (.seq (.reg [⟨0, (.k 0), [.mv 4 0]⟩]) (.block 0 (.loop x7l1))) (.seq (.reg [⟨157, (.ca 40 .nil), [.mv 2 0]⟩]) .ret)))))⟩
theorem w7 : wfF x7 = true := by decide +kernel
def x8l0 : XC := .seq (.ife [] 20 (.b .lss (.m 5) (.ln false (.m 3))) .skip (.exit 0)) (.seq (.block 1 (.seq (.regd 12 [0, 1, 0, 0, 0, 28, 0, 0, 0, 0, 0, 1535] [⟨26, (.tup [0, 1] (.ca 30 (.cons (.lf (.ld1 hh) 2 1) (.ix (.ld1 hh) 1 (.m 3) (.m 5))))), [.ba 6 [.str [], .int .i64 (.ofNat 0)], .bs 2 6 0, .mv 7 1]⟩]) (.seq (.ife [] 36 (.or (.b .neq (.ca 37 (.m 7)) (.k 0)) (.b .gtr (.ln false (.ix (.ld1 hh) 1 (.m 3) (.m 5))) (.k 15))) (.exit 1) .skip) (.seq (.regd 13 [] [⟨47, (.ap 4 40 (.agg [.int .i64 (.ofNat 0), .str [], .int .i64 (.ofNat 0), .int .i64 (.ofNat 0)]) (.op (.app 4 40 (.agg [.int .i64 (.ofNat 0), .str [], .int .i64 (.ofNat 0), .int .i64 (.ofNat 0)]) hh hh) (.cons (.op (.buildS 4 1 (.agg [.int .i64 (.ofNat 0), .str [], .int .i64 (.ofNat 0), .int .i64 (.ofNat 0)]) [(0, hh)]) (.ix (.ldA 4 hh) 4 (.m 4) (.k 0))) (.ix (.ld1 hh) 1 (.m 3) (.m 5)))) (.ix (.ldA 4 hh) 4 (.m 4) (.k 1))), [.mv 8 0]⟩]) (.seq (.reg [⟨61, (.tup [0, 1] (.ca 30 (.cons (.lf (.ld1 hh) 2 1) (.m 8)))), [.ba 9 [.str [], .int .i64 (.ofNat 0)], .bs 2 9 0, .mv 10 1]⟩]) (.seq (.regd 19 [0, 1, 0, 0, 0, 28, 0, 0, 0, 384, 0, 0, 0, 0, 0, 0, 0, 0, 196607] [⟨68, (.tup [0, 1] (.ca 30 (.cons (.lf (.ld1 hh) 2 1) (.op (.app 4 40 (.agg [.int .i64 (.ofNat 0), .str [], .int .i64 (.ofNat 0), .int .i64 (.ofNat 0)]) hh hh) (.cons (.ca 27 (.ix (.ld1 hh) 1 (.m 3) (.m 5))) (.op (.buildS 4 2 (.agg [.int .i64 (.ofNat 0), .str [], .int .i64 (.ofNat 0), .int .i64 (.ofNat 0)]) [(0, hh), (1, hh)]) (.cons (.ix (.ldA 4 hh) 4 (.m 4) (.k 2)) (.op (.build [.int .i64 (.ofNat 0), .str [], .int .i64 (.ofNat 0), .int .i64 (.ofNat 0)] [(0, (1, hh))]) (.k 2))))))))), [.ba 11 [.str [], .int .i64 (.ofNat 0)], .bs 2 11 0, .mv 12 1]⟩]) (.seq (.regd 20 [0, 1, 0, 0, 0, 28, 0, 0, 0, 384, 0, 0, 0, 0, 0, 0, 0, 0, 0, 393215] [⟨85, (.tup [0, 1] (.ca 30 (.cons (.lf (.ld1 hh) 2 1) (.op (.app 4 40 (.agg [.int .i64 (.ofNat 0), .str [], .int .i64 (.ofNat 0), .int .i64 (.ofNat 0)]) hh hh) (.cons (.ap 4 40 (.agg [.int .i64 (.ofNat 0), .str [], .int .i64 (.ofNat 0), .int .i64 (.ofNat 0)]) (.ca 27 (.ix (.ld1 hh) 1 (.m 3) (.m 5))) (.ix (.ldA 4 hh) 4 (.m 4) (.k 3))) (.m 8)))))), [.ba 13 [.str [], .int .i64 (.ofNat 0)], .bs 2 13 0, .mv 14 1]⟩]) (.seq (.ife [] 103 (.or (.or (.or (.and (.b .neq (.ca 37 (.m 10)) (.k 0)) (.b .neq (.ca 37 (.m 10)) (.k 2))) (.and (.b .eql (.ca 37 (.m 10)) (.k 0)) (.op (.eqs (.st [(0, (1, (false, .str))), (1, (1, (false, .int)))]) true hh hh) (.cons (.lw (.ldA 2 hh) 9) (.lw (.ldA 2 hh) 6))))) (.b .neq (.ca 37 (.m 12)) (.k 0))) (.op (.eqs (.st [(0, (1, (false, .str))), (1, (1, (false, .int)))]) true hh hh) (.cons (.lw (.ldA 2 hh) 11) (.lw (.ldA 2 hh) 6)))) (.seq (.reg [⟨0, (.c (.bool false)), [.mv 2 0]⟩]) .ret) .skip) (.ife [] 131 (.or (.and (.and (.b .eql (.lf (.ld1 hh) 0 6) (.c (.str []))) (.b .eql (.ca 37 (.m 10)) (.k 0))) (.or (.b .neq (.ca 37 (.m 14)) (.k 0)) (.op (.eqs (.st [(0, (1, (false, .str))), (1, (1, (false, .int)))]) true hh hh) (.cons (.lw (.ldA 2 hh) 13) (.op (.build [.str [], .int .i64 (.ofNat 0)] []) .nil))))) (.and (.and (.b .neq (.lf (.ld1 hh) 0 6) (.c (.str []))) (.b .neq (.ca 37 (.m 14)) (.k 6))) (.b .neq (.ca 37 (.m 14)) (.k 2)))) (.seq (.reg [⟨0, (.c (.bool false)), [.mv 2 0]⟩]) .ret) .skip))))))))) (.reg [⟨24, (.b .add (.m 5) (.k 1)), [.mv 5 0]⟩]))
def x8 : XF := ⟨8, [0, 1, 2, 3, 4, 5, 6, 7, 8, 9, 10, 11, 12, 13, 14], [false, true, false, false, false, false, true, false, false, true, false, true, false, true, false], 1, [(2, none)], false, (.seq (.reg [⟨0, (.cons (.v 0) (.c (.bool false))), [.bb 1 0, .mv 2 1]⟩]) (.seq (.ife [] 15 (.ca 25 (.lw (.ldA 4 hh) 1)) (.seq (.reg [⟨0, (.c (.bool true)), [.mv 2 0]⟩]) .ret) .skip) (.seq (.reg [⟨17, (.ca 26 (.lw (.ldA 4 hh) 1)), [.mv 3 0]⟩]) (.seq (.reg [⟨19, (.ca 41 .nil), [.mv 4 0]⟩]) (.seq (.seq (.reg [⟨0, (.k 0), [.mv 5 0]⟩]) (.block 0 (.loop x8l0))) (.seq (.reg [⟨164, (.ca 40 .nil), [.mv 2 0]⟩]) .ret))))))⟩
theorem w8 : wfF x8 = true := by decide +kernel
def x9l0 : XC := .seq (.ife [] 8 (.b .lss (.m 7) (.k 12)) .skip (.exit 0)) (.seq (.block 1 (.seq (.reg [⟨12, (.op (.app 1 16 (.str []) hh hh) (.cons (.m 3) (.op (.buildS 1 6 (.str []) [(0, hh), (1, hh), (2, hh), (3, hh), (4, hh), (5, hh)]) (.cons (.b .add (.b .add (.m 4) (.c (.str [49]))) (.m 5)) (.cons (.b .add (.m 6) (.c (.str [49]))) (.cons (.b .add (.b .add (.b .add (.m 4) (.m 6)) (.c (.str [49]))) (.m 5)) (.cons (.b .add (.m 4) (.c (.str [49]))) (.cons (.b .add (.c (.str [49])) (.m 5)) (.m 4))))))))), [.mv 3 0]⟩]) (.reg [⟨32, (.cons (.b .add (.m 4) (.c (.str [40]))) (.cons (.b .add (.m 5) (.c (.str [41]))) (.b .add (.m 6) (.c (.str [45]))))), [.mv 4 0, .mv 5 1, .mv 6 2]⟩]))) (.reg [⟨10, (.b .add (.m 7) (.k 1)), [.mv 7 0]⟩]))
def x9 : XF := ⟨6, [0, 1, 2, 3, 4, 5, 6, 7], [false, true, false, false, false, false, false, false], 1, [(2, none)], false, (.seq (.reg [⟨0, (.cons (.v 0) (.c (.bool false))), [.bb 1 0, .mv 2 1]⟩]) (.seq (.reg [⟨0, (.c .nils), [.mv 3 0]⟩]) (.seq (.reg [⟨0, (.cons (.c (.str [])) (.cons (.c (.str [])) (.c (.str [])))), [.mv 4 0, .mv 5 1, .mv 6 2]⟩]) (.seq (.seq (.reg [⟨0, (.k 0), [.mv 7 0]⟩]) (.block 0 (.loop x9l0))) (.seq (.reg [⟨38, (.and (.b .geq (.ln false (.lf (.ld1 hh) 2 1)) (.k 0)) (.ca 42 (.m 3))), [.mv 2 0]⟩]) .ret)))))⟩
theorem w9 : wfF x9 = true := by decide +kernel
def x10 : XF := ⟨4, [0, 1, 2], [false, true, false], 1, [(2, none)], false, (.seq (.reg [⟨0, (.cons (.v 0) (.c (.bool false))), [.bb 1 0, .mv 2 1]⟩]) (.seq (.reg [⟨3, (.and (.b .geq (.ln false (.lf (.ld1 hh) 3 1)) (.k 0)) (.ca 42 (.op (.buildS 1 23 (.str []) [(0, hh), (1, hh), (2, hh), (3, hh), (4, hh), (5, hh), (6, hh), (7, hh), (8, hh), (9, hh), (10, hh), (11, hh), (12, hh), (13, hh), (14, hh), (15, hh), (16, hh), (17, hh), (18, hh), (19, hh), (20, hh), (21, hh), (22, hh)]) (.cons (.c (.str [50, 49, 52, 55, 52, 56, 51, 54, 52, 55, 43, 49])) (.cons (.c (.str [50, 49, 52, 55, 52, 56, 51, 54, 52, 55, 43, 50])) (.cons (.c (.str [45, 50, 49, 52, 55, 52, 56, 51, 54, 52, 55, 45, 49])) (.cons (.c (.str [45, 50, 49, 52, 55, 52, 56, 51, 54, 52, 55, 45, 50])) (.cons (.c (.str [54, 53, 53, 51, 54, 42, 51, 50, 55, 54, 56])) (.cons (.c (.str [54, 53, 53, 51, 54, 42, 51, 50, 55, 54, 57])) (.cons (.c (.str [45, 54, 53, 53, 51, 54, 42, 51, 50, 55, 54, 56])) (.cons (.c (.str [45, 54, 53, 53, 51, 54, 42, 51, 50, 55, 54, 57])) (.cons (.c (.str [50, 49, 52, 55, 52, 56, 51, 54, 52, 55, 42, 50, 49, 52, 55, 52, 56, 51, 54, 52, 55])) (.cons (.c (.str [116, 111, 112, 42, 116, 111, 112])) (.cons (.c (.str [108, 111, 119, 42, 108, 111, 119])) (.cons (.c (.str [108, 111, 119, 42, 116, 111, 112])) (.cons (.c (.str [116, 111, 112, 43, 111, 110, 101])) (.cons (.c (.str [108, 111, 119, 45, 111, 110, 101])) (.cons (.c (.str [116, 111, 112, 45, 111, 110, 101])) (.cons (.c (.str [120, 43, 50, 49, 52, 55, 52, 56, 51, 54, 52, 55])) (.cons (.c (.str [120, 43, 50, 49, 52, 55, 52, 56, 51, 54, 52, 55, 43, 49])) (.cons (.c (.str [120, 43, 50, 49, 52, 55, 52, 56, 51, 54, 52, 55, 43, 50])) (.cons (.c (.str [120, 45, 50, 49, 52, 55, 52, 56, 51, 54, 52, 55, 45, 50])) (.cons (.c (.str [107, 42, 107, 42, 107])) (.cons (.c (.str [45, 108, 111, 119])) (.cons (.c (.str [45, 116, 111, 112])) (.c (.str [50, 49, 52, 55, 52, 56, 51, 54, 52, 55, 45, 108, 111, 119]))))))))))))))))))))))))))), [.mv 2 0]⟩]) .ret))⟩
theorem w10 : wfF x10 = true := by decide +kernel
def x11 : XF := ⟨4, [0, 1, 2], [false, true, false], 1, [(2, none)], false, (.seq (.reg [⟨0, (.cons (.v 0) (.c (.bool false))), [.bb 1 0, .mv 2 1]⟩]) (.seq (.reg [⟨3, (.and (.b .geq (.ln false (.lv (.ld1 hh) (.op (.faddr 0 hh) (.op (.faddr 0 hh) (.adr 1))))) (.k 0)) (.ca 42 (.op (.buildS 1 35 (.str []) [(0, hh), (1, hh), (2, hh), (3, hh), (4, hh), (5, hh), (6, hh), (7, hh), (8, hh), (9, hh), (10, hh), (11, hh), (12, hh), (13, hh), (14, hh), (15, hh), (16, hh), (17, hh), (18, hh), (19, hh), (20, hh), (21, hh), (22, hh), (23, hh), (24, hh), (25, hh), (26, hh), (27, hh), (28, hh), (29, hh), (30, hh), (31, hh), (32, hh), (33, hh), (34, hh)]) (.cons (.c (.str [])) (.cons (.c (.str [97])) (.cons (.c (.str [111, 110, 101])) (.cons (.c (.str [97, 43, 49])) (.cons (.c (.str [49, 43, 97])) (.cons (.c (.str [97, 45, 49])) (.cons (.c (.str [49, 45, 97])) (.cons (.c (.str [97, 43, 98])) (.cons (.c (.str [97, 45, 98])) (.cons (.c (.str [45, 97])) (.cons (.c (.str [97, 42, 49])) (.cons (.c (.str [49, 42, 97])) (.cons (.c (.str [111, 110, 101, 42, 111, 110, 101])) (.cons (.c (.str [40, 97, 41])) (.cons (.c (.str [40, 97, 41, 43, 49])) (.cons (.c (.str [50, 42, 40, 97, 43, 49, 41])) (.cons (.c (.str [97, 43, 40, 49, 45, 111, 110, 101, 41])) (.cons (.c (.str [97, 43, 111, 110, 101, 42, 50])) (.cons (.c (.str [46, 97])) (.cons (.c (.str [97, 43, 46, 98])) (.cons (.c (.str [97, 43])) (.cons (.c (.str [43, 97])) (.cons (.c (.str [97, 32, 98])) (.cons (.c (.str [97, 44, 98])) (.cons (.c (.str [42])) (.cons (.c (.str [40, 41])) (.cons (.c (.str [40, 97])) (.cons (.c (.str [97, 41])) (.cons (.c (.str [49, 32, 43, 32, 41, 32])) (.cons (.c (.str [45, 32])) (.cons (.c (.str [97, 45, 45, 49])) (.cons (.c (.str [49, 45, 45, 49])) (.cons (.c (.str [49, 45, 43, 49])) (.cons (.c (.str [64])) (.c (.str [97, 58]))))))))))))))))))))))))))))))))))))))), [.mv 2 0]⟩]) .ret))⟩
theorem w11 : wfF x11 = true := by decide +kernel
def x12 : XF := ⟨4, [0, 1, 2, 3], [false, true, false, false], 1, [(2, none)], false, (.seq (.reg [⟨0, (.cons (.v 0) (.c .nils)), [.bb 1 0, .mv 2 1]⟩]) (.seq (.reg [⟨4, (.op (.app 1 4 (.int .u32 (.ofNat 0)) hh hh) (.cons (.op (.buildS 1 10 (.int .u32 (.ofNat 0)) [(0, hh), (1, hh), (2, hh), (3, hh), (4, hh), (5, hh), (6, hh), (7, hh), (8, hh), (9, hh)]) (.cons (.c (.int .u32 (.ofNat 0))) (.cons (.c (.int .u32 (.ofNat 1))) (.cons (.c (.int .u32 (.ofNat 65536))) (.cons (.c (.int .u32 (.ofNat 65535))) (.cons (.c (.int .u32 (.ofNat 4294901760))) (.cons (.c (.int .u32 (.ofNat 32768))) (.cons (.c (.int .u32 (.ofNat 2147483648))) (.cons (.c (.int .u32 (.ofNat 2147516416))) (.cons (.c (.int .u32 (.ofNat 2147450879))) (.c (.int .u32 (.ofNat 4294967295))))))))))))) (.lf (.ld1 hh) 0 1))), [.mv 3 0]⟩]) (.seq (.ife [] 8 (.b .gtr (.ln false (.m 3)) (.k 26)) (.reg [⟨11, (.op (.slL 1 hh none (some hh) none) (.cons (.m 3) (.k 26))), [.mv 3 0]⟩]) .skip) (.seq (.reg [⟨13, (.m 3), [.mv 2 0]⟩]) .ret))))⟩
theorem w12 : wfF x12 = true := by decide +kernel
def x13 : XF := ⟨6, [0, 1, 2, 6, 7, 8, 9, 14], [false, false, false, false, false, false, false, false], 3, [(3, none), (4, none)], false, (.seq (.reg [⟨0, (.cons (.c (.int .u32 (.ofNat 0))) (.k 0)), [.mv 3 0, .mv 4 1]⟩]) (.seq (.reg [⟨10, (.cons (.ca 43 (.m 1)) (.ca 43 (.m 2))), [.mv 5 0, .mv 6 1]⟩]) (.seq (.seq (.reg [⟨0, (.v 0), [.mv 7 0]⟩]) (.block 0 (.ife [] 15 (.mr (.b .eql (.v 7) (.k 18))) (.seq (.reg [⟨17, (.cons (.ca 44 (.b .add (.m 5) (.m 6))) (.k 0)), [.mv 3 0, .mv 4 1]⟩]) .ret) (.ife [] 21 (.mr (.b .eql (.v 7) (.k 19))) (.seq (.reg [⟨23, (.cons (.ca 44 (.b .sub (.m 5) (.m 6))) (.k 0)), [.mv 3 0, .mv 4 1]⟩]) .ret) (.ife [] 27 (.mr (.b .eql (.v 7) (.k 20))) (.seq (.reg [⟨29, (.cons (.ca 44 (.b .mul (.m 5) (.m 6))) (.k 0)), [.mv 3 0, .mv 4 1]⟩]) .ret) (.ife [] 33 (.mr (.b .eql (.v 7) (.k 21))) (.seq (.reg [⟨35, (.cons (.ca 44 (.ca 45 (.m 5))) (.k 0)), [.mv 3 0, .mv 4 1]⟩]) .ret) .skip)))))) (.seq (.reg [⟨0, (.cons (.c (.int .u32 (.ofNat 0))) (.k 1)), [.mv 3 0, .mv 4 1]⟩]) .ret))))⟩
theorem w13 : wfF x13 = true := by decide +kernel
def x14 : XF := ⟨3, [0, 2], [false, false], 1, [(1, none)], false, (.seq (.reg [⟨0, (.k 0), [.mv 1 0]⟩]) (.seq (.reg [⟨3, (.m 0), [.mv 1 0]⟩]) .ret))⟩
theorem w14 : wfF x14 = true := by decide +kernel
def x15 : XF := ⟨4, [0, 2, 3], [false, false, false], 1, [(1, none)], false, (.seq (.reg [⟨0, (.k 0), [.mv 1 0]⟩]) (.seq (.reg [⟨4, (.ca 43 (.m 0)), [.mv 2 0]⟩]) (.seq (.reg [⟨6, (.cv (.fint .i64) (.op (.re hh) (.b .mul (.m 2) (.ca 45 (.m 2))))), [.mv 1 0]⟩]) .ret)))⟩
theorem w15 : wfF x15 = true := by decide +kernel
def x16 : XF := ⟨6, [0, 1, 2, 3, 4, 5], [false, false, false, false, false, false], 0, [(0, none)], false, (.seq (.reg [⟨0, (.c (.bool false)), [.mv 0 0]⟩]) (.seq (.reg [⟨6, (.ca 17 (.cons (.k 0) (.k 1))), [.mv 1 0]⟩]) (.seq (.reg [⟨7, (.tup [0, 1] (.ca 13 (.cons (.k 20) (.cons (.m 1) (.m 1))))), [.mv 2 0, .mv 3 1]⟩]) (.seq (.reg [⟨13, (.tup [0, 1] (.ca 18 (.m 2))), [.mv 4 0, .mv 5 1]⟩]) (.seq (.reg [⟨18, (.and (.and (.and (.b .eql (.ca 14 (.m 3)) (.k 0)) (.b .eql (.m 4) (.c (.int .i64 (.negSucc 0))))) (.b .eql (.m 5) (.k 0))) (.b .eql (.ca 15 (.m 1)) (.k 1))), [.mv 0 0]⟩]) .ret)))))⟩
theorem w16 : wfF x16 = true := by decide +kernel
def x17 : XF := ⟨4, [0, 1, 4], [false, false, false], 2, [(2, none)], false, (.seq (.reg [⟨0, (.c (.int .u32 (.ofNat 0))), [.mv 2 0]⟩]) (.seq (.reg [⟨5, (.b .or (.cv (.int .u32) (.cv (.int .u16) (.m 0))) (.b .shl (.cv (.int .u32) (.cv (.int .u16) (.m 1))) (.c (.int .u64 (.ofNat 16))))), [.mv 2 0]⟩]) .ret))⟩
theorem w17 : wfF x17 = true := by decide +kernel
def x18 : XF := ⟨4, [0, 2, 3], [false, false, false], 1, [(1, none), (2, none)], false, (.seq (.reg [⟨0, (.cons (.k 0) (.k 0)), [.mv 1 0, .mv 2 1]⟩]) (.seq (.reg [⟨4, (.cons (.cv (.int .i64) (.cv (.int .i16) (.m 0))) (.cv (.int .i64) (.cv (.int .i16) (.b .shr (.m 0) (.c (.int .u64 (.ofNat 16))))))), [.mv 1 0, .mv 2 1]⟩]) .ret))⟩
theorem w18 : wfF x18 = true := by decide +kernel
def x19 : XF := ⟨6, [0, 1, 2, 6, 7, 8, 9, 10, 21], [false, false, false, false, false, false, false, false, false], 3, [(3, none)], false, (.seq (.reg [⟨0, (.c (.int .u32 (.ofNat 0))), [.mv 3 0]⟩]) (.seq (.reg [⟨11, (.tup [0, 1] (.ca 22 (.m 1))), [.mv 4 0, .mv 5 1]⟩]) (.seq (.reg [⟨16, (.tup [0, 1] (.ca 22 (.m 2))), [.mv 6 0, .mv 7 1]⟩]) (.seq (.seq (.reg [⟨0, (.v 0), [.mv 8 0]⟩]) (.block 0 (.ife [] 22 (.mr (.b .eql (.v 8) (.k 18))) (.seq (.reg [⟨24, (.ca 24 (.cons (.b .add (.m 4) (.m 6)) (.b .add (.m 5) (.m 7)))), [.mv 3 0]⟩]) .ret) (.ife [] 31 (.mr (.b .eql (.v 8) (.k 19))) (.seq (.reg [⟨33, (.ca 24 (.cons (.b .sub (.m 4) (.m 6)) (.b .sub (.m 5) (.m 7)))), [.mv 3 0]⟩]) .ret) (.ife [] 40 (.mr (.b .eql (.v 8) (.k 20))) (.seq (.reg [⟨42, (.ca 24 (.cons (.b .sub (.b .mul (.m 4) (.m 6)) (.b .mul (.m 5) (.m 7))) (.b .add (.b .mul (.m 4) (.m 7)) (.b .mul (.m 5) (.m 6))))), [.mv 3 0]⟩]) .ret) .skip))))) (.seq (.reg [⟨57, (.ca 24 (.cons (.m 4) (.u .neg (.m 5)))), [.mv 3 0]⟩]) .ret)))))⟩
theorem w19 : wfF x19 = true := by decide +kernel
def x20 : XF := ⟨4, [0, 2], [false, false], 1, [(1, none)], false, (.seq (.reg [⟨0, (.c (.bool false)), [.mv 1 0]⟩]) (.seq (.reg [⟨3, (.and (.b .geq (.m 0) (.k 18)) (.b .leq (.m 0) (.k 21))), [.mv 1 0]⟩]) .ret))⟩
theorem w20 : wfF x20 = true := by decide +kernel
def x21 : XF := ⟨3, [0, 2], [false, false], 1, [(1, none)], false, (.seq (.reg [⟨0, (.c (.bool false)), [.mv 1 0]⟩]) (.seq (.reg [⟨3, (.ca 46 (.cons (.m 0) (.cons (.k 18) (.k 21)))), [.mv 1 0]⟩]) .ret))⟩
theorem w21 : wfF x21 = true := by decide +kernel
def x22 : XF := ⟨4, [0, 2, 3], [false, false, false], 1, [(1, none), (2, none)], false, (.seq (.reg [⟨0, (.cons (.k 0) (.k 0)), [.mv 1 0, .mv 2 1]⟩]) (.seq (.reg [⟨4, (.cons (.cv (.int .i64) (.cv (.int .i16) (.b .and (.m 0) (.c (.int .u32 (.ofNat 65535)))))) (.cv (.int .i64) (.cv (.int .i16) (.b .shr (.m 0) (.c (.int .u64 (.ofNat 16))))))), [.mv 1 0, .mv 2 1]⟩]) .ret))⟩
theorem w22 : wfF x22 = true := by decide +kernel
def x23 : XF := ⟨5, [0, 2, 3, 4], [false, false, false, false], 1, [(1, none)], false, (.seq (.reg [⟨0, (.k 0), [.mv 1 0]⟩]) (.seq (.reg [⟨5, (.tup [0, 1] (.ca 22 (.m 0))), [.mv 2 0, .mv 3 1]⟩]) (.seq (.reg [⟨10, (.b .add (.b .mul (.m 2) (.m 2)) (.b .mul (.m 3) (.m 3))), [.mv 1 0]⟩]) .ret)))⟩
theorem w23 : wfF x23 = true := by decide +kernel
def x24 : XF := ⟨4, [0, 1, 4], [false, false, false], 2, [(2, none)], false, (.seq (.reg [⟨0, (.c (.int .u32 (.ofNat 0))), [.mv 2 0]⟩]) (.seq (.reg [⟨5, (.b .or (.b .and (.cv (.int .u32) (.m 0)) (.c (.int .u32 (.ofNat 65535)))) (.b .shl (.b .and (.cv (.int .u32) (.m 1)) (.c (.int .u32 (.ofNat 65535)))) (.c (.int .u64 (.ofNat 16))))), [.mv 2 0]⟩]) .ret))⟩
theorem w24 : wfF x24 = true := by decide +kernel
def x25 : XF := ⟨4, [0, 1, 2], [false, true, false], 1, [(2, none)], false, (.seq (.reg [⟨0, (.cons (.v 0) (.c (.bool false))), [.bb 1 0, .mv 2 1]⟩]) (.seq (.reg [⟨3, (.or (.b .gtr (.b .add (.ln false (.lf (.ld1 hh) 2 1)) (.ln false (.lf (.ld1 hh) 3 1))) (.k 200)) (.ca 47 (.lf (.ldA 2 hh) 0 1))), [.mv 2 0]⟩]) .ret))⟩
theorem w25 : wfF x25 = true := by decide +kernel
def x26l0 : XC := .seq (.ife [] 49 (.and (.b .lss (.m 8) (.k 5)) (.b .gtr (.ln false (.m 5)) (.k 0))) .skip (.exit 2)) (.seq (.block 3 (.seq (.reg [⟨58, (.ca 49 (.cons (.b .add (.b .quo (.b .mul (.m 8) (.ln false (.m 5))) (.k 5)) (.m 4)) (.ln false (.m 5)))), [.mv 9 0]⟩]) (.regd 17 [] [⟨68, (.op (.app 1 24 .nils hh hh) (.cons (.m 3) (.op (.buildS 1 3 .nils [(0, hh), (1, hh), (2, hh)]) (.cons (.op (.slL 4 hh none (some hh) none) (.cons (.m 5) (.m 9))) (.cons (.op (.slL 4 hh (some hh) none none) (.cons (.m 5) (.m 9))) (.op (.app 4 40 (.agg [.int .i64 (.ofNat 0), .str [], .int .i64 (.ofNat 0), .int .i64 (.ofNat 0)]) hh hh) (.cons (.ca 27 (.op (.slL 4 hh none (some hh) none) (.cons (.m 5) (.m 9)))) (.op (.slL 4 hh (some hh) none none) (.cons (.m 5) (.b .add (.m 9) (.k 1))))))))))), [.mv 3 0]⟩]))) (.reg [⟨56, (.b .add (.m 8) (.k 1)), [.mv 8 0]⟩]))
def x26l1 : XC := .seq (.ife [] 20 (.and (.b .lss (.m 4) (.ln false (.lv (.ld1 hh) (.op (.faddr 0 hh) (.op (.faddr 0 hh) (.adr 1)))))) (.b .lss (.m 4) (.k 8))) .skip (.exit 0)) (.seq (.block 1 (.seq (.reg [⟨33, (.ca 48 (.ix (.ld1 hh) 1 (.lv (.ld1 hh) (.op (.faddr 0 hh) (.op (.faddr 0 hh) (.adr 1)))) (.m 4))), [.mv 10 0]⟩, ⟨40, (.cons (.op (.ext hh 0) (.v 10)) (.cons (.v 10) (.v 10))), [.wo 11 (.ext hh 1) [1], .wo 12 (.ext hh 2) [2], .mv 5 0]⟩, ⟨0, (.cons (.v 11) (.v 12)), [.mv 6 0, .mv 7 1]⟩]) (.seq (.ife [] 43 (.b .neq (.m 7) (.k 0)) (.exit 1) .skip) (.seq (.reg [⟨45, (.ap 1 24 .nils (.m 3) (.m 5)), [.mv 3 0]⟩]) (.seq (.reg [⟨0, (.k 0), [.mv 8 0]⟩]) (.block 2 (.loop x26l0))))))) (.reg [⟨30, (.b .add (.m 4) (.k 1)), [.mv 4 0]⟩]))
def x26 : XF := ⟨7, [0, 1, 2, 3, 4, 5, 6, 7, 8, 9, 32, 41, 42], [false, true, false, false, false, false, false, false, false, false, false, false, false], 1, [(2, none)], false, (.seq (.reg [⟨0, (.cons (.v 0) (.c .nils)), [.bb 1 0, .mv 2 1]⟩]) (.seq (.reg [⟨10, (.op (.app 1 24 .nils hh hh) (.cons (.op (.buildS 1 1 .nils [(0, hh)]) (.c .nils)) (.lv (.ld1 hh) (.op (.faddr 1 hh) (.op (.faddr 0 hh) (.adr 1)))))), [.mv 3 0]⟩]) (.seq (.ife [] 15 (.b .gtr (.ln false (.m 3)) (.k 8)) (.reg [⟨18, (.op (.slL 1 hh none (some hh) none) (.cons (.m 3) (.k 8))), [.mv 3 0]⟩]) .skip) (.seq (.seq (.reg [⟨0, (.k 0), [.mv 4 0]⟩]) (.block 0 (.loop x26l1))) (.seq (.reg [⟨86, (.m 3), [.mv 2 0]⟩]) .ret)))))⟩
theorem w26 : wfF x26 = true := by decide +kernel
def x27l0 : XC := .seq (.ife [] 5 (.b .lss (.m 3) (.ln false (.m 0))) .skip (.exit 0)) (.seq (.block 1 (.reg [⟨11, (.ap 4 40 (.agg [.int .i64 (.ofNat 0), .str [], .int .i64 (.ofNat 0), .int .i64 (.ofNat 0)]) (.m 2) (.ix (.ldA 4 hh) 4 (.m 0) (.m 3))), [.mv 2 0]⟩])) (.reg [⟨9, (.b .add (.m 3) (.k 1)), [.mv 3 0]⟩]))
def x27 : XF := ⟨5, [0, 2, 3, 4], [false, false, false, false], 1, [(1, none)], false, (.seq (.reg [⟨0, (.c .nils), [.mv 1 0]⟩]) (.seq (.reg [⟨0, (.c .nils), [.mv 2 0]⟩]) (.seq (.seq (.reg [⟨0, (.k 0), [.mv 3 0]⟩]) (.block 0 (.loop x27l0))) (.seq (.reg [⟨18, (.m 2), [.mv 1 0]⟩]) .ret))))⟩
theorem w27 : wfF x27 = true := by decide +kernel
def x28l0 : XC := .seq (.ife [] 5 (.b .lss (.m 3) (.ln false (.m 0))) .skip (.exit 0)) (.seq (.block 1 (.reg [⟨11, (.ap 2 24 (.agg [.str [], .int .i64 (.ofNat 0)]) (.m 2) (.ix (.ldA 2 hh) 2 (.m 0) (.m 3))), [.mv 2 0]⟩])) (.reg [⟨9, (.b .add (.m 3) (.k 1)), [.mv 3 0]⟩]))
def x28 : XF := ⟨5, [0, 2, 3, 4], [false, false, false, false], 1, [(1, none)], false, (.seq (.reg [⟨0, (.c .nils), [.mv 1 0]⟩]) (.seq (.reg [⟨0, (.c .nils), [.mv 2 0]⟩]) (.seq (.seq (.reg [⟨0, (.k 0), [.mv 3 0]⟩]) (.block 0 (.loop x28l0))) (.seq (.reg [⟨18, (.m 2), [.mv 1 0]⟩]) .ret))))⟩
theorem w28 : wfF x28 = true := by decide +kernel
def x29 : XF := ⟨6, [0, 1, 4, 5, 6, 7], [false, false, true, false, false, false], 2, [(2, some (2, true)), (3, none), (4, none)], false, (.seq (.reg [⟨0, (.cons (.k 0) (.k 0)), [.ba 2 [.str [], .int .i64 (.ofNat 0)], .mv 3 0, .mv 4 1]⟩]) (.seq (.ife [] 8 (.or (.u .not (.ca 50 (.m 0))) (.u .not (.ca 51 (.m 1)))) (.seq (.reg [⟨16, (.cons (.lw (.ldA 2 hh) 2) (.cons (.k 0) (.k 1))), [.bs 2 2 0, .mv 3 1, .mv 4 2]⟩]) .ret) .skip) (.seq (.reg [⟨17, (.op (.box hh) (.op (.build [.nils, .nils, .int .i64 (.ofNat 0), .int .i64 (.ofNat 0)] [(0, (1, hh)), (1, (1, hh))]) (.cons (.m 0) (.m 1)))), [.mv 5 0]⟩]) (.seq (.seq (.reg [⟨21, (.tup [0, 1] (.ca 52 (.m 5))), [.bs 2 2 0, .mv 4 1]⟩]) (.ife [] 26 (.b .neq (.m 4) (.k 0)) (.seq (.reg [⟨28, (.cons (.op (.build [.str [], .int .i64 (.ofNat 0)] []) .nil) (.cons (.m 4) (.k 0))), [.bs 2 2 0, .mv 3 2, .mv 4 1]⟩]) .ret) .skip)) (.seq (.regd 6 [0, 0, 0, 0, 14, 1] [⟨30, (.cons (.lw (.ldA 2 hh) 2) (.cons (.pf (.ld1 hh) 2 (.m 5)) (.k 0))), [.bs 2 2 0, .mv 3 1, .mv 4 2]⟩]) .ret)))))⟩
theorem w29 : wfF x29 = true := by decide +kernel
def x30 : XF := ⟨5, [0, 1, 4, 5, 6, 7, 8], [false, false, true, false, true, false, false], 2, [(2, some (2, true)), (3, none)], false, (.seq (.reg [⟨0, (.k 0), [.ba 2 [.str [], .int .i64 (.ofNat 0)], .mv 3 0]⟩]) (.seq (.reg [⟨9, (.tup [0, 1, 2] (.ca 29 (.cons (.m 0) (.m 1)))), [.ba 4 [.str [], .int .i64 (.ofNat 0)], .bs 2 4 0, .mv 5 1, .mv 6 2]⟩]) (.seq (.block 0 (.ife [] 16 (.mr (.b .neq (.m 6) (.k 0))) (.seq (.reg [⟨19, (.cons (.op (.build [.str [], .int .i64 (.ofNat 0)] []) .nil) (.m 6)), [.bs 2 2 0, .mv 3 1]⟩]) .ret) (.ife [] 21 (.mr (.b .lss (.m 5) (.ln false (.m 1)))) (.seq (.reg [⟨26, (.cons (.op (.build [.str [], .int .i64 (.ofNat 0)] []) .nil) (.k 3)), [.bs 2 2 0, .mv 3 1]⟩]) .ret) .skip))) (.seq (.reg [⟨27, (.cons (.lw (.ldA 2 hh) 4) (.k 0)), [.bs 2 2 0, .mv 3 1]⟩]) .ret))))⟩
theorem w30 : wfF x30 = true := by decide +kernel
def x31 : XF := ⟨5, [0, 1, 4, 5, 6, 7], [false, false, false, false, true, false], 2, [(2, none), (3, none)], false, (.seq (.reg [⟨0, (.cons (.k 0) (.k 0)), [.mv 2 0, .mv 3 1]⟩]) (.seq (.reg [⟨8, (.tup [0, 1] (.ca 30 (.cons (.m 0) (.m 1)))), [.ba 4 [.str [], .int .i64 (.ofNat 0)], .bs 2 4 0, .mv 5 1]⟩]) (.seq (.block 0 (.ife [] 14 (.mr (.b .neq (.m 5) (.k 0))) (.seq (.reg [⟨17, (.cons (.m 5) (.k 0)), [.mv 2 1, .mv 3 0]⟩]) .ret) (.ife [] 18 (.mr (.b .neq (.lf (.ld1 hh) 0 4) (.c (.str [])))) (.seq (.reg [⟨0, (.cons (.k 0) (.k 6)), [.mv 2 0, .mv 3 1]⟩]) .ret) .skip))) (.seq (.reg [⟨22, (.cons (.lf (.ld1 hh) 1 4) (.k 0)), [.mv 2 0, .mv 3 1]⟩]) .ret))))⟩
theorem w31 : wfF x31 = true := by decide +kernel
def x32l0 : XC := .seq (.ife [] 4 (.and (.b .lss (.m 2) (.ln false (.m 0))) (.b .leq (.m 2) (.k 60))) .skip (.exit 0)) (.seq (.block 1 (.ifd 25 [] [] 14 (.or (.or (.u .not (.ca 53 (.op (.ld1 hh) (.op (.faddr 0 hh) (.op (.iaddr 2 hh hh) (.cons (.m 0) (.m 2))))))) (.u .not (.ca 54 (.op (.ld1 hh) (.op (.faddr 1 hh) (.op (.iaddr 2 hh hh) (.cons (.m 0) (.m 2)))))))) (.b .geq (.ca 55 (.cons (.op (.slL 2 hh none (some hh) none) (.cons (.m 0) (.m 2))) (.op (.ld1 hh) (.op (.faddr 0 hh) (.op (.iaddr 2 hh hh) (.cons (.m 0) (.m 2))))))) (.k 0))) (.seq (.reg [⟨0, (.c (.bool false)), [.mv 1 0]⟩]) .ret) .skip)) (.reg [⟨12, (.b .add (.m 2) (.k 1)), [.mv 2 0]⟩]))
def x32 : XF := ⟨6, [0, 2, 3], [false, false, false], 1, [(1, none)], false, (.seq (.reg [⟨0, (.c (.bool false)), [.mv 1 0]⟩]) (.seq (.seq (.reg [⟨0, (.k 0), [.mv 2 0]⟩]) (.block 0 (.loop x32l0))) (.seq (.reg [⟨42, (.b .leq (.ln false (.m 0)) (.k 60)), [.mv 1 0]⟩]) .ret)))⟩
theorem w32 : wfF x32 = true := by decide +kernel
def x33l0 : XC := .seq (.ife [] 4 (.and (.b .lss (.m 2) (.ln false (.m 0))) (.b .leq (.m 2) (.k 40))) .skip (.exit 0)) (.seq (.block 1 (.ife [] 14 (.u .not (.ca 56 (.ix (.ldA 4 hh) 4 (.m 0) (.m 2)))) (.seq (.reg [⟨0, (.c (.bool false)), [.mv 1 0]⟩]) .ret) .skip)) (.reg [⟨12, (.b .add (.m 2) (.k 1)), [.mv 2 0]⟩]))
def x33 : XF := ⟨5, [0, 2, 3], [false, false, false], 1, [(1, none)], false, (.seq (.reg [⟨0, (.c (.bool false)), [.mv 1 0]⟩]) (.seq (.seq (.reg [⟨0, (.k 0), [.mv 2 0]⟩]) (.block 0 (.loop x33l0))) (.seq (.reg [⟨20, (.b .leq (.ln false (.m 0)) (.k 40)), [.mv 1 0]⟩]) .ret)))⟩
theorem w33 : wfF x33 = true := by decide +kernel
def x34 : XF := ⟨5, [0, 1, 4, 5, 6, 7, 8], [false, false, true, false, false, false, true], 2, [(2, some (2, true)), (3, none), (4, none)], false, (.seq (.reg [⟨0, (.cons (.k 0) (.k 0)), [.ba 2 [.str [], .int .i64 (.ofNat 0)], .mv 3 0, .mv 4 1]⟩]) (.seq (.reg [⟨9, (.op (.box hh) (.op (.build [.nils, .nils, .int .i64 (.ofNat 0), .int .i64 (.ofNat 0)] [(0, (1, hh)), (1, (1, hh))]) (.cons (.m 0) (.m 1)))), [.mv 5 0]⟩]) (.seq (.reg [⟨13, (.ca 57 (.cons (.m 5) (.k 0))), [.ba 6 [.str [], .int .i64 (.ofNat 0)], .bs 2 6 0]⟩]) (.seq (.ife [] 15 (.b .neq (.pf (.ld1 hh) 3 (.m 5)) (.k 0)) (.seq (.regd 7 [0, 0, 0, 0, 14, 1, 0] [⟨20, (.cons (.op (.build [.str [], .int .i64 (.ofNat 0)] []) .nil) (.cons (.pf (.ld1 hh) 3 (.m 5)) (.k 0))), [.bs 2 2 0, .mv 3 2, .mv 4 1]⟩]) .ret) .skip) (.seq (.regd 6 [0, 0, 0, 0, 14, 1] [⟨25, (.cons (.lw (.ldA 2 hh) 6) (.cons (.pf (.ld1 hh) 2 (.m 5)) (.k 0))), [.bs 2 2 0, .mv 3 1, .mv 4 2]⟩]) .ret)))))⟩
theorem w34 : wfF x34 = true := by decide +kernel
def x35 : XF := ⟨5, [0, 1, 4, 5, 6, 7, 8], [false, false, true, false, true, false, false], 2, [(2, some (2, true)), (3, none)], false, (.seq (.reg [⟨0, (.k 0), [.ba 2 [.str [], .int .i64 (.ofNat 0)], .mv 3 0]⟩]) (.seq (.reg [⟨9, (.tup [0, 1, 2] (.ca 34 (.cons (.m 0) (.m 1)))), [.ba 4 [.str [], .int .i64 (.ofNat 0)], .bs 2 4 0, .mv 5 1, .mv 6 2]⟩]) (.seq (.ife [] 16 (.and (.b .eql (.m 6) (.k 0)) (.b .lss (.m 5) (.ln false (.m 1)))) (.reg [⟨0, (.k 3), [.mv 6 0]⟩]) .skip) (.seq (.ife [] 24 (.b .neq (.m 6) (.k 0)) (.seq (.reg [⟨26, (.cons (.op (.build [.str [], .int .i64 (.ofNat 0)] []) .nil) (.m 6)), [.bs 2 2 0, .mv 3 1]⟩]) .ret) .skip) (.seq (.reg [⟨28, (.cons (.lw (.ldA 2 hh) 4) (.k 0)), [.bs 2 2 0, .mv 3 1]⟩]) .ret)))))⟩
theorem w35 : wfF x35 = true := by decide +kernel
def x36 : XF := ⟨5, [0, 1, 4, 5, 6, 7], [false, false, false, false, true, false], 2, [(2, none), (3, none)], false, (.seq (.reg [⟨0, (.cons (.k 0) (.k 0)), [.mv 2 0, .mv 3 1]⟩]) (.seq (.reg [⟨8, (.tup [0, 1] (.ca 35 (.cons (.m 0) (.m 1)))), [.ba 4 [.str [], .int .i64 (.ofNat 0)], .bs 2 4 0, .mv 5 1]⟩]) (.seq (.ife [] 14 (.and (.b .eql (.m 5) (.k 0)) (.b .neq (.lf (.ld1 hh) 0 4) (.c (.str [])))) (.reg [⟨0, (.k 6), [.mv 5 0]⟩]) .skip) (.seq (.ife [] 21 (.b .neq (.m 5) (.k 0)) (.seq (.reg [⟨23, (.cons (.m 5) (.k 0)), [.mv 2 1, .mv 3 0]⟩]) .ret) .skip) (.seq (.reg [⟨24, (.cons (.lf (.ld1 hh) 1 4) (.k 0)), [.mv 2 0, .mv 3 1]⟩]) .ret)))))⟩
theorem w36 : wfF x36 = true := by decide +kernel
def x37 : XF := ⟨3, [0, 2], [false, false], 1, [(1, none)], false, (.seq (.reg [⟨0, (.k 0), [.mv 1 0]⟩]) (.seq (.reg [⟨3, (.m 0), [.mv 1 0]⟩]) .ret))⟩
theorem w37 : wfF x37 = true := by decide +kernel
def x38l0 : XC := .seq (.ife [] 11 (.b .lss (.m 3) (.ln false (.m 0))) .skip (.exit 0)) (.seq (.block 1 (.ifd 8 [] [] 17 (.op (.eqs (.st [(0, (1, (false, .int))), (1, (1, (false, .str))), (2, (1, (false, .int))), (3, (1, (false, .int)))]) true hh hh) (.cons (.ix (.ldA 4 hh) 4 (.m 0) (.m 3)) (.ix (.ldA 4 hh) 4 (.m 1) (.m 3)))) (.seq (.reg [⟨0, (.c (.bool false)), [.mv 2 0]⟩]) .ret) .skip)) (.reg [⟨15, (.b .add (.m 3) (.k 1)), [.mv 3 0]⟩]))
def x38 : XF := ⟨5, [0, 1, 4, 5], [false, false, false, false], 2, [(2, none)], false, (.seq (.reg [⟨0, (.c (.bool false)), [.mv 2 0]⟩]) (.seq (.ife [] 6 (.b .neq (.ln false (.m 0)) (.ln false (.m 1))) (.seq (.reg [⟨0, (.c (.bool false)), [.mv 2 0]⟩]) .ret) .skip) (.seq (.seq (.reg [⟨0, (.k 0), [.mv 3 0]⟩]) (.block 0 (.loop x38l0))) (.seq (.reg [⟨0, (.c (.bool true)), [.mv 2 0]⟩]) .ret))))⟩
theorem w38 : wfF x38 = true := by decide +kernel
def x39l0 : XC := .seq (.ife [] 11 (.b .lss (.m 3) (.ln false (.m 0))) .skip (.exit 0)) (.seq (.block 1 (.ifd 8 [] [] 17 (.op (.eqs (.st [(0, (1, (false, .str))), (1, (1, (false, .int)))]) true hh hh) (.cons (.ix (.ldA 2 hh) 2 (.m 0) (.m 3)) (.ix (.ldA 2 hh) 2 (.m 1) (.m 3)))) (.seq (.reg [⟨0, (.c (.bool false)), [.mv 2 0]⟩]) .ret) .skip)) (.reg [⟨15, (.b .add (.m 3) (.k 1)), [.mv 3 0]⟩]))
def x39 : XF := ⟨5, [0, 1, 4, 5], [false, false, false, false], 2, [(2, none)], false, (.seq (.reg [⟨0, (.c (.bool false)), [.mv 2 0]⟩]) (.seq (.ife [] 6 (.b .neq (.ln false (.m 0)) (.ln false (.m 1))) (.seq (.reg [⟨0, (.c (.bool false)), [.mv 2 0]⟩]) .ret) .skip) (.seq (.seq (.reg [⟨0, (.k 0), [.mv 3 0]⟩]) (.block 0 (.loop x39l0))) (.seq (.reg [⟨0, (.c (.bool true)), [.mv 2 0]⟩]) .ret))))⟩
theorem w39 : wfF x39 = true := by decide +kernel
def x40 : XF := ⟨6, [0, 1, 2, 3, 4, 5, 6, 7], [false, false, false, false, true, false, false, false], 0, [(0, none)], false, (.seq (.reg [⟨0, (.c (.bool false)), [.mv 0 0]⟩]) (.seq (.reg [⟨8, (.tup [0, 1, 2] (.ca 48 (.c (.str [50, 32, 43, 32, 51, 32, 42, 32, 52])))), [.mv 1 0, .mv 2 1, .mv 3 2]⟩]) (.seq (.reg [⟨13, (.tup [0, 1] (.ca 30 (.cons (.c .nils) (.m 1)))), [.ba 4 [.str [], .int .i64 (.ofNat 0)], .bs 2 4 0, .mv 5 1]⟩]) (.seq (.reg [⟨18, (.tup [0, 1] (.ca 31 (.cons (.c .nils) (.m 1)))), [.mv 6 0, .mv 7 1]⟩]) (.seq (.reg [⟨23, (.and (.and (.and (.and (.b .eql (.ca 37 (.m 5)) (.k 0)) (.b .eql (.ca 37 (.m 7)) (.k 0))) (.b .eql (.lf (.ld1 hh) 1 4) (.k 14))) (.b .eql (.lf (.ld1 hh) 0 4) (.c (.str [])))) (.b .eql (.m 6) (.k 14))), [.mv 0 0]⟩]) .ret)))))⟩
theorem w40 : wfF x40 = true := by decide +kernel
def x41 : XF := ⟨3, [0], [false], 0, [(0, none)], false, (.seq (.reg [⟨0, (.c .nils), [.mv 0 0]⟩]) (.seq (.reg [⟨1, (.op (.buildS 4 4 (.agg [.int .i64 (.ofNat 0), .str [], .int .i64 (.ofNat 0), .int .i64 (.ofNat 0)]) [(0, hh), (1, hh), (2, hh), (3, hh)]) (.cons (.op (.build [.int .i64 (.ofNat 0), .str [], .int .i64 (.ofNat 0), .int .i64 (.ofNat 0)] [(0, (1, hh)), (1, (1, hh))]) (.cons (.k 3) (.c (.str [40])))) (.cons (.op (.build [.int .i64 (.ofNat 0), .str [], .int .i64 (.ofNat 0), .int .i64 (.ofNat 0)] [(0, (1, hh)), (1, (1, hh))]) (.cons (.k 3) (.c (.str [41])))) (.cons (.op (.build [.int .i64 (.ofNat 0), .str [], .int .i64 (.ofNat 0), .int .i64 (.ofNat 0)] [(0, (1, hh)), (1, (1, hh))]) (.cons (.k 3) (.c (.str [43])))) (.op (.build [.int .i64 (.ofNat 0), .str [], .int .i64 (.ofNat 0), .int .i64 (.ofNat 0)] [(0, (1, hh)), (1, (1, hh))]) (.cons (.k 3) (.c (.str [45])))))))), [.mv 0 0]⟩]) .ret))⟩
theorem w41 : wfF x41 = true := by decide +kernel
def x42l0 : XC := .seq (.ife [] 41 (.b .lss (.m 7) (.k 2)) .skip (.exit 2)) (.seq (.block 3 (.seq (.reg [⟨45, (.tup [0, 1, 2] (.ca 29 (.cons (.op (.slL 2 hh none (some hh) none) (.cons (.m 2) (.b .mul (.k 4) (.m 7)))) (.m 4)))), [.ba 8 [.str [], .int .i64 (.ofNat 0)], .bs 2 8 0, .mv 9 1, .mv 10 2]⟩]) (.seq (.reg [⟨55, (.tup [0, 1, 2] (.ca 34 (.cons (.op (.slL 2 hh none (some hh) none) (.cons (.m 2) (.b .mul (.k 4) (.m 7)))) (.m 4)))), [.ba 11 [.str [], .int .i64 (.ofNat 0)], .bs 2 11 0, .mv 12 1, .mv 13 2]⟩]) (.seq (.reg [⟨65, (.tup [0, 1] (.ca 30 (.cons (.op (.slL 2 hh none (some hh) none) (.cons (.m 2) (.b .mul (.k 4) (.m 7)))) (.m 4)))), [.ba 14 [.str [], .int .i64 (.ofNat 0)], .bs 2 14 0, .mv 15 1]⟩]) (.seq (.reg [⟨74, (.tup [0, 1] (.ca 35 (.cons (.op (.slL 2 hh none (some hh) none) (.cons (.m 2) (.b .mul (.k 4) (.m 7)))) (.m 4)))), [.ba 16 [.str [], .int .i64 (.ofNat 0)], .bs 2 16 0, .mv 17 1]⟩]) (.ife [] 83 (.or (.or (.or (.or (.b .neq (.ca 37 (.m 10)) (.m 13)) (.op (.eqs (.st [(0, (1, (false, .str))), (1, (1, (false, .int)))]) true hh hh) (.cons (.lw (.ldA 2 hh) 8) (.lw (.ldA 2 hh) 11)))) (.b .neq (.m 9) (.m 12))) (.b .neq (.ca 37 (.m 15)) (.m 17))) (.op (.eqs (.st [(0, (1, (false, .str))), (1, (1, (false, .int)))]) true hh hh) (.cons (.lw (.ldA 2 hh) 14) (.lw (.ldA 2 hh) 16)))) (.seq (.reg [⟨0, (.c (.bool false)), [.mv 1 0]⟩]) .ret) .skip)))))) (.reg [⟨43, (.b .add (.m 7) (.k 1)), [.mv 7 0]⟩]))
def x42l1 : XC := .seq (.ife [] 24 (.b .lss (.m 3) (.ln false (.m 0))) .skip (.exit 0)) (.seq (.block 1 (.seq (.reg [⟨31, (.ca 48 (.ix (.ld1 hh) 1 (.m 0) (.m 3))), [.mv 18 0]⟩, ⟨36, (.cons (.op (.ext hh 0) (.v 18)) (.cons (.v 18) (.v 18))), [.wo 19 (.ext hh 1) [1], .wo 20 (.ext hh 2) [2], .mv 4 0]⟩, ⟨0, (.cons (.v 19) (.v 20)), [.mv 5 0, .mv 6 1]⟩]) (.seq (.ife [] 39 (.b .neq (.m 6) (.k 0)) (.seq (.reg [⟨0, (.c (.bool false)), [.mv 1 0]⟩]) .ret) .skip) (.seq (.reg [⟨0, (.k 0), [.mv 7 0]⟩]) (.block 2 (.loop x42l0)))))) (.reg [⟨28, (.b .add (.m 3) (.k 1)), [.mv 3 0]⟩]))
def x42 : XF := ⟨7, [0, 2, 3, 4, 5, 6, 7, 8, 9, 10, 11, 12, 13, 14, 15, 16, 17, 18, 30, 37, 38], [false, false, false, false, false, false, false, false, true, false, false, true, false, false, true, false, true, false, false, false, false], 1, [(1, none)], false, (.seq (.reg [⟨0, (.c (.bool false)), [.mv 1 0]⟩]) (.seq (.reg [⟨19, (.op (.buildS 2 4 (.agg [.str [], .int .i64 (.ofNat 0)]) [(0, hh), (1, hh), (2, hh), (3, hh)]) (.cons (.op (.build [.str [], .int .i64 (.ofNat 0)] [(0, (1, hh)), (1, (1, hh))]) (.cons (.c (.str [111, 110, 101])) (.k 1))) (.cons (.op (.build [.str [], .int .i64 (.ofNat 0)] [(0, (1, hh)), (1, (1, hh))]) (.cons (.c (.str [108, 111, 119])) (.c (.int .i64 (.negSucc 2147483647))))) (.cons (.op (.build [.str [], .int .i64 (.ofNat 0)] [(0, (1, hh)), (1, (1, hh))]) (.cons (.c (.str [116, 111, 112])) (.k 2147483648))) (.op (.build [.str [], .int .i64 (.ofNat 0)] [(0, (1, hh)), (1, (1, hh))]) (.cons (.c (.str [107])) (.k 4096))))))), [.mv 2 0]⟩]) (.seq (.seq (.reg [⟨0, (.k 0), [.mv 3 0]⟩]) (.block 0 (.loop x42l1))) (.seq (.reg [⟨108, (.ca 40 .nil), [.mv 1 0]⟩]) .ret))))⟩
theorem w42 : wfF x42 = true := by decide +kernel
def x43 : XF := ⟨4, [0, 2, 3, 4], [false, false, false, false], 1, [(1, none)], false, (.seq (.reg [⟨0, (.c (.cpx 0 0)), [.mv 1 0]⟩]) (.seq (.reg [⟨5, (.tup [0, 1] (.ca 18 (.m 0))), [.mv 2 0, .mv 3 1]⟩]) (.seq (.reg [⟨10, (.op (.cpx hh hh) (.cons (.cv .flt (.m 2)) (.cv .flt (.m 3)))), [.mv 1 0]⟩]) .ret)))⟩
theorem w43 : wfF x43 = true := by decide +kernel
def x44 : XF := ⟨4, [0, 2], [false, false], 1, [(1, none)], false, (.seq (.reg [⟨0, (.c (.int .u32 (.ofNat 0))), [.mv 1 0]⟩]) (.seq (.reg [⟨3, (.ca 17 (.cons (.cv (.fint .i64) (.op (.re hh) (.m 0))) (.cv (.fint .i64) (.op (.im hh) (.m 0))))), [.mv 1 0]⟩]) .ret))⟩
theorem w44 : wfF x44 = true := by decide +kernel
def x45 : XF := ⟨4, [0, 2], [false, false], 1, [(1, none)], false, (.seq (.reg [⟨0, (.c (.cpx 0 0)), [.mv 1 0]⟩]) (.seq (.reg [⟨3, (.op (.cpx hh hh) (.cons (.op (.re hh) (.m 0)) (.u .neg (.op (.im hh) (.m 0))))), [.mv 1 0]⟩]) .ret))⟩
theorem w45 : wfF x45 = true := by decide +kernel
def x46 : XF := ⟨4, [0, 1, 2, 6], [false, false, false, false], 3, [(3, none)], false, (.seq (.reg [⟨0, (.c (.bool false)), [.mv 3 0]⟩]) (.seq (.reg [⟨7, (.and (.b .geq (.m 0) (.m 1)) (.b .leq (.m 0) (.m 2))), [.mv 3 0]⟩]) .ret))⟩
theorem w46 : wfF x46 = true := by decide +kernel
def x47l0 : XC := .seq (.ife [] 13 (.and (.b .lss (.m 4) (.ln false (.lf (.ld1 hh) 1 1))) (.b .lss (.m 3) (.k 1048576))) .skip (.exit 0)) (.seq (.block 1 (.reg [⟨24, (.b .add (.m 3) (.ca 59 (.ix (.ld1 hh) 1 (.lf (.ld1 hh) 1 1) (.m 4)))), [.mv 3 0]⟩])) (.reg [⟨22, (.b .add (.m 4) (.k 1)), [.mv 4 0]⟩]))
def x47 : XF := ⟨6, [0, 1, 2, 3, 4], [false, true, false, false, false], 1, [(2, none)], false, (.seq (.reg [⟨0, (.cons (.v 0) (.c (.bool false))), [.bb 1 0, .mv 2 1]⟩]) (.seq (.regd 7 [] [⟨5, (.b .add (.ln false (.lf (.ld1 hh) 1 1)) (.b .quo (.ca 58 (.lf (.ld1 hh) 0 1)) (.k 8))), [.mv 3 0]⟩]) (.seq (.seq (.reg [⟨0, (.k 0), [.mv 4 0]⟩]) (.block 0 (.loop x47l0))) (.seq (.reg [⟨32, (.b .gtr (.m 3) (.k 900)), [.mv 2 0]⟩]) .ret))))⟩
theorem w47 : wfF x47 = true := by decide +kernel
def x48l0 : XC := .seq (.ife [] 10 (.b .lss (.m 4) (.ln true (.m 0))) .skip (.exit 0)) (.seq (.block 1 (.ife [] 16 (.b .eql (.op (.idxS hh hh) (.cons (.m 0) (.m 4))) (.c (.int .u8 (.ofNat 10)))) (.seq (.reg [⟨0, (.cons (.c .nils) (.cons (.k 0) (.k 3))), [.mv 1 0, .mv 2 1, .mv 3 2]⟩]) .ret) .skip)) (.reg [⟨14, (.b .add (.m 4) (.k 1)), [.mv 4 0]⟩]))
def x48l1 : XC := .seq (.ife [] 20 (.and (.b .lss (.m 6) (.ln true (.m 0))) (.b .neq (.op (.idxS hh hh) (.cons (.m 0) (.m 6))) (.c (.int .u8 (.ofNat 59))))) .skip (.exit 2)) (.block 3 (.seq (.ife [] 30 (.or (.b .eql (.op (.idxS hh hh) (.cons (.m 0) (.m 6))) (.c (.int .u8 (.ofNat 32)))) (.b .eql (.op (.idxS hh hh) (.cons (.m 0) (.m 6))) (.c (.int .u8 (.ofNat 9))))) (.seq (.reg [⟨40, (.b .add (.m 6) (.k 1)), [.mv 6 0]⟩]) (.exit 3)) .skip) (.seq (.reg [⟨42, (.tup [0, 1] (.ca 60 (.op (.slS hh (some hh) none) (.cons (.m 0) (.m 6))))), [.ba 7 [.int .i64 (.ofNat 0), .str [], .int .i64 (.ofNat 0), .int .i64 (.ofNat 0)], .bs 4 7 0, .mv 8 1]⟩]) (.seq (.ife [] 49 (.b .eql (.m 8) (.k 0)) (.seq (.reg [⟨51, (.cons (.m 6) (.cons (.c .nils) (.k 3))), [.mv 1 1, .mv 2 0, .mv 3 2]⟩]) .ret) .skip) (.seq (.ife [] 52 (.b .geq (.ln false (.m 5)) (.k 40)) (.seq (.reg [⟨55, (.cons (.m 6) (.cons (.c .nils) (.k 2))), [.mv 1 1, .mv 2 0, .mv 3 2]⟩]) .ret) .skip) (.seq (.reg [⟨56, (.cons (.m 6) (.op (.faddr 3 hh) (.adr 7))), [.bt 1 1 0]⟩]) (.seq (.reg [⟨58, (.ap 4 40 (.agg [.int .i64 (.ofNat 0), .str [], .int .i64 (.ofNat 0), .int .i64 (.ofNat 0)]) (.m 5) (.lw (.ldA 4 hh) 7)), [.mv 5 0]⟩]) (.reg [⟨62, (.b .add (.m 6) (.m 8)), [.mv 6 0]⟩]))))))))
def x48 : XF := ⟨7, [0, 2, 3, 4, 5, 6, 7, 8, 9], [false, false, false, false, false, false, false, true, false], 1, [(1, none), (2, none), (3, none)], false, (.seq (.reg [⟨0, (.cons (.c .nils) (.cons (.k 0) (.k 0))), [.mv 1 0, .mv 2 1, .mv 3 2]⟩]) (.seq (.seq (.reg [⟨0, (.k 0), [.mv 4 0]⟩]) (.block 0 (.loop x48l0))) (.seq (.reg [⟨0, (.c .nils), [.mv 5 0]⟩]) (.seq (.seq (.reg [⟨0, (.k 0), [.mv 6 0]⟩]) (.block 2 (.loop x48l1))) (.seq (.reg [⟨65, (.cons (.m 5) (.cons (.k 0) (.k 0))), [.mv 1 0, .mv 2 1, .mv 3 2]⟩]) .ret)))))⟩
theorem w48 : wfF x48 = true := by decide +kernel
def x49 : XF := ⟨4, [0, 1, 4], [false, false, false], 2, [(2, none)], false, (.seq (.reg [⟨0, (.k 0), [.mv 2 0]⟩]) (.seq (.reg [⟨5, (.cv (.int .i64) (.b .rem (.cv (.int .u64) (.m 0)) (.cv (.int .u64) (.m 1)))), [.mv 2 0]⟩]) .ret))⟩
theorem w49 : wfF x49 = true := by decide +kernel
def x50l0 : XC := .seq (.reg [⟨0, (.cons (.v 6) (.v 5)), [.wo 7 (.bin .lss hh hh) [0, 1]]⟩]) (.seq (.cnd 7 .skip (.exit 0)) (.seq (.block 1 (.seq (.reg [⟨9, (.cons (.m 6) (.op (.iaddr 2 hh hh) (.cons (.v 4) (.v 6)))), [.wo 8 (.ldA 2 hh) [1], .wo 3 (.alloc [.str [], .int .i64 (.ofNat 0)]) [], .mv 2 0]⟩, ⟨0, (.cons (.v 3) (.v 8)), [.wx (.st 2 hh hh) [0, 1]]⟩]) (.ife [] 12 (.or (.or (.b .eql (.op (.ld1 hh) (.op (.faddr 0 hh) (.v 3))) (.c (.str []))) (.u .not (.ca 61 (.op (.ldA 2 hh) (.v 3))))) (.ca 62 (.cons (.op (.slL 2 hh none (some hh) none) (.cons (.m 0) (.m 2))) (.op (.mkfn 63 [] []) (.v 3))))) (.seq (.reg [⟨0, (.c (.bool false)), [.mv 1 0]⟩]) .ret) .skip))) (.reg [⟨27, (.b .add (.v 6) (.k 1)), [.mv 6 0]⟩])))
def x50 : XF := ⟨5, [0, 2, 3, 4, 5, 6, 7, 8, 11], [false, false, false, false, false, false, false, false, false], 1, [(1, none)], false, (.seq (.reg [⟨0, (.c (.bool false)), [.mv 1 0]⟩]) (.seq (.seq (.reg [⟨0, (.v 0), [.mv 4 0]⟩, ⟨0, (.cons (.v 4) (.k 0)), [.wo 5 (.len false hh) [0], .mv 6 1]⟩]) (.block 0 (.loop x50l0))) (.seq (.reg [⟨28, (.b .leq (.ln false (.m 0)) (.k 60)), [.mv 1 0]⟩]) .ret)))⟩
theorem w50 : wfF x50 = true := by decide +kernel
def x51 : XF := ⟨4, [0, 2], [false, false], 1, [(1, none)], false, (.seq (.reg [⟨0, (.c (.bool false)), [.mv 1 0]⟩]) (.seq (.reg [⟨3, (.and (.b .leq (.ln false (.m 0)) (.k 40)) (.u .not (.ca 64 (.cons (.m 0) (.c (.fn 65 [] [])))))), [.mv 1 0]⟩]) .ret))⟩
theorem w51 : wfF x51 = true := by decide +kernel
def x52 : XF := ⟨4, [0, 1, 2, 3, 8], [false, false, true, false, false], 1, [(2, some (2, true)), (3, none)], false, (.seq (.reg [⟨0, (.cons (.v 0) (.k 0)), [.wo 1 (.box hh) [0], .ba 2 [.str [], .int .i64 (.ofNat 0)], .mv 3 1]⟩]) (.seq (.reg [⟨4, (.cons (.op (.ld1 hh) (.v 1)) (.cons (.op (.mkfn 68 [hh] []) (.op (.ld1 hh) (.v 1))) (.op (.mkfn 69 [] []) (.v 1)))), [.wo 4 (.call 67 []) [0, 1, 2]]⟩, ⟨9, (.cons (.op (.ext hh 0) (.v 4)) (.op (.ext hh 1) (.v 4))), [.bs 2 2 0, .mv 3 1]⟩]) .ret))⟩
theorem w52 : wfF x52 = true := by decide +kernel
def x53l0 : XC := .seq (.ife [] 22 (.b .lss (.m 2) (.ln true (.m 0))) .skip (.exit 0)) (.seq (.block 1 (.ife [] 28 (.u .not (.or (.or (.and (.b .geq (.op (.idxS hh hh) (.cons (.m 0) (.m 2))) (.c (.int .u8 (.ofNat 97)))) (.b .leq (.op (.idxS hh hh) (.cons (.m 0) (.m 2))) (.c (.int .u8 (.ofNat 122))))) (.b .eql (.op (.idxS hh hh) (.cons (.m 0) (.m 2))) (.c (.int .u8 (.ofNat 95))))) (.and (.b .geq (.op (.idxS hh hh) (.cons (.m 0) (.m 2))) (.c (.int .u8 (.ofNat 48)))) (.b .leq (.op (.idxS hh hh) (.cons (.m 0) (.m 2))) (.c (.int .u8 (.ofNat 57))))))) (.seq (.reg [⟨0, (.c (.bool false)), [.mv 1 0]⟩]) .ret) .skip)) (.reg [⟨26, (.b .add (.m 2) (.k 1)), [.mv 2 0]⟩]))
def x53 : XF := ⟨6, [0, 2, 3], [false, false, false], 1, [(1, none)], false, (.seq (.reg [⟨0, (.c (.bool false)), [.mv 1 0]⟩]) (.seq (.ife [] 4 (.or (.or (.b .eql (.ln true (.m 0)) (.k 0)) (.b .gtr (.ln true (.m 0)) (.k 12))) (.and (.b .geq (.op (.idxS hh hh) (.cons (.m 0) (.k 0))) (.c (.int .u8 (.ofNat 48)))) (.b .leq (.op (.idxS hh hh) (.cons (.m 0) (.k 0))) (.c (.int .u8 (.ofNat 57)))))) (.seq (.reg [⟨0, (.c (.bool false)), [.mv 1 0]⟩]) .ret) .skip) (.seq (.seq (.reg [⟨0, (.k 0), [.mv 2 0]⟩]) (.block 0 (.loop x53l0))) (.seq (.reg [⟨0, (.c (.bool true)), [.mv 1 0]⟩]) .ret))))⟩
theorem w53 : wfF x53 = true := by decide +kernel
def x54 : XF := ⟨3, [0, 2], [false, false], 1, [(1, none)], false, (.seq (.reg [⟨0, (.c (.bool false)), [.mv 1 0]⟩]) (.seq (.reg [⟨3, (.ca 46 (.cons (.m 0) (.cons (.c (.int .i64 (.negSucc 2147483647))) (.k 2147483648)))), [.mv 1 0]⟩]) .ret))⟩
theorem w54 : wfF x54 = true := by decide +kernel
def x55l0 : XC := .seq (.ife [] 6 (.b .lss (.m 3) (.ln false (.m 0))) .skip (.exit 0)) (.seq (.block 1 (.ife [] 12 (.b .eql (.op (.ld1 hh) (.op (.faddr 0 hh) (.op (.iaddr 2 hh hh) (.cons (.m 0) (.m 3))))) (.m 1)) (.seq (.reg [⟨19, (.m 3), [.mv 2 0]⟩]) .ret) .skip)) (.reg [⟨10, (.b .add (.m 3) (.k 1)), [.mv 3 0]⟩]))
def x55 : XF := ⟨5, [0, 1, 4, 5], [false, false, false, false], 2, [(2, none)], false, (.seq (.reg [⟨0, (.k 0), [.mv 2 0]⟩]) (.seq (.seq (.reg [⟨0, (.k 0), [.mv 3 0]⟩]) (.block 0 (.loop x55l0))) (.seq (.reg [⟨0, (.c (.int .i64 (.negSucc 0))), [.mv 2 0]⟩]) .ret)))⟩
theorem w55 : wfF x55 = true := by decide +kernel
def x56 : XF := ⟨7, [0, 1, 2, 3, 4, 6, 22], [false, true, false, true, false, false, false], 1, [(2, none)], false, (.seq (.reg [⟨0, (.cons (.v 0) (.c (.bool false))), [.bb 1 0, .mv 2 1]⟩]) (.seq (.seq (.reg [⟨5, (.op (.faddr 0 hh) (.adr 1)), [.bl 5 (.ld1 hh) 0]⟩]) (.block 0 (.ife [] 7 (.mr (.b .eql (.v 5) (.k 2))) (.seq (.reg [⟨9, (.and (.and (.b .eql (.lf (.ld1 hh) 1 1) (.c (.str []))) (.b .geq (.lf (.ld1 hh) 2 1) (.k 0))) (.b .lss (.lf (.ld1 hh) 2 1) (.k 2147483648))), [.mv 2 0]⟩]) .ret) (.seq (.ife [⟨23, (.b .eql (.v 5) (.k 1)), [.mv 6 0]⟩] 0 (.v 6) .skip (.reg [⟨24, (.b .eql (.v 5) (.k 3)), [.mv 6 0]⟩])) (.cnd 6 (.seq (.ife [] 25 (.or (.or (.or (.or (.b .neq (.lf (.ld1 hh) 2 1) (.k 0)) (.b .eql (.lf (.ld1 hh) 1 1) (.c (.str [])))) (.b .eql (.lf (.ld1 hh) 1 1) (.c (.str [59])))) (.b .eql (.op (.idxS hh hh) (.cons (.lf (.ld1 hh) 1 1) (.k 0))) (.c (.int .u8 (.ofNat 32))))) (.b .eql (.op (.idxS hh hh) (.cons (.lf (.ld1 hh) 1 1) (.k 0))) (.c (.int .u8 (.ofNat 9))))) (.seq (.reg [⟨0, (.c (.bool false)), [.mv 2 0]⟩]) .ret) .skip) (.seq (.reg [⟨50, (.tup [0, 1] (.ca 60 (.lf (.ld1 hh) 1 1))), [.ba 3 [.int .i64 (.ofNat 0), .str [], .int .i64 (.ofNat 0), .int .i64 (.ofNat 0)], .bs 4 3 0, .mv 4 1]⟩]) (.seq (.reg [⟨56, (.and (.b .eql (.m 4) (.ln true (.lf (.ld1 hh) 1 1))) (.b .eql (.lf (.ld1 hh) 0 3) (.lf (.ld1 hh) 0 1))), [.mv 2 0]⟩]) .ret))) .skip))))) (.seq (.reg [⟨0, (.c (.bool false)), [.mv 2 0]⟩]) .ret)))⟩
theorem w56 : wfF x56 = true := by decide +kernel
def x57l0 : XC := .seq (.ife [] 13 (.or (.ca 74 (.cons (.m 0) (.c (.str [43])))) (.ca 74 (.cons (.m 0) (.c (.str [45]))))) .skip (.exit 0)) (.block 1 (.seq (.reg [⟨19, (.ca 74 (.cons (.m 0) (.c (.str [45])))), [.mv 4 0]⟩]) (.seq (.reg [⟨0, (.v 0), [.mv 8 0]⟩, ⟨22, (.cons (.b .add (.pf (.ld1 hh) 2 (.v 8)) (.k 1)) (.op (.faddr 2 hh) (.op (.nilck hh) (.v 8)))), [.wx (.st 1 hh hh) [1, 0]]⟩]) (.seq (.reg [⟨28, (.ca 73 (.cons (.m 0) (.m 1))), [.ba 5 [.str [], .int .i64 (.ofNat 0)], .bs 2 5 0]⟩]) (.seq (.ife [] 31 (.b .neq (.pf (.ld1 hh) 3 (.m 0)) (.k 0)) (.exit 0) .skip) (.seq (.reg [⟨36, (.tup [0, 1] (.ca 75 (.cons (.lw (.ldA 2 hh) 3) (.cons (.lw (.ldA 2 hh) 5) (.m 4))))), [.ba 6 [.str [], .int .i64 (.ofNat 0)], .bs 2 6 0, .mv 7 1]⟩]) (.seq (.ife [] 43 (.b .neq (.m 7) (.k 0)) (.seq (.reg [⟨45, (.ca 76 (.cons (.m 0) (.m 7))), [.bs 2 2 0]⟩]) .ret) .skip) (.reg [⟨48, (.lw (.ldA 2 hh) 6), [.bs 2 3 0]⟩]))))))))
def x57 : XF := ⟨6, [0, 1, 4, 5, 6, 7, 8, 9, 21], [false, false, true, true, false, true, true, false, false], 2, [(2, some (2, true))], false, (.seq (.reg [⟨0, .nil, [.ba 2 [.str [], .int .i64 (.ofNat 0)]]⟩]) (.seq (.reg [⟨10, (.ca 73 (.cons (.m 0) (.m 1))), [.ba 3 [.str [], .int .i64 (.ofNat 0)], .bs 2 3 0]⟩]) (.seq (.block 0 (.loop x57l0)) (.seq (.reg [⟨49, (.lw (.ldA 2 hh) 3), [.bs 2 2 0]⟩]) .ret))))⟩
theorem w57 : wfF x57 = true := by decide +kernel
def x58l0 : XC := .seq (.ife [] 7 (.and (.b .lss (.m 3) (.ln false (.m 0))) (.b .lss (.m 2) (.k 1048576))) .skip (.exit 0)) (.seq (.block 1 (.reg [⟨17, (.b .add (.m 2) (.ln true (.ix (.ld1 hh) 1 (.m 0) (.m 3)))), [.mv 2 0]⟩])) (.reg [⟨15, (.b .add (.m 3) (.k 1)), [.mv 3 0]⟩]))
def x58 : XF := ⟨5, [0, 2, 3, 4], [false, false, false, false], 1, [(1, none)], false, (.seq (.reg [⟨0, (.k 0), [.mv 1 0]⟩]) (.seq (.reg [⟨5, (.ln false (.m 0)), [.mv 2 0]⟩]) (.seq (.seq (.reg [⟨0, (.k 0), [.mv 3 0]⟩]) (.block 0 (.loop x58l0))) (.seq (.reg [⟨24, (.m 2), [.mv 1 0]⟩]) .ret))))⟩
theorem w58 : wfF x58 = true := by decide +kernel
def x59l0 : XC := .seq (.ife [] 7 (.and (.b .lss (.m 3) (.ln false (.m 0))) (.b .lss (.m 2) (.k 1048576))) .skip (.exit 0)) (.seq (.block 1 (.reg [⟨17, (.b .add (.m 2) (.b .quo (.ln true (.op (.ld1 hh) (.op (.faddr 1 hh) (.op (.iaddr 4 hh hh) (.cons (.m 0) (.m 3)))))) (.k 4))), [.mv 2 0]⟩])) (.reg [⟨15, (.b .add (.m 3) (.k 1)), [.mv 3 0]⟩]))
def x59 : XF := ⟨5, [0, 2, 3, 4], [false, false, false, false], 1, [(1, none)], false, (.seq (.reg [⟨0, (.k 0), [.mv 1 0]⟩]) (.seq (.reg [⟨5, (.ln false (.m 0)), [.mv 2 0]⟩]) (.seq (.seq (.reg [⟨0, (.k 0), [.mv 3 0]⟩]) (.block 0 (.loop x59l0))) (.seq (.reg [⟨26, (.m 2), [.mv 1 0]⟩]) .ret))))⟩
theorem w59 : wfF x59 = true := by decide +kernel
def x60l0 : XC := .seq (.ife [] 17 (.and (.b .lss (.m 3) (.ln true (.m 0))) (.or (.ca 77 (.op (.idxS hh hh) (.cons (.m 0) (.m 3)))) (.ca 78 (.op (.idxS hh hh) (.cons (.m 0) (.m 3)))))) .skip (.exit 1)) (.block 2 (.reg [⟨33, (.b .add (.m 3) (.k 1)), [.mv 3 0]⟩]))
def x60l1 : XC := .seq (.ife [] 54 (.and (.b .lss (.m 3) (.ln true (.m 0))) (.or (.ca 78 (.op (.idxS hh hh) (.cons (.m 0) (.m 3)))) (.and (.b .eql (.m 5) (.k 16)) (.ca 79 (.op (.idxS hh hh) (.cons (.m 0) (.m 3))))))) .skip (.exit 3)) (.block 4 (.reg [⟨74, (.b .add (.m 3) (.k 1)), [.mv 3 0]⟩]))
def x60l2 : XC := .seq (.reg [⟨0, (.cons (.v 12) (.v 11)), [.wo 13 (.bin .lss hh hh) [0, 1]]⟩]) (.seq (.cnd 13 .skip (.exit 5)) (.seq (.block 6 (.seq (.reg [⟨101, (.ix (.ld1 hh) 1 (.v 10) (.v 12)), [.mv 9 0]⟩]) (.ife [] 103 (.b .eql (.m 9) (.m 4)) (.seq (.reg [⟨106, (.cons (.op (.build [.int .i64 (.ofNat 0), .str [], .int .i64 (.ofNat 0), .int .i64 (.ofNat 0)] [(0, (1, hh)), (1, (1, hh))]) (.cons (.k 3) (.op (.slS hh none (some hh)) (.cons (.m 0) (.k 1))))) (.k 1)), [.bs 4 1 0, .mv 2 1]⟩]) .ret) .skip))) (.reg [⟨109, (.b .add (.v 12) (.k 1)), [.mv 12 0]⟩])))
def x60 : XF := ⟨7, [0, 2, 3, 4, 5, 6, 7, 8, 9, 11, 97, 98, 99, 100], [false, true, false, false, false, false, false, false, false, false, false, false, false, false], 1, [(1, some (4, true)), (2, none)], false, (.seq (.reg [⟨0, (.k 0), [.ba 1 [.int .i64 (.ofNat 0), .str [], .int .i64 (.ofNat 0), .int .i64 (.ofNat 0)], .mv 2 0]⟩]) (.seq (.reg [⟨0, (.k 0), [.mv 3 0]⟩]) (.seq (.reg [⟨12, (.op (.idxS hh hh) (.cons (.m 0) (.k 0))), [.mv 4 0]⟩]) (.seq (.block 0 (.ife [] 14 (.mr (.ca 77 (.m 4))) (.seq (.block 1 (.loop x60l0)) (.seq (.ife [] 35 (.b .gtr (.m 3) (.k 12)) (.seq (.reg [⟨37, (.cons (.op (.build [.int .i64 (.ofNat 0), .str [], .int .i64 (.ofNat 0), .int .i64 (.ofNat 0)] []) .nil) (.k 0)), [.bs 4 1 0, .mv 2 1]⟩]) .ret) .skip) (.seq (.reg [⟨38, (.cons (.op (.build [.int .i64 (.ofNat 0), .str [], .int .i64 (.ofNat 0), .int .i64 (.ofNat 0)] [(0, (1, hh)), (1, (1, hh))]) (.cons (.k 1) (.op (.slS hh none (some hh)) (.cons (.m 0) (.m 3))))) (.m 3)), [.bs 4 1 0, .mv 2 1]⟩]) .ret))) (.ife [] 43 (.mr (.ca 78 (.m 4))) (.seq (.reg [⟨0, (.cons (.k 10) (.k 0)), [.mv 5 0, .mv 6 1]⟩]) (.seq (.ife [] 46 (.and (.b .gtr (.ln true (.m 0)) (.k 1)) (.b .eql (.op (.slS hh none (some hh)) (.cons (.m 0) (.k 2))) (.c (.str [48, 120])))) (.reg [⟨0, (.cons (.k 16) (.cons (.k 2) (.k 2))), [.mv 5 0, .mv 6 1, .mv 3 2]⟩]) .skip) (.seq (.block 3 (.loop x60l1)) (.seq (.reg [⟨76, (.tup [0, 1] (.ca 80 (.cons (.op (.slS hh (some hh) (some hh)) (.cons (.m 0) (.cons (.m 6) (.m 3)))) (.m 5)))), [.mv 7 0, .mv 8 1]⟩]) (.seq (.ife [] 85 (.or (.u .not (.m 8)) (.b .eql (.m 3) (.m 6))) (.seq (.reg [⟨92, (.cons (.op (.build [.int .i64 (.ofNat 0), .str [], .int .i64 (.ofNat 0), .int .i64 (.ofNat 0)] []) .nil) (.k 0)), [.bs 4 1 0, .mv 2 1]⟩]) .ret) .skip) (.seq (.reg [⟨93, (.cons (.op (.build [.int .i64 (.ofNat 0), .str [], .int .i64 (.ofNat 0), .int .i64 (.ofNat 0)] [(0, (1, hh)), (2, (1, hh))]) (.cons (.k 2) (.m 7))) (.m 3)), [.bs 4 1 0, .mv 2 1]⟩]) .ret)))))) .skip))) (.seq (.seq (.reg [⟨96, (.op (.buildSo 1 8 (.int .u8 (.ofNat 0)) [(0, hh), (1, hh), (2, hh), (3, hh), (4, hh), (5, hh), (6, hh), (7, hh)]) (.cons (.c (.int .u8 (.ofNat 44))) (.cons (.c (.int .u8 (.ofNat 58))) (.cons (.c (.int .u8 (.ofNat 43))) (.cons (.c (.int .u8 (.ofNat 45))) (.cons (.c (.int .u8 (.ofNat 42))) (.cons (.c (.int .u8 (.ofNat 40))) (.cons (.c (.int .u8 (.ofNat 41))) (.c (.int .u8 (.ofNat 64))))))))))), [.wo 10 (.mark hh) [0]]⟩, ⟨0, (.cons (.v 10) (.k 0)), [.wo 11 (.len false hh) [0], .mv 12 1]⟩]) (.block 5 (.loop x60l2))) (.seq (.reg [⟨110, (.cons (.op (.build [.int .i64 (.ofNat 0), .str [], .int .i64 (.ofNat 0), .int .i64 (.ofNat 0)] []) .nil) (.k 0)), [.bs 4 1 0, .mv 2 1]⟩]) .ret))))))⟩
theorem w60 : wfF x60 = true := by decide +kernel
def x61 : XF := ⟨4, [0, 1, 2], [false, true, false], 1, [(2, none)], false, (.seq (.reg [⟨0, (.cons (.v 0) (.c (.bool false))), [.bb 1 0, .mv 2 1]⟩]) (.seq (.reg [⟨3, (.and (.ca 81 (.lf (.ld1 hh) 1 1)) (.or (.b .eql (.lf (.ld1 hh) 0 1) (.c (.str []))) (.ca 82 (.lf (.ld1 hh) 0 1)))), [.mv 2 0]⟩]) .ret))⟩
theorem w61 : wfF x61 = true := by decide +kernel
def x62 : XF := ⟨4, [0, 1, 4], [false, false, false], 2, [(2, none)], false, (.seq (.reg [⟨0, (.c (.bool false)), [.mv 2 0]⟩]) (.seq (.reg [⟨5, (.b .geq (.ca 83 (.cons (.m 0) (.m 1))) (.k 0)), [.mv 2 0]⟩]) .ret))⟩
theorem w62 : wfF x62 = true := by decide +kernel
def x63 : XF := ⟨4, [0, 1, 2, 3], [false, false, true, false], 2, [(3, none)], false, (.seq (.reg [⟨0, (.cons (.v 0) (.c (.bool false))), [.bb 2 0, .mv 3 1]⟩]) (.seq (.reg [⟨4, (.b .eql (.lf (.ld1 hh) 0 2) (.op (.ld1 hh) (.op (.faddr 0 hh) (.v 1)))), [.mv 3 0]⟩]) .ret))⟩
theorem w63 : wfF x63 = true := by decide +kernel
def x64 : XF := ⟨4, [0, 1, 4], [false, false, false], 2, [(2, none)], false, (.seq (.reg [⟨0, (.c (.bool false)), [.mv 2 0]⟩]) (.seq (.reg [⟨5, (.b .geq (.ca 84 (.cons (.m 0) (.m 1))) (.k 0)), [.mv 2 0]⟩]) .ret))⟩
theorem w64 : wfF x64 = true := by decide +kernel
def x65 : XF := ⟨3, [0, 1, 2], [false, true, false], 1, [(2, none)], false, (.seq (.reg [⟨0, (.cons (.v 0) (.c (.bool false))), [.bb 1 0, .mv 2 1]⟩]) (.seq (.reg [⟨3, (.u .not (.ca 66 (.lw (.ldA 4 hh) 1))), [.mv 2 0]⟩]) .ret))⟩
theorem w65 : wfF x65 = true := by decide +kernel
def x66 : XF := ⟨7, [0, 1, 2, 4], [false, true, false, false], 1, [(2, none)], false, (.seq (.reg [⟨0, (.cons (.v 0) (.c (.bool false))), [.bb 1 0, .mv 2 1]⟩]) (.seq (.seq (.reg [⟨3, (.op (.faddr 0 hh) (.adr 1)), [.bl 3 (.ld1 hh) 0]⟩]) (.block 0 (.ife [] 5 (.mr (.b .eql (.v 3) (.k 1))) (.seq (.regd 27 [] [⟨7, (.and (.and (.and (.and (.b .eql (.lf (.ld1 hh) 2 1) (.k 0)) (.b .neq (.lf (.ld1 hh) 1 1) (.c (.str [])))) (.b .leq (.ln true (.lf (.ld1 hh) 1 1)) (.k 12))) (.ca 85 (.op (.idxS hh hh) (.cons (.lf (.ld1 hh) 1 1) (.k 0))))) (.b .eql (.ca 86 (.cons (.lf (.ld1 hh) 1 1) (.c (.fn 87 [] [])))) (.ln true (.lf (.ld1 hh) 1 1)))), [.mv 2 0]⟩]) .ret) (.ife [] 36 (.mr (.b .eql (.v 3) (.k 2))) (.seq (.reg [⟨38, (.and (.and (.b .eql (.lf (.ld1 hh) 1 1) (.c (.str []))) (.b .geq (.lf (.ld1 hh) 2 1) (.k 0))) (.b .leq (.lf (.ld1 hh) 2 1) (.k 2147483647))), [.mv 2 0]⟩]) .ret) (.ife [] 51 (.mr (.b .eql (.v 3) (.k 3))) (.seq (.reg [⟨53, (.and (.and (.b .eql (.lf (.ld1 hh) 2 1) (.k 0)) (.b .eql (.ln true (.lf (.ld1 hh) 1 1)) (.k 1))) (.ca 88 (.op (.idxS hh hh) (.cons (.lf (.ld1 hh) 1 1) (.k 0))))), [.mv 2 0]⟩]) .ret) .skip))))) (.seq (.reg [⟨0, (.c (.bool false)), [.mv 2 0]⟩]) .ret)))⟩
theorem w66 : wfF x66 = true := by decide +kernel
def x67l0 : XC := .seq (.ife [] 17 (.b .eql (.m 6) (.k 0)) .skip (.exit 0)) (.block 1 (.seq (.reg [⟨19, (.op (.calld hh []) (.m 2)), [.mv 7 0]⟩]) (.seq (.ife [] 21 (.op (.eqk .func false hh hh) (.cons (.m 7) (.c .nilf))) (.seq (.reg [⟨23, (.cons (.lw (.ldA 2 hh) 5) (.k 0)), [.bs 2 3 0, .mv 4 1]⟩]) .ret) .skip) (.seq (.reg [⟨0, .nil, [.ba 8 [.str [], .int .i64 (.ofNat 0)]]⟩]) (.seq (.reg [⟨24, (.tup [0, 1] (.op (.calld hh []) (.m 1))), [.bs 2 8 0, .mv 6 1]⟩]) (.ife [] 29 (.b .eql (.m 6) (.k 0)) (.reg [⟨31, (.tup [0, 1] (.op (.calld hh []) (.cons (.m 7) (.cons (.lw (.ldA 2 hh) 5) (.lw (.ldA 2 hh) 8))))), [.bs 2 5 0, .mv 6 1]⟩]) .skip))))))
def x67 : XF := ⟨6, [0, 1, 2, 6, 7, 8, 9, 10, 11], [false, false, false, true, false, true, false, false, true], 3, [(3, some (2, true)), (4, none)], false, (.seq (.reg [⟨0, (.k 0), [.ba 3 [.str [], .int .i64 (.ofNat 0)], .mv 4 0]⟩]) (.seq (.reg [⟨12, (.tup [0, 1] (.op (.calld hh []) (.m 1))), [.ba 5 [.str [], .int .i64 (.ofNat 0)], .bs 2 5 0, .mv 6 1]⟩]) (.seq (.block 0 (.loop x67l0)) (.seq (.reg [⟨38, (.cons (.op (.build [.str [], .int .i64 (.ofNat 0)] []) .nil) (.m 6)), [.bs 2 3 0, .mv 4 1]⟩]) .ret))))⟩
theorem w67 : wfF x67 = true := by decide +kernel
def x68 : XF := ⟨4, [0, 1, 2, 3, 8], [false, false, true, false, false], 1, [(2, some (2, true)), (3, none)], false, (.seq (.reg [⟨0, (.cons (.v 0) (.k 0)), [.wo 1 (.box hh) [0], .ba 2 [.str [], .int .i64 (.ofNat 0)], .mv 3 1]⟩]) (.seq (.reg [⟨4, (.cons (.op (.ld1 hh) (.v 1)) (.cons (.op (.mkfn 89 [hh] []) (.op (.ld1 hh) (.v 1))) (.op (.mkfn 90 [] []) (.v 1)))), [.wo 4 (.call 67 []) [0, 1, 2]]⟩, ⟨9, (.cons (.op (.ext hh 0) (.v 4)) (.op (.ext hh 1) (.v 4))), [.bs 2 2 0, .mv 3 1]⟩]) .ret))⟩
theorem w68 : wfF x68 = true := by decide +kernel
def x69 : XF := ⟨3, [0, 1], [false, false], 1, [(1, none)], false, (.seq (.reg [⟨0, (.c .nilf), [.mv 1 0]⟩]) (.seq (.block 0 (.ife [] 2 (.mr (.ca 70 (.cons (.op (.ld1 hh) (.v 0)) (.c (.str [43]))))) (.seq (.reg [⟨0, (.c (.fn 71 [] [])), [.mv 1 0]⟩]) .ret) (.ife [] 5 (.mr (.ca 70 (.cons (.op (.ld1 hh) (.v 0)) (.c (.str [45]))))) (.seq (.reg [⟨0, (.c (.fn 72 [] [])), [.mv 1 0]⟩]) .ret) .skip))) (.seq (.reg [⟨0, (.c .nilf), [.mv 1 0]⟩]) .ret)))⟩
theorem w69 : wfF x69 = true := by decide +kernel
def x70 : XF := ⟨6, [0, 1, 4, 44], [false, false, false, false], 2, [(2, none)], false, (.seq (.reg [⟨0, (.c (.bool false)), [.mv 2 0]⟩]) (.seq (.ifd 37 [] [] 5 (.or (.or (.b .eql (.pf (.ld1 hh) 2 (.m 0)) (.ln false (.pf (.ld1 hh) 1 (.m 0)))) (.b .neq (.op (.ld1 hh) (.op (.faddr 0 hh) (.op (.iaddr 4 hh hh) (.cons (.pf (.ld1 hh) 1 (.m 0)) (.pf (.ld1 hh) 2 (.m 0)))))) (.k 3))) (.b .neq (.op (.ld1 hh) (.op (.faddr 1 hh) (.op (.iaddr 4 hh hh) (.cons (.pf (.ld1 hh) 1 (.m 0)) (.pf (.ld1 hh) 2 (.m 0)))))) (.m 1))) (.seq (.reg [⟨0, (.c (.bool false)), [.mv 2 0]⟩]) .ret) .skip) (.seq (.reg [⟨0, (.v 0), [.mv 3 0]⟩, ⟨45, (.cons (.b .add (.pf (.ld1 hh) 2 (.v 3)) (.k 1)) (.op (.faddr 2 hh) (.op (.nilck hh) (.v 3)))), [.wx (.st 1 hh hh) [1, 0]]⟩]) (.seq (.reg [⟨0, (.c (.bool true)), [.mv 2 0]⟩]) .ret))))⟩
theorem w70 : wfF x70 = true := by decide +kernel
def x71 : XF := ⟨5, [0, 1, 2, 3, 4, 5, 26], [false, false, true, true, true, false, false], 2, [(4, some (2, true)), (5, none)], false, (.seq (.reg [⟨0, (.cons (.v 0) (.cons (.v 1) (.k 0))), [.bb 2 0, .bb 3 1, .ba 4 [.str [], .int .i64 (.ofNat 0)], .mv 5 2]⟩]) (.seq (.ife [] 6 (.and (.b .neq (.lf (.ld1 hh) 0 2) (.c (.str []))) (.b .neq (.lf (.ld1 hh) 0 3) (.c (.str [])))) (.seq (.reg [⟨14, (.cons (.op (.build [.str [], .int .i64 (.ofNat 0)] []) .nil) (.k 6)), [.bs 2 4 0, .mv 5 1]⟩]) .ret) .skip) (.seq (.reg [⟨15, (.op (.build [.str [], .int .i64 (.ofNat 0)] [(0, (1, hh)), (1, (1, hh))]) (.cons (.b .add (.lf (.ld1 hh) 0 2) (.lf (.ld1 hh) 0 3)) (.b .add (.lf (.ld1 hh) 1 2) (.lf (.ld1 hh) 1 3)))), [.wo 6 (.call 92 []) [0]]⟩, ⟨27, (.cons (.op (.ext hh 0) (.v 6)) (.op (.ext hh 1) (.v 6))), [.bs 2 4 0, .mv 5 1]⟩]) .ret)))⟩
theorem w71 : wfF x71 = true := by decide +kernel
def x72 : XF := ⟨5, [0, 1, 2, 3, 4, 5, 18], [false, false, true, true, true, false, false], 2, [(4, some (2, true)), (5, none)], false, (.seq (.reg [⟨0, (.cons (.v 0) (.cons (.v 1) (.k 0))), [.bb 2 0, .bb 3 1, .ba 4 [.str [], .int .i64 (.ofNat 0)], .mv 5 2]⟩]) (.seq (.ife [] 6 (.b .neq (.lf (.ld1 hh) 0 3) (.c (.str []))) (.seq (.reg [⟨9, (.cons (.op (.build [.str [], .int .i64 (.ofNat 0)] []) .nil) (.k 6)), [.bs 2 4 0, .mv 5 1]⟩]) .ret) .skip) (.seq (.reg [⟨10, (.op (.build [.str [], .int .i64 (.ofNat 0)] [(0, (1, hh)), (1, (1, hh))]) (.cons (.lf (.ld1 hh) 0 2) (.b .sub (.lf (.ld1 hh) 1 2) (.lf (.ld1 hh) 1 3)))), [.wo 6 (.call 92 []) [0]]⟩, ⟨19, (.cons (.op (.ext hh 0) (.v 6)) (.op (.ext hh 1) (.v 6))), [.bs 2 4 0, .mv 5 1]⟩]) .ret)))⟩
theorem w72 : wfF x72 = true := by decide +kernel
def x73l0 : XC := .seq (.ife [] 10 (.ca 74 (.cons (.m 0) (.c (.str [42])))) .skip (.exit 0)) (.block 1 (.seq (.reg [⟨0, (.v 0), [.mv 5 0]⟩, ⟨13, (.cons (.b .add (.pf (.ld1 hh) 2 (.v 5)) (.k 1)) (.op (.faddr 2 hh) (.op (.nilck hh) (.v 5)))), [.wx (.st 1 hh hh) [1, 0]]⟩]) (.seq (.reg [⟨19, (.ca 93 (.cons (.m 0) (.m 1))), [.ba 4 [.str [], .int .i64 (.ofNat 0)], .bs 2 4 0]⟩]) (.seq (.ife [] 22 (.b .neq (.pf (.ld1 hh) 3 (.m 0)) (.k 0)) (.exit 0) .skip) (.seq (.ife [] 27 (.or (.b .neq (.lf (.ld1 hh) 0 3) (.c (.str []))) (.b .neq (.lf (.ld1 hh) 0 4) (.c (.str [])))) (.seq (.reg [⟨35, (.ca 76 (.cons (.m 0) (.k 6))), [.bs 2 2 0]⟩]) .ret) .skip) (.seq (.reg [⟨37, (.cons (.b .mul (.lf (.ld1 hh) 1 3) (.lf (.ld1 hh) 1 4)) (.op (.faddr 1 hh) (.adr 3))), [.bt 1 1 0]⟩]) (.ife [] 43 (.u .not (.ca 54 (.lf (.ld1 hh) 1 3))) (.seq (.reg [⟨47, (.ca 76 (.cons (.m 0) (.k 7))), [.bs 2 2 0]⟩]) .ret) .skip)))))))
def x73 : XF := ⟨6, [0, 1, 4, 5, 6, 12], [false, false, true, true, true, false], 2, [(2, some (2, true))], false, (.seq (.reg [⟨0, .nil, [.ba 2 [.str [], .int .i64 (.ofNat 0)]]⟩]) (.seq (.reg [⟨7, (.ca 93 (.cons (.m 0) (.m 1))), [.ba 3 [.str [], .int .i64 (.ofNat 0)], .bs 2 3 0]⟩]) (.seq (.block 0 (.loop x73l0)) (.seq (.reg [⟨49, (.lw (.ldA 2 hh) 3), [.bs 2 2 0]⟩]) .ret))))⟩
theorem w73 : wfF x73 = true := by decide +kernel
def x74 : XF := ⟨6, [0, 1, 4], [false, false, false], 2, [(2, none)], false, (.seq (.reg [⟨0, (.c (.bool false)), [.mv 2 0]⟩]) (.seq (.regd 44 [] [⟨5, (.and (.and (.and (.b .eql (.pf (.ld1 hh) 3 (.m 0)) (.k 0)) (.b .lss (.pf (.ld1 hh) 2 (.m 0)) (.ln false (.pf (.ld1 hh) 1 (.m 0))))) (.b .eql (.op (.ld1 hh) (.op (.faddr 0 hh) (.op (.iaddr 4 hh hh) (.cons (.pf (.ld1 hh) 1 (.m 0)) (.pf (.ld1 hh) 2 (.m 0)))))) (.k 3))) (.b .eql (.op (.ld1 hh) (.op (.faddr 1 hh) (.op (.iaddr 4 hh hh) (.cons (.pf (.ld1 hh) 1 (.m 0)) (.pf (.ld1 hh) 2 (.m 0)))))) (.m 1))), [.mv 2 0]⟩]) .ret))⟩
theorem w74 : wfF x74 = true := by decide +kernel
def x75 : XF := ⟨6, [0, 1, 2, 3, 4, 6, 7, 8], [false, false, false, true, true, true, false, false], 3, [(5, some (2, true)), (6, none)], false, (.seq (.reg [⟨0, (.cons (.v 0) (.cons (.v 1) (.k 0))), [.bb 3 0, .bb 4 1, .ba 5 [.str [], .int .i64 (.ofNat 0)], .mv 6 2]⟩]) (.seq (.ife [] 9 (.or (.and (.b .neq (.lf (.ld1 hh) 0 3) (.c (.str []))) (.b .neq (.lf (.ld1 hh) 0 4) (.c (.str [])))) (.and (.m 2) (.b .neq (.lf (.ld1 hh) 0 4) (.c (.str []))))) (.seq (.reg [⟨25, (.cons (.op (.build [.str [], .int .i64 (.ofNat 0)] []) .nil) (.k 6)), [.bs 2 5 0, .mv 6 1]⟩]) .ret) .skip) (.seq (.reg [⟨26, (.b .add (.lf (.ld1 hh) 1 3) (.lf (.ld1 hh) 1 4)), [.mv 7 0]⟩]) (.seq (.ife [] 31 (.m 2) (.reg [⟨32, (.b .sub (.lf (.ld1 hh) 1 3) (.lf (.ld1 hh) 1 4)), [.mv 7 0]⟩]) .skip) (.seq (.ife [] 37 (.u .not (.ca 54 (.m 7))) (.seq (.reg [⟨40, (.cons (.op (.build [.str [], .int .i64 (.ofNat 0)] []) .nil) (.k 7)), [.bs 2 5 0, .mv 6 1]⟩]) .ret) .skip) (.seq (.reg [⟨41, (.cons (.op (.build [.str [], .int .i64 (.ofNat 0)] [(0, (1, hh)), (1, (1, hh))]) (.cons (.b .add (.lf (.ld1 hh) 0 3) (.lf (.ld1 hh) 0 4)) (.m 7))) (.k 0)), [.bs 2 5 0, .mv 6 1]⟩]) .ret))))))⟩
theorem w75 : wfF x75 = true := by decide +kernel
def x76 : XF := ⟨4, [0, 1, 4, 10], [false, false, true, false], 2, [(2, some (2, true))], false, (.seq (.reg [⟨0, .nil, [.ba 2 [.str [], .int .i64 (.ofNat 0)]]⟩]) (.seq (.ife [] 5 (.b .eql (.pf (.ld1 hh) 3 (.m 0)) (.k 0)) (.reg [⟨0, (.v 0), [.mv 3 0]⟩, ⟨11, (.cons (.m 1) (.op (.faddr 3 hh) (.op (.nilck hh) (.v 3)))), [.wx (.st 1 hh hh) [1, 0]]⟩]) .skip) (.seq (.reg [⟨14, (.op (.build [.str [], .int .i64 (.ofNat 0)] []) .nil), [.bs 2 2 0]⟩]) .ret)))⟩
theorem w76 : wfF x76 = true := by decide +kernel
def x77 : XF := ⟨5, [0, 2], [false, false], 1, [(1, none)], false, (.seq (.reg [⟨0, (.c (.bool false)), [.mv 1 0]⟩]) (.seq (.reg [⟨3, (.or (.or (.and (.b .geq (.m 0) (.c (.int .u8 (.ofNat 97)))) (.b .leq (.m 0) (.c (.int .u8 (.ofNat 122))))) (.b .eql (.m 0) (.c (.int .u8 (.ofNat 95))))) (.b .eql (.m 0) (.c (.int .u8 (.ofNat 46))))), [.mv 1 0]⟩]) .ret))⟩
theorem w77 : wfF x77 = true := by decide +kernel
def x78 : XF := ⟨4, [0, 2], [false, false], 1, [(1, none)], false, (.seq (.reg [⟨0, (.c (.bool false)), [.mv 1 0]⟩]) (.seq (.reg [⟨3, (.and (.b .geq (.m 0) (.c (.int .u8 (.ofNat 48)))) (.b .leq (.m 0) (.c (.int .u8 (.ofNat 57))))), [.mv 1 0]⟩]) .ret))⟩
theorem w78 : wfF x78 = true := by decide +kernel
def x79 : XF := ⟨4, [0, 2], [false, false], 1, [(1, none)], false, (.seq (.reg [⟨0, (.c (.bool false)), [.mv 1 0]⟩]) (.seq (.reg [⟨3, (.or (.ca 78 (.m 0)) (.and (.b .geq (.m 0) (.c (.int .u8 (.ofNat 97)))) (.b .leq (.m 0) (.c (.int .u8 (.ofNat 102)))))), [.mv 1 0]⟩]) .ret))⟩
theorem w79 : wfF x79 = true := by decide +kernel
def x80l0 : XC := .seq (.ife [] 9 (.b .lss (.m 5) (.ln true (.m 0))) .skip (.exit 0)) (.seq (.block 1 (.seq (.reg [⟨15, (.cv (.int .i64) (.b .sub (.op (.idxS hh hh) (.cons (.m 0) (.m 5))) (.c (.int .u8 (.ofNat 48))))), [.mv 6 0]⟩]) (.seq (.ife [] 20 (.u .not (.ca 78 (.op (.idxS hh hh) (.cons (.m 0) (.m 5))))) (.reg [⟨25, (.b .add (.cv (.int .i64) (.b .sub (.op (.idxS hh hh) (.cons (.m 0) (.m 5))) (.c (.int .u8 (.ofNat 97))))) (.k 10)), [.mv 6 0]⟩]) .skip) (.seq (.reg [⟨31, (.b .add (.b .mul (.m 4) (.m 1)) (.m 6)), [.mv 4 0]⟩]) (.ife [] 36 (.b .geq (.m 4) (.k 2147483648)) (.seq (.reg [⟨0, (.cons (.k 0) (.c (.bool false))), [.mv 2 0, .mv 3 1]⟩]) .ret) .skip))))) (.reg [⟨13, (.b .add (.m 5) (.k 1)), [.mv 5 0]⟩]))
def x80 : XF := ⟨6, [0, 1, 4, 5, 6, 7, 8], [false, false, false, false, false, false, false], 2, [(2, none), (3, none)], false, (.seq (.reg [⟨0, (.cons (.k 0) (.c (.bool false))), [.mv 2 0, .mv 3 1]⟩]) (.seq (.reg [⟨0, (.k 0), [.mv 4 0]⟩]) (.seq (.seq (.reg [⟨0, (.k 0), [.mv 5 0]⟩]) (.block 0 (.loop x80l0))) (.seq (.reg [⟨38, (.cons (.m 4) (.c (.bool true))), [.mv 2 0, .mv 3 1]⟩]) .ret))))⟩
theorem w80 : wfF x80 = true := by decide +kernel
def x81 : XF := ⟨4, [0, 2], [false, false], 1, [(1, none)], false, (.seq (.reg [⟨0, (.c (.bool false)), [.mv 1 0]⟩]) (.seq (.reg [⟨3, (.and (.b .geq (.m 0) (.c (.int .i64 (.negSucc 2147483647)))) (.b .leq (.m 0) (.k 2147483648))), [.mv 1 0]⟩]) .ret))⟩
theorem w81 : wfF x81 = true := by decide +kernel
def x82l0 : XC := .seq (.reg [⟨0, (.cons (.v 5) (.v 4)), [.wo 6 (.bin .lss hh hh) [0, 1]]⟩]) (.seq (.cnd 6 .skip (.exit 0)) (.seq (.block 1 (.seq (.reg [⟨22, (.m 5), [.mv 2 0]⟩]) (.seq (.reg [⟨23, (.op (.idxS hh hh) (.cons (.m 0) (.m 2))), [.mv 3 0]⟩]) (.ife [] 26 (.and (.u .not (.ca 94 (.m 3))) (.or (.b .lss (.m 3) (.c (.int .u8 (.ofNat 48)))) (.b .gtr (.m 3) (.c (.int .u8 (.ofNat 57)))))) (.seq (.reg [⟨0, (.c (.bool false)), [.mv 1 0]⟩]) .ret) .skip)))) (.reg [⟨37, (.b .add (.v 5) (.k 1)), [.mv 5 0]⟩])))
def x82 : XF := ⟨6, [0, 2, 3, 4, 19, 20, 21], [false, false, false, false, false, false, false], 1, [(1, none)], false, (.seq (.reg [⟨0, (.c (.bool false)), [.mv 1 0]⟩]) (.seq (.ife [] 5 (.or (.or (.b .eql (.m 0) (.c (.str []))) (.b .gtr (.ln true (.m 0)) (.k 12))) (.u .not (.ca 94 (.op (.idxS hh hh) (.cons (.m 0) (.k 0)))))) (.seq (.reg [⟨0, (.c (.bool false)), [.mv 1 0]⟩]) .ret) .skip) (.seq (.seq (.reg [⟨18, (.cons (.m 0) (.k 0)), [.wo 4 (.len true hh) [0], .mv 5 1]⟩]) (.block 0 (.loop x82l0))) (.seq (.reg [⟨0, (.c (.bool true)), [.mv 1 0]⟩]) .ret))))⟩
theorem w82 : wfF x82 = true := by decide +kernel
def x83l0 : XC := .seq (.reg [⟨0, (.cons (.v 5) (.v 4)), [.wo 6 (.bin .lss hh hh) [0, 1]]⟩]) (.seq (.cnd 6 .skip (.exit 0)) (.seq (.block 1 (.seq (.reg [⟨10, (.m 5), [.mv 3 0]⟩]) (.ife [] 11 (.op (.calld hh []) (.cons (.m 1) (.ix (.ldA 2 hh) 2 (.m 0) (.m 3)))) (.seq (.reg [⟨17, (.m 3), [.mv 2 0]⟩]) .ret) .skip))) (.reg [⟨18, (.b .add (.v 5) (.k 1)), [.mv 5 0]⟩])))
def x83 : XF := ⟨5, [0, 1, 4, 5, 7, 8, 9], [false, false, false, false, false, false, false], 2, [(2, none)], false, (.seq (.reg [⟨0, (.k 0), [.mv 2 0]⟩]) (.seq (.seq (.reg [⟨6, (.cons (.m 0) (.k 0)), [.wo 4 (.len false hh) [0], .mv 5 1]⟩]) (.block 0 (.loop x83l0))) (.seq (.reg [⟨0, (.c (.int .i64 (.negSucc 0))), [.mv 2 0]⟩]) .ret)))⟩
theorem w83 : wfF x83 = true := by decide +kernel
def x84l0 : XC := .seq (.reg [⟨0, (.cons (.v 5) (.v 4)), [.wo 6 (.bin .lss hh hh) [0, 1]]⟩]) (.seq (.cnd 6 .skip (.exit 0)) (.seq (.block 1 (.seq (.reg [⟨10, (.m 5), [.mv 3 0]⟩]) (.ife [] 11 (.op (.calld hh []) (.cons (.m 1) (.ix (.ldA 4 hh) 4 (.m 0) (.m 3)))) (.seq (.reg [⟨17, (.m 3), [.mv 2 0]⟩]) .ret) .skip))) (.reg [⟨18, (.b .add (.v 5) (.k 1)), [.mv 5 0]⟩])))
def x84 : XF := ⟨5, [0, 1, 4, 5, 7, 8, 9], [false, false, false, false, false, false, false], 2, [(2, none)], false, (.seq (.reg [⟨0, (.k 0), [.mv 2 0]⟩]) (.seq (.seq (.reg [⟨6, (.cons (.m 0) (.k 0)), [.wo 4 (.len false hh) [0], .mv 5 1]⟩]) (.block 0 (.loop x84l0))) (.seq (.reg [⟨0, (.c (.int .i64 (.negSucc 0))), [.mv 2 0]⟩]) .ret)))⟩
theorem w84 : wfF x84 = true := by decide +kernel
def x85 : XF := ⟨5, [0, 2], [false, false], 1, [(1, none)], false, (.seq (.reg [⟨0, (.c (.bool false)), [.mv 1 0]⟩]) (.seq (.reg [⟨3, (.or (.or (.b .eql (.m 0) (.c (.int .u8 (.ofNat 95)))) (.b .eql (.m 0) (.c (.int .u8 (.ofNat 46))))) (.and (.b .geq (.m 0) (.c (.int .u8 (.ofNat 97)))) (.b .leq (.m 0) (.c (.int .u8 (.ofNat 122)))))), [.mv 1 0]⟩]) .ret))⟩
theorem w85 : wfF x85 = true := by decide +kernel
def x86l0 : XC := .seq (.ife [] 6 (.and (.b .lss (.m 3) (.ln true (.m 0))) (.op (.calld hh []) (.cons (.m 1) (.op (.idxS hh hh) (.cons (.m 0) (.m 3)))))) .skip (.exit 0)) (.block 1 (.reg [⟨17, (.b .add (.m 3) (.k 1)), [.mv 3 0]⟩]))
def x86 : XF := ⟨5, [0, 1, 4, 5], [false, false, false, false], 2, [(2, none)], false, (.seq (.reg [⟨0, (.k 0), [.mv 2 0]⟩]) (.seq (.reg [⟨0, (.k 0), [.mv 3 0]⟩]) (.seq (.block 0 (.loop x86l0)) (.seq (.reg [⟨19, (.m 3), [.mv 2 0]⟩]) .ret))))⟩
theorem w86 : wfF x86 = true := by decide +kernel
def x87 : XF := ⟨4, [0, 2], [false, false], 1, [(1, none)], false, (.seq (.reg [⟨0, (.c (.bool false)), [.mv 1 0]⟩]) (.seq (.reg [⟨3, (.or (.ca 85 (.m 0)) (.ca 95 (.m 0))), [.mv 1 0]⟩]) .ret))⟩
theorem w87 : wfF x87 = true := by decide +kernel
def x88 : XF := ⟨3, [0, 2], [false, false], 1, [(1, none)], false, (.seq (.reg [⟨0, (.c (.bool false)), [.mv 1 0]⟩]) (.seq (.reg [⟨3, (.b .geq (.ca 96 (.cons (.c (.str [44, 58, 43, 45, 42, 40, 41, 64])) (.m 0))) (.k 0)), [.mv 1 0]⟩]) .ret))⟩
theorem w88 : wfF x88 = true := by decide +kernel
def x89 : XF := ⟨7, [0, 2, 3, 4, 5, 6, 7, 8, 25, 69, 77, 88], [false, true, false, true, false, true, false, true, false, false, false, false], 1, [(1, some (2, true)), (2, none)], false, (.seq (.reg [⟨0, (.k 0), [.ba 1 [.str [], .int .i64 (.ofNat 0)], .mv 2 0]⟩]) (.seq (.block 0 (.ife [] 9 (.mr (.ca 70 (.cons (.m 0) (.c (.str [45]))))) (.seq (.reg [⟨12, (.tup [0, 1] (.ca 97 (.cons (.m 0) (.op (.mkfn 89 [hh] []) (.m 0))))), [.ba 3 [.str [], .int .i64 (.ofNat 0)], .bs 2 3 0, .mv 4 1]⟩]) (.seq (.ife [] 19 (.b .neq (.m 4) (.k 0)) (.seq (.reg [⟨21, (.cons (.op (.build [.str [], .int .i64 (.ofNat 0)] []) .nil) (.m 4)), [.bs 2 1 0, .mv 2 1]⟩]) .ret) .skip) (.seq (.reg [⟨23, (.cons (.op (.build [.str [], .int .i64 (.ofNat 0)] []) .nil) (.lw (.ldA 2 hh) 3)), [.wo 8 (.call 72 []) [0, 1]]⟩, ⟨26, (.cons (.op (.ext hh 0) (.v 8)) (.op (.ext hh 1) (.v 8))), [.bs 2 1 0, .mv 2 1]⟩]) .ret))) (.ife [] 28 (.mr (.ca 70 (.cons (.m 0) (.c (.str [40]))))) (.seq (.reg [⟨31, (.tup [0, 1] (.ca 97 (.cons (.m 0) (.op (.mkfn 52 [hh] []) (.m 0))))), [.ba 5 [.str [], .int .i64 (.ofNat 0)], .bs 2 5 0, .mv 6 1]⟩]) (.seq (.ife [] 38 (.b .neq (.m 6) (.k 0)) (.seq (.reg [⟨40, (.cons (.op (.build [.str [], .int .i64 (.ofNat 0)] []) .nil) (.m 6)), [.bs 2 1 0, .mv 2 1]⟩]) .ret) .skip) (.seq (.ife [] 42 (.u .not (.ca 70 (.cons (.m 0) (.c (.str [41]))))) (.seq (.reg [⟨45, (.cons (.op (.build [.str [], .int .i64 (.ofNat 0)] []) .nil) (.k 3)), [.bs 2 1 0, .mv 2 1]⟩]) .ret) .skip) (.seq (.reg [⟨46, (.cons (.lw (.ldA 2 hh) 5) (.k 0)), [.bs 2 1 0, .mv 2 1]⟩]) .ret)))) (.ifd 9 [] [] 47 (.mr (.b .eql (.pf (.ld1 hh) 2 (.m 0)) (.ln false (.pf (.ld1 hh) 1 (.m 0))))) (.seq (.reg [⟨58, (.cons (.op (.build [.str [], .int .i64 (.ofNat 0)] []) .nil) (.k 3)), [.bs 2 1 0, .mv 2 1]⟩]) .ret) .skip)))) (.seq (.regd 11 [] [⟨59, (.ix (.ldA 4 hh) 4 (.pf (.ld1 hh) 1 (.m 0)) (.pf (.ld1 hh) 2 (.m 0))), [.ba 7 [.int .i64 (.ofNat 0), .str [], .int .i64 (.ofNat 0), .int .i64 (.ofNat 0)], .bs 4 7 0]⟩]) (.seq (.reg [⟨0, (.v 0), [.mv 9 0]⟩, ⟨70, (.cons (.b .add (.pf (.ld1 hh) 2 (.v 9)) (.k 1)) (.op (.faddr 2 hh) (.op (.nilck hh) (.v 9)))), [.wx (.st 1 hh hh) [1, 0]]⟩]) (.seq (.seq (.reg [⟨76, (.op (.faddr 0 hh) (.adr 7)), [.bl 10 (.ld1 hh) 0]⟩]) (.block 1 (.ife [] 78 (.mr (.b .eql (.v 10) (.k 2))) (.seq (.reg [⟨80, (.cons (.op (.build [.str [], .int .i64 (.ofNat 0)] [(1, (1, hh))]) (.lf (.ld1 hh) 2 7)) (.k 0)), [.bs 2 1 0, .mv 2 1]⟩]) .ret) (.ife [] 83 (.mr (.b .eql (.v 10) (.k 1))) (.seq (.reg [⟨85, (.cons (.m 0) (.lf (.ld1 hh) 1 7)), [.wo 11 (.call 98 []) [0, 1]]⟩, ⟨89, (.cons (.op (.ext hh 0) (.v 11)) (.op (.ext hh 1) (.v 11))), [.bs 2 1 0, .mv 2 1]⟩]) .ret) .skip)))) (.seq (.reg [⟨91, (.cons (.op (.build [.str [], .int .i64 (.ofNat 0)] []) .nil) (.k 3)), [.bs 2 1 0, .mv 2 1]⟩]) .ret))))))⟩
theorem w89 : wfF x89 = true := by decide +kernel
def x90 : XF := ⟨3, [0, 1], [false, false], 1, [(1, none)], false, (.seq (.reg [⟨0, (.c .nilf), [.mv 1 0]⟩]) (.seq (.ife [] 2 (.ca 70 (.cons (.op (.ld1 hh) (.v 0)) (.c (.str [42])))) (.seq (.reg [⟨0, (.c (.fn 91 [] [])), [.mv 1 0]⟩]) .ret) .skip) (.seq (.reg [⟨0, (.c .nilf), [.mv 1 0]⟩]) .ret)))⟩
theorem w90 : wfF x90 = true := by decide +kernel
def x91 : XF := ⟨5, [0, 1, 2, 3, 4, 5, 21], [false, false, true, true, true, false, false], 2, [(4, some (2, true)), (5, none)], false, (.seq (.reg [⟨0, (.cons (.v 0) (.cons (.v 1) (.k 0))), [.bb 2 0, .bb 3 1, .ba 4 [.str [], .int .i64 (.ofNat 0)], .mv 5 2]⟩]) (.seq (.ife [] 6 (.or (.b .neq (.lf (.ld1 hh) 0 2) (.c (.str []))) (.b .neq (.lf (.ld1 hh) 0 3) (.c (.str [])))) (.seq (.reg [⟨14, (.cons (.op (.build [.str [], .int .i64 (.ofNat 0)] []) .nil) (.k 6)), [.bs 2 4 0, .mv 5 1]⟩]) .ret) .skip) (.seq (.reg [⟨15, (.op (.build [.str [], .int .i64 (.ofNat 0)] [(1, (1, hh))]) (.b .mul (.lf (.ld1 hh) 1 2) (.lf (.ld1 hh) 1 3))), [.wo 6 (.call 92 []) [0]]⟩, ⟨22, (.cons (.op (.ext hh 0) (.v 6)) (.op (.ext hh 1) (.v 6))), [.bs 2 4 0, .mv 5 1]⟩]) .ret)))⟩
theorem w91 : wfF x91 = true := by decide +kernel
def x92 : XF := ⟨4, [0, 1, 2, 3], [false, true, true, false], 1, [(2, some (2, true)), (3, none)], false, (.seq (.reg [⟨0, (.cons (.v 0) (.k 0)), [.bb 1 0, .ba 2 [.str [], .int .i64 (.ofNat 0)], .mv 3 1]⟩]) (.seq (.ife [] 4 (.u .not (.ca 81 (.lf (.ld1 hh) 1 1))) (.seq (.reg [⟨8, (.cons (.op (.build [.str [], .int .i64 (.ofNat 0)] []) .nil) (.k 7)), [.bs 2 2 0, .mv 3 1]⟩]) .ret) .skip) (.seq (.reg [⟨9, (.cons (.lw (.ldA 2 hh) 1) (.k 0)), [.bs 2 2 0, .mv 3 1]⟩]) .ret)))⟩
theorem w92 : wfF x92 = true := by decide +kernel
def x93 : XF := ⟨8, [0, 1, 4, 5, 6, 7, 8, 41, 61, 100, 146], [false, false, true, true, false, true, true, false, false, false, false], 2, [(2, some (2, true))], false, (.seq (.reg [⟨0, .nil, [.ba 2 [.str [], .int .i64 (.ofNat 0)]]⟩]) (.seq (.ife [] 9 (.b .neq (.pf (.ld1 hh) 3 (.m 0)) (.k 0)) (.seq (.reg [⟨14, (.op (.build [.str [], .int .i64 (.ofNat 0)] []) .nil), [.bs 2 2 0]⟩]) .ret) .skip) (.seq (.ifd 9 [] [] 15 (.b .geq (.pf (.ld1 hh) 2 (.m 0)) (.ln false (.pf (.ld1 hh) 1 (.m 0)))) (.seq (.reg [⟨25, (.ca 76 (.cons (.m 0) (.k 3))), [.bs 2 2 0]⟩]) .ret) .skip) (.seq (.regd 11 [] [⟨27, (.ix (.ldA 4 hh) 4 (.pf (.ld1 hh) 1 (.m 0)) (.pf (.ld1 hh) 2 (.m 0))), [.ba 3 [.int .i64 (.ofNat 0), .str [], .int .i64 (.ofNat 0), .int .i64 (.ofNat 0)], .bs 4 3 0]⟩]) (.seq (.block 0 (.ife [] 37 (.mr (.b .eql (.lf (.ld1 hh) 0 3) (.k 2))) (.seq (.reg [⟨0, (.v 0), [.mv 7 0]⟩, ⟨42, (.cons (.b .add (.pf (.ld1 hh) 2 (.v 7)) (.k 1)) (.op (.faddr 2 hh) (.op (.nilck hh) (.v 7)))), [.wx (.st 1 hh hh) [1, 0]]⟩]) (.seq (.reg [⟨48, (.op (.build [.str [], .int .i64 (.ofNat 0)] [(1, (1, hh))]) (.lf (.ld1 hh) 2 3)), [.bs 2 2 0]⟩]) .ret)) (.ife [] 51 (.mr (.b .eql (.lf (.ld1 hh) 0 3) (.k 1))) (.seq (.ife [] 55 (.u .not (.ca 53 (.lf (.ld1 hh) 1 3))) (.seq (.reg [⟨59, (.ca 76 (.cons (.m 0) (.k 3))), [.bs 2 2 0]⟩]) .ret) .skip) (.seq (.reg [⟨0, (.v 0), [.mv 8 0]⟩, ⟨62, (.cons (.b .add (.pf (.ld1 hh) 2 (.v 8)) (.k 1)) (.op (.faddr 2 hh) (.op (.nilck hh) (.v 8)))), [.wx (.st 1 hh hh) [1, 0]]⟩]) (.seq (.seq (.regd 6 [] [⟨68, (.ca 55 (.cons (.pf (.ld1 hh) 0 (.m 0)) (.lf (.ld1 hh) 1 3))), [.mv 4 0]⟩]) (.ife [] 75 (.b .geq (.m 4) (.k 0)) (.seq (.reg [⟨77, (.op (.build [.str [], .int .i64 (.ofNat 0)] [(1, (1, hh))]) (.op (.ld1 hh) (.op (.faddr 1 hh) (.op (.iaddr 2 hh hh) (.cons (.pf (.ld1 hh) 0 (.m 0)) (.m 4)))))), [.bs 2 2 0]⟩]) .ret) .skip)) (.seq (.reg [⟨86, (.op (.build [.str [], .int .i64 (.ofNat 0)] [(0, (1, hh))]) (.lf (.ld1 hh) 1 3)), [.bs 2 2 0]⟩]) .ret)))) (.ife [] 89 (.mr (.or (.ca 74 (.cons (.m 0) (.c (.str [45])))) (.ca 74 (.cons (.m 0) (.c (.str [40])))))) (.seq (.ife [] 96 (.b .geq (.m 1) (.k 8)) (.seq (.reg [⟨98, (.ca 76 (.cons (.m 0) (.k 2))), [.bs 2 2 0]⟩]) .ret) .skip) (.seq (.reg [⟨0, (.v 0), [.mv 9 0]⟩, ⟨101, (.cons (.b .add (.pf (.ld1 hh) 2 (.v 9)) (.k 1)) (.op (.faddr 2 hh) (.op (.nilck hh) (.v 9)))), [.wx (.st 1 hh hh) [1, 0]]⟩]) (.seq (.ife [] 107 (.b .eql (.lf (.ld1 hh) 1 3) (.c (.str [45]))) (.seq (.reg [⟨110, (.ca 93 (.cons (.m 0) (.b .add (.m 1) (.k 1)))), [.ba 5 [.str [], .int .i64 (.ofNat 0)], .bs 2 5 0]⟩]) (.seq (.ife [] 114 (.and (.b .eql (.pf (.ld1 hh) 3 (.m 0)) (.k 0)) (.b .neq (.lf (.ld1 hh) 0 5) (.c (.str [])))) (.seq (.reg [⟨124, (.ca 76 (.cons (.m 0) (.k 6))), [.bs 2 2 0]⟩]) .ret) .skip) (.seq (.reg [⟨126, (.op (.build [.str [], .int .i64 (.ofNat 0)] [(1, (1, hh))]) (.u .neg (.lf (.ld1 hh) 1 5))), [.bs 2 2 0]⟩]) .ret))) .skip) (.seq (.reg [⟨130, (.ca 57 (.cons (.m 0) (.b .add (.m 1) (.k 1)))), [.ba 6 [.str [], .int .i64 (.ofNat 0)], .bs 2 6 0]⟩]) (.seq (.ife [] 134 (.and (.b .eql (.pf (.ld1 hh) 3 (.m 0)) (.k 0)) (.u .not (.ca 74 (.cons (.m 0) (.c (.str [41])))))) (.seq (.reg [⟨144, (.ca 76 (.cons (.m 0) (.k 3))), [.bs 2 2 0]⟩]) .ret) .skip) (.seq (.reg [⟨0, (.v 0), [.mv 10 0]⟩, ⟨147, (.cons (.b .add (.pf (.ld1 hh) 2 (.v 10)) (.k 1)) (.op (.faddr 2 hh) (.op (.nilck hh) (.v 10)))), [.wx (.st 1 hh hh) [1, 0]]⟩]) (.seq (.reg [⟨153, (.lw (.ldA 2 hh) 6), [.bs 2 2 0]⟩]) .ret))))))) .skip)))) (.seq (.reg [⟨154, (.ca 76 (.cons (.m 0) (.k 3))), [.bs 2 2 0]⟩]) .ret))))))⟩
theorem w93 : wfF x93 = true := by decide +kernel
def x94 : XF := ⟨4, [0, 2], [false, false], 1, [(1, none)], false, (.seq (.reg [⟨0, (.c (.bool false)), [.mv 1 0]⟩]) (.seq (.reg [⟨3, (.or (.b .eql (.m 0) (.c (.int .u8 (.ofNat 95)))) (.and (.b .geq (.m 0) (.c (.int .u8 (.ofNat 97)))) (.b .leq (.m 0) (.c (.int .u8 (.ofNat 122)))))), [.mv 1 0]⟩]) .ret))⟩
theorem w94 : wfF x94 = true := by decide +kernel
def x95 : XF := ⟨4, [0, 2], [false, false], 1, [(1, none)], false, (.seq (.reg [⟨0, (.c (.bool false)), [.mv 1 0]⟩]) (.seq (.reg [⟨3, (.and (.b .geq (.m 0) (.c (.int .u8 (.ofNat 48)))) (.b .leq (.m 0) (.c (.int .u8 (.ofNat 57))))), [.mv 1 0]⟩]) .ret))⟩
theorem w95 : wfF x95 = true := by decide +kernel
def x96 : XF := ⟨3, [0, 1, 4], [false, false, false], 2, [(2, none)], false, (.seq (.reg [⟨0, (.k 0), [.mv 2 0]⟩]) (.seq (.reg [⟨5, (.ca 99 (.cons (.m 0) (.m 1))), [.mv 2 0]⟩]) .ret))⟩
theorem w96 : wfF x96 = true := by decide +kernel
def x97 : XF := ⟨6, [0, 1, 4, 5, 6, 7, 14, 26], [false, false, true, false, true, false, false, false], 2, [(2, some (2, true)), (3, none)], false, (.seq (.reg [⟨0, (.k 0), [.ba 2 [.str [], .int .i64 (.ofNat 0)], .mv 3 0]⟩]) (.seq (.ife [] 8 (.b .eql (.pf (.ld1 hh) 3 (.m 0)) (.k 8)) (.seq (.reg [⟨13, (.cons (.op (.build [.str [], .int .i64 (.ofNat 0)] []) .nil) (.k 2)), [.bs 2 2 0, .mv 3 1]⟩]) .ret) .skip) (.seq (.reg [⟨0, (.v 0), [.mv 6 0]⟩, ⟨15, (.cons (.b .add (.pf (.ld1 hh) 3 (.v 6)) (.k 1)) (.op (.faddr 3 hh) (.op (.nilck hh) (.v 6)))), [.wx (.st 1 hh hh) [1, 0]]⟩]) (.seq (.reg [⟨21, (.tup [0, 1] (.op (.calld hh []) (.m 1))), [.ba 4 [.str [], .int .i64 (.ofNat 0)], .bs 2 4 0, .mv 5 1]⟩]) (.seq (.reg [⟨0, (.v 0), [.mv 7 0]⟩, ⟨27, (.cons (.b .sub (.pf (.ld1 hh) 3 (.v 7)) (.k 1)) (.op (.faddr 3 hh) (.op (.nilck hh) (.v 7)))), [.wx (.st 1 hh hh) [1, 0]]⟩]) (.seq (.reg [⟨33, (.cons (.lw (.ldA 2 hh) 4) (.m 5)), [.bs 2 2 0, .mv 3 1]⟩]) .ret))))))⟩
theorem w97 : wfF x97 = true := by decide +kernel
def x98 : XF := ⟨5, [0, 1, 3, 4, 5, 6], [false, false, false, true, false, false], 2, [(3, some (2, true)), (4, none)], false, (.seq (.reg [⟨0, (.cons (.v 1) (.k 0)), [.wo 2 (.box hh) [0], .ba 3 [.str [], .int .i64 (.ofNat 0)], .mv 4 1]⟩]) (.seq (.ife [] 7 (.u .not (.ca 82 (.op (.ld1 hh) (.v 2)))) (.seq (.reg [⟨10, (.cons (.op (.build [.str [], .int .i64 (.ofNat 0)] []) .nil) (.k 3)), [.bs 2 3 0, .mv 4 1]⟩]) .ret) .skip) (.seq (.reg [⟨11, (.ca 83 (.cons (.pf (.ld1 hh) 0 (.m 0)) (.op (.mkfn 100 [] []) (.v 2)))), [.mv 5 0]⟩]) (.seq (.ife [] 17 (.b .lss (.m 5) (.k 0)) (.seq (.reg [⟨19, (.cons (.op (.build [.str [], .int .i64 (.ofNat 0)] [(0, (1, hh))]) (.op (.ld1 hh) (.v 2))) (.k 0)), [.bs 2 3 0, .mv 4 1]⟩]) .ret) .skip) (.seq (.reg [⟨21, (.cons (.op (.build [.str [], .int .i64 (.ofNat 0)] [(1, (1, hh))]) (.op (.ld1 hh) (.op (.faddr 1 hh) (.op (.iaddr 2 hh hh) (.cons (.pf (.ld1 hh) 0 (.m 0)) (.m 5)))))) (.k 0)), [.bs 2 3 0, .mv 4 1]⟩]) .ret)))))⟩
theorem w98 : wfF x98 = true := by decide +kernel
def x99 : XF := ⟨3, [0, 1, 4], [false, false, false], 2, [(2, none)], false, (.seq (.reg [⟨0, (.k 0), [.mv 2 0]⟩]) (.seq (.reg [⟨5, (.op (.ixb hh hh) (.cons (.m 0) (.m 1))), [.mv 2 0]⟩]) .ret))⟩
theorem w99 : wfF x99 = true := by decide +kernel
def x100 : XF := ⟨3, [0, 1, 2, 3], [false, false, true, false], 2, [(3, none)], false, (.seq (.reg [⟨0, (.cons (.v 0) (.c (.bool false))), [.bb 2 0, .mv 3 1]⟩]) (.seq (.reg [⟨4, (.b .eql (.lf (.ld1 hh) 0 2) (.op (.ld1 hh) (.v 1))), [.mv 3 0]⟩]) .ret))⟩
theorem w100 : wfF x100 = true := by decide +kernel
def x118l0 : XC := .seq (.ife [] 33 (.and (.b .lss (.m 5) (.ln false (.m 3))) (.b .lss (.m 5) (.k 20))) .skip (.exit 2)) (.seq (.block 3 (.seq (.regd 14 [0, 0, 0, 7, 0, 0, 0, 112, 0, 0, 0, 0, 0, 6143] [⟨43, (.tup [0, 1] (.ca 119 (.cons (.ix (.ldA 2 hh) 2 (.m 3) (.m 4)) (.ix (.ldA 2 hh) 2 (.m 3) (.m 5))))), [.ba 6 [.str [], .int .i64 (.ofNat 0)], .bs 2 6 0, .mv 7 1]⟩]) (.seq (.reg [⟨0, (.k 1), [.mv 8 0]⟩]) (.seq (.reg [⟨0, .nil, [.ba 9 [.str [], .int .i64 (.ofNat 0)]]⟩]) (.seq (.ife [] 55 (.and (.ca 120 (.ix (.ldA 2 hh) 2 (.m 3) (.m 4))) (.ca 120 (.ix (.ldA 2 hh) 2 (.m 3) (.m 5)))) (.regd 13 [0, 0, 0, 7, 0, 0, 0, 112, 0, 0, 0, 0, 2047] [⟨67, (.tup [0, 1] (.ca 75 (.cons (.ix (.ldA 2 hh) 2 (.m 3) (.m 4)) (.cons (.ix (.ldA 2 hh) 2 (.m 3) (.m 5)) (.c (.bool false)))))), [.bs 2 9 0, .mv 8 1]⟩]) .skip) (.ife [] 79 (.or (.b .neq (.ca 37 (.m 7)) (.m 8)) (.op (.eqs (.st [(0, (1, (false, .str))), (1, (1, (false, .int)))]) true hh hh) (.cons (.lw (.ldA 2 hh) 6) (.lw (.ldA 2 hh) 9)))) (.seq (.reg [⟨0, (.c (.bool false)), [.mv 2 0]⟩]) .ret) .skip)))))) (.reg [⟨41, (.b .add (.m 5) (.k 1)), [.mv 5 0]⟩]))
def x118l1 : XC := .seq (.ife [] 23 (.and (.b .lss (.m 4) (.ln false (.m 3))) (.b .lss (.m 4) (.k 20))) .skip (.exit 0)) (.seq (.block 1 (.seq (.reg [⟨0, (.k 0), [.mv 5 0]⟩]) (.block 2 (.loop x118l0)))) (.reg [⟨31, (.b .add (.m 4) (.k 1)), [.mv 4 0]⟩]))
def x118 : XF := ⟨7, [0, 1, 2, 3, 4, 5, 6, 7, 8, 9], [false, true, false, false, false, false, true, false, false, true], 1, [(2, none)], false, (.seq (.reg [⟨0, (.cons (.v 0) (.c (.bool false))), [.bb 1 0, .mv 2 1]⟩]) (.seq (.ife [] 10 (.ca 25 (.lw (.ldA 4 hh) 1)) (.seq (.reg [⟨0, (.c (.bool true)), [.mv 2 0]⟩]) .ret) .skip) (.seq (.reg [⟨12, (.op (.app 2 24 (.agg [.str [], .int .i64 (.ofNat 0)]) hh hh) (.cons (.op (.buildS 2 7 (.agg [.str [], .int .i64 (.ofNat 0)]) [(0, hh), (1, hh), (2, hh), (3, hh), (4, hh), (5, hh), (6, hh)]) (.cons (.op (.build [.str [], .int .i64 (.ofNat 0)] []) .nil) (.cons (.op (.build [.str [], .int .i64 (.ofNat 0)] [(1, (1, hh))]) (.k 2147483648)) (.cons (.op (.build [.str [], .int .i64 (.ofNat 0)] [(1, (1, hh))]) (.c (.int .i64 (.negSucc 2147483647)))) (.cons (.op (.build [.str [], .int .i64 (.ofNat 0)] [(0, (1, hh))]) (.c (.str [97]))) (.cons (.op (.build [.str [], .int .i64 (.ofNat 0)] [(0, (1, hh)), (1, (1, hh))]) (.cons (.c (.str [97])) (.k 5))) (.cons (.op (.build [.str [], .int .i64 (.ofNat 0)] [(0, (1, hh))]) (.c (.str [46, 97]))) (.op (.build [.str [], .int .i64 (.ofNat 0)] [(1, (1, hh))]) (.k 2147483649))))))))) (.lf (.ld1 hh) 3 1))), [.mv 3 0]⟩]) (.seq (.seq (.reg [⟨0, (.k 0), [.mv 4 0]⟩]) (.block 0 (.loop x118l1))) (.seq (.reg [⟨88, (.ca 40 .nil), [.mv 2 0]⟩]) .ret)))))⟩
theorem w118 : wfF x118 = true := by decide +kernel
def x119 : XF := ⟨5, [0, 1, 2, 3, 4, 5, 17], [false, false, true, true, true, false, false], 2, [(4, some (2, true)), (5, none)], false, (.seq (.reg [⟨0, (.cons (.v 0) (.cons (.v 1) (.k 0))), [.bb 2 0, .bb 3 1, .ba 4 [.str [], .int .i64 (.ofNat 0)], .mv 5 2]⟩]) (.seq (.ife [] 6 (.or (.u .not (.ca 61 (.lw (.ldA 2 hh) 2))) (.u .not (.ca 61 (.lw (.ldA 2 hh) 3)))) (.seq (.reg [⟨14, (.cons (.op (.build [.str [], .int .i64 (.ofNat 0)] []) .nil) (.k 1)), [.bs 2 4 0, .mv 5 1]⟩]) .ret) .skip) (.seq (.reg [⟨15, (.cons (.lw (.ldA 2 hh) 2) (.lw (.ldA 2 hh) 3)), [.wo 6 (.call 71 []) [0, 1]]⟩, ⟨18, (.cons (.op (.ext hh 0) (.v 6)) (.op (.ext hh 1) (.v 6))), [.bs 2 4 0, .mv 5 1]⟩]) .ret)))⟩
theorem w119 : wfF x119 = true := by decide +kernel
def x120 : XF := ⟨4, [0, 1, 2], [false, true, false], 1, [(2, none)], false, (.seq (.reg [⟨0, (.cons (.v 0) (.c (.bool false))), [.bb 1 0, .mv 2 1]⟩]) (.seq (.reg [⟨3, (.and (.or (.b .eql (.lf (.ld1 hh) 0 1) (.c (.str []))) (.ca 53 (.lf (.ld1 hh) 0 1))) (.ca 54 (.lf (.ld1 hh) 1 1))), [.mv 2 0]⟩]) .ret))⟩
theorem w120 : wfF x120 = true := by decide +kernel

end

end M2
end
section
/- The functions of the program compile to the code; the table stands for the program. -/
namespace Go.Proofs.Ytofcelckpdepaaa
open Go M2
noncomputable section

def ims : List Nat := [0, 1, 2, 3, 4, 5, 6, 7, 8, 9, 10, 11, 118, 12, 13, 14, 15, 16, 17, 18, 19, 20, 21, 22, 23, 24, 25, 26, 27, 28, 29, 30, 31, 32, 33, 34, 35, 36, 37, 38, 39, 40, 41, 42, 119, 120, 75, 43, 44, 45, 46, 47, 48, 49, 50, 51, 52, 53, 54, 55, 56, 57, 61, 71, 58, 59, 60, 62, 63, 64, 65, 66, 67, 68, 69, 70, 72, 73, 74, 76, 81, 82, 92, 77, 78, 79, 80, 83, 84, 85, 86, 87, 88, 89, 90, 91, 93, 94, 95, 96, 97, 98, 99, 100, 101, 102, 103, 104, 105, 106, 107, 108, 109, 110, 111, 112, 113, 114, 115, 116, 117]
def im (f : Nat) : Option Nat := ims[f]?
def tab : Tr := (.node 53 (flatF x53) (.node 27 (flatF x27) (.node 14 (flatF x14) (.node 8 (flatF x8) (.node 5 (flatF x5) (.node 3 (flatF x3) (.node 2 (flatF x2) .leaf .leaf) (.node 4 (flatF x4) .leaf .leaf)) (.node 7 (flatF x7) (.node 6 (flatF x6) .leaf .leaf) .leaf)) (.node 11 (flatF x11) (.node 10 (flatF x10) (.node 9 (flatF x9) .leaf .leaf) .leaf) (.node 13 (flatF x13) (.node 12 (flatF x12) .leaf .leaf) .leaf))) (.node 21 (flatF x21) (.node 18 (flatF x18) (.node 16 (flatF x16) (.node 15 (flatF x15) .leaf .leaf) (.node 17 (flatF x17) .leaf .leaf)) (.node 20 (flatF x20) (.node 19 (flatF x19) .leaf .leaf) .leaf)) (.node 24 (flatF x24) (.node 23 (flatF x23) (.node 22 (flatF x22) .leaf .leaf) .leaf) (.node 26 (flatF x26) (.node 25 (flatF x25) .leaf .leaf) .leaf)))) (.node 40 (flatF x40) (.node 34 (flatF x34) (.node 31 (flatF x31) (.node 29 (flatF x29) (.node 28 (flatF x28) .leaf .leaf) (.node 30 (flatF x30) .leaf .leaf)) (.node 33 (flatF x33) (.node 32 (flatF x32) .leaf .leaf) .leaf)) (.node 37 (flatF x37) (.node 36 (flatF x36) (.node 35 (flatF x35) .leaf .leaf) .leaf) (.node 39 (flatF x39) (.node 38 (flatF x38) .leaf .leaf) .leaf))) (.node 47 (flatF x47) (.node 44 (flatF x44) (.node 42 (flatF x42) (.node 41 (flatF x41) .leaf .leaf) (.node 43 (flatF x43) .leaf .leaf)) (.node 46 (flatF x46) (.node 45 (flatF x45) .leaf .leaf) .leaf)) (.node 50 (flatF x50) (.node 49 (flatF x49) (.node 48 (flatF x48) .leaf .leaf) .leaf) (.node 52 (flatF x52) (.node 51 (flatF x51) .leaf .leaf) .leaf))))) (.node 79 (flatF x79) (.node 66 (flatF x66) (.node 60 (flatF x60) (.node 57 (flatF x57) (.node 55 (flatF x55) (.node 54 (flatF x54) .leaf .leaf) (.node 56 (flatF x56) .leaf .leaf)) (.node 59 (flatF x59) (.node 58 (flatF x58) .leaf .leaf) .leaf)) (.node 63 (flatF x63) (.node 62 (flatF x62) (.node 61 (flatF x61) .leaf .leaf) .leaf) (.node 65 (flatF x65) (.node 64 (flatF x64) .leaf .leaf) .leaf))) (.node 73 (flatF x73) (.node 70 (flatF x70) (.node 68 (flatF x68) (.node 67 (flatF x67) .leaf .leaf) (.node 69 (flatF x69) .leaf .leaf)) (.node 72 (flatF x72) (.node 71 (flatF x71) .leaf .leaf) .leaf)) (.node 76 (flatF x76) (.node 75 (flatF x75) (.node 74 (flatF x74) .leaf .leaf) .leaf) (.node 78 (flatF x78) (.node 77 (flatF x77) .leaf .leaf) .leaf)))) (.node 92 (flatF x92) (.node 86 (flatF x86) (.node 83 (flatF x83) (.node 81 (flatF x81) (.node 80 (flatF x80) .leaf .leaf) (.node 82 (flatF x82) .leaf .leaf)) (.node 85 (flatF x85) (.node 84 (flatF x84) .leaf .leaf) .leaf)) (.node 89 (flatF x89) (.node 88 (flatF x88) (.node 87 (flatF x87) .leaf .leaf) .leaf) (.node 91 (flatF x91) (.node 90 (flatF x90) .leaf .leaf) .leaf))) (.node 98 (flatF x98) (.node 95 (flatF x95) (.node 94 (flatF x94) (.node 93 (flatF x93) .leaf .leaf) .leaf) (.node 97 (flatF x97) (.node 96 (flatF x96) .leaf .leaf) .leaf)) (.node 118 (flatF x118) (.node 100 (flatF x100) (.node 99 (flatF x99) .leaf .leaf) .leaf) (.node 120 (flatF x120) (.node 119 (flatF x119) .leaf .leaf) .leaf))))))
theorem g2 : Here Try.prog (maps ims) im 2 (flatF x2) := ⟨Try.f2, by rw [show (maps ims).fm 2 = 2 from by kernel_rfl]; exact Try.func2, by kernel_rfl⟩
theorem g3 : Here Try.prog (maps ims) im 3 (flatF x3) := ⟨Try.f3, by rw [show (maps ims).fm 3 = 3 from by kernel_rfl]; exact Try.func3, by kernel_rfl⟩
theorem g4 : Here Try.prog (maps ims) im 4 (flatF x4) := ⟨Try.f4, by rw [show (maps ims).fm 4 = 4 from by kernel_rfl]; exact Try.func4, by kernel_rfl⟩
theorem g5 : Here Try.prog (maps ims) im 5 (flatF x5) := ⟨Try.f5, by rw [show (maps ims).fm 5 = 5 from by kernel_rfl]; exact Try.func5, by kernel_rfl⟩
theorem g6 : Here Try.prog (maps ims) im 6 (flatF x6) := ⟨Try.f6, by rw [show (maps ims).fm 6 = 6 from by kernel_rfl]; exact Try.func6, by kernel_rfl⟩
theorem g7 : Here Try.prog (maps ims) im 7 (flatF x7) := ⟨Try.f7, by rw [show (maps ims).fm 7 = 7 from by kernel_rfl]; exact Try.func7, by kernel_rfl⟩
theorem g8 : Here Try.prog (maps ims) im 8 (flatF x8) := ⟨Try.f8, by rw [show (maps ims).fm 8 = 8 from by kernel_rfl]; exact Try.func8, by kernel_rfl⟩
theorem g9 : Here Try.prog (maps ims) im 9 (flatF x9) := ⟨Try.f9, by rw [show (maps ims).fm 9 = 9 from by kernel_rfl]; exact Try.func9, by kernel_rfl⟩
theorem g10 : Here Try.prog (maps ims) im 10 (flatF x10) := ⟨Try.f10, by rw [show (maps ims).fm 10 = 10 from by kernel_rfl]; exact Try.func10, by kernel_rfl⟩
theorem g11 : Here Try.prog (maps ims) im 11 (flatF x11) := ⟨Try.f11, by rw [show (maps ims).fm 11 = 11 from by kernel_rfl]; exact Try.func11, by kernel_rfl⟩
theorem g12 : Here Try.prog (maps ims) im 12 (flatF x12) := ⟨Try.f13, by rw [show (maps ims).fm 12 = 13 from by kernel_rfl]; exact Try.func13, by kernel_rfl⟩
theorem g13 : Here Try.prog (maps ims) im 13 (flatF x13) := ⟨Try.f14, by rw [show (maps ims).fm 13 = 14 from by kernel_rfl]; exact Try.func14, by kernel_rfl⟩
theorem g14 : Here Try.prog (maps ims) im 14 (flatF x14) := ⟨Try.f15, by rw [show (maps ims).fm 14 = 15 from by kernel_rfl]; exact Try.func15, by kernel_rfl⟩
theorem g15 : Here Try.prog (maps ims) im 15 (flatF x15) := ⟨Try.f16, by rw [show (maps ims).fm 15 = 16 from by kernel_rfl]; exact Try.func16, by kernel_rfl⟩
theorem g16 : Here Try.prog (maps ims) im 16 (flatF x16) := ⟨Try.f17, by rw [show (maps ims).fm 16 = 17 from by kernel_rfl]; exact Try.func17, by kernel_rfl⟩
theorem g17 : Here Try.prog (maps ims) im 17 (flatF x17) := ⟨Try.f18, by rw [show (maps ims).fm 17 = 18 from by kernel_rfl]; exact Try.func18, by kernel_rfl⟩
theorem g18 : Here Try.prog (maps ims) im 18 (flatF x18) := ⟨Try.f19, by rw [show (maps ims).fm 18 = 19 from by kernel_rfl]; exact Try.func19, by kernel_rfl⟩
theorem g19 : Here Try.prog (maps ims) im 19 (flatF x19) := ⟨Try.f20, by rw [show (maps ims).fm 19 = 20 from by kernel_rfl]; exact Try.func20, by kernel_rfl⟩
theorem g20 : Here Try.prog (maps ims) im 20 (flatF x20) := ⟨Try.f21, by rw [show (maps ims).fm 20 = 21 from by kernel_rfl]; exact Try.func21, by kernel_rfl⟩
theorem g21 : Here Try.prog (maps ims) im 21 (flatF x21) := ⟨Try.f22, by rw [show (maps ims).fm 21 = 22 from by kernel_rfl]; exact Try.func22, by kernel_rfl⟩
theorem g22 : Here Try.prog (maps ims) im 22 (flatF x22) := ⟨Try.f23, by rw [show (maps ims).fm 22 = 23 from by kernel_rfl]; exact Try.func23, by kernel_rfl⟩
theorem g23 : Here Try.prog (maps ims) im 23 (flatF x23) := ⟨Try.f24, by rw [show (maps ims).fm 23 = 24 from by kernel_rfl]; exact Try.func24, by kernel_rfl⟩
theorem g24 : Here Try.prog (maps ims) im 24 (flatF x24) := ⟨Try.f25, by rw [show (maps ims).fm 24 = 25 from by kernel_rfl]; exact Try.func25, by kernel_rfl⟩
theorem g25 : Here Try.prog (maps ims) im 25 (flatF x25) := ⟨Try.f26, by rw [show (maps ims).fm 25 = 26 from by kernel_rfl]; exact Try.func26, by kernel_rfl⟩
theorem g26 : Here Try.prog (maps ims) im 26 (flatF x26) := ⟨Try.f27, by rw [show (maps ims).fm 26 = 27 from by kernel_rfl]; exact Try.func27, by kernel_rfl⟩
theorem g27 : Here Try.prog (maps ims) im 27 (flatF x27) := ⟨Try.f28, by rw [show (maps ims).fm 27 = 28 from by kernel_rfl]; exact Try.func28, by kernel_rfl⟩
theorem g28 : Here Try.prog (maps ims) im 28 (flatF x28) := ⟨Try.f29, by rw [show (maps ims).fm 28 = 29 from by kernel_rfl]; exact Try.func29, by kernel_rfl⟩
theorem g29 : Here Try.prog (maps ims) im 29 (flatF x29) := ⟨Try.f30, by rw [show (maps ims).fm 29 = 30 from by kernel_rfl]; exact Try.func30, by kernel_rfl⟩
theorem g30 : Here Try.prog (maps ims) im 30 (flatF x30) := ⟨Try.f31, by rw [show (maps ims).fm 30 = 31 from by kernel_rfl]; exact Try.func31, by kernel_rfl⟩
theorem g31 : Here Try.prog (maps ims) im 31 (flatF x31) := ⟨Try.f32, by rw [show (maps ims).fm 31 = 32 from by kernel_rfl]; exact Try.func32, by kernel_rfl⟩
theorem g32 : Here Try.prog (maps ims) im 32 (flatF x32) := ⟨Try.f33, by rw [show (maps ims).fm 32 = 33 from by kernel_rfl]; exact Try.func33, by kernel_rfl⟩
theorem g33 : Here Try.prog (maps ims) im 33 (flatF x33) := ⟨Try.f34, by rw [show (maps ims).fm 33 = 34 from by kernel_rfl]; exact Try.func34, by kernel_rfl⟩
theorem g34 : Here Try.prog (maps ims) im 34 (flatF x34) := ⟨Try.f35, by rw [show (maps ims).fm 34 = 35 from by kernel_rfl]; exact Try.func35, by kernel_rfl⟩
theorem g35 : Here Try.prog (maps ims) im 35 (flatF x35) := ⟨Try.f36, by rw [show (maps ims).fm 35 = 36 from by kernel_rfl]; exact Try.func36, by kernel_rfl⟩
theorem g36 : Here Try.prog (maps ims) im 36 (flatF x36) := ⟨Try.f37, by rw [show (maps ims).fm 36 = 37 from by kernel_rfl]; exact Try.func37, by kernel_rfl⟩
theorem g37 : Here Try.prog (maps ims) im 37 (flatF x37) := ⟨Try.f38, by rw [show (maps ims).fm 37 = 38 from by kernel_rfl]; exact Try.func38, by kernel_rfl⟩
theorem g38 : Here Try.prog (maps ims) im 38 (flatF x38) := ⟨Try.f39, by rw [show (maps ims).fm 38 = 39 from by kernel_rfl]; exact Try.func39, by kernel_rfl⟩
theorem g39 : Here Try.prog (maps ims) im 39 (flatF x39) := ⟨Try.f40, by rw [show (maps ims).fm 39 = 40 from by kernel_rfl]; exact Try.func40, by kernel_rfl⟩
theorem g40 : Here Try.prog (maps ims) im 40 (flatF x40) := ⟨Try.f41, by rw [show (maps ims).fm 40 = 41 from by kernel_rfl]; exact Try.func41, by kernel_rfl⟩
theorem g41 : Here Try.prog (maps ims) im 41 (flatF x41) := ⟨Try.f42, by rw [show (maps ims).fm 41 = 42 from by kernel_rfl]; exact Try.func42, by kernel_rfl⟩
theorem g42 : Here Try.prog (maps ims) im 42 (flatF x42) := ⟨Try.f43, by rw [show (maps ims).fm 42 = 43 from by kernel_rfl]; exact Try.func43, by kernel_rfl⟩
theorem g43 : Here Try.prog (maps ims) im 43 (flatF x43) := ⟨Try.f47, by rw [show (maps ims).fm 43 = 47 from by kernel_rfl]; exact Try.func47, by kernel_rfl⟩
theorem g44 : Here Try.prog (maps ims) im 44 (flatF x44) := ⟨Try.f48, by rw [show (maps ims).fm 44 = 48 from by kernel_rfl]; exact Try.func48, by kernel_rfl⟩
theorem g45 : Here Try.prog (maps ims) im 45 (flatF x45) := ⟨Try.f49, by rw [show (maps ims).fm 45 = 49 from by kernel_rfl]; exact Try.func49, by kernel_rfl⟩
theorem g46 : Here Try.prog (maps ims) im 46 (flatF x46) := ⟨Try.f50, by rw [show (maps ims).fm 46 = 50 from by kernel_rfl]; exact Try.func50, by kernel_rfl⟩
theorem g47 : Here Try.prog (maps ims) im 47 (flatF x47) := ⟨Try.f51, by rw [show (maps ims).fm 47 = 51 from by kernel_rfl]; exact Try.func51, by kernel_rfl⟩
theorem g48 : Here Try.prog (maps ims) im 48 (flatF x48) := ⟨Try.f52, by rw [show (maps ims).fm 48 = 52 from by kernel_rfl]; exact Try.func52, by kernel_rfl⟩
theorem g49 : Here Try.prog (maps ims) im 49 (flatF x49) := ⟨Try.f53, by rw [show (maps ims).fm 49 = 53 from by kernel_rfl]; exact Try.func53, by kernel_rfl⟩
theorem g50 : Here Try.prog (maps ims) im 50 (flatF x50) := ⟨Try.f54, by rw [show (maps ims).fm 50 = 54 from by kernel_rfl]; exact Try.func54, by kernel_rfl⟩
theorem g51 : Here Try.prog (maps ims) im 51 (flatF x51) := ⟨Try.f55, by rw [show (maps ims).fm 51 = 55 from by kernel_rfl]; exact Try.func55, by kernel_rfl⟩
theorem g52 : Here Try.prog (maps ims) im 52 (flatF x52) := ⟨Try.f56, by rw [show (maps ims).fm 52 = 56 from by kernel_rfl]; exact Try.func56, by kernel_rfl⟩
theorem g53 : Here Try.prog (maps ims) im 53 (flatF x53) := ⟨Try.f57, by rw [show (maps ims).fm 53 = 57 from by kernel_rfl]; exact Try.func57, by kernel_rfl⟩
theorem g54 : Here Try.prog (maps ims) im 54 (flatF x54) := ⟨Try.f58, by rw [show (maps ims).fm 54 = 58 from by kernel_rfl]; exact Try.func58, by kernel_rfl⟩
theorem g55 : Here Try.prog (maps ims) im 55 (flatF x55) := ⟨Try.f59, by rw [show (maps ims).fm 55 = 59 from by kernel_rfl]; exact Try.func59, by kernel_rfl⟩
theorem g56 : Here Try.prog (maps ims) im 56 (flatF x56) := ⟨Try.f60, by rw [show (maps ims).fm 56 = 60 from by kernel_rfl]; exact Try.func60, by kernel_rfl⟩
theorem g57 : Here Try.prog (maps ims) im 57 (flatF x57) := ⟨Try.f61, by rw [show (maps ims).fm 57 = 61 from by kernel_rfl]; exact Try.func61, by kernel_rfl⟩
theorem g58 : Here Try.prog (maps ims) im 58 (flatF x58) := ⟨Try.f64, by rw [show (maps ims).fm 58 = 64 from by kernel_rfl]; exact Try.func64, by kernel_rfl⟩
theorem g59 : Here Try.prog (maps ims) im 59 (flatF x59) := ⟨Try.f65, by rw [show (maps ims).fm 59 = 65 from by kernel_rfl]; exact Try.func65, by kernel_rfl⟩
theorem g60 : Here Try.prog (maps ims) im 60 (flatF x60) := ⟨Try.f66, by rw [show (maps ims).fm 60 = 66 from by kernel_rfl]; exact Try.func66, by kernel_rfl⟩
theorem g61 : Here Try.prog (maps ims) im 61 (flatF x61) := ⟨Try.f62, by rw [show (maps ims).fm 61 = 62 from by kernel_rfl]; exact Try.func62, by kernel_rfl⟩
theorem g62 : Here Try.prog (maps ims) im 62 (flatF x62) := ⟨Try.f67, by rw [show (maps ims).fm 62 = 67 from by kernel_rfl]; exact Try.func67, by kernel_rfl⟩
theorem g63 : Here Try.prog (maps ims) im 63 (flatF x63) := ⟨Try.f68, by rw [show (maps ims).fm 63 = 68 from by kernel_rfl]; exact Try.func68, by kernel_rfl⟩
theorem g64 : Here Try.prog (maps ims) im 64 (flatF x64) := ⟨Try.f69, by rw [show (maps ims).fm 64 = 69 from by kernel_rfl]; exact Try.func69, by kernel_rfl⟩
theorem g65 : Here Try.prog (maps ims) im 65 (flatF x65) := ⟨Try.f70, by rw [show (maps ims).fm 65 = 70 from by kernel_rfl]; exact Try.func70, by kernel_rfl⟩
theorem g66 : Here Try.prog (maps ims) im 66 (flatF x66) := ⟨Try.f71, by rw [show (maps ims).fm 66 = 71 from by kernel_rfl]; exact Try.func71, by kernel_rfl⟩
theorem g67 : Here Try.prog (maps ims) im 67 (flatF x67) := ⟨Try.f72, by rw [show (maps ims).fm 67 = 72 from by kernel_rfl]; exact Try.func72, by kernel_rfl⟩
theorem g68 : Here Try.prog (maps ims) im 68 (flatF x68) := ⟨Try.f73, by rw [show (maps ims).fm 68 = 73 from by kernel_rfl]; exact Try.func73, by kernel_rfl⟩
theorem g69 : Here Try.prog (maps ims) im 69 (flatF x69) := ⟨Try.f74, by rw [show (maps ims).fm 69 = 74 from by kernel_rfl]; exact Try.func74, by kernel_rfl⟩
theorem g70 : Here Try.prog (maps ims) im 70 (flatF x70) := ⟨Try.f75, by rw [show (maps ims).fm 70 = 75 from by kernel_rfl]; exact Try.func75, by kernel_rfl⟩
theorem g71 : Here Try.prog (maps ims) im 71 (flatF x71) := ⟨Try.f63, by rw [show (maps ims).fm 71 = 63 from by kernel_rfl]; exact Try.func63, by kernel_rfl⟩
theorem g72 : Here Try.prog (maps ims) im 72 (flatF x72) := ⟨Try.f76, by rw [show (maps ims).fm 72 = 76 from by kernel_rfl]; exact Try.func76, by kernel_rfl⟩
theorem g73 : Here Try.prog (maps ims) im 73 (flatF x73) := ⟨Try.f77, by rw [show (maps ims).fm 73 = 77 from by kernel_rfl]; exact Try.func77, by kernel_rfl⟩
theorem g74 : Here Try.prog (maps ims) im 74 (flatF x74) := ⟨Try.f78, by rw [show (maps ims).fm 74 = 78 from by kernel_rfl]; exact Try.func78, by kernel_rfl⟩
theorem g75 : Here Try.prog (maps ims) im 75 (flatF x75) := ⟨Try.f46, by rw [show (maps ims).fm 75 = 46 from by kernel_rfl]; exact Try.func46, by kernel_rfl⟩
theorem g76 : Here Try.prog (maps ims) im 76 (flatF x76) := ⟨Try.f79, by rw [show (maps ims).fm 76 = 79 from by kernel_rfl]; exact Try.func79, by kernel_rfl⟩
theorem g77 : Here Try.prog (maps ims) im 77 (flatF x77) := ⟨Try.f83, by rw [show (maps ims).fm 77 = 83 from by kernel_rfl]; exact Try.func83, by kernel_rfl⟩
theorem g78 : Here Try.prog (maps ims) im 78 (flatF x78) := ⟨Try.f84, by rw [show (maps ims).fm 78 = 84 from by kernel_rfl]; exact Try.func84, by kernel_rfl⟩
theorem g79 : Here Try.prog (maps ims) im 79 (flatF x79) := ⟨Try.f85, by rw [show (maps ims).fm 79 = 85 from by kernel_rfl]; exact Try.func85, by kernel_rfl⟩
theorem g80 : Here Try.prog (maps ims) im 80 (flatF x80) := ⟨Try.f86, by rw [show (maps ims).fm 80 = 86 from by kernel_rfl]; exact Try.func86, by kernel_rfl⟩
theorem g81 : Here Try.prog (maps ims) im 81 (flatF x81) := ⟨Try.f80, by rw [show (maps ims).fm 81 = 80 from by kernel_rfl]; exact Try.func80, by kernel_rfl⟩
theorem g82 : Here Try.prog (maps ims) im 82 (flatF x82) := ⟨Try.f81, by rw [show (maps ims).fm 82 = 81 from by kernel_rfl]; exact Try.func81, by kernel_rfl⟩
theorem g83 : Here Try.prog (maps ims) im 83 (flatF x83) := ⟨Try.f87, by rw [show (maps ims).fm 83 = 87 from by kernel_rfl]; exact Try.func87, by kernel_rfl⟩
theorem g84 : Here Try.prog (maps ims) im 84 (flatF x84) := ⟨Try.f88, by rw [show (maps ims).fm 84 = 88 from by kernel_rfl]; exact Try.func88, by kernel_rfl⟩
theorem g85 : Here Try.prog (maps ims) im 85 (flatF x85) := ⟨Try.f89, by rw [show (maps ims).fm 85 = 89 from by kernel_rfl]; exact Try.func89, by kernel_rfl⟩
theorem g86 : Here Try.prog (maps ims) im 86 (flatF x86) := ⟨Try.f90, by rw [show (maps ims).fm 86 = 90 from by kernel_rfl]; exact Try.func90, by kernel_rfl⟩
theorem g87 : Here Try.prog (maps ims) im 87 (flatF x87) := ⟨Try.f91, by rw [show (maps ims).fm 87 = 91 from by kernel_rfl]; exact Try.func91, by kernel_rfl⟩
theorem g88 : Here Try.prog (maps ims) im 88 (flatF x88) := ⟨Try.f92, by rw [show (maps ims).fm 88 = 92 from by kernel_rfl]; exact Try.func92, by kernel_rfl⟩
theorem g89 : Here Try.prog (maps ims) im 89 (flatF x89) := ⟨Try.f93, by rw [show (maps ims).fm 89 = 93 from by kernel_rfl]; exact Try.func93, by kernel_rfl⟩
theorem g90 : Here Try.prog (maps ims) im 90 (flatF x90) := ⟨Try.f94, by rw [show (maps ims).fm 90 = 94 from by kernel_rfl]; exact Try.func94, by kernel_rfl⟩
theorem g91 : Here Try.prog (maps ims) im 91 (flatF x91) := ⟨Try.f95, by rw [show (maps ims).fm 91 = 95 from by kernel_rfl]; exact Try.func95, by kernel_rfl⟩
theorem g92 : Here Try.prog (maps ims) im 92 (flatF x92) := ⟨Try.f82, by rw [show (maps ims).fm 92 = 82 from by kernel_rfl]; exact Try.func82, by kernel_rfl⟩
theorem g93 : Here Try.prog (maps ims) im 93 (flatF x93) := ⟨Try.f96, by rw [show (maps ims).fm 93 = 96 from by kernel_rfl]; exact Try.func96, by kernel_rfl⟩
theorem g94 : Here Try.prog (maps ims) im 94 (flatF x94) := ⟨Try.f97, by rw [show (maps ims).fm 94 = 97 from by kernel_rfl]; exact Try.func97, by kernel_rfl⟩
theorem g95 : Here Try.prog (maps ims) im 95 (flatF x95) := ⟨Try.f98, by rw [show (maps ims).fm 95 = 98 from by kernel_rfl]; exact Try.func98, by kernel_rfl⟩
theorem g96 : Here Try.prog (maps ims) im 96 (flatF x96) := ⟨Try.f99, by rw [show (maps ims).fm 96 = 99 from by kernel_rfl]; exact Try.func99, by kernel_rfl⟩
theorem g97 : Here Try.prog (maps ims) im 97 (flatF x97) := ⟨Try.f100, by rw [show (maps ims).fm 97 = 100 from by kernel_rfl]; exact Try.func100, by kernel_rfl⟩
theorem g98 : Here Try.prog (maps ims) im 98 (flatF x98) := ⟨Try.f101, by rw [show (maps ims).fm 98 = 101 from by kernel_rfl]; exact Try.func101, by kernel_rfl⟩
theorem g99 : Here Try.prog (maps ims) im 99 (flatF x99) := ⟨Try.f102, by rw [show (maps ims).fm 99 = 102 from by kernel_rfl]; exact Try.func102, by kernel_rfl⟩
theorem g100 : Here Try.prog (maps ims) im 100 (flatF x100) := ⟨Try.f103, by rw [show (maps ims).fm 100 = 103 from by kernel_rfl]; exact Try.func103, by kernel_rfl⟩
theorem g118 : Here Try.prog (maps ims) im 118 (flatF x118) := ⟨Try.f12, by rw [show (maps ims).fm 118 = 12 from by kernel_rfl]; exact Try.func12, by kernel_rfl⟩
theorem g119 : Here Try.prog (maps ims) im 119 (flatF x119) := ⟨Try.f44, by rw [show (maps ims).fm 119 = 44 from by kernel_rfl]; exact Try.func44, by kernel_rfl⟩
theorem g120 : Here Try.prog (maps ims) im 120 (flatF x120) := ⟨Try.f45, by rw [show (maps ims).fm 120 = 45 from by kernel_rfl]; exact Try.func45, by kernel_rfl⟩
theorem nodup : ims.Nodup := by decide +kernel
theorem him : ∀ f x, im f = some x → (maps ims).fm x = f := him_of nodup
theorem mix : Try.prog.follows .mixedOrders = true := by kernel_rfl
theorem table : Table Try.prog (maps ims) im tab.get := by
  refine table_ok ?_
  unfold tab
  exact (.node g53 (.node g27 (.node g14 (.node g8 (.node g5 (.node g3 (.node g2 .leaf .leaf) (.node g4 .leaf .leaf)) (.node g7 (.node g6 .leaf .leaf) .leaf)) (.node g11 (.node g10 (.node g9 .leaf .leaf) .leaf) (.node g13 (.node g12 .leaf .leaf) .leaf))) (.node g21 (.node g18 (.node g16 (.node g15 .leaf .leaf) (.node g17 .leaf .leaf)) (.node g20 (.node g19 .leaf .leaf) .leaf)) (.node g24 (.node g23 (.node g22 .leaf .leaf) .leaf) (.node g26 (.node g25 .leaf .leaf) .leaf)))) (.node g40 (.node g34 (.node g31 (.node g29 (.node g28 .leaf .leaf) (.node g30 .leaf .leaf)) (.node g33 (.node g32 .leaf .leaf) .leaf)) (.node g37 (.node g36 (.node g35 .leaf .leaf) .leaf) (.node g39 (.node g38 .leaf .leaf) .leaf))) (.node g47 (.node g44 (.node g42 (.node g41 .leaf .leaf) (.node g43 .leaf .leaf)) (.node g46 (.node g45 .leaf .leaf) .leaf)) (.node g50 (.node g49 (.node g48 .leaf .leaf) .leaf) (.node g52 (.node g51 .leaf .leaf) .leaf))))) (.node g79 (.node g66 (.node g60 (.node g57 (.node g55 (.node g54 .leaf .leaf) (.node g56 .leaf .leaf)) (.node g59 (.node g58 .leaf .leaf) .leaf)) (.node g63 (.node g62 (.node g61 .leaf .leaf) .leaf) (.node g65 (.node g64 .leaf .leaf) .leaf))) (.node g73 (.node g70 (.node g68 (.node g67 .leaf .leaf) (.node g69 .leaf .leaf)) (.node g72 (.node g71 .leaf .leaf) .leaf)) (.node g76 (.node g75 (.node g74 .leaf .leaf) .leaf) (.node g78 (.node g77 .leaf .leaf) .leaf)))) (.node g92 (.node g86 (.node g83 (.node g81 (.node g80 .leaf .leaf) (.node g82 .leaf .leaf)) (.node g85 (.node g84 .leaf .leaf) .leaf)) (.node g89 (.node g88 (.node g87 .leaf .leaf) .leaf) (.node g91 (.node g90 .leaf .leaf) .leaf))) (.node g98 (.node g95 (.node g94 (.node g93 .leaf .leaf) .leaf) (.node g97 (.node g96 .leaf .leaf) .leaf)) (.node g118 (.node g100 (.node g99 .leaf .leaf) .leaf) (.node g120 (.node g119 .leaf .leaf) .leaf))))))

end

end Go.Proofs.Ytofcelckpdepaaa
end
section
namespace M2
open Go
noncomputable section

/-! ### Functions that look at no variables of others -/

def PuR (tbl : Nat → Option AFunc) (f : Nat) (vs : List AV) (P : AV → Prop) : Prop := Fn tbl false f vs [] [] fun r _ _ => P r

theorem Fn.frame {tbl : Nat → Option AFunc} {lk : Bool} {f : Nat} {vs : List AV} {P : AV → Heap → Rows → Prop} (h : Fn tbl lk f vs [] [] P) (H : Heap) (O : Rows) : Fn tbl lk f vs H O fun v H' O' => ∃ H1 O1, P v H1 O1 ∧ H' = H ∧ O' = O := by
  intro t ht
  obtain ⟨v, t', H1, O1, N, h1, h2, h3⟩ := h t ⟨ht.wf, ⟨List.nodup_nil, nofun, List.nodup_nil, nofun⟩, ht.v0, ht.i0⟩
  refine ⟨v, t', H, O, N, h1, ⟨h2.wf, ⟨ht.see.hk, fun x o hm => ?_, ht.see.ok, fun x r hm => ?_⟩, ?_, fun p hp => .inl (List.mem_map.mpr ⟨p, hp, rfl⟩), fun p hp => .inl (List.mem_map.mpr ⟨p, hp, rfl⟩)⟩, H1, O1, h3, rfl, rfl⟩
  · have := ht.see.hv x o hm
    rw [h2.keep.lookv (ht.wf.lookv this) (fun h => nomatch h)]
    exact this
  · have := ht.see.ov x r hm
    rw [h2.keep.looki (ht.wf.looki this) (fun h => nomatch h)]
    exact this
  · obtain ⟨nv, ni, φ, ψ, hc, hl⟩ := h2.keep
    exact ⟨nv, ni, φ, ψ, ⟨hc.n, hc.vs, hc.is, hc.fk, fun p h1 _ => hc.fo p h1 (fun h => nomatch h), fun x h1 _ => hc.go x h1 (fun h => nomatch h), hc.nvn, hc.nin⟩, hl⟩

/-- the rows that are handed back stay one's own -/
theorem Fn.frameO {tbl : Nat → Option AFunc} {lk : Bool} {f : Nat} {vs : List AV} {P : AV → Heap → Rows → Prop} (h : Fn tbl lk f vs [] [] P) (H : Heap) (O : Rows) : Fn tbl lk f vs H O fun v H' O' => ∃ H1 O1, P v H1 O1 ∧ H' = H ∧ O' = O1 ++ O ∧ ∀ x ∈ ids O1, x ∉ ids O := by
  intro t ht
  obtain ⟨v, t', H1, O1, N, h1, h2, h3⟩ := h t ⟨ht.wf, ⟨List.nodup_nil, nofun, List.nodup_nil, nofun⟩, ht.v0, ht.i0⟩
  have hnew : ∀ x ∈ ids O1, x ∉ ids O := by
    intro x hx hm
    obtain ⟨p, hp, rfl⟩ := List.mem_map.mp hx
    rcases h2.on p hp with h | h
    · cases h
    · have := ht.see.lti ht.wf hm; omega
  have hOv : ∀ x r, (x, r) ∈ O → look2 x t'.is = some r := by
    intro x r hm
    have := ht.see.ov x r hm
    rw [h2.keep.looki (ht.wf.looki this) (fun h => nomatch h)]
    exact this
  refine ⟨v, t', H, O1 ++ O, N, h1, ⟨h2.wf, ⟨ht.see.hk, fun x o hm => ?_, ?_, fun x r hm => ?_⟩, ?_, fun p hp => .inl (List.mem_map.mpr ⟨p, hp, rfl⟩), fun p hp => ?_⟩, H1, O1, h3, rfl, rfl, hnew⟩
  · have := ht.see.hv x o hm
    rw [h2.keep.lookv (ht.wf.lookv this) (fun h => nomatch h)]
    exact this
  · show ((O1 ++ O).map Prod.fst).Nodup
    rw [List.map_append, List.nodup_append]
    exact ⟨h2.see.ok, ht.see.ok, fun a ha b hb e => hnew a ha (e ▸ hb)⟩
  · rcases List.mem_append.mp hm with hm | hm
    · exact h2.see.ov x r hm
    · exact hOv x r hm
  · obtain ⟨nv, ni, φ, ψ, hc, hl⟩ := h2.keep
    exact ⟨nv, ni, φ, ψ, ⟨hc.n, hc.vs, hc.is, hc.fk, fun p h1 _ => hc.fo p h1 (fun h => nomatch h), fun x h1 _ => hc.go x h1 (fun h => nomatch h), hc.nvn, hc.nin⟩, hl⟩
  · rcases List.mem_append.mp hp with hp | hp
    · rcases h2.on p hp with h | h
      · cases h
      · exact .inr h
    · exact .inl (List.mem_map.mpr ⟨p, hp, rfl⟩)

theorem Fn.leak {tbl : Nat → Option AFunc} {f : Nat} {vs : List AV} {H : Heap} {O : Rows} {P : AV → Heap → Rows → Prop} (h : Fn tbl false f vs H O P) : Fn tbl true f vs H O P := by
  intro t ht
  obtain ⟨v, t', H', O', N, h1, h2, h3⟩ := h t ht
  exact ⟨v, t', H', O', N, h1, h2.lk, h3⟩

theorem call_pu {tbl : Nat → Option AFunc} {dr : Bool} {f : Nat} {vs : List AV} {P : AV → Prop} {H : Heap} {O : Rows} {Q : AV → Heap → Rows → Prop} (h : PuR tbl f vs P) (k : ∀ r, P r → Q r H O) : wCall tbl dr f vs H O Q := by
  cases dr with
  | false => exact (Fn.frame h H O).leak.mono fun v H' O' ⟨_, _, h3, e1, e2⟩ => by subst e1; subst e2; exact k v h3
  | true => exact (Fn.frame h [] O).mono fun v H' O' ⟨_, _, h3, e1, e2⟩ => by subst e2; exact k v h3

/-- the same, with the rows -/
theorem call_puO {tbl : Nat → Option AFunc} {dr : Bool} {f : Nat} {vs : List AV} {P : AV → Heap → Rows → Prop} {H : Heap} {O : Rows} {Q : AV → Heap → Rows → Prop} (h : Fn tbl false f vs [] [] P) (k : ∀ r H1 O1, P r H1 O1 → (∀ x ∈ ids O1, x ∉ ids O) → Q r H (O1 ++ O)) : wCall tbl dr f vs H O Q := by
  cases dr with
  | false => exact (Fn.frameO h H O).leak.mono fun v H' O' ⟨H1, O1, h3, e1, e2, e3⟩ => by subst e1; subst e2; exact k v H1 O1 h3 e3
  | true => exact (Fn.frameO h [] O).mono fun v H' O' ⟨H1, O1, h3, e1, e2, e3⟩ => by subst e2; exact k v H1 O1 h3 e3

def retP (bx : List Bool) (res : List (Nat × Option (Nat × Bool))) (P : AV → Prop) (r : XR) : Prop :=
  match r with
  | .norm env H _ => opt (resL bx env H res) fun vs => P (packed vs)
  | .ret env H _ => opt (resL bx env H res) fun vs => P (packed vs)
  | .exit _ _ _ _ => False

section
variable {bx : List Bool} {res : List (Nat × Option (Nat × Bool))} {P : AV → Prop} {env : List AV} {H : Heap} {O : Rows}
@[go_sem] theorem retP_norm : retP bx res P (.norm env H O) = opt (resL bx env H res) fun vs => P (packed vs) := rfl
@[go_sem] theorem retP_ret : retP bx res P (.ret env H O) = opt (resL bx env H res) fun vs => P (packed vs) := rfl
@[go_sem] theorem retP_exit (i : Nat) : retP bx res P (.exit i env H O) = False := rfl
@[go_sem] theorem resL_nil : resL bx env H [] = some [] := rfl
@[go_sem] theorem resL_v (j : Nat) (l : List (Nat × Option (Nat × Bool))) : resL bx env H ((j, none) :: l) = (resL bx env H l).map (nth env j :: ·) := by
  show (match some (nth env j) with | some v => (match resL bx env H l with | some vs => some (v :: vs) | none => none) | none => none) = _
  cases resL bx env H l <;> rfl
def resB (b : Bool) (a : AV) (H : Heap) (n : Nat) (ag : Bool) : Option AV := resX [b] [a] H (0, some (n, ag))
@[go_sem] theorem resL_b (j n : Nat) (ag : Bool) (l : List (Nat × Option (Nat × Bool))) : resL bx env H ((j, some (n, ag)) :: l) = (resB (bx.getD j false) (nth env j) H n ag).bind fun v => (resL bx env H l).map (v :: ·) := by
  show (match resX bx env H (j, some (n, ag)) with | some v => (match resL bx env H l with | some vs => some (v :: vs) | none => none) | none => none) = _
  rw [show resX bx env H (j, some (n, ag)) = resB (bx.getD j false) (nth env j) H n ag from rfl]
  cases resB (bx.getD j false) (nth env j) H n ag with
  | none => rfl
  | some v => cases resL bx env H l <;> rfl
@[go_sem] theorem resB_agg (cs : List AV) (n : Nat) : resB true (.agg cs) H n true = if n ≤ cs.length then some (.agg (cs.take n)) else none := rfl
end
@[go_sem] theorem packed_one (v : AV) : packed [v] = v := rfl
@[go_sem] theorem packed_two (v w : AV) (l : List AV) : packed (v :: w :: l) = .tup (v :: w :: l) := rfl

theorem pu_of {tbl : Nat → Option AFunc} {f : Nat} {x : XF} (hf : tbl f = some (flatF x)) (hw : wfF x = true) {args : List AV} (hl : args.length = x.np) (hk : x.keep = false) {P : AV → Prop}
    (hq : wpc tbl x.body (args ++ List.replicate (x.ms.length - x.np) .und) [] [] (retP x.bx x.res P)) : PuR tbl f args P := by
  unfold PuR
  rw [← hk]
  refine fn_of_wp hf hw hl (wpc_mono _ hq fun r hr => ?_)
  have key : ∀ env H, opt (resL x.bx env H x.res) (fun vs => P (packed vs)) → ∀ O, wRet x [] [] (fun r _ _ => P r) env H O := by
    intro env H h O
    exact opt_mono h fun vs h => ⟨[], [], nofun, List.nodup_nil, nofun, List.nodup_nil, h⟩
  cases r with
  | norm env H O => exact key env H hr O
  | ret env H O => exact key env H hr O
  | exit i env H O => exact hr.elim

/-! ### Slices -/

def IsSl (e : Nat) (v : AV) (es : List AV) : Prop := ((((v = .nils ∨ v = .sl0) ∧ es = []) ∨ ∃ id pos cap fl alt, v = .sl id e pos cap fl alt es ∧ es.length ≤ cap)) ∧ es.length ≤ 281474976710656

theorem IsSl.len {e : Nat} {v : AV} {es : List AV} (h : IsSl e v es) : avLen false v = some (.int .i64 es.length) := by
  obtain ⟨⟨rfl | rfl, rfl⟩ | ⟨id, pos, cap, fl, alt, rfl, -⟩, -⟩ := h <;> rfl
theorem IsSl.le {e : Nat} {v : AV} {es : List AV} (h : IsSl e v es) : es.length ≤ 281474976710656 := h.2

theorem isSl_nils (e : Nat) : IsSl e .nils [] := ⟨.inl ⟨.inl rfl, rfl⟩, by simp⟩

theorem IsSl.iaddr {e : Nat} {v : AV} {es : List AV} (h : IsSl e v es) {k : IntKind} {n : Int} (h0 : 0 ≤ n) (h1 : n < es.length) (hk : (es[n.toNat]'(by omega)).known = true) : pureV (.iaddr e hh hh) [v, .int k n] = some (.eptr (es[n.toNat]'(by omega)).cells) := by
  obtain ⟨⟨-, rfl⟩ | ⟨id, pos, cap, fl, alt, rfl, -⟩, -⟩ := h
  · simp at h1; omega
  · show (opIaddr e (.c (.sl id e pos cap fl alt es)) (.c (.int k n)) noCall .nil ⟨0, [], []⟩).val = _
    unfold opIaddr
    have hd : es.drop n.toNat = es[n.toNat]'(by omega) :: es.drop (n.toNat + 1) := List.drop_eq_getElem_cons (by omega)
    show (match Nat.beq e e && decide (0 ≤ n) with | true => (match es.drop n.toNat with | [] => OR.fail | v :: _ => Bool.rec .fail (.ok (.eptr v.cells) ⟨0, [], []⟩) v.known) | false => .fail).val = _
    rw [beq_true rfl, decide_eq_true h0, hd]
    show (Bool.rec OR.fail (.ok (.eptr (es[n.toNat]'(by omega)).cells) ⟨0, [], []⟩) (es[n.toNat]'(by omega)).known : OR).val = _
    rw [hk]
    rfl

/-- an element of one cell; of several -/
theorem IsSl.ix1 {v : AV} {es : List AV} (h : IsSl 1 v es) {k : IntKind} {n : Int} (h0 : 0 ≤ n) (h1 : n < es.length) (hc : (es[n.toNat]'(by omega)).isCell = true) (H : Heap) (Q : AV → Prop) : ixv (.ld1 hh) 1 v (.int k n) H Q = Q (es[n.toNat]'(by omega)) := by
  unfold ixv
  have hk : (es[n.toNat]'(by omega)).known = true := by
    revert hc; cases es[n.toNat]'(by omega) <;> intro hc <;> first | rfl | cases hc
  rw [h.iaddr h0 h1 hk, opt_some, show hread H (.eptr (es[n.toNat]'(by omega)).cells) = some (es[n.toNat]'(by omega)).cells from rfl, opt_some, AV.cells_of_isCell hc]
  rfl

theorem IsSl.ixA {e : Nat} {v : AV} {es : List AV} (h : IsSl e v es) {k : IntKind} {n : Int} (h0 : 0 ≤ n) (h1 : n < es.length) {cs : List AV} (hc : es[n.toNat]'(by omega) = .agg cs) (hl : cs.length = e) (H : Heap) (Q : AV → Prop) : ixv (.ldA e hh) e v (.int k n) H Q = Q (.agg cs) := by
  unfold ixv
  rw [h.iaddr h0 h1 (by rw [hc]; rfl), opt_some, hc]
  show opt (some cs) _ = _
  rw [opt_some]
  show opt (if e ≤ cs.length then some (.agg (cs.take e)) else none) Q = _
  rw [if_pos (by omega), opt_some, List.take_of_length_le (by omega)]


/-! ### Plain rules -/

attribute [go_sem] List.length_cons List.length_nil List.cons_append List.nil_append List.replicate_succ List.replicate_zero Option.map_some Option.map_none Option.bind_some List.headD_cons List.map_cons List.map_nil List.getD_cons_zero List.getD_cons_succ
  List.drop_zero List.drop_succ_cons List.take_zero List.take_succ_cons List.head?_cons decide_eq_true_eq decide_eq_false_iff_not List.tail_cons Int.cast_ofNat_Int Int.ofNat_eq_natCast Bool.not_eq_true Bool.not_eq_false

def andI (k : IntKind) (a b : Int) : Int := k.wrap (BitVec.ofInt k.bits a &&& BitVec.ofInt k.bits b).toNat
def orI (k : IntKind) (a b : Int) : Int := k.wrap (BitVec.ofInt k.bits a ||| BitVec.ofInt k.bits b).toNat
def xorI (k : IntKind) (a b : Int) : Int := k.wrap (BitVec.ofInt k.bits a ^^^ BitVec.ofInt k.bits b).toNat
def shlI (k : IntKind) (a b : Int) : Int := k.wrap (a * 2 ^ min b.toNat k.bits)
def shrI (k : IntKind) (a b : Int) : Int := a.fdiv (2 ^ min b.toNat k.bits)
section
variable (k : IntKind) (a b : Int) (s t : List UInt8)
@[go_sem] theorem av_add : avBin .add (.int k a) (.int k b) = some (.int k (k.wrap (a + b))) := by simp [avBin, isShift, binInt]
@[go_sem] theorem av_sub : avBin .sub (.int k a) (.int k b) = some (.int k (k.wrap (a - b))) := by simp [avBin, isShift, binInt]
@[go_sem] theorem av_mul : avBin .mul (.int k a) (.int k b) = some (.int k (k.wrap (a * b))) := by simp [avBin, isShift, binInt]
@[go_sem] theorem av_and : avBin .and (.int k a) (.int k b) = some (.int k (andI k a b)) := by simp [avBin, isShift, binInt, andI]
@[go_sem] theorem av_or : avBin .or (.int k a) (.int k b) = some (.int k (orI k a b)) := by simp [avBin, isShift, binInt, orI]
@[go_sem] theorem av_xor : avBin .xor (.int k a) (.int k b) = some (.int k (xorI k a b)) := by simp [avBin, isShift, binInt, xorI]
@[go_sem] theorem av_rem : avBin .rem (.int k a) (.int k b) = if b = 0 then none else some (.int k (a.tmod b)) := by simp [avBin, isShift, binInt]
@[go_sem] theorem av_quo : avBin .quo (.int k a) (.int k b) = if b = 0 then none else some (.int k (k.wrap (a.tdiv b))) := by simp [avBin, isShift, binInt]
@[go_sem] theorem av_eql : avBin .eql (.int k a) (.int k b) = some (.bool (decide (a = b))) := by simp [avBin, isShift, binInt]; rfl
@[go_sem] theorem av_neq : avBin .neq (.int k a) (.int k b) = some (.bool (decide (a ≠ b))) := by simp [avBin, isShift, binInt]; rfl
@[go_sem] theorem av_lss : avBin .lss (.int k a) (.int k b) = some (.bool (decide (a < b))) := by simp [avBin, isShift, binInt]
@[go_sem] theorem av_leq : avBin .leq (.int k a) (.int k b) = some (.bool (decide (a ≤ b))) := by simp [avBin, isShift, binInt]
@[go_sem] theorem av_gtr : avBin .gtr (.int k a) (.int k b) = some (.bool (decide (b < a))) := by simp [avBin, isShift, binInt]
@[go_sem] theorem av_geq : avBin .geq (.int k a) (.int k b) = some (.bool (decide (b ≤ a))) := by simp [avBin, isShift, binInt]
@[go_sem] theorem av_seql : avBin .eql (.str s) (.str t) = some (.bool (decide (s = t))) := by simp [avBin, binStr]; by_cases h : s = t <;> simp [h]
@[go_sem] theorem av_sneq : avBin .neq (.str s) (.str t) = some (.bool (decide (s ≠ t))) := by simp [avBin, binStr]; by_cases h : s = t <;> simp [h]
theorem av_sadd (h : s.length + t.length ≤ 9223372036854775807) : avBin .add (.str s) (.str t) = some (.str (s ++ t)) := by
  simp only [avBin, binStr]
  rw [if_pos (by omega)]
@[go_sem] theorem av_shl (k' : IntKind) : avBin .shl (.int k a) (.int k' b) = if b < 0 then none else some (.int k (shlI k a b)) := by simp [avBin, isShift, shInt, shlI]
@[go_sem] theorem av_shr (k' : IntKind) : avBin .shr (.int k a) (.int k' b) = if b < 0 then none else some (.int k (shrI k a b)) := by simp [avBin, isShift, shInt, shrI]
@[go_sem] theorem av_not (b : Bool) : avUn .not (.bool b) = some (.bool !b) := rfl
@[go_sem] theorem av_neg : avUn .neg (.int k a) = some (.int k (k.wrap (0 - a))) := rfl
@[go_sem] theorem av_cvi (k' : IntKind) : avCv (.int k) (.int k' a) = some (.int k (k.wrap a)) := rfl
@[go_sem] theorem av_cvs : avCv .str (.str s) = some (.str s) := rfl
end

theorem wrap_i64 {n : Int} (h : -9223372036854775808 ≤ n) (h' : n < 9223372036854775808) : IntKind.i64.wrap n = n := by
  simp only [IntKind.wrap, IntKind.bits, IntKind.signed, Bool.true_and, decide_eq_true_eq, ge_iff_le]
  simp
  omega
theorem wrap_u32 {n : Int} (h : 0 ≤ n) (h' : n < 4294967296) : IntKind.u32.wrap n = n := by
  simp only [IntKind.wrap, IntKind.bits, IntKind.signed, Bool.false_and]
  simp
  omega

end

end M2
end
section
namespace M2
open Go Go.ChangeShapes Go.WideShapes Go.ChangeAt Go.RowKit

/-! ### What arguments are, by their types' shapes -/

inductive Ty where
  | bool | int (k : IntKind) | str
  | sl (b : Nat) (e : Ty)
  | nil | cons (f fs : Ty)

def Ty.size : Ty → Nat
  | .nil => 0
  | .cons f fs => f.size + fs.size
  | _ => 1
def Ty.ag : Ty → Bool
  | .nil | .cons _ _ => true
  | _ => false

def TyR : Ty → List AV → Prop
  | .bool, axs => ∃ b, axs = [.bool b]
  | .int k, axs => ∃ v, k.min ≤ v ∧ v ≤ k.max ∧ axs = [.int k v]
  | .str, axs => ∃ s : List UInt8, s.length ≤ 140737488351232 ∧ axs = [.str s]
  | .sl b e, axs => ∃ v es, axs = [v] ∧ IsSl e.size v es ∧ es.length * b ≤ 140737488351232 ∧ ∀ x ∈ es, ∃ cs, cs.length = e.size ∧ TyR e cs ∧ x = elemA e.ag cs
  | .nil, axs => axs = []
  | .cons f fs, axs => ∃ xs ys, axs = xs ++ ys ∧ xs.length = f.size ∧ TyR f xs ∧ TyR fs ys

/-- a type's shape -/
def tyFs (P : Program) (ty : TypeId → Option Ty) : List Field → Nat → Option Ty
  | [], _ => some .nil
  | f :: fs, off =>
    match ty f.type, tyFs P ty fs (off + P.cellsOf f.type) with
    | some a, some b => if f.offset = off ∧ a.size = P.cellsOf f.type then some (.cons a b) else none
    | _, _ => none
def tyOf (P : Program) : Nat → TypeId → Option Ty
  | 0, _ => none
  | n + 1, t =>
    match P.underlying t with
    | some .bool => some .bool
    | some (.int k) => some (.int k)
    | some .string => some .str
    | some (.slice e) =>
      match tyOf P n e with
      | some a => if 1 ≤ P.bytesOf e ∧ a.size = P.cellsOf e ∧ a.ag = isAg P e then some (.sl (P.bytesOf e) a) else none
      | none => none
    | some (.struct fs) => tyFs P (tyOf P n) fs.toList 0
    | _ => none

section
variable {H : Type} {P : Program}

theorem weights_all_mem {e : TypeId} : ∀ {l : List (DataW H)} {d : DataW H}, d ∈ l → ∀ n ∈ d.weights P e, n ∈ DataW.weightsAll P e l
  | x :: l, d, hd, n, hn => by
    simp only [DataW.weightsAll, List.mem_append]
    cases hd with
    | head => exact .inl hn
    | tail _ h => exact .inr (weights_all_mem h n hn)

theorem tyFs_R (ty : TypeId → Option Ty) (D : TypeId → DataW H → List AV → Prop) (W : DataW H → TypeId → Prop) (hD : ∀ t a d axs, ty t = some a → D t d axs → W d t → axs.length = a.size → TyR a axs) :
    ∀ (l : List Field) (off : Nat) (s : Ty) (ps : List (DataW H)) (axs : List AV), tyFs P ty l off = some s → ps.length = l.length → axs.length = off + s.size →
      (∀ i (h : i < l.length) (h' : i < ps.length), D l[i].type ps[i] ((axs.drop l[i].offset).take (P.cellsOf l[i].type)) ∧ W ps[i] l[i].type) → TyR s (axs.drop off) := by
  intro l
  induction l with
  | nil =>
    intro off s ps axs h hp ha _
    cases h
    show axs.drop off = []
    exact List.drop_of_length_le (by simp [Ty.size] at ha; omega)
  | cons f l ih =>
    intro off s ps axs h hp ha hi
    simp only [tyFs] at h
    cases h1 : ty f.type with
    | none => rw [h1] at h; cases h
    | some a =>
      cases h2 : tyFs P ty l (off + P.cellsOf f.type) with
      | none => rw [h1, h2] at h; cases h
      | some b =>
        rw [h1, h2] at h
        simp only at h
        split at h
        · rename_i hh
          cases h
          obtain ⟨ho, hs⟩ := hh
          cases ps with
          | nil => cases hp
          | cons p ps =>
            have h0 := hi 0 (by simp) (by simp)
            simp only [List.getElem_cons_zero] at h0
            simp only [Ty.size] at ha
            have hlen : ((axs.drop f.offset).take (P.cellsOf f.type)).length = a.size := by
              rw [List.length_take, List.length_drop]; omega
            refine ⟨(axs.drop f.offset).take (P.cellsOf f.type), axs.drop (off + P.cellsOf f.type), ?_, hlen, hD _ _ _ _ h1 h0.1 h0.2 hlen, ?_⟩
            · rw [ho, ← List.drop_drop, List.take_append_drop]
            · refine ih (off + P.cellsOf f.type) b ps axs h2 (by simpa using hp) (by omega) fun i h h' => ?_
              exact hi (i + 1) (Nat.succ_lt_succ h) (Nat.succ_lt_succ h')
        · cases h

theorem DA_R : ∀ (n : Nat) (t : TypeId) (d : DataW H) (axs : List AV) (s : Ty), DA P n t d axs → (∀ w ∈ d.weights P t, w ≤ reachBytes) → tyOf P n t = some s → axs.length = s.size → TyR s axs := by
  have hrb : reachBytes ≤ 140737488351232 := by decide
  intro n
  induction n with
  | zero => intro t d axs s h; exact h.elim
  | succ n ih =>
    intro t d axs s h hw hs hl
    unfold DA at h
    unfold tyOf at hs
    split at h
    · rename_i hu
      rw [hu] at hs; cases hs
      obtain ⟨b, rfl, rfl⟩ := h
      exact ⟨b, rfl⟩
    · rename_i k hu
      rw [hu] at hs; cases hs
      obtain ⟨v, rfl, hwf, rfl⟩ := h
      simp only [Lit.wf, Bool.and_eq_true, decide_eq_true_eq] at hwf
      exact ⟨v, hwf.1, hwf.2, rfl⟩
    · rename_i hu
      rw [hu] at hs; cases hs
      obtain ⟨b, rfl, hb, rfl⟩ := h
      exact ⟨b, Nat.le_trans (hw b.length (by simp [DataW.weights])) hrb, rfl⟩
    · rename_i e hu
      rw [hu] at hs
      simp only at hs
      cases he : tyOf P n e with
      | none => rw [he] at hs; cases hs
      | some a =>
        rw [he] at hs
        simp only at hs
        split at hs
        · rename_i hh
          cases hs
          obtain ⟨h1, h2, h3⟩ := hh
          rcases h with ⟨rfl, rfl⟩ | ⟨elems, spare, es, rfl, hlen, hmax, hel, hcase⟩
          · exact ⟨.nils, [], rfl, isSl_nils _, by simp, fun x hx => nomatch hx⟩
          · have hsz : (elems.length + spare.length) * P.bytesOf e ≤ reachBytes := hw _ (by simp [DataW.weights, hu])
            have hle : elems.length + spare.length ≤ (elems.length + spare.length) * P.bytesOf e := Nat.le_mul_of_pos_right _ h1
            have hmul : es.length * P.bytesOf e ≤ (elems.length + spare.length) * P.bytesOf e := Nat.mul_le_mul_right _ (by omega)
            have hes : ∀ x ∈ es, ∃ cs, cs.length = a.size ∧ TyR a cs ∧ x = elemA a.ag cs := by
              intro x hx
              obtain ⟨i, hi, rfl⟩ := List.getElem_of_mem hx
              obtain ⟨cs, c1, c2, c3⟩ := hel i (by omega) hi
              refine ⟨cs, by omega, ih e _ cs a c2 (fun w hwm => hw w ?_) he (by omega), by rw [h3]; exact c3⟩
              simp only [DataW.weights, hu, List.mem_cons, List.mem_append]
              exact .inr (.inl (weights_all_mem (List.getElem_mem _) w hwm))
            rcases hcase with ⟨h0, rfl⟩ | ⟨id, pos, rfl⟩
            · have : es = [] := List.length_eq_zero_iff.mp (by omega)
              subst this
              exact ⟨.sl0, [], rfl, ⟨.inl ⟨.inr rfl, rfl⟩, by simp⟩, by simp, hes⟩
            · exact ⟨_, es, rfl, ⟨.inr ⟨id, pos, _, false, 0, by rw [h2], by omega⟩, by omega⟩, by omega, hes⟩
        · cases hs
    · rename_i fs hu
      rw [hu] at hs
      simp only at hs
      obtain ⟨ps, rfl, hp, hlen, hi⟩ := h
      have := tyFs_R (P := P) (tyOf P n) (fun t d axs => DA P n t d axs) (fun d t => ∀ w ∈ d.weights P t, w ≤ reachBytes) (fun t a d axs h1 h2 h3 h4 => ih t d axs a h2 h3 h1 h4) fs.toList 0 s ps axs hs (by simpa using hp) (by omega) (fun i h h' => by
        refine ⟨hi i (by simpa using h) h', fun w hwm => hw w ?_⟩
        simp only [DataW.weights, hu]
        exact DataW.weights_mem_each (j := i) (by simp [List.getElem?_eq_getElem (show i < fs.toList.length from h)]) (List.getElem?_eq_getElem h') w hwm)
      simpa using this
    · exact h.elim

end

/-- a law's call, by what it comes to at every argument of its type -/
theorem law_ty {P : Program} {M : Maps} {im : FuncId → Option Nat} {tbl : Nat → Option AFunc} (hmix : P.follows .mixedOrders = true) (him : ∀ f x, im f = some x → M.fm x = f) (ht : Table P M im tbl)
    {H : Type} {enc : TypeId × Value → H} {W : World} {base id tf : Nat} {t : TypeId} {fs : Array Field} (hu : P.underlying t = some (.struct fs)) (ha : argT P tf t = true) {ty : Ty} (hty : tyOf P tf t = some ty) (hsz : P.cellsOf t = ty.size) {v : Value} {d : DataW H} {p : List MemPlace}
    (hw : ∀ w ∈ d.weights P t, w ≤ reachBytes)
    (hval : Value.okWide P W .any base t v) (htr : DataW.Trod enc P W 0 (fun _ => true) true t v d p)
    (hrun : ∀ axs, axs.length = ty.size → TyR ty axs → PuR tbl id [.agg axs] (· = .bool true)) :
    Calls P (M.fm id) #[v] W fun e W' => e = .returned (.bool true) ∧ Below W.heap.size W W' := by
  refine law_fn hmix him ht hu ha hval htr fun axs h => ?_
  have hl : axs.length = ty.size := by
    cases tf with
    | zero => exact h.elim
    | succ n =>
      have h' := h
      unfold DA at h'
      rw [hu] at h'
      simp only at h'
      obtain ⟨ps, _, _, hlen, _⟩ := h'
      omega
  exact hrun axs hl (DA_R tf t d axs ty h hw hty hl)

end M2
end
section
namespace M2
open Go Ieee

/-! ### Small whole numbers as floats: exact -/

theorem log2_mul (v p : Nat) (hv : v ≠ 0) : (v * 2 ^ p).log2 = v.log2 + p := by
  have h1 : v * 2 ^ p ≠ 0 := Nat.mul_ne_zero hv (by have := Nat.two_pow_pos p; omega)
  rw [Nat.log2_eq_iff h1]
  have h2 := (Nat.log2_eq_iff hv).mp rfl
  have hp := Nat.two_pow_pos p
  constructor
  · rw [Nat.pow_add]; exact Nat.mul_le_mul_right _ h2.1
  · rw [show v.log2 + p + 1 = (v.log2 + 1) + p by omega, Nat.pow_add]
    exact Nat.mul_lt_mul_of_pos_right h2.2 hp

theorem cut_exact (way : Toward) (neg : Bool) (v p : Nat) : way.cut neg (v * 2 ^ p) p = v := by
  unfold Toward.cut
  simp only
  by_cases hv : v = 0
  · subst hv
    rw [Nat.zero_mul, Nat.zero_div, Nat.zero_mod]
    have : 1 <<< min p (Nat.log2 0 + 2) ≠ 0 := by
      rw [Nat.shiftLeft_eq, Nat.one_mul]; have := Nat.two_pow_pos (min p (Nat.log2 0 + 2)); omega
    cases way <;> simp [this]
  · rw [log2_mul v p hv, show min p (v.log2 + p + 2) = p by omega, Nat.shiftLeft_eq, Nat.one_mul]
    have hp := Nat.two_pow_pos p
    rw [Nat.mul_div_cancel _ hp, Nat.mul_mod_left]
    have : (2 : Nat) ^ p ≠ 0 := by omega
    cases way <;> simp [this]

theorem read_small (neg : Bool) (e K : Nat) (h1 : 2 ^ 52 ≤ K) (h2 : K < 2 ^ 53) (he : e ≤ 1074) : double.read (double.word neg (e * 2 ^ 52 + K)) = .number neg K (-1074 + (e : Int)) := by
  have hb : double.binade = 2 ^ 52 := rfl
  have hs : double.signWeight = 2 ^ 63 := rfl
  have hi : double.infRung = 2047 * 2 ^ 52 := rfl
  have hl : double.leastPlace = -1074 := by decide
  have hr : e * 2 ^ 52 + K < 2 ^ 63 := by omega
  have hneg : (double.word neg (e * 2 ^ 52 + K) / double.signWeight % 2 == 1) = neg := by
    unfold Format.word
    rw [hs]
    cases neg with
    | false => simp only [Bool.false_eq_true, if_false]; rw [Nat.div_eq_of_lt hr]; rfl
    | true => simp only [if_true]; rw [Nat.add_comm, Nat.add_div_right _ (by decide), Nat.div_eq_of_lt hr]; rfl
  have hrung : double.word neg (e * 2 ^ 52 + K) % double.signWeight = e * 2 ^ 52 + K := by
    unfold Format.word
    rw [hs]
    cases neg with
    | false => simp only [Bool.false_eq_true, if_false]; exact Nat.mod_eq_of_lt hr
    | true => simp only [if_true]; rw [Nat.add_mod_left]; exact Nat.mod_eq_of_lt hr
  unfold Format.read
  simp only
  rw [hneg, hrung, hb, hi, hl, if_neg (by omega), if_pos (by omega)]
  have hd : (e * 2 ^ 52 + K) / 2 ^ 52 = e + 1 := by omega
  have hm : (e * 2 ^ 52 + K) % 2 ^ 52 = K - 2 ^ 52 := by omega
  rw [hd, hm, show 2 ^ 52 + (K - 2 ^ 52) = K by omega, show e + 1 - 1 = e by omega]

/-- b is the whole number n -/
def FRep (b : Nat) (n : Int) : Prop := ∃ (s : Bool) (p : Nat), double.read b = .number s (n.natAbs * 2 ^ p) (-(p : Int)) ∧ (n < 0 → s = true) ∧ (0 < n → s = false)

theorem nearest_rep (neg : Bool) (v p : Nat) (hv : v < 2 ^ 53) : ∃ q : Nat, double.read (double.nearest neg (v * 2 ^ p) (-(p : Int))) = .number neg (v * 2 ^ q) (-(q : Int)) := by
  unfold Format.nearest
  by_cases h0 : v = 0
  · subst h0
    obtain ⟨q, hq⟩ : ∃ q : Nat, q = 1074 := ⟨_, rfl⟩
    refine ⟨q, ?_⟩
    rw [Nat.zero_mul, if_pos rfl, Nat.zero_mul, hq]
    cases neg <;> rfl
  · have hp := Nat.two_pow_pos p
    have hne : v * 2 ^ p ≠ 0 := Nat.mul_ne_zero h0 (by omega)
    have hL : v.log2 ≤ 52 := by
      have := (Nat.log2_eq_iff h0).mp rfl
      apply Nat.le_of_not_lt
      intro h
      have : 2 ^ 53 ≤ 2 ^ v.log2 := Nat.pow_le_pow_right (by decide) h
      omega
    have hl : double.leastPlace = -1074 := by decide
    have hf : double.fractionBits = 52 := rfl
    rw [if_neg hne, log2_mul v p h0]
    simp only
    rw [hl, hf]
    have hlast : max (-(p : Int) + ((v.log2 + p : Nat) : Int) - (52 : Nat)) (-1074) = -((52 - v.log2 : Nat) : Int) := by omega
    rw [hlast]
    refine ⟨52 - v.log2, ?_⟩
    generalize hq : 52 - v.log2 = q
    have hkept : Toward.even.cut neg ((v * 2 ^ p) <<< (-(p : Int) - -(q : Int)).toNat) (-(q : Int) - -(p : Int)).toNat = v * 2 ^ q := by
      rw [Nat.shiftLeft_eq]
      by_cases hpq : p ≤ q
      · have h1 : (-(p : Int) - -(q : Int)).toNat = q - p := by omega
        have h2 : (-(q : Int) - -(p : Int)).toNat = 0 := by omega
        rw [h1, h2, Nat.mul_assoc, ← Nat.pow_add, show p + (q - p) = q by omega]
        have := cut_exact .even neg (v * 2 ^ q) 0
        simpa using this
      · have h1 : (-(p : Int) - -(q : Int)).toNat = 0 := by omega
        have h2 : (-(q : Int) - -(p : Int)).toNat = p - q := by omega
        rw [h1, h2, Nat.pow_zero, Nat.mul_one, show v * 2 ^ p = (v * 2 ^ q) * 2 ^ (p - q) by rw [Nat.mul_assoc, ← Nat.pow_add, show q + (p - q) = p by omega]]
        exact cut_exact _ _ _ _
    rw [hkept]
    have hb : double.binade = 2 ^ 52 := rfl
    have hi : double.infRung = 2047 * 2 ^ 52 := rfl
    have he : (-(q : Int) - -1074).toNat = 1074 - q := by omega
    rw [hb, hi, he]
    have hv2 := (Nat.log2_eq_iff h0).mp rfl
    have hK1 : 2 ^ 52 ≤ v * 2 ^ q := by
      calc 2 ^ 52 = 2 ^ v.log2 * 2 ^ q := by rw [← Nat.pow_add]; congr 1; omega
        _ ≤ v * 2 ^ q := Nat.mul_le_mul_right _ hv2.1
    have hK2 : v * 2 ^ q < 2 ^ 53 := by
      calc v * 2 ^ q < 2 ^ (v.log2 + 1) * 2 ^ q := Nat.mul_lt_mul_of_pos_right hv2.2 (Nat.two_pow_pos q)
        _ = 2 ^ 53 := by rw [← Nat.pow_add]; congr 1; omega
    rw [Nat.min_eq_left (by omega), read_small neg (1074 - q) (v * 2 ^ q) hK1 hK2 (by omega)]
    congr 1
    omega

theorem frep_nearest {n : Int} (h : n.natAbs < 2 ^ 53) : FRep (FloatKind.f64.nearest n) n := by
  obtain ⟨q, hq⟩ := nearest_rep (decide (n < 0)) n.natAbs 0 h
  refine ⟨decide (n < 0), q, ?_, fun h => by simpa using h, fun h => by simp; omega⟩
  rw [← hq]
  show double.read (double.nearest (n < 0) n.natAbs 0) = _
  simp

theorem signed_eq {s : Bool} {n : Int} {p u : Nat} (h1 : n < 0 → s = true) (h2 : 0 < n → s = false) : signed s (n.natAbs * 2 ^ p) u = n * 2 ^ (p + u) := by
  unfold signed
  rw [Nat.shiftLeft_eq, Nat.mul_assoc, ← Nat.pow_add]
  have hc : ((2 ^ (p + u) : Nat) : Int) = (2 : Int) ^ (p + u) := by simp
  rcases Int.lt_trichotomy n 0 with h | h | h
  · rw [h1 h, if_pos rfl, Int.natCast_mul, hc, ← Int.neg_mul]; congr 1; omega
  · subst h; simp
  · rw [h2 h, if_neg (by simp), Int.natCast_mul, hc]; congr 1; omega

theorem frep_sum {x y : Datum} {a b : Int} (hx : ∃ (s : Bool) (p : Nat), x = .number s (a.natAbs * 2 ^ p) (-(p : Int)) ∧ (a < 0 → s = true) ∧ (0 < a → s = false)) (hy : ∃ (s : Bool) (p : Nat), y = .number s (b.natAbs * 2 ^ p) (-(p : Int)) ∧ (b < 0 → s = true) ∧ (0 < b → s = false)) (h : (a + b).natAbs < 2 ^ 53) :
    ∃ c, (x.sum y).map double.write = some c ∧ FRep c (a + b) := by
  obtain ⟨s, p, rfl, h1, h2⟩ := hx
  obtain ⟨t, q, rfl, h3, h4⟩ := hy
  simp only [Datum.sum, Option.map_some]
  refine ⟨_, rfl, ?_⟩
  have hbase : min (-(p : Int)) (-(q : Int)) = -((max p q : Nat) : Int) := by omega
  rw [hbase]
  generalize hr : max p q = r
  have e1 : (-(p : Int) - -(r : Int)).toNat = r - p := by omega
  have e2 : (-(q : Int) - -(r : Int)).toNat = r - q := by omega
  rw [e1, e2, signed_eq h1 h2, signed_eq h3 h4, show p + (r - p) = r by omega, show q + (r - q) = r by omega, ← Int.add_mul]
  have hr0 : (0 : Int) < 2 ^ r := by have := Nat.two_pow_pos r; have h : ((2 ^ r : Nat) : Int) = (2 : Int) ^ r := by simp
                                     omega
  have habs : ((a + b) * 2 ^ r).natAbs = (a + b).natAbs * 2 ^ r := by rw [Int.natAbs_mul, Int.natAbs_pow]; rfl
  rw [habs]
  generalize hsg : (if (a + b) * 2 ^ r = 0 then s && t else decide ((a + b) * 2 ^ r < 0)) = sg
  obtain ⟨k, hk⟩ := nearest_rep sg (a + b).natAbs r h
  refine ⟨sg, k, hk, fun hlt => ?_, fun hlt => ?_⟩
  · have : (a + b) * 2 ^ r < 0 := Int.mul_neg_of_neg_of_pos hlt hr0
    rw [← hsg, if_neg (by omega)]; simpa using this
  · have : 0 < (a + b) * 2 ^ r := Int.mul_pos hlt hr0
    rw [← hsg, if_neg (by omega)]; simp; omega

theorem frep_add {a b : Nat} {x y : Int} (ha : FRep a x) (hb : FRep b y) (h : (x + y).natAbs < 2 ^ 53) : ∃ c, fltOp .add a b = some c ∧ FRep c (x + y) := frep_sum ha hb h

theorem frep_sub {a b : Nat} {x y : Int} (ha : FRep a x) (hb : FRep b y) (h : (x - y).natAbs < 2 ^ 53) : ∃ c, fltOp .sub a b = some c ∧ FRep c (x - y) := by
  have hy : ∃ (s : Bool) (p : Nat), (double.read b).opposite = .number s ((-y).natAbs * 2 ^ p) (-(p : Int)) ∧ (-y < 0 → s = true) ∧ (0 < -y → s = false) := by
    obtain ⟨s, p, h1, h2, h3⟩ := hb
    refine ⟨!s, p, ?_, fun h => ?_, fun h => ?_⟩
    · rw [h1, Int.natAbs_neg]; rfl
    · rw [h3 (by omega)]; rfl
    · rw [h2 (by omega)]; rfl
  exact frep_sum ha hy h

theorem frep_mul {a b : Nat} {x y : Int} (ha : FRep a x) (hb : FRep b y) (h : (x * y).natAbs < 2 ^ 53) : ∃ c, fltOp .mul a b = some c ∧ FRep c (x * y) := by
  obtain ⟨s, p, h1, h2, h3⟩ := ha
  obtain ⟨t, q, h4, h5, h6⟩ := hb
  show ∃ c, ((double.read a).product (double.read b)).map double.write = some c ∧ _
  rw [h1, h4]
  simp only [Datum.product, Option.map_some]
  refine ⟨_, rfl, ?_⟩
  have e1 : x.natAbs * 2 ^ p * (y.natAbs * 2 ^ q) = (x * y).natAbs * 2 ^ (p + q) := by
    rw [Int.natAbs_mul, Nat.pow_add]; ac_rfl
  have e2 : -(p : Int) + -(q : Int) = -((p + q : Nat) : Int) := by omega
  rw [e1, e2]
  obtain ⟨k, hk⟩ := nearest_rep (s ^^ t) (x * y).natAbs (p + q) h
  refine ⟨_, k, hk, fun hlt => ?_, fun hlt => ?_⟩
  · rcases Int.lt_trichotomy x 0 with hx | hx | hx
    · have hy : 0 < y := by
        apply Int.lt_of_not_ge
        intro hy
        have := Int.mul_nonneg_of_nonpos_of_nonpos (Int.le_of_lt hx) hy
        omega
      rw [h2 hx, h6 hy]; rfl
    · subst hx; simp at hlt
    · have hy : y < 0 := by
        apply Int.lt_of_not_ge
        intro hy
        have := Int.mul_nonneg (Int.le_of_lt hx) hy
        omega
      rw [h3 hx, h5 hy]; rfl
  · rcases Int.lt_trichotomy x 0 with hx | hx | hx
    · have hy : y < 0 := by
        apply Int.lt_of_not_ge
        intro hy
        have := Int.mul_nonpos_of_nonpos_of_nonneg (Int.le_of_lt hx) hy
        omega
      rw [h2 hx, h5 hy]; rfl
    · subst hx; simp at hlt
    · have hy : 0 < y := by
        apply Int.lt_of_not_ge
        intro hy
        have := Int.mul_nonpos_of_nonneg_of_nonpos (Int.le_of_lt hx) hy
        omega
      rw [h3 hx, h6 hy]; rfl

theorem frep_neg {a : Nat} {x : Int} (ha : FRep a x) : FRep (Op.negFloat .f64 a) (-x) := by
  obtain ⟨s, p, h1, h2, h3⟩ := ha
  refine ⟨!s, p, ?_, fun h => by rw [h3 (by omega)]; rfl, fun h => by rw [h2 (by omega)]; rfl⟩
  have key : double.read (a ^^^ 2 ^ 63) = (double.read a).opposite := by
    have hs : double.signWeight = 2 ^ 63 := rfl
    unfold Format.read
    simp only
    rw [hs]
    have e1 : (a ^^^ 2 ^ 63) % 2 ^ 63 = a % 2 ^ 63 := by rw [Nat.xor_mod_two_pow]; simp
    have e2 : (a ^^^ 2 ^ 63) / 2 ^ 63 = a / 2 ^ 63 ^^^ 1 := by rw [Nat.xor_div_two_pow]
    have e3 : ((a / 2 ^ 63 ^^^ 1) % 2 == 1) = !(a / 2 ^ 63 % 2 == 1) := by
      rw [show (2 : Nat) = 2 ^ 1 from rfl, Nat.xor_mod_two_pow]
      have : a / (2 ^ 1) ^ 63 % 2 ^ 1 = 0 ∨ a / (2 ^ 1) ^ 63 % 2 ^ 1 = 1 := by omega
      rcases this with h | h <;> rw [h] <;> rfl
    rw [e1, e2, e3]
    split
    · rfl
    · split
      · rfl
      · split <;> rfl
  show double.read (a ^^^ 2 ^ 63) = _
  rw [key, h1, Int.natAbs_neg]
  rfl

theorem frep_int {a : Nat} {x : Int} (ha : FRep a x) : (FloatKind.f64.decode a).toInt .zero = some x := by
  obtain ⟨s, p, h1, h2, h3⟩ := ha
  show (double.read a).toInt .zero = some x
  rw [h1]
  simp only [Datum.toInt, Datum.integral]
  have e1 : (-(p : Int)).toNat = 0 := by omega
  have e2 : (-(-(p : Int))).toNat = p := by omega
  rw [e1, e2, Nat.shiftLeft_zero, cut_exact]
  have := signed_eq (s := s) (n := x) (p := 0) (u := 0) h2 h3
  simpa using this

end M2
end
section
namespace M2
open Go
noncomputable section

attribute [go_sem] true_implies false_implies implies_true and_true true_and not_true_eq_false not_false_eq_true ne_eq Bool.false_eq_true Bool.true_eq_false

@[go_sem] theorem fillP2_cons (a : Nat) (o x : Opd) (ps : List (Nat × Opd)) (xs : List Opd) : fillP2 ((a, o) :: ps) (x :: xs) = (a, x) :: fillP2 ps xs := rfl
@[go_sem] theorem fillP2_nil (xs : List Opd) : fillP2 [] xs = [] := by cases xs <;> rfl
@[go_sem] theorem fillP3_cons (a b : Nat) (o x : Opd) (ps : List (Nat × Nat × Opd)) (xs : List Opd) : fillP3 ((a, b, o) :: ps) (x :: xs) = (a, b, x) :: fillP3 ps xs := rfl
@[go_sem] theorem fillP3_nil (xs : List Opd) : fillP3 [] xs = [] := by cases xs <;> rfl
@[go_sem] theorem fillS_nil (e : Nat) (cs : List AV) : fillS .nil e cs [] = some cs := rfl
@[go_sem] theorem fillS_cons (e i : Nat) (v : AV) (cs : List AV) (ps : List (Nat × Opd)) : fillS .nil e cs ((i, .c v) :: ps) = if v.known = true ∧ v.cells.length = e ∧ i < cs.length then fillS .nil e (cs.set i v) ps else none := by
  show (match v.known && Nat.beq v.cells.length e && Nat.blt i cs.length with | true => fillS .nil e (cs.set i v) ps | false => none) = _
  by_cases h : v.known = true ∧ v.cells.length = e ∧ i < cs.length
  · rw [if_pos h, h.1, beq_true h.2.1, show Nat.blt i cs.length = true from Nat.ble_eq_true_of_le h.2.2]; rfl
  · rw [if_neg h]
    split
    · rename_i hh
      simp only [Bool.and_eq_true] at hh
      exact absurd ⟨hh.1.1, Nat.eq_of_beq_eq_true hh.1.2, Nat.le_of_ble_eq_true hh.2⟩ h
    · rfl
@[go_sem] theorem known_int (k : IntKind) (n : Int) : (AV.int k n).known = true := rfl
@[go_sem] theorem known_str (s : List UInt8) : (AV.str s).known = true := rfl
@[go_sem] theorem known_agg (s : List AV) : (AV.agg s).known = true := rfl
@[go_sem] theorem known_bool (b : Bool) : (AV.bool b).known = true := rfl
@[go_sem] theorem cells_int (k : IntKind) (n : Int) : (AV.int k n).cells = [.int k n] := rfl
@[go_sem] theorem cells_str (s : List UInt8) : (AV.str s).cells = [.str s] := rfl
@[go_sem] theorem cells_agg (s : List AV) : (AV.agg s).cells = s := rfl
@[go_sem] theorem cells_bool (b : Bool) : (AV.bool b).cells = [.bool b] := rfl
@[go_sem] theorem lfv_agg (o : AOp) (off : Nat) (cs : List AV) (Q : AV → Prop) : lfv o off (.agg cs) Q = opt (lvV o (cs.drop off)) Q := rfl
@[go_sem] theorem lvV_ld1 (x : Opd) (cs : List AV) : lvV (.ld1 x) cs = cs.head? := rfl
@[go_sem] theorem lvV_ldA (n : Nat) (x : Opd) (cs : List AV) : lvV (.ldA n x) cs = if n ≤ cs.length then some (.agg (cs.take n)) else none := rfl
@[go_sem] theorem bst_agg (cs : List AV) (off n : Nat) (v : AV) : bst (.agg cs) off n v = if v.known = true ∧ v.cells.all AV.isCell = true ∧ v.cells.length = n ∧ off + n ≤ cs.length then some (.agg (putAt cs off v.cells)) else none := by
  unfold bst
  simp only
  by_cases h : v.known = true ∧ v.cells.all AV.isCell = true ∧ v.cells.length = n ∧ off + n ≤ cs.length
  · rw [if_pos h, h.1, h.2.1, beq_true h.2.2.1, Nat.ble_eq_true_of_le h.2.2.2]; rfl
  · rw [if_neg h]
    split
    · rename_i hh
      simp only [Bool.and_eq_true] at hh
      exact absurd ⟨hh.1.1.1, hh.1.1.2, Nat.eq_of_beq_eq_true hh.1.2, Nat.le_of_ble_eq_true hh.2⟩ h
    · rfl
@[go_sem] theorem isCell_int (k : IntKind) (n : Int) : (AV.int k n).isCell = true := rfl
@[go_sem] theorem isCell_str (s : List UInt8) : (AV.str s).isCell = true := rfl
@[go_sem] theorem isCell_bool (b : Bool) : (AV.bool b).isCell = true := rfl
attribute [go_sem] List.all_cons List.all_nil Bool.and_true Bool.true_and Bool.and_self if_true if_false

/-! ### Slices that may be appended to -/

def Ap (O : Rows) (e : Nat) (x : AV) (xs : List AV) : Prop :=
  ((((x = .nils ∨ x = .sl0) ∧ xs = []) ∨ (∃ id pos alt, x = .sl id e pos xs.length false alt xs) ∨ ∃ id pos alt, x = .sl id e pos xs.length true alt xs ∧ look id O = some (pos + xs.length * e, e))) ∧ xs.length ≤ 281474976710656

theorem Ap.sl {O : Rows} {e : Nat} {x : AV} {xs : List AV} (h : Ap O e x xs) : IsSl e x xs := by
  obtain ⟨h | ⟨id, pos, alt, rfl⟩ | ⟨id, pos, alt, rfl, -⟩, hl⟩ := h
  · exact ⟨.inl h, hl⟩
  · exact ⟨.inr ⟨_, _, _, _, _, rfl, Nat.le_refl _⟩, hl⟩
  · exact ⟨.inr ⟨_, _, _, _, _, rfl, Nat.le_refl _⟩, hl⟩

theorem ap_nils (O : Rows) (e : Nat) : Ap O e .nils [] := ⟨.inl ⟨.inl rfl, rfl⟩, by simp⟩
theorem ap_lit (O : Rows) (e id n : Nat) (xs : List AV) (h : n = xs.length) (hl : xs.length ≤ 281474976710656) : Ap O e (.sl id e 0 n false 0 xs) xs := ⟨.inr (.inl ⟨_, _, _, by rw [h]⟩), hl⟩

theorem appended_ok {e : Nat} {y : AV} {ys : List AV} (h : IsSl e y ys) (hk : ∀ v ∈ ys, v.known = true) : appended e y = some ys := by
  obtain ⟨⟨rfl | rfl, rfl⟩ | ⟨id, pos, cap, fl, alt, rfl, -⟩, -⟩ := h
  · rfl
  · rfl
  · show (if e = e ∧ ys.all AV.known = true then some ys else none) = _
    rw [if_pos ⟨rfl, List.all_eq_true.mpr hk⟩]

section
variable {H : Heap} {O : Rows} {Q : AV → Heap → Rows → Prop} {e b : Nat} {z x y : AV} {xs ys : List AV}

/-- what is known of the rows behind it: those of others stay -/
def OK1 (O O' : Rows) (x : AV) : Prop := ∀ id r, look id O = some r → (∀ e pos cap fl alt es, x ≠ .sl id e pos cap fl alt es) → look id O' = some r

theorem app_ok (ha : Ap O e x xs) (hy : IsSl e y ys) (hk : ∀ v ∈ ys, v.known = true ∧ v.cells.all AV.isCell = true) (hz : e ≤ z.cells.length) (hb : 2 * (xs.length + ys.length) * b ≤ 281474976710656) (hb1 : 1 ≤ b)
    (K : ∀ r O', Ap O' e r (xs ++ ys) → OK1 O O' x → Q r H O') : wApp e b z x y H O Q := by
  unfold wApp
  rw [appended_ok hy fun v hv => (hk v hv).1, opt_some]
  have hlen : xs.length + ys.length ≤ 281474976710656 := by
    have : xs.length + ys.length ≤ (xs.length + ys.length) * b := Nat.le_mul_of_pos_right _ hb1
    rw [Nat.mul_assoc] at hb; omega
  cases ys with
  | nil =>
    refine ⟨?_, K x O (by simpa using ha) fun _ _ h _ => h⟩
    obtain ⟨⟨rfl | rfl, -⟩ | ⟨id, pos, alt, rfl⟩ | ⟨id, pos, alt, rfl, -⟩, -⟩ := ha <;> rfl
  | cons y0 ys =>
    simp only
    have hz' : Nat.ble e z.cells.length = true := Nat.ble_eq_true_of_le hz
    obtain ⟨⟨h0, rfl⟩ | ⟨id, pos, alt, rfl⟩ | ⟨id, pos, alt, rfl, hlk⟩, -⟩ := ha
    · have hb' : Nat.ble (2 * (y0 :: ys).length * b) (2 ^ 48) = true := Nat.ble_eq_true_of_le (by simpa using hb)
      have hK : ∀ id, id ∉ ids O → Q (.sl id e 0 (y0 :: ys).length true 0 (y0 :: ys)) H ((id, (y0 :: ys).length * e, e) :: O) := by
        intro id hid
        refine K _ _ ⟨.inr (.inr ⟨id, 0, 0, rfl, ?_⟩), by simpa using hlen⟩ ?_
        · rw [look_cons, if_pos rfl, Nat.zero_add]; rfl
        · intro i r hi _
          rw [look_cons, if_neg]
          · exact hi
          · intro e0; simp only at e0; subst e0; exact hid (look_ids hi)
      rcases h0 with rfl | rfl
      · exact ⟨by rw [hb', hz']; rfl, hK⟩
      · exact ⟨by rw [hb', hz']; rfl, hK⟩
    · have hb' : Nat.ble (2 * (xs.length + (y0 :: ys).length) * b) (2 ^ 48) = true := Nat.ble_eq_true_of_le hb
      refine ⟨by rw [hb', hz', beq_true rfl, show Nat.blt xs.length (xs.length + (y0 :: ys).length) = true from Nat.ble_eq_true_of_le (by simp)]; rfl, fun id' hid' => ?_⟩
      refine K _ _ ⟨.inr (.inr ⟨id', 0, 0, by rw [List.length_append], ?_⟩), by simpa using hlen⟩ ?_
      · rw [look_cons, if_pos rfl, Nat.zero_add, List.length_append]
      · intro i r hi _
        rw [look_cons, if_neg]
        · exact hi
        · intro e0; simp only at e0; subst e0; exact hid' (look_ids hi)
    · have hb' : Nat.ble (2 * (xs.length + (y0 :: ys).length) * b) (2 ^ 48) = true := Nat.ble_eq_true_of_le hb
      refine ⟨by rw [hb', hz', beq_true rfl, show Nat.blt xs.length (xs.length + (y0 :: ys).length) = true from Nat.ble_eq_true_of_le (by simp)]; rfl, ?_⟩
      simp only
      rw [hlk, opt_some]
      refine ⟨?_, fun id' hid' => ?_⟩
      · rw [beq_true rfl, beq_true rfl, beq_true rfl]
        simp only [Bool.true_and]
        rw [List.all_eq_true]
        exact fun v hv => (hk v hv).2
      · refine K _ _ ⟨.inr (.inr ⟨id', 0, 0, by rw [List.length_append], ?_⟩), by simpa using hlen⟩ ?_
        · rw [look_cons, if_pos rfl, Nat.zero_add, List.length_append]
        · intro i r hi hne
          rw [look_cons, if_neg]
          · rw [look_del, if_neg]
            · exact hi
            · intro e1; subst e1; exact hne _ _ _ _ _ _ rfl
          · intro e0; simp only at e0; subst e0; exact hid' (look_ids hi)

/-- one more -/
theorem ap1_ok {v : AV} (ha : Ap O e x xs) (hk : v.known = true) (hl : v.cells.length = e) (hc : v.cells.all AV.isCell = true) (hz : e ≤ z.cells.length) (hb : 2 * (xs.length + 1) * b ≤ 281474976710656) (hb1 : 1 ≤ b)
    (K : ∀ r O', Ap O' e r (xs ++ [v]) → OK1 O O' x → Q r H O') (id : Nat) : wApp e b z x (.sl id e 0 1 false 0 [v]) H O Q :=
  app_ok ha (ys := [v]) ⟨.inr ⟨_, _, _, _, _, rfl, by simp⟩, by simp⟩ (fun w hw => by rw [List.mem_singleton.mp hw]; exact ⟨hk, hc⟩) hz hb hb1 K

end

/-! ### Parts of slices -/

section
variable {e : Nat} {v : AV} {es : List AV}

theorem bnd_in {k : IntKind} {n : Int} (dflt most : Nat) (h0 : 0 ≤ n) (h1 : n ≤ most) : bnd (some (.c (.int k n))) .nil dflt most = some n.toNat := by
  show (if 0 ≤ n ∧ n ≤ (most : Int) then some n.toNat else none) = _
  rw [if_pos ⟨h0, h1⟩]

theorem isSl_sub {r : AV} {fs : List AV} {id pos cap : Nat} {fl : Bool} {alt : Nat} (hr : r = .sl id e pos cap fl alt fs ∨ (r = .sl0 ∧ fs = [])) (hc : fs.length ≤ cap) (hl : fs.length ≤ 281474976710656) : IsSl e r fs := by
  rcases hr with rfl | ⟨rfl, rfl⟩
  · exact ⟨.inr ⟨_, _, _, _, _, rfl, hc⟩, hl⟩
  · exact ⟨.inl ⟨.inr rfl, rfl⟩, hl⟩

theorem IsSl.slice (h : IsSl e v es) {lo hi : Option Opd} {l u : Nat} (hu : ∀ most, es.length ≤ most → bnd hi .nil es.length (min most es.length) = some u) (hl : bnd lo .nil 0 u = some l) (hu2 : u ≤ es.length) (hl2 : l ≤ u) :
    ∃ r, opSlL e (.c v) lo hi none noCall .nil ⟨0, [], []⟩ = .ok r ⟨0, [], []⟩ ∧ IsSl e r ((es.take u).drop l) := by
  have hlen := h.2
  have hb : ((es.take u).drop l).length = u - l := by simp [List.length_drop, List.length_take]; omega
  obtain ⟨⟨h0, rfl⟩ | ⟨id, pos, cap, fl, alt, rfl, hcap⟩, -⟩ := h
  · have hu0 : u = 0 := by simpa using hu2
    subst hu0
    have hl0 : l = 0 := by omega
    subst hl0
    have hu' := hu 0 (by simp)
    simp only [List.length_nil, Nat.min_self] at hu'
    refine ⟨v, ?_, by simpa using ⟨.inl ⟨h0, rfl⟩, by simp⟩⟩
    rcases h0 with rfl | rfl
    · show (match bnd none .nil 0 0 with | some _ => (match bnd hi .nil 0 0 with | some _ => (match bnd lo .nil 0 0 with | some _ => OR.ok .nils ⟨0, [], []⟩ | none => .fail) | none => .fail) | none => .fail) = _
      rw [hu', hl]; rfl
    · show (match bnd none .nil 0 0 with | some _ => (match bnd hi .nil 0 0 with | some _ => (match bnd lo .nil 0 0 with | some _ => OR.ok .sl0 ⟨0, [], []⟩ | none => .fail) | none => .fail) | none => .fail) = _
      rw [hu', hl]; rfl
  · have hu' := hu cap hcap
    have hcl : ((es.take u).drop l).length ≤ cap - l := by omega
    show ∃ r, (match Nat.beq e e with
      | true => (match bnd none .nil cap cap with
        | some m => (match bnd hi .nil es.length (min m es.length) with
          | some h => (match bnd lo .nil 0 h with
            | some l => (match fl && (none : Option Opd).isNone with
              | true => OR.ok (.sl id e (pos + l * e) (m - l) true (if l = 0 then alt else pos) ((es.take h).drop l)) ⟨0, [], []⟩
              | false => if m = l then .ok .sl0 ⟨0, [], []⟩ else .ok (.sl id e (pos + l * e) (m - l) false 0 ((es.take h).drop l)) ⟨0, [], []⟩)
            | none => .fail)
          | none => .fail)
        | none => .fail)
      | false => .fail) = .ok r ⟨0, [], []⟩ ∧ IsSl e r ((es.take u).drop l)
    rw [beq_true rfl]
    simp only [show bnd none .nil cap cap = some cap from rfl, hu', hl]
    cases fl with
    | true => exact ⟨_, rfl, isSl_sub (.inl rfl) hcl (by omega)⟩
    | false =>
      simp only [Bool.false_and]
      by_cases hm : cap = l
      · rw [if_pos hm]
        refine ⟨_, rfl, isSl_sub (cap := 0) (id := 0) (pos := 0) (fl := false) (alt := 0) (.inr ⟨rfl, ?_⟩) (by omega) (by omega)⟩
        exact List.length_eq_zero_iff.mp (by omega)
      · rw [if_neg hm]
        exact ⟨_, rfl, isSl_sub (.inl rfl) hcl (by omega)⟩

theorem IsSl.slH (h : IsSl e v es) {k : IntKind} {n : Int} (h0 : 0 ≤ n) (h1 : n ≤ es.length) : ∃ r, pureV (.slL e hh none (some hh) none) [v, .int k n] = some r ∧ IsSl e r (es.take n.toNat) := by
  obtain ⟨r, hr, hi⟩ := h.slice (lo := none) (hi := some (.c (.int k n))) (l := 0) (u := n.toNat) (fun m hm => bnd_in _ _ h0 (by omega)) rfl (by omega) (by omega)
  refine ⟨r, ?_, by simpa using hi⟩
  show (opSlL e (.c v) none (some (.c (.int k n))) none noCall .nil ⟨0, [], []⟩).val = _
  rw [hr]; rfl
theorem IsSl.slLo (h : IsSl e v es) {k : IntKind} {n : Int} (h0 : 0 ≤ n) (h1 : n ≤ es.length) : ∃ r, pureV (.slL e hh (some hh) none none) [v, .int k n] = some r ∧ IsSl e r (es.drop n.toNat) := by
  obtain ⟨r, hr, hi⟩ := h.slice (lo := some (.c (.int k n))) (hi := none) (l := n.toNat) (u := es.length) (fun m hm => by show some es.length = _; rfl) (bnd_in _ _ h0 (by omega)) (by omega) (by omega)
  refine ⟨r, ?_, by simpa using hi⟩
  show (opSlL e (.c v) (some (.c (.int k n))) none none noCall .nil ⟨0, [], []⟩).val = _
  rw [hr]; rfl
theorem IsSl.slLH (h : IsSl e v es) {k k' : IntKind} {n m : Int} (h0 : 0 ≤ n) (h1 : n ≤ m) (h2 : m ≤ es.length) : ∃ r, pureV (.slL e hh (some hh) (some hh) none) [v, .int k n, .int k' m] = some r ∧ IsSl e r ((es.take m.toNat).drop n.toNat) := by
  obtain ⟨r, hr, hi⟩ := h.slice (lo := some (.c (.int k n))) (hi := some (.c (.int k' m))) (l := n.toNat) (u := m.toNat) (fun q hm => bnd_in _ _ (by omega) (by omega)) (bnd_in _ _ h0 (by omega)) (by omega) (by omega)
  refine ⟨r, ?_, hi⟩
  show (opSlL e (.c v) (some (.c (.int k n))) (some (.c (.int k' m))) none noCall .nil ⟨0, [], []⟩).val = _
  rw [hr]; rfl
end

end

end M2
end
section
namespace M2
open Go
noncomputable section

theorem wLoop_up {tbl : Nat → Option AFunc} {b c : XC} (hb : b = c) {Q : XR → Prop} (n : Nat) (I : Nat → List AV → Heap → Rows → Prop)
    (step : ∀ i env H O, i < n → I i env H O → wpc tbl c env H O (loopK (fun env H O => I (i + 1) env H O) Q))
    (last : ∀ env H O, I n env H O → wpc tbl c env H O (loopK (fun _ _ _ => False) Q)) :
    ∀ i env H O, i ≤ n → I i env H O → wLoop (wpc tbl b) env H O Q := by
  have key : ∀ d i env H O, i + d = n → I i env H O → wLoop (wpc tbl b) env H O Q := by
    intro d
    induction d with
    | zero =>
      intro i env H O hi h
      have : i = n := by omega
      subst this
      exact wLoop_eq hb (wpc_mono c (last env H O h) (loopK_mono fun _ _ _ h => h.elim))
    | succ d ih =>
      intro i env H O hi h
      exact wLoop_eq hb (wpc_mono c (step i env H O (by omega) h) (loopK_mono fun env H O h => ih (i + 1) env H O (by omega) h))
  intro i env H O hi h
  exact key (n - i) i env H O (by omega) h

/-- a loop by a measure -/
theorem wLoop_wf {tbl : Nat → Option AFunc} {b c : XC} (hb : b = c) {Q : XR → Prop} {α : Type} (μ : α → Nat) (I : α → List AV → Heap → Rows → Prop)
    (step : ∀ a env H O, I a env H O → wpc tbl c env H O (loopK (fun env H O => ∃ a', μ a' < μ a ∧ I a' env H O) Q)) :
    ∀ a env H O, I a env H O → wLoop (wpc tbl b) env H O Q := by
  have key : ∀ n a env H O, μ a < n → I a env H O → wLoop (wpc tbl b) env H O Q := by
    intro n
    induction n with
    | zero => intro a env H O h; omega
    | succ n ih =>
      intro a env H O h hI
      exact wLoop_eq hb (wpc_mono c (step a env H O hI) (loopK_mono fun env H O ⟨a', h1, h2⟩ => ih a' env H O (by omega) h2))
  intro a env H O h
  exact key (μ a + 1) a env H O (by omega) h

theorem nth_puts (env : List AV) (j k : Nat) (v : AV) : nth (put env j v) k = if k = j then (if j < env.length then v else .und) else nth env k := by
  by_cases hj : j < env.length
  · rw [nth_put _ _ _ _ hj, if_pos hj]
  · rw [if_neg hj]
    unfold nth put
    rw [List.set_eq_of_length_le (by omega)]
    split
    · rename_i e; subst e
      rw [List.getD_eq_getElem?_getD, List.getElem?_eq_none (by omega)]; rfl
    · rfl
theorem length_put (env : List AV) (j : Nat) (v : AV) : (put env j v).length = env.length := by unfold put; exact List.length_set

theorem all_u {P : AV → Prop} {es : List AV} (h : ∀ x ∈ es, P x) {i : Nat} (hi : i < es.length) : P es[i] := h _ (List.getElem_mem hi)

end

end M2
end
section
namespace M2
open Go
noncomputable section
variable {tbl : Nat → Option AFunc}

/-! ### Pairs: what the functions compute -/

def s16 (n : Int) : Int := (n + 32768) % 65536 - 32768
def re (n : Int) : Int := s16 n
def im (n : Int) : Int := s16 (n / 65536)
def mk (x y : Int) : Int := x % 65536 + y % 65536 * 65536
def U32 (n : Int) : Prop := 0 ≤ n ∧ n < 4294967296
abbrev u32 (n : Int) : AV := .int .u32 n
abbrev i64 (n : Int) : AV := .int .i64 n

theorem mk_u (x y : Int) : U32 (mk x y) := by unfold U32 mk; omega
theorem re_b (n : Int) : -32768 ≤ re n ∧ re n < 32768 := by unfold re s16; omega
theorem im_b (n : Int) : -32768 ≤ im n ∧ im n < 32768 := by unfold im s16; omega
theorem mk_parts {n : Int} (h : U32 n) : mk (re n) (im n) = n := by unfold U32 at h; unfold mk re im s16; omega
theorem re_mk (x y : Int) : re (mk x y) = s16 x := by unfold mk re s16; omega
theorem im_mk (x y : Int) : im (mk x y) = s16 y := by unfold mk im s16; omega
theorem mk_congr {x y x' y' : Int} (h : x % 65536 = x' % 65536) (h' : y % 65536 = y' % 65536) : mk x y = mk x' y' := by unfold mk; rw [h, h']

theorem wrap_i16 (n : Int) : IntKind.i16.wrap n = s16 n := by
  simp only [IntKind.wrap, IntKind.bits, IntKind.signed, Bool.true_and, decide_eq_true_eq, ge_iff_le, s16]
  simp
  omega
theorem wrap_u16 (n : Int) : IntKind.u16.wrap n = n % 65536 := by
  simp only [IntKind.wrap, IntKind.bits, IntKind.signed, Bool.false_and]
  simp
theorem wrap_u32m (n : Int) : IntKind.u32.wrap n = n % 4294967296 := by
  simp only [IntKind.wrap, IntKind.bits, IntKind.signed, Bool.false_and]
  simp

theorem ofInt_nat {a : Int} (h : U32 a) : (BitVec.ofInt 32 a).toNat = a.toNat := by
  unfold U32 at h
  rw [BitVec.toNat_ofInt]
  have : a % ((2 ^ 32 : Nat) : Int) = a := by omega
  rw [this]

theorem and_low {a : Int} (h : U32 a) : andI .u32 a 65535 = a % 65536 := by
  unfold andI
  rw [wrap_u32m]
  show (((BitVec.ofInt 32 a &&& BitVec.ofInt 32 65535).toNat : Nat) : Int) % 4294967296 = _
  rw [BitVec.toNat_and, ofInt_nat h, ofInt_nat (a := 65535) (by unfold U32; omega)]
  have h1 : (65535 : Int).toNat = 2 ^ 16 - 1 := rfl
  rw [h1, Nat.and_two_pow_sub_one_eq_mod]
  unfold U32 at h
  omega

theorem or_join {a b : Int} (ha : 0 ≤ a ∧ a < 65536) (hb : 0 ≤ b ∧ b < 65536) : orI .u32 a (b * 65536) = a + b * 65536 := by
  unfold orI
  rw [wrap_u32m]
  show (((BitVec.ofInt 32 a ||| BitVec.ofInt 32 (b * 65536)).toNat : Nat) : Int) % 4294967296 = _
  rw [BitVec.toNat_or, ofInt_nat (by unfold U32; omega), ofInt_nat (by unfold U32; omega)]
  have h1 : (b * 65536).toNat = 2 ^ 16 * b.toNat := by omega
  rw [h1, Nat.or_comm, ← Nat.two_pow_add_eq_or_of_lt (by omega)]
  omega

@[go_sem] theorem pureV_cpx (a b : Nat) : pureV (.cpx hh hh) [.flt a, .flt b] = some (.cpx a b) := rfl
@[go_sem] theorem pureV_re (a b : Nat) : pureV (.re hh) [.cpx a b] = some (.flt a) := rfl
@[go_sem] theorem pureV_im (a b : Nat) : pureV (.im hh) [.cpx a b] = some (.flt b) := rfl
@[go_sem] theorem av_cvf (k : IntKind) (n : Int) : avCv .flt (.int k n) = some (.flt (FloatKind.f64.nearest n)) := rfl
@[go_sem] theorem av_negf (b : Nat) : avUn .neg (.flt b) = some (.flt (Op.negFloat .f64 b)) := rfl
theorem av_cvi64 {b : Nat} {n : Int} (h : FRep b n) (h1 : -9223372036854775808 ≤ n) (h2 : n ≤ 9223372036854775807) : avCv (.fint .i64) (.flt b) = some (.int .i64 n) := by
  unfold avCv
  simp only
  rw [frep_int h]
  simp only
  rw [if_pos]
  exact ⟨by show (-9223372036854775808 : Int) ≤ n; exact h1, by show n ≤ (9223372036854775807 : Int); exact h2⟩

theorem cpx_add {a b c d : Nat} {x y z w : Int} (ha : FRep a x) (hb : FRep b y) (hc : FRep c z) (hd : FRep d w) (h1 : (x + z).natAbs < 2 ^ 53) (h2 : (y + w).natAbs < 2 ^ 53) :
    ∃ e f, avBin .add (.cpx a b) (.cpx c d) = some (.cpx e f) ∧ FRep e (x + z) ∧ FRep f (y + w) := by
  obtain ⟨e, he, r1⟩ := frep_add ha hc h1
  obtain ⟨f, hf, r2⟩ := frep_add hb hd h2
  refine ⟨e, f, ?_, r1, r2⟩
  simp [avBin, cpxOp, he, hf]
theorem cpx_sub {a b c d : Nat} {x y z w : Int} (ha : FRep a x) (hb : FRep b y) (hc : FRep c z) (hd : FRep d w) (h1 : (x - z).natAbs < 2 ^ 53) (h2 : (y - w).natAbs < 2 ^ 53) :
    ∃ e f, avBin .sub (.cpx a b) (.cpx c d) = some (.cpx e f) ∧ FRep e (x - z) ∧ FRep f (y - w) := by
  obtain ⟨e, he, r1⟩ := frep_sub ha hc h1
  obtain ⟨f, hf, r2⟩ := frep_sub hb hd h2
  refine ⟨e, f, ?_, r1, r2⟩
  simp [avBin, cpxOp, he, hf]

theorem mul_b {x y : Int} (hx : -32768 ≤ x ∧ x ≤ 32768) (hy : -32768 ≤ y ∧ y ≤ 32768) : -1073741824 ≤ x * y ∧ x * y ≤ 1073741824 := by
  have h : (x * y).natAbs ≤ 32768 * 32768 := by rw [Int.natAbs_mul]; exact Nat.mul_le_mul (by omega) (by omega)
  omega

theorem cpx_mul {a b c d : Nat} {x y z w : Int} (ha : FRep a x) (hb : FRep b y) (hc : FRep c z) (hd : FRep d w) (hx : -32768 ≤ x ∧ x ≤ 32768) (hy : -32768 ≤ y ∧ y ≤ 32768) (hz : -32768 ≤ z ∧ z ≤ 32768) (hw : -32768 ≤ w ∧ w ≤ 32768) :
    ∃ e f, avBin .mul (.cpx a b) (.cpx c d) = some (.cpx e f) ∧ FRep e (x * z - y * w) ∧ FRep f (x * w + y * z) := by
  have b1 := mul_b hx hz
  have b2 := mul_b hy hw
  have b3 := mul_b hx hw
  have b4 := mul_b hy hz
  obtain ⟨p, hp, r1⟩ := frep_mul ha hc (by omega)
  obtain ⟨q, hq, r2⟩ := frep_mul hb hd (by omega)
  obtain ⟨r, hr, r3⟩ := frep_mul ha hd (by omega)
  obtain ⟨s, hs, r4⟩ := frep_mul hb hc (by omega)
  obtain ⟨e, he, r5⟩ := frep_sub r1 r2 (by omega)
  obtain ⟨f, hf, r6⟩ := frep_add r3 r4 (by omega)
  refine ⟨e, f, ?_, r5, r6⟩
  simp [avBin, cpxOp, hp, hq, hr, hs, he, hf]

/-! ### Contracts -/

theorem num_ok (h : tbl 14 = some (flatF x14)) (n : Int) : PuR tbl 14 [i64 n] (· = i64 n) := by
  refine pu_of h w14 rfl rfl ?_
  simp only [x14, go_sem]

theorem between_ok (h : tbl 46 = some (flatF x46)) (n a b : Int) : PuR tbl 46 [i64 n, i64 a, i64 b] (· = .bool (decide (a ≤ n ∧ n ≤ b))) := by
  refine pu_of h w46 rfl rfl ?_
  simp only [x46, go_sem]
  simp
  omega

theorem has_ok (h : tbl 20 = some (flatF x20)) (n : Int) : PuR tbl 20 [i64 n] (· = .bool (decide (18 ≤ n ∧ n ≤ 21))) := by
  refine pu_of h w20 rfl rfl ?_
  simp only [x20, go_sem]
  simp
  omega

theorem paired_ok (h : tbl 21 = some (flatF x21)) (h46 : tbl 46 = some (flatF x46)) (n : Int) : PuR tbl 21 [i64 n] (· = .bool (decide (18 ≤ n ∧ n ≤ 21))) := by
  refine pu_of h w21 rfl rfl ?_
  simp only [x21, go_sem]
  refine call_pu (between_ok h46 _ _ _) ?_
  rintro r rfl
  simp only [go_sem]

theorem parts_ok (h : tbl 18 = some (flatF x18)) {n : Int} (hn : U32 n) : PuR tbl 18 [u32 n] (· = .tup [i64 (re n), i64 (im n)]) := by
  refine pu_of h w18 rfl rfl ?_
  simp only [x18, go_sem]
  rw [if_neg (by omega)]
  simp only [go_sem, wrap_i16]
  unfold U32 at hn
  have e1 : shrI .u32 n 16 = n / 65536 := by
    show n.fdiv 65536 = _
    rw [Int.fdiv_eq_ediv_of_nonneg _ (by omega)]
  have := re_b n
  have := im_b n
  have e2 : IntKind.u32.wrap (n / 65536) = n / 65536 := wrap_u32 (by omega) (by omega)
  rw [e1]
  rw [show s16 n = re n from rfl, show s16 (n / 65536) = im n from rfl, wrap_i64 (by omega) (by omega), wrap_i64 (by omega) (by omega)]

theorem rparts_ok (h : tbl 22 = some (flatF x22)) {n : Int} (hn : U32 n) : PuR tbl 22 [u32 n] (· = .tup [i64 (re n), i64 (im n)]) := by
  refine pu_of h w22 rfl rfl ?_
  simp only [x22, go_sem]
  rw [if_neg (by omega)]
  simp only [go_sem, wrap_i16, and_low hn]
  unfold U32 at hn
  have e1 : shrI .u32 n 16 = n / 65536 := by
    show n.fdiv 65536 = _
    rw [Int.fdiv_eq_ediv_of_nonneg _ (by omega)]
  have := re_b n
  have := im_b n
  rw [e1]
  rw [show s16 (n % 65536) = re n from by unfold s16 re s16; omega, show s16 (n / 65536) = im n from rfl, wrap_i64 (by omega) (by omega), wrap_i64 (by omega) (by omega)]

theorem shl16 (a : Int) : shlI .u32 a 16 = IntKind.u32.wrap (a * 65536) := rfl

theorem make_ok (h : tbl 17 = some (flatF x17)) (x y : Int) : PuR tbl 17 [i64 x, i64 y] (· = u32 (mk x y)) := by
  refine pu_of h w17 rfl rfl ?_
  simp only [x17, go_sem]
  rw [if_neg (by omega)]
  simp only [go_sem, wrap_u16, shl16]
  rw [wrap_u32 (n := x % 65536) (by omega) (by omega), wrap_u32 (n := y % 65536) (by omega) (by omega), wrap_u32 (n := y % 65536 * 65536) (by omega) (by omega), or_join (by omega) (by omega)]
  rfl

theorem rmake_ok (h : tbl 24 = some (flatF x24)) (x y : Int) : PuR tbl 24 [i64 x, i64 y] (· = u32 (mk x y)) := by
  refine pu_of h w24 rfl rfl ?_
  simp only [x24, go_sem]
  rw [if_neg (by omega)]
  simp only [go_sem, shl16]
  have hx : U32 (IntKind.u32.wrap x) := by rw [wrap_u32m]; unfold U32; omega
  have hy : U32 (IntKind.u32.wrap y) := by rw [wrap_u32m]; unfold U32; omega
  rw [and_low hx, and_low hy, wrap_u32m x, wrap_u32m y, wrap_u32 (n := y % 4294967296 % 65536 * 65536) (by omega) (by omega), or_join (by omega) (by omega)]
  unfold mk
  simp only [AV.int.injEq, true_and]
  omega

theorem number_ok (h : tbl 43 = some (flatF x43)) (h18 : tbl 18 = some (flatF x18)) {n : Int} (hn : U32 n) : PuR tbl 43 [u32 n] (fun r => ∃ a b, r = .cpx a b ∧ FRep a (re n) ∧ FRep b (im n)) := by
  refine pu_of h w43 rfl rfl ?_
  simp only [x43, go_sem]
  refine call_pu (parts_ok h18 hn) ?_
  rintro r rfl
  simp only [go_sem, tupL, extL, List.getElem?_cons_zero, List.getElem?_cons_succ]
  have := re_b n
  have := im_b n
  exact ⟨_, _, rfl, frep_nearest (by omega), frep_nearest (by omega)⟩

theorem pk_ok (h : tbl 44 = some (flatF x44)) (h17 : tbl 17 = some (flatF x17)) {a b : Nat} {x y : Int} (ha : FRep a x) (hb : FRep b y) (hx : x.natAbs < 2 ^ 53) (hy : y.natAbs < 2 ^ 53) : PuR tbl 44 [.cpx a b] (· = u32 (mk x y)) := by
  refine pu_of h w44 rfl rfl ?_
  simp only [x44, go_sem, av_cvi64 ha (by omega) (by omega), av_cvi64 hb (by omega) (by omega)]
  refine call_pu (make_ok h17 _ _) ?_
  rintro r rfl
  simp only [go_sem]

theorem turned_ok (h : tbl 45 = some (flatF x45)) (a b : Nat) : PuR tbl 45 [.cpx a b] (· = .cpx a (Op.negFloat .f64 b)) := by
  refine pu_of h w45 rfl rfl ?_
  simp only [x45, go_sem]

def norm (n : Int) : Int := re n * re n + im n * im n

theorem norm_ok (h : tbl 15 = some (flatF x15)) (h43 : tbl 43 = some (flatF x43)) (h18 : tbl 18 = some (flatF x18)) (h45 : tbl 45 = some (flatF x45)) {n : Int} (hn : U32 n) : PuR tbl 15 [u32 n] (· = i64 (norm n)) := by
  refine pu_of h w15 rfl rfl ?_
  simp only [x15, go_sem]
  refine call_pu (number_ok h43 h18 hn) ?_
  rintro r ⟨a, b, rfl, ha, hb⟩
  try simp only [go_sem]
  refine call_pu (turned_ok h45 a b) ?_
  rintro r rfl
  have r1 := re_b n
  have r2 := im_b n
  obtain ⟨e, f, he, hr, -⟩ := cpx_mul ha hb ha (frep_neg hb) (by omega) (by omega) (by omega) (by omega)
  have b1 := mul_b (x := re n) (y := re n) (by omega) (by omega)
  have b2 := mul_b (x := im n) (y := -im n) (by omega) (by omega)
  simp only [go_sem, he, av_cvi64 hr (by omega) (by omega)]
  rw [show norm n = re n * re n - im n * -im n from by unfold norm; rw [Int.mul_neg]; omega]

theorem rnorm_ok (h : tbl 23 = some (flatF x23)) (h22 : tbl 22 = some (flatF x22)) {n : Int} (hn : U32 n) : PuR tbl 23 [u32 n] (· = i64 (norm n)) := by
  refine pu_of h w23 rfl rfl ?_
  simp only [x23, go_sem]
  refine call_pu (rparts_ok h22 hn) ?_
  rintro r rfl
  have r1 := re_b n
  have r2 := im_b n
  have b1 := mul_b (x := re n) (y := re n) (by omega) (by omega)
  have b2 := mul_b (x := im n) (y := im n) (by omega) (by omega)
  simp only [go_sem, tupL, extL, List.getElem?_cons_zero, List.getElem?_cons_succ]
  rw [wrap_i64 (n := re n * re n) (by omega) (by omega), wrap_i64 (n := im n * im n) (by omega) (by omega), wrap_i64 (by omega) (by omega)]
  rfl

end
end M2
end
section
namespace M2
open Go
noncomputable section
variable {tbl : Nat → Option AFunc}

@[go_sem] theorem tup2 (a b : AV) : tupL (.tup [a, b]) [0, 1] = some [a, b] := rfl
@[go_sem] theorem tup2a (a b : AV) : tupL (.tup [a, b]) [0] = some [a] := rfl
@[go_sem] theorem tup2b (a b : AV) : tupL (.tup [a, b]) [1] = some [b] := rfl
@[go_sem] theorem tup3 (a b c : AV) : tupL (.tup [a, b, c]) [0, 1, 2] = some [a, b, c] := rfl

def ofV (op a b : Int) : Int :=
  if op = 18 then mk (re a + re b) (im a + im b)
  else if op = 19 then mk (re a - re b) (im a - im b)
  else if op = 20 then mk (re a * re b - im a * im b) (re a * im b + im a * re b)
  else mk (re a) (-im a)

theorem ofV_u (op a b : Int) : U32 (ofV op a b) := by
  unfold ofV
  split
  · exact mk_u _ _
  · split
    · exact mk_u _ _
    · split <;> exact mk_u _ _

/-- what of pairs needs -/
structure PairT (tbl : Nat → Option AFunc) : Prop where
  h13 : tbl 13 = some (flatF x13)
  h14 : tbl 14 = some (flatF x14)
  h15 : tbl 15 = some (flatF x15)
  h17 : tbl 17 = some (flatF x17)
  h18 : tbl 18 = some (flatF x18)
  h43 : tbl 43 = some (flatF x43)
  h44 : tbl 44 = some (flatF x44)
  h45 : tbl 45 = some (flatF x45)

theorem of_ok (h : PairT tbl) {op a b : Int} (ha : U32 a) (hb : U32 b) : PuR tbl 13 [i64 op, u32 a, u32 b] (· = if 18 ≤ op ∧ op ≤ 21 then .tup [u32 (ofV op a b), i64 0] else .tup [u32 0, i64 1]) := by
  refine pu_of h.h13 w13 rfl rfl ?_
  simp only [x13, go_sem]
  refine call_pu (number_ok h.h43 h.h18 ha) ?_
  rintro r ⟨p, q, rfl, hp, hq⟩
  refine call_pu (number_ok h.h43 h.h18 hb) ?_
  rintro r ⟨p', q', rfl, hp', hq'⟩
  have r1 := re_b a
  have r2 := im_b a
  have r3 := re_b b
  have r4 := im_b b
  try simp only [go_sem]
  refine ⟨fun e => ?_, fun e1 => ⟨fun e => ?_, fun e2 => ⟨fun e => ?_, fun e3 => ⟨fun e => ?_, fun e4 => ?_⟩⟩⟩⟩
  · obtain ⟨x, y, hxy, hx, hy⟩ := cpx_add hp hq hp' hq' (by omega) (by omega)
    simp only [hxy, go_sem]
    refine call_pu (pk_ok h.h44 h.h17 hx hy (by omega) (by omega)) ?_
    rintro r rfl
    try simp only [go_sem]
    rw [if_pos (by omega)]
    simp [ofV, e]
  · obtain ⟨x, y, hxy, hx, hy⟩ := cpx_sub hp hq hp' hq' (by omega) (by omega)
    simp only [hxy, go_sem]
    refine call_pu (pk_ok h.h44 h.h17 hx hy (by omega) (by omega)) ?_
    rintro r rfl
    try simp only [go_sem]
    rw [if_pos (by omega)]
    simp [ofV, e]
  · obtain ⟨x, y, hxy, hx, hy⟩ := cpx_mul hp hq hp' hq' (by omega) (by omega) (by omega) (by omega)
    have b1 := mul_b (x := re a) (y := re b) (by omega) (by omega)
    have b2 := mul_b (x := im a) (y := im b) (by omega) (by omega)
    have b3 := mul_b (x := re a) (y := im b) (by omega) (by omega)
    have b4 := mul_b (x := im a) (y := re b) (by omega) (by omega)
    simp only [hxy, go_sem]
    refine call_pu (pk_ok h.h44 h.h17 hx hy (by omega) (by omega)) ?_
    rintro r rfl
    try simp only [go_sem]
    rw [if_pos (by omega)]
    simp [ofV, e]
  · refine call_pu (turned_ok h.h45 p q) ?_
    rintro r rfl
    refine call_pu (pk_ok h.h44 h.h17 hp (frep_neg hq) (by omega) (by omega)) ?_
    rintro r rfl
    try simp only [go_sem]
    rw [if_pos (by omega)]
    simp [ofV, e]
  · rw [if_neg (by omega)]

theorem rpair_ok (h : tbl 19 = some (flatF x19)) (h22 : tbl 22 = some (flatF x22)) (h24 : tbl 24 = some (flatF x24)) {op a b : Int} (ha : U32 a) (hb : U32 b) : PuR tbl 19 [i64 op, u32 a, u32 b] (· = u32 (ofV op a b)) := by
  refine pu_of h w19 rfl rfl ?_
  simp only [x19, go_sem]
  refine call_pu (rparts_ok h22 ha) ?_
  rintro r rfl
  try simp only [go_sem]
  refine call_pu (rparts_ok h22 hb) ?_
  rintro r rfl
  have r1 := re_b a
  have r2 := im_b a
  have r3 := re_b b
  have r4 := im_b b
  have b1 := mul_b (x := re a) (y := re b) (by omega) (by omega)
  have b2 := mul_b (x := im a) (y := im b) (by omega) (by omega)
  have b3 := mul_b (x := re a) (y := im b) (by omega) (by omega)
  have b4 := mul_b (x := im a) (y := re b) (by omega) (by omega)
  try simp only [go_sem]
  refine ⟨fun e => ?_, fun e1 => ⟨fun e => ?_, fun e2 => ⟨fun e => ?_, fun e3 => ?_⟩⟩⟩
  · refine call_pu (rmake_ok h24 _ _) ?_
    rintro r rfl
    try simp only [go_sem]
    rw [wrap_i64 (by omega) (by omega), wrap_i64 (by omega) (by omega)]
    simp [ofV, e]
  · refine call_pu (rmake_ok h24 _ _) ?_
    rintro r rfl
    try simp only [go_sem]
    rw [wrap_i64 (by omega) (by omega), wrap_i64 (by omega) (by omega)]
    simp [ofV, e]
  · refine call_pu (rmake_ok h24 _ _) ?_
    rintro r rfl
    try simp only [go_sem]
    rw [wrap_i64 (n := re a * re b) (by omega) (by omega), wrap_i64 (n := im a * im b) (by omega) (by omega), wrap_i64 (n := re a * im b) (by omega) (by omega), wrap_i64 (n := im a * re b) (by omega) (by omega), wrap_i64 (by omega) (by omega), wrap_i64 (by omega) (by omega)]
    simp [ofV, e]
  · refine call_pu (rmake_ok h24 _ _) ?_
    rintro r rfl
    try simp only [go_sem]
    rw [wrap_i64 (by omega) (by omega)]
    simp [ofV, e1, e2, e3]

theorem wakes_ok (h : PairT tbl) (h16 : tbl 16 = some (flatF x16)) : PuR tbl 16 [] (· = .bool true) := by
  refine pu_of h16 w16 rfl rfl ?_
  simp only [x16, go_sem]
  refine call_pu (make_ok h.h17 _ _) ?_
  rintro r rfl
  try simp only [go_sem]
  refine call_pu (of_ok h (mk_u _ _) (mk_u _ _)) ?_
  rintro r rfl
  rw [if_pos (by omega)]
  try simp only [go_sem]
  refine call_pu (parts_ok h.h18 (ofV_u _ _ _)) ?_
  rintro r rfl
  try simp only [go_sem]
  refine call_pu (num_ok h.h14 _) ?_
  rintro r rfl
  try simp only [go_sem]
  have e0 : ofV 20 (mk 0 1) (mk 0 1) = 65535 := by decide
  rw [e0, show re 65535 = -1 from by decide, show im 65535 = 0 from by decide]
  simp
  refine call_pu (norm_ok h.h15 h.h43 h.h18 h.h45 (mk_u _ _)) ?_
  rintro r rfl
  simp only [go_sem]
  rw [show norm (mk 0 1) = 1 from by decide]
  simp

end
end M2
end
section
namespace M2
open Go
noncomputable section
variable {tbl : Nat → Option AFunc}

/-- the pairs' argument: words, numbers -/
def askTy : Ty := .cons (.sl 4 (.int .u32)) (.cons (.sl 8 (.int .i64)) .nil)

def IsU (es : List AV) : Prop := ∀ x ∈ es, ∃ n, U32 n ∧ x = u32 n
def IsI (es : List AV) : Prop := ∀ x ∈ es, ∃ n, (-9223372036854775808 ≤ n ∧ n ≤ 9223372036854775807) ∧ x = i64 n

theorem ask_of {axs : List AV} (h : TyR askTy axs) : ∃ vw vn ws ns, axs = [vw, vn] ∧ IsSl 1 vw ws ∧ IsU ws ∧ ws.length * 4 ≤ 140737488351232 ∧ IsSl 1 vn ns ∧ IsI ns ∧ ns.length * 8 ≤ 140737488351232 := by
  obtain ⟨xs, ys, rfl, -, ⟨vw, ws, rfl, h1, h2, h3⟩, xs', ys', rfl, -, ⟨vn, ns, rfl, h4, h5, h6⟩, rfl⟩ := h
  refine ⟨vw, vn, ws, ns, rfl, h1, fun x hx => ?_, h2, h4, fun x hx => ?_, h5⟩
  · obtain ⟨cs, -, ⟨v, a, b, rfl⟩, rfl⟩ := h3 x hx
    exact ⟨v, ⟨a, by have : v ≤ 4294967295 := b; omega⟩, rfl⟩
  · obtain ⟨cs, -, ⟨v, a, b, rfl⟩, rfl⟩ := h6 x hx
    exact ⟨v, ⟨a, b⟩, rfl⟩

theorem IsU.known {es : List AV} (h : IsU es) : ∀ v ∈ es, v.known = true ∧ v.cells.all AV.isCell = true := by
  intro v hv
  obtain ⟨n, -, rfl⟩ := h v hv
  exact ⟨rfl, rfl⟩
theorem IsI.known {es : List AV} (h : IsI es) : ∀ v ∈ es, v.known = true ∧ v.cells.all AV.isCell = true := by
  intro v hv
  obtain ⟨n, -, rfl⟩ := h v hv
  exact ⟨rfl, rfl⟩
theorem IsU.app {a b : List AV} (h : IsU a) (k : IsU b) : IsU (a ++ b) := fun x hx => (List.mem_append.mp hx).elim (h x) (k x)
theorem IsI.app {a b : List AV} (h : IsI a) (k : IsI b) : IsI (a ++ b) := fun x hx => (List.mem_append.mp hx).elim (h x) (k x)

theorem words_ok (h : tbl 12 = some (flatF x12)) {vw vn : AV} {ws : List AV} (h1 : IsSl 1 vw ws) (h2 : IsU ws) (h3 : ws.length * 4 ≤ 140737488351232) : PuR tbl 12 [.agg [vw, vn]] (fun r => ∃ es, IsSl 1 r es ∧ IsU es ∧ 10 ≤ es.length ∧ es.length ≤ 26) := by
  refine pu_of h w12 rfl rfl ?_
  simp only [x12, go_sem]
  simp
  intro id
  refine app_ok (xs := [u32 0, u32 1, u32 65536, u32 65535, u32 4294901760, u32 32768, u32 2147483648, u32 2147516416, u32 2147450879, u32 4294967295]) (ap_lit _ _ _ _ _ rfl (by simp)) h1 h2.known (by decide) (by simp; omega) (by decide) ?_
  intro r O' hr _
  have hu : IsU ([u32 0, u32 1, u32 65536, u32 65535, u32 4294901760, u32 32768, u32 2147483648, u32 2147516416, u32 2147450879, u32 4294967295] ++ ws) := by
    refine IsU.app ?_ h2
    intro x hx
    simp only [List.mem_cons, List.not_mem_nil, or_false] at hx
    rcases hx with rfl | rfl | rfl | rfl | rfl | rfl | rfl | rfl | rfl | rfl <;> exact ⟨_, by unfold U32; omega, rfl⟩
  generalize hes : [u32 0, u32 1, u32 65536, u32 65535, u32 4294901760, u32 32768, u32 2147483648, u32 2147516416, u32 2147450879, u32 4294967295] ++ ws = es at hr hu
  have hlen : 10 ≤ es.length := by rw [← hes]; simp
  simp only [hr.sl.len, go_sem]
  refine ⟨fun hg => ?_, fun hg => ⟨es, hr.sl, hu, hlen, by omega⟩⟩
  obtain ⟨r', hr', hs⟩ := hr.sl.slH (k := .i64) (n := 26) (by omega) (by omega)
  simp only [hr', go_sem]
  exact ⟨_, hs, fun x hx => hu x (List.mem_of_mem_take hx), by simp; omega, by simp; omega⟩

theorem IsSl.ixU {v : AV} {es : List AV} (h : IsSl 1 v es) (hu : IsU es) {i : Nat} (hi : i < es.length) : ∃ n, U32 n ∧ ∀ (H : Heap) (Q : AV → Prop), ixv (.ld1 hh) 1 v (.int .i64 i) H Q = Q (u32 n) := by
  obtain ⟨n, hn, he⟩ := hu _ (List.getElem_mem hi)
  refine ⟨n, hn, fun H Q => ?_⟩
  have h1 := h.ix1 (k := .i64) (n := i) (by omega) (by omega) (by simp only [Int.toNat_natCast]; rw [he]; rfl) H Q
  rw [h1]
  simp only [Int.toNat_natCast]
  rw [he]

def uAt (es : List AV) (i : Nat) : Int := match es[i]? with | some (.int _ n) => n | _ => 0
theorem uAt_u {es : List AV} (hu : IsU es) {i : Nat} (hi : i < es.length) : U32 (uAt es i) ∧ es[i] = u32 (uAt es i) := by
  obtain ⟨n, hn, he⟩ := hu _ (List.getElem_mem hi)
  have : uAt es i = n := by unfold uAt; rw [List.getElem?_eq_getElem hi, he]
  rw [this]; exact ⟨hn, he⟩
theorem IsSl.uAt {v : AV} {es : List AV} (h : IsSl 1 v es) (hu : IsU es) {i : Nat} (hi : i < es.length) (H : Heap) (Q : AV → Prop) : ixv (.ld1 hh) 1 v (.int .i64 i) H Q = Q (u32 (M2.uAt es i)) := by
  have h1 := h.ix1 (k := .i64) (n := i) (by omega) (by omega) (by simp only [Int.toNat_natCast]; rw [(uAt_u hu hi).2]; rfl) H Q
  rw [h1]
  simp only [Int.toNat_natCast]
  rw [(uAt_u hu hi).2]

end
end M2
end
section
namespace M2
open Go
noncomputable section
variable {tbl : Nat → Option AFunc}

theorem s16_k (n : Int) : ∃ k, s16 n = n + 65536 * k := ⟨(s16 n - n) / 65536, by unfold s16; omega⟩
theorem mk_k {x y x' y' : Int} (h : ∃ k, x = x' + 65536 * k) (h' : ∃ k, y = y' + 65536 * k) : mk x y = mk x' y' := by
  obtain ⟨k, rfl⟩ := h
  obtain ⟨k', rfl⟩ := h'
  unfold mk
  omega

theorem conj_law (a b : Int) : ofV 20 a (ofV 21 a b) = norm a % 65536 := by
  simp only [ofV]
  simp only [show ¬ (20 : Int) = 18 by omega, show ¬ (20 : Int) = 19 by omega, show ¬ (21 : Int) = 18 by omega, show ¬ (21 : Int) = 19 by omega, show ¬ (21 : Int) = 20 by omega, if_true, if_false, re_mk, im_mk]
  obtain ⟨k, hk⟩ := s16_k (re a)
  obtain ⟨m, hm⟩ := s16_k (-im a)
  rw [hk, hm, mk_k (x' := norm a) (y' := 0) ⟨re a * k - im a * m, by unfold norm; grind⟩ ⟨re a * m + im a * k, by grind⟩]
  unfold mk
  omega

theorem add_comm' (a b : Int) : ofV 18 a b = ofV 18 b a := by
  simp only [ofV, if_true]
  rw [Int.add_comm (re a), Int.add_comm (im a)]
theorem mul_comm' (a b : Int) : ofV 20 a b = ofV 20 b a := by
  simp only [ofV, show ¬ (20 : Int) = 18 by omega, show ¬ (20 : Int) = 19 by omega, if_true, if_false]
  congr 1 <;> grind
theorem sub_law {a b : Int} (ha : U32 a) : ofV 19 (ofV 18 a b) b = a := by
  simp only [ofV, show ¬ (19 : Int) = 18 by omega, if_true, if_false, re_mk, im_mk]
  obtain ⟨k, hk⟩ := s16_k (re a + re b)
  obtain ⟨m, hm⟩ := s16_k (im a + im b)
  rw [hk, hm, mk_k (x' := re a) (y' := im a) ⟨k, by grind⟩ ⟨m, by grind⟩]
  exact mk_parts ha
theorem dist_law (o a b : Int) : ofV 20 o (ofV 18 a b) = ofV 18 (ofV 20 o a) (ofV 20 o b) := by
  simp only [ofV, show ¬ (20 : Int) = 18 by omega, show ¬ (20 : Int) = 19 by omega, if_true, if_false, re_mk, im_mk]
  obtain ⟨k, hk⟩ := s16_k (re a + re b)
  obtain ⟨m, hm⟩ := s16_k (im a + im b)
  obtain ⟨p, hp⟩ := s16_k (re o * re a - im o * im a)
  obtain ⟨q, hq⟩ := s16_k (re o * im a + im o * re a)
  obtain ⟨r, hr⟩ := s16_k (re o * re b - im o * im b)
  obtain ⟨s, hs⟩ := s16_k (re o * im b + im o * re b)
  rw [hk, hm, hp, hq, hr, hs]
  exact mk_k ⟨re o * k - im o * m - p - r, by grind⟩ ⟨re o * m + im o * k - q - s, by grind⟩

end
end M2
end
section
namespace M2
open Go
noncomputable section
variable {tbl : Nat → Option AFunc}

structure PairL (tbl : Nat → Option AFunc) : Prop extends PairT tbl where
  h3 : tbl 3 = some (flatF x3)
  h4 : tbl 4 = some (flatF x4)
  h5 : tbl 5 = some (flatF x5)
  h6 : tbl 6 = some (flatF x6)
  h12 : tbl 12 = some (flatF x12)
  h16 : tbl 16 = some (flatF x16)

theorem of_op (h : PairT tbl) {op a b : Int} (ho : 18 ≤ op ∧ op ≤ 21) (ha : U32 a) (hb : U32 b) : PuR tbl 13 [i64 op, u32 a, u32 b] (· = .tup [u32 (ofV op a b), i64 0]) := by
  have := of_ok h (op := op) ha hb
  rwa [if_pos ho] at this

/-- an inner round of the field's law -/
theorem field_inner (h : PairL tbl) {l : AV} {es : List AV} (hl : IsSl 1 l es) (hu : IsU es) {i : Nat} (hi : i < es.length) {Q : XR → Prop}
    (hx : ∀ env, env.length = 29 → nth env 2 = .bool false → nth env 3 = l → nth env 4 = i64 i → Q (.exit 2 env [] [])) (k : Nat) (hk : k ≤ es.length) (env : List AV)
    (he : env.length = 29 ∧ nth env 2 = .bool false ∧ nth env 3 = l ∧ nth env 4 = i64 i ∧ nth env 9 = i64 k) : wLoop (wpc tbl x3l0) env [] [] Q := by
  have hle := hl.le
  refine wLoop_up x3l0.eq_1 es.length (fun k env H O => H = [] ∧ O = [] ∧ env.length = 29 ∧ nth env 2 = .bool false ∧ nth env 3 = l ∧ nth env 4 = i64 i ∧ nth env 9 = i64 k) ?_ ?_ k env [] [] hk ⟨rfl, rfl, he⟩
  · rintro k env H O hk ⟨rfl, rfl, e0, e2, e3, e4, e9⟩
    simp only [go_sem, e2, e3, e4, e9, hl.len]
    refine ⟨fun _ => ?_, fun hh => by omega⟩
    have ra := hl.uAt hu hi
    have rb := hl.uAt hu hk
    have hm : (i + k) % es.length < es.length := Nat.mod_lt _ (by omega)
    have rc := hl.uAt hu hm
    have ua := (uAt_u hu hi).1
    have ub := (uAt_u hu hk).1
    have uc := (uAt_u hu hm).1
    have hw : IntKind.i64.wrap ((i : Int) + k) = i + k := wrap_i64 (by omega) (by omega)
    have hr : ((i : Int) + k).tmod (es.length : Int) = ((i + k) % es.length : Nat) := by
      rw [Int.tmod_eq_emod_of_nonneg (by omega)]; rfl
    have w0 : IntKind.i64.wrap 0 = 0 := wrap_i64 (by omega) (by omega)
    have hk1 : IntKind.i64.wrap ((k : Int) + 1) = (k : Int) + 1 := wrap_i64 (by omega) (by omega)
    generalize uAt es i = a at *
    generalize uAt es k = b at *
    generalize uAt es ((i + k) % es.length) = c at *
    simp only [ra, rb]
    iterate 9
      refine call_pu (of_op h.toPairT (by omega) (by first | assumption | exact ofV_u _ _ _) (by first | assumption | exact ofV_u _ _ _)) ?_
      rintro r rfl
      try simp only [go_sem, nth_puts, length_put, e0, e2, e3, e4, e9, Nat.reduceEqDiff, ↓reduceIte, Nat.reduceLT, ra, rb, rc, hl.len, hw, hr, show ¬ (es.length : Int) = 0 by omega]
    iterate 9
      refine call_pu (num_ok h.h14 _) ?_
      rintro r rfl
      try simp only [go_sem, nth_puts, length_put, e0, e2, e3, e4, e9, Nat.reduceEqDiff, ↓reduceIte, Nat.reduceLT, ra, rb, rc, hl.len, hw, hr, show ¬ (es.length : Int) = 0 by omega]
    simp only [Int.add_zero, w0, add_comm' b a, mul_comm' b a, sub_law ua, ← dist_law, not_true, false_imp_iff, true_imp_iff, true_and, hk1]
    intros
    rfl
  · rintro env H O ⟨rfl, rfl, e0, e2, e3, e4, e9⟩
    simp only [go_sem, e2, e3, e4, e9, hl.len]
    refine ⟨fun hh => by omega, fun _ => ?_⟩
    exact hx env e0 e2 e3 e4

/-- the outer rounds -/
theorem field_outer (h : PairL tbl) {l : AV} {es : List AV} (hl : IsSl 1 l es) (hu : IsU es) {Q : XR → Prop}
    (hx : ∀ env, env.length = 29 → Q (.exit 0 env [] [])) (env : List AV)
    (he : env.length = 29 ∧ nth env 2 = .bool false ∧ nth env 3 = l ∧ nth env 4 = i64 0) : wLoop (wpc tbl x3l1) env [] [] Q := by
  have hle := hl.le
  refine wLoop_up x3l1.eq_1 es.length (fun k env H O => H = [] ∧ O = [] ∧ env.length = 29 ∧ nth env 2 = .bool false ∧ nth env 3 = l ∧ nth env 4 = i64 k) ?_ ?_ 0 env [] [] (by omega) ⟨rfl, rfl, he⟩
  · rintro k env H O hk ⟨rfl, rfl, e0, e2, e3, e4⟩
    simp only [go_sem, e2, e3, e4, hl.len]
    refine ⟨fun _ => ?_, fun hh => by omega⟩
    have ra := hl.uAt hu hk
    have ua := (uAt_u hu hk).1
    have w0 : IntKind.i64.wrap 0 = 0 := wrap_i64 (by omega) (by omega)
    have hk1 : IntKind.i64.wrap ((k : Int) + 1) = (k : Int) + 1 := wrap_i64 (by omega) (by omega)
    have h7 : U32 7 := ⟨by omega, by omega⟩
    generalize uAt es k = a at *
    simp only [ra]
    refine call_pu (of_op h.toPairT (by omega) ua h7) ?_
    rintro r rfl
    simp only [go_sem, nth_puts, length_put, e0, e2, e3, e4, Nat.reduceEqDiff, ↓reduceIte, Nat.reduceLT, ra]
    refine call_pu (of_op h.toPairT (by omega) ua (ofV_u _ _ _)) ?_
    rintro r rfl
    simp only [go_sem, nth_puts, length_put, e0, e2, e3, e4, Nat.reduceEqDiff, ↓reduceIte, Nat.reduceLT, ra]
    iterate 2
      refine call_pu (num_ok h.h14 _) ?_
      rintro r rfl
      try simp only [go_sem, nth_puts, length_put, e0, e2, e3, e4, Nat.reduceEqDiff, ↓reduceIte, Nat.reduceLT, ra]
    refine call_pu (norm_ok h.h15 h.h43 h.h18 h.h45 ua) ?_
    rintro r rfl
    try simp only [go_sem, nth_puts, length_put, e0, e2, e3, e4, Nat.reduceEqDiff, ↓reduceIte, Nat.reduceLT, ra]
    have hn : andI .u32 (IntKind.u32.wrap (norm a)) 65535 = ofV 20 a (ofV 21 a 7) := by
      rw [wrap_u32m, and_low ⟨by omega, by omega⟩]
      have := conj_law a 7
      omega
    simp only [hn, not_true, false_imp_iff, true_imp_iff, true_and, not_false_eq_true]
    refine field_inner h hl hu hk ?_ 0 (by omega) _ ?_
    · intro env' f0 f2 f3 f4
      simp only [go_sem, f4, f0, nth_puts, length_put, Nat.reduceEqDiff, ↓reduceIte, Nat.reduceLT, hk1]
      simp [f2, f3]
    · simp only [nth_puts, length_put, e0, e2, e3, e4, Nat.reduceEqDiff, ↓reduceIte, Nat.reduceLT]
      simp
  · rintro env H O ⟨rfl, rfl, e0, e2, e3, e4⟩
    simp only [go_sem, e2, e3, e4, hl.len]
    refine ⟨fun hh => by omega, fun _ => ?_⟩
    exact hx env e0

theorem field_law (h : PairL tbl) {axs : List AV} (ha : TyR askTy axs) : PuR tbl 3 [.agg axs] (· = .bool true) := by
  obtain ⟨vw, vn, ws, ns, rfl, h1, h2, h3, -⟩ := ask_of ha
  refine pu_of h.h3 w3 rfl rfl ?_
  simp only [x3, go_sem, Nat.reduceAdd, Nat.reduceLeDiff, ↓reduceIte]
  refine call_pu (words_ok h.h12 h1 h2 h3) ?_
  rintro r ⟨es, hl, hu, -⟩
  refine field_outer h hl hu ?_ _ ⟨rfl, rfl, rfl, rfl⟩
  intro env he
  simp only [go_sem]
  refine call_pu (wakes_ok h.toPairT h.h16) ?_
  rintro r rfl
  simp [nth_puts, he]

end
end M2
end
section
namespace M2
open Go
noncomputable section
variable {tbl : Nat → Option AFunc}

structure PairM (tbl : Nat → Option AFunc) : Prop extends PairL tbl where
  h19 : tbl 19 = some (flatF x19)
  h20 : tbl 20 = some (flatF x20)
  h21 : tbl 21 = some (flatF x21)
  h22 : tbl 22 = some (flatF x22)
  h23 : tbl 23 = some (flatF x23)
  h24 : tbl 24 = some (flatF x24)
  h46 : tbl 46 = some (flatF x46)

@[go_sem] theorem eqk_ne (a b : Bool) : pureV (.eqk .bool true hh hh) [.bool a, .bool b] = some (.bool (a != b)) := by cases a <;> cases b <;> rfl
@[go_sem] theorem eqk_eq (a b : Bool) : pureV (.eqk .bool false hh hh) [.bool a, .bool b] = some (.bool (a == b)) := by cases a <;> cases b <;> rfl

theorem ops_in (h : PairM tbl) {b1 l : AV} {es : List AV} (hl : IsSl 1 l es) (hu : IsU es) {op : Int} {i : Nat} (hi : i < es.length) {Q : XR → Prop}
    (hx : ∀ env, env.length = 19 → nth env 2 = .bool false → nth env 3 = l → nth env 4 = i64 op → nth env 5 = i64 i → nth env 1 = b1 → Q (.exit 4 env [] [])) (env : List AV)
    (he : env.length = 19 ∧ nth env 2 = .bool false ∧ nth env 3 = l ∧ nth env 4 = i64 op ∧ nth env 5 = i64 i ∧ nth env 6 = i64 0 ∧ nth env 1 = b1) : wLoop (wpc tbl x6l0) env [] [] Q := by
  have hle := hl.le
  refine wLoop_up x6l0.eq_1 es.length (fun k env H O => H = [] ∧ O = [] ∧ env.length = 19 ∧ nth env 2 = .bool false ∧ nth env 3 = l ∧ nth env 4 = i64 op ∧ nth env 5 = i64 i ∧ nth env 6 = i64 k ∧ nth env 1 = b1) ?_ ?_ 0 env [] [] (by omega) ⟨rfl, rfl, he⟩
  · rintro k env H O hk ⟨rfl, rfl, e0, e2, e3, e4, e5, e6, e1⟩
    simp only [go_sem, e2, e3, e4, e5, e6, e1, hl.len]
    refine ⟨fun _ => ?_, fun hh => by omega⟩
    have ra := hl.uAt hu hi
    have rb := hl.uAt hu hk
    have ua := (uAt_u hu hi).1
    have ub := (uAt_u hu hk).1
    have hk1 : IntKind.i64.wrap ((k : Int) + 1) = (k : Int) + 1 := wrap_i64 (by omega) (by omega)
    generalize uAt es i = a at *
    generalize uAt es k = b at *
    simp only [ra, rb]
    refine call_pu (of_ok h.toPairT ua ub) ?_
    rintro r rfl
    by_cases ho : 18 ≤ op ∧ op ≤ 21
    · simp only [go_sem, nth_puts, length_put, e0, e1, e2, e3, e4, e5, e6, Nat.reduceEqDiff, ↓reduceIte, Nat.reduceLT, ra, rb, ho, and_self]
      refine call_pu (paired_ok h.h21 h.h46 _) ?_
      rintro r rfl
      simp only [go_sem, nth_puts, length_put, e0, e1, e2, e3, e4, e5, e6, Nat.reduceEqDiff, ↓reduceIte, Nat.reduceLT, ra, rb, ho, and_self]
      refine call_pu (rpair_ok h.h19 h.h22 h.h24 ua ub) ?_
      rintro r rfl
      simp only [go_sem, nth_puts, length_put, e0, e1, e2, e3, e4, e5, e6, Nat.reduceEqDiff, ↓reduceIte, Nat.reduceLT, ra, rb]
      refine call_pu (num_ok h.h14 _) ?_
      rintro r rfl
      simp only [go_sem, nth_puts, length_put, e0, e1, e2, e3, e4, e5, e6, Nat.reduceEqDiff, ↓reduceIte, Nat.reduceLT, ra, rb, hk1]
      simp
    · simp only [ho, if_false]
      simp only [go_sem, nth_puts, length_put, e0, e1, e2, e3, e4, e5, e6, Nat.reduceEqDiff, ↓reduceIte, Nat.reduceLT, ra, rb]
      refine call_pu (paired_ok h.h21 h.h46 _) ?_
      rintro r rfl
      simp only [go_sem, nth_puts, length_put, e0, e1, e2, e3, e4, e5, e6, Nat.reduceEqDiff, ↓reduceIte, Nat.reduceLT, ra, rb, ho]
      refine call_pu (num_ok h.h14 _) ?_
      rintro r rfl
      simp only [go_sem, nth_puts, length_put, e0, e1, e2, e3, e4, e5, e6, Nat.reduceEqDiff, ↓reduceIte, Nat.reduceLT, ra, rb, hk1]
      simp
  · rintro env H O ⟨rfl, rfl, e0, e2, e3, e4, e5, e6, e1⟩
    simp only [go_sem, e2, e3, e4, e5, e6, hl.len]
    refine ⟨fun hh => by omega, fun _ => ?_⟩
    exact hx env e0 e2 e3 e4 e5 e1

theorem ops_mid (h : PairM tbl) {b1 l : AV} {es : List AV} (hl : IsSl 1 l es) (hu : IsU es) {op : Int} {Q : XR → Prop}
    (hx : ∀ env, env.length = 19 → nth env 2 = .bool false → nth env 3 = l → nth env 4 = i64 op → nth env 1 = b1 → Q (.exit 2 env [] [])) (env : List AV)
    (he : env.length = 19 ∧ nth env 2 = .bool false ∧ nth env 3 = l ∧ nth env 4 = i64 op ∧ nth env 5 = i64 0 ∧ nth env 1 = b1) : wLoop (wpc tbl x6l1) env [] [] Q := by
  have hle := hl.le
  refine wLoop_up x6l1.eq_1 es.length (fun k env H O => H = [] ∧ O = [] ∧ env.length = 19 ∧ nth env 2 = .bool false ∧ nth env 3 = l ∧ nth env 4 = i64 op ∧ nth env 5 = i64 k ∧ nth env 1 = b1) ?_ ?_ 0 env [] [] (by omega) ⟨rfl, rfl, he⟩
  · rintro k env H O hk ⟨rfl, rfl, e0, e2, e3, e4, e5, e1⟩
    simp only [go_sem, e2, e3, e4, e5, e1, hl.len]
    refine ⟨fun _ => ?_, fun hh => by omega⟩
    have hk1 : IntKind.i64.wrap ((k : Int) + 1) = (k : Int) + 1 := wrap_i64 (by omega) (by omega)
    refine ops_in (op := op) (b1 := b1) h hl hu hk ?_ _ ?_
    · intro env' f0 f2 f3 f4 f5 f1
      simp only [go_sem, f5, f0, f1, f2, f3, f4, nth_puts, length_put, Nat.reduceEqDiff, ↓reduceIte, Nat.reduceLT, hk1]
      simp
    · simp only [nth_puts, length_put, e0, e1, e2, e3, e4, e5, Nat.reduceEqDiff, ↓reduceIte, Nat.reduceLT]
      simp
  · rintro env H O ⟨rfl, rfl, e0, e2, e3, e4, e5, e1⟩
    simp only [go_sem, e2, e3, e4, e5, hl.len]
    refine ⟨fun hh => by omega, fun _ => ?_⟩
    exact hx env e0 e2 e3 e4 e1

theorem ops_out (h : PairM tbl) {b1 l : AV} {es : List AV} (hl : IsSl 1 l es) (hu : IsU es) {Q : XR → Prop}
    (hx : ∀ env, env.length = 19 → nth env 2 = .bool false → nth env 3 = l → nth env 1 = b1 → Q (.exit 0 env [] [])) (env : List AV)
    (he : env.length = 19 ∧ nth env 2 = .bool false ∧ nth env 3 = l ∧ nth env 4 = i64 (-1) ∧ nth env 1 = b1) : wLoop (wpc tbl x6l2) env [] [] Q := by
  refine wLoop_up x6l2.eq_1 36 (fun k env H O => H = [] ∧ O = [] ∧ env.length = 19 ∧ nth env 2 = .bool false ∧ nth env 3 = l ∧ nth env 4 = i64 (k - 1) ∧ nth env 1 = b1) ?_ ?_ 0 env [] [] (by omega) ⟨rfl, rfl, he⟩
  · rintro k env H O hk ⟨rfl, rfl, e0, e2, e3, e4, e1⟩
    simp only [go_sem, e2, e3, e4, e1, hl.len]
    refine ⟨fun _ => ?_, fun hh => by omega⟩
    have hk1 : IntKind.i64.wrap ((k : Int) - 1 + 1) = (k : Int) + 1 - 1 := by rw [wrap_i64 (by omega) (by omega)]; omega
    refine call_pu (has_ok h.h20 _) ?_
    rintro r rfl
    try simp only [go_sem, e2, e3, e4, e1, hl.len]
    refine call_pu (paired_ok h.h21 h.h46 _) ?_
    rintro r rfl
    try simp only [go_sem, e2, e3, e4, e1, hl.len]
    simp only [go_sem, bne_self_eq_false]
    refine ops_mid (op := (k : Int) - 1) (b1 := b1) h hl hu ?_ _ ?_
    · intro env' f0 f2 f3 f4 f1
      simp only [go_sem, f0, f1, f2, f3, f4, nth_puts, length_put, Nat.reduceEqDiff, ↓reduceIte, Nat.reduceLT, hk1]
      simp
    · simp only [nth_puts, length_put, e0, e1, e2, e3, e4, Nat.reduceEqDiff, ↓reduceIte, Nat.reduceLT]
      simp
  · rintro env H O ⟨rfl, rfl, e0, e2, e3, e4, e1⟩
    simp only [go_sem, e2, e3, e4, hl.len]
    refine ⟨fun hh => by omega, fun _ => ?_⟩
    exact hx env e0 e2 e3 e1

theorem ops_parts (h : PairM tbl) {b1 l : AV} {es : List AV} (hl : IsSl 1 l es) (hu : IsU es) {Q : XR → Prop}
    (hx : ∀ env, env.length = 19 → nth env 2 = .bool false → nth env 3 = l → nth env 1 = b1 → Q (.exit 6 env [] [])) (env : List AV)
    (he : env.length = 19 ∧ nth env 2 = .bool false ∧ nth env 3 = l ∧ nth env 11 = i64 0 ∧ nth env 1 = b1) : wLoop (wpc tbl x6l3) env [] [] Q := by
  have hle := hl.le
  refine wLoop_up x6l3.eq_1 es.length (fun k env H O => H = [] ∧ O = [] ∧ env.length = 19 ∧ nth env 2 = .bool false ∧ nth env 3 = l ∧ nth env 11 = i64 k ∧ nth env 1 = b1) ?_ ?_ 0 env [] [] (by omega) ⟨rfl, rfl, he⟩
  · rintro k env H O hk ⟨rfl, rfl, e0, e2, e3, e4, e1⟩
    simp only [go_sem, e2, e3, e4, e1, hl.len]
    refine ⟨fun _ => ?_, fun hh => by omega⟩
    have hk1 : IntKind.i64.wrap ((k : Int) + 1) = (k : Int) + 1 := wrap_i64 (by omega) (by omega)
    have ra := hl.uAt hu hk
    have ua := (uAt_u hu hk).1
    have mp := mk_parts ua
    generalize uAt es k = a at *
    simp only [ra]
    refine call_pu (parts_ok h.h18 ua) ?_
    rintro r rfl
    simp only [go_sem, nth_puts, length_put, e0, e1, e2, e3, e4, Nat.reduceEqDiff, ↓reduceIte, Nat.reduceLT, ra]
    refine call_pu (rparts_ok h.h22 ua) ?_
    rintro r rfl
    simp only [go_sem, nth_puts, length_put, e0, e1, e2, e3, e4, Nat.reduceEqDiff, ↓reduceIte, Nat.reduceLT, ra]
    refine call_pu (norm_ok h.h15 h.h43 h.h18 h.h45 ua) ?_
    rintro r rfl
    refine call_pu (rnorm_ok h.h23 h.h22 ua) ?_
    rintro r rfl
    simp only [go_sem, nth_puts, length_put, e0, e1, e2, e3, e4, Nat.reduceEqDiff, ↓reduceIte, Nat.reduceLT, ra]
    refine call_pu (make_ok h.h17 _ _) ?_
    rintro r rfl
    simp only [go_sem, nth_puts, length_put, e0, e1, e2, e3, e4, Nat.reduceEqDiff, ↓reduceIte, Nat.reduceLT, ra, mp, hk1]
    simp
  · rintro env H O ⟨rfl, rfl, e0, e2, e3, e4, e1⟩
    simp only [go_sem, e2, e3, e4, hl.len]
    refine ⟨fun hh => by omega, fun _ => ?_⟩
    exact hx env e0 e2 e3 e1

def iAt (es : List AV) (i : Nat) : Int := match es[i]? with | some (.int _ n) => n | _ => 0
theorem IsSl.iAt {v : AV} {es : List AV} (h : IsSl 1 v es) (hu : IsI es) {i : Nat} (hi : i < es.length) (H : Heap) (Q : AV → Prop) : ixv (.ld1 hh) 1 v (.int .i64 i) H Q = Q (i64 (M2.iAt es i)) := by
  obtain ⟨n, hn, he⟩ := hu _ (List.getElem_mem hi)
  have : M2.iAt es i = n := by unfold M2.iAt; rw [List.getElem?_eq_getElem hi, he]
  rw [h.ix1 (k := .i64) (n := i) (by omega) (by omega) (by simp only [Int.toNat_natCast]; rw [he]; rfl) H Q]
  simp only [Int.toNat_natCast]
  rw [he, this]

theorem ops_nin (h : PairM tbl) {b1 l : AV} {es : List AV} (hl : IsSl 1 l es) (hu : IsI es) {O0 : Rows} {i : Nat} (hi : i < es.length) {Q : XR → Prop}
    (hx : ∀ env, env.length = 19 → nth env 2 = .bool false → nth env 16 = l → nth env 17 = i64 i → nth env 1 = b1 → Q (.exit 10 env [] O0)) (env : List AV)
    (he : env.length = 19 ∧ nth env 2 = .bool false ∧ nth env 16 = l ∧ nth env 17 = i64 i ∧ nth env 18 = i64 0 ∧ nth env 1 = b1) : wLoop (wpc tbl x6l4) env [] O0 Q := by
  have hle := hl.le
  refine wLoop_up x6l4.eq_1 (min es.length 16) (fun k env H O => H = [] ∧ O = O0 ∧ env.length = 19 ∧ nth env 2 = .bool false ∧ nth env 16 = l ∧ nth env 17 = i64 i ∧ nth env 18 = i64 k ∧ nth env 1 = b1) ?_ ?_ 0 env [] O0 (by omega) ⟨rfl, rfl, he⟩
  · rintro k env H O hk ⟨rfl, rfl, e0, e2, e3, e4, e5, e1⟩
    have g1 : (k : Int) < es.length := by omega
    have g2 : (k : Int) < 16 := by omega
    have hk1 : IntKind.i64.wrap ((k : Int) + 1) = (k : Int) + 1 := wrap_i64 (by omega) (by omega)
    simp only [go_sem, e2, e3, e4, e5, e1, hl.len, g1, g2, decide_true, hl.iAt hu hi, hl.iAt hu (show k < es.length by omega)]
    refine call_pu (make_ok h.h17 _ _) ?_
    rintro r rfl
    try simp only [go_sem, e2, e3, e4, e5, e1, hl.len, g1, g2, decide_true, hl.iAt hu hi, hl.iAt hu (show k < es.length by omega)]
    refine call_pu (rmake_ok h.h24 _ _) ?_
    rintro r rfl
    simp only [go_sem, nth_puts, length_put, e0, e1, e2, e3, e4, e5, Nat.reduceEqDiff, ↓reduceIte, Nat.reduceLT, hk1]
    simp
  · rintro env H O ⟨rfl, rfl, e0, e2, e3, e4, e5, e1⟩
    simp only [go_sem, e2, e3, e4, e5, e1, hl.len]
    by_cases hh : es.length < 16
    · have g1 : ¬ ((min es.length 16 : Nat) : Int) < es.length := by omega
      simp only [g1, go_sem, decide_false]
      exact hx env e0 e2 e3 e4 e1
    · have g1 : ¬ ((min es.length 16 : Nat) : Int) < 16 := by omega
      simp only [g1, go_sem, decide_false]
      exact ⟨fun _ => hx env e0 e2 e3 e4 e1, fun _ => hx env e0 e2 e3 e4 e1⟩

theorem ops_nout (h : PairM tbl) {b1 l : AV} {es : List AV} (hl : IsSl 1 l es) (hu : IsI es) {O0 : Rows} {Q : XR → Prop}
    (hx : ∀ env, env.length = 19 → Q (.exit 8 env [] O0)) (env : List AV)
    (he : env.length = 19 ∧ nth env 2 = .bool false ∧ nth env 16 = l ∧ nth env 17 = i64 0 ∧ nth env 1 = b1) : wLoop (wpc tbl x6l5) env [] O0 Q := by
  have hle := hl.le
  refine wLoop_up x6l5.eq_1 (min es.length 16) (fun k env H O => H = [] ∧ O = O0 ∧ env.length = 19 ∧ nth env 2 = .bool false ∧ nth env 16 = l ∧ nth env 17 = i64 k ∧ nth env 1 = b1) ?_ ?_ 0 env [] O0 (by omega) ⟨rfl, rfl, he⟩
  · rintro k env H O hk ⟨rfl, rfl, e0, e2, e3, e4, e1⟩
    have g1 : (k : Int) < es.length := by omega
    have g2 : (k : Int) < 16 := by omega
    have hk1 : IntKind.i64.wrap ((k : Int) + 1) = (k : Int) + 1 := wrap_i64 (by omega) (by omega)
    simp only [go_sem, e2, e3, e4, e1, hl.len, g1, g2, decide_true]
    refine ops_nin (b1 := b1) (i := k) h hl hu (by omega) ?_ _ ?_
    · intro env' f0 f2 f3 f4 f1
      simp only [go_sem, f0, f1, f2, f3, f4, nth_puts, length_put, Nat.reduceEqDiff, ↓reduceIte, Nat.reduceLT, hk1]
      simp
    · simp only [nth_puts, length_put, e0, e1, e2, e3, e4, Nat.reduceEqDiff, ↓reduceIte, Nat.reduceLT]
      simp
  · rintro env H O ⟨rfl, rfl, e0, e2, e3, e4, e1⟩
    simp only [go_sem, e2, e3, e4, e1, hl.len]
    by_cases hh : es.length < 16
    · have g1 : ¬ ((min es.length 16 : Nat) : Int) < es.length := by omega
      simp only [g1, go_sem, decide_false]
      exact hx env e0
    · have g1 : ¬ ((min es.length 16 : Nat) : Int) < 16 := by omega
      simp only [g1, go_sem, decide_false]
      exact ⟨fun _ => hx env e0, fun _ => hx env e0⟩

theorem ops_law (h : PairM tbl) {cs : List AV} (ha : TyR askTy cs) : PuR tbl 6 [.agg cs] (· = .bool true) := by
  obtain ⟨vw, vn, ws, ns, rfl, h1, h2, h3, h4, h5, h6⟩ := ask_of ha
  refine pu_of h.h6 w6 rfl rfl ?_
  simp only [x6, go_sem, Nat.reduceAdd, Nat.reduceLeDiff, ↓reduceIte]
  refine call_pu (words_ok h.h12 h1 h2 h3) ?_
  rintro r ⟨es, hl, hu, -⟩
  try simp only [go_sem]
  refine ops_out (b1 := .agg [vw, vn]) h hl hu ?_ _ ⟨rfl, rfl, rfl, rfl, rfl⟩
  intro env f0 f2 f3 f1
  simp only [go_sem]
  refine ops_parts (b1 := .agg [vw, vn]) h hl hu ?_ _ ?_
  · intro env f0 f2 f3 f1
    simp only [go_sem, f1]
    simp
    intro id
    refine app_ok (xs := [i64 0, i64 1, i64 (-1), i64 32767, i64 32768, i64 (-32769), i64 4611686018427387904]) (ap_lit _ _ _ _ _ rfl (by simp)) h4 h5.known (by decide) (by simp; omega) (by decide) ?_
    intro r' O' hr _
    have hu' : IsI ([i64 0, i64 1, i64 (-1), i64 32767, i64 32768, i64 (-32769), i64 4611686018427387904] ++ ns) := by
      refine IsI.app ?_ h5
      intro x hx
      simp only [List.mem_cons, List.not_mem_nil, or_false] at hx
      rcases hx with rfl | rfl | rfl | rfl | rfl | rfl | rfl <;> exact ⟨_, by omega, rfl⟩
    refine ops_nout (b1 := .agg [vw, vn]) h hr.sl hu' ?_ _ ?_
    · intro env f0
      simp only [go_sem]
      refine call_pu (wakes_ok h.toPairT h.h16) ?_
      rintro r rfl
      simp [nth_puts, f0]
    · simp only [nth_puts, length_put, f0, f2, f3, f1, Nat.reduceEqDiff, ↓reduceIte, Nat.reduceLT]
      simp
  · simp only [nth_puts, length_put, f0, f2, f3, f1, Nat.reduceEqDiff, ↓reduceIte, Nat.reduceLT]
    simp

end
end M2
end
section
namespace M2
open Go
noncomputable section
variable {tbl : Nat → Option AFunc}

/-- pairs whose conjugates stand -/
def Nice (x : Int) : Prop := U32 x ∧ re x ≠ -32768 ∧ im x ≠ -32768
theorem turn_re {x : Int} (h : Nice x) : Nice (ofV 20 x 65536) ∧ re (ofV 20 x 65536) = - im x ∧ im (ofV 20 x 65536) = re x := by
  have a := re_b x
  have b := im_b x
  have r0 : re 65536 = 0 := by decide
  have i0 : im 65536 = 1 := by decide
  have hr : re (ofV 20 x 65536) = - im x := by
    simp only [ofV, show ¬ (20 : Int) = 18 by omega, show ¬ (20 : Int) = 19 by omega, if_true, if_false, re_mk, r0, i0]
    have := h.2.2
    unfold s16; omega
  have hi : im (ofV 20 x 65536) = re x := by
    simp only [ofV, show ¬ (20 : Int) = 18 by omega, show ¬ (20 : Int) = 19 by omega, if_true, if_false, im_mk, r0, i0]
    unfold s16; omega
  exact ⟨⟨ofV_u _ _ _, by rw [hr]; omega, by rw [hi]; exact h.2.1⟩, hr, hi⟩
theorem turn_norm {x : Int} (h : Nice x) : norm (ofV 20 x 65536) = norm x := by
  unfold norm; rw [(turn_re h).2.1, (turn_re h).2.2]; grind
theorem u_ext {a b : Int} (ha : U32 a) (hb : U32 b) (h : re a = re b) (k : im a = im b) : a = b := by
  rw [← mk_parts ha, ← mk_parts hb, h, k]
def turns (x : Int) : Nat → Int
  | 0 => x
  | n + 1 => ofV 20 (turns x n) 65536
theorem turns_nice {x : Int} (h : Nice x) : ∀ n, Nice (turns x n) ∧ norm (turns x n) = norm x
  | 0 => ⟨h, rfl⟩
  | n + 1 => ⟨(turn_re (turns_nice h n).1).1, (turn_norm (turns_nice h n).1).trans (turns_nice h n).2⟩
theorem turns4 {x : Int} (h : Nice x) : turns x 4 = x := by
  have t0 := turn_re h
  have t1 := turn_re t0.1
  have t2 := turn_re t1.1
  have t3 := turn_re t2.1
  refine u_ext t3.1.1 h.1 ?_ ?_
  · show re (ofV 20 (ofV 20 (ofV 20 (ofV 20 x 65536) 65536) 65536) 65536) = _
    rw [t3.2.1, t2.2.2, t1.2.1, t0.2.2]; omega
  · show im (ofV 20 (ofV 20 (ofV 20 (ofV 20 x 65536) 65536) 65536) 65536) = _
    rw [t3.2.2, t2.2.1, t1.2.2, t0.2.1]; omega
theorem conj_re {x : Int} (h : Nice x) (b : Int) : Nice (ofV 21 x b) ∧ re (ofV 21 x b) = re x ∧ im (ofV 21 x b) = - im x := by
  have a := re_b x
  have c := im_b x
  have hr : re (ofV 21 x b) = re x := by
    simp only [ofV, show ¬ (21 : Int) = 18 by omega, show ¬ (21 : Int) = 19 by omega, show ¬ (21 : Int) = 20 by omega, if_true, if_false, re_mk]
    unfold s16; omega
  have hi : im (ofV 21 x b) = - im x := by
    simp only [ofV, show ¬ (21 : Int) = 18 by omega, show ¬ (21 : Int) = 19 by omega, show ¬ (21 : Int) = 20 by omega, if_true, if_false, im_mk]
    have := h.2.2
    unfold s16; omega
  exact ⟨⟨ofV_u _ _ _, by rw [hr]; exact h.2.1, by rw [hi]; omega⟩, hr, hi⟩
theorem conj_norm {x : Int} (h : Nice x) (b : Int) : norm (ofV 21 x b) = norm x := by
  unfold norm; rw [(conj_re h b).2.1, (conj_re h b).2.2]; grind
theorem conj2 {x : Int} (h : Nice x) (b : Int) : ofV 21 (ofV 21 x b) b = x := by
  have t0 := conj_re h b
  have t1 := conj_re t0.1 b
  exact u_ext t1.1.1 h.1 (by rw [t1.2.1, t0.2.1]) (by rw [t1.2.2, t0.2.2]; omega)

theorem turns_in (h : PairM tbl) {b1 l : AV} {es : List AV} (hl : IsSl 1 l es) (hu : IsU es) {i : Nat} (hi : i < es.length) (hn : Nice (uAt es i)) {Q : XR → Prop}
    (hx : ∀ env, env.length = 16 → nth env 2 = .bool false → nth env 3 = l → nth env 4 = u32 65536 → nth env 5 = i64 i → nth env 8 = u32 (uAt es i) → nth env 1 = b1 → Q (.exit 2 env [] [])) (env : List AV)
    (he : env.length = 16 ∧ nth env 2 = .bool false ∧ nth env 3 = l ∧ nth env 4 = u32 65536 ∧ nth env 5 = i64 i ∧ nth env 8 = u32 (uAt es i) ∧ nth env 9 = i64 0 ∧ nth env 1 = b1) : wLoop (wpc tbl x5l0) env [] [] Q := by
  have hle := hl.le
  refine wLoop_up x5l0.eq_1 4 (fun k env H O => H = [] ∧ O = [] ∧ env.length = 16 ∧ nth env 2 = .bool false ∧ nth env 3 = l ∧ nth env 4 = u32 65536 ∧ nth env 5 = i64 i ∧ nth env 8 = u32 (turns (uAt es i) k) ∧ nth env 9 = i64 k ∧ nth env 1 = b1) ?_ ?_ 0 env [] [] (by omega) ⟨rfl, rfl, he⟩
  · rintro k env H O hk ⟨rfl, rfl, e0, e2, e3, e4, e5, e8, e9, e1⟩
    simp only [go_sem, e2, e3, e4, e5, e8, e9, e1, hl.len]
    refine ⟨fun _ => ?_, fun hh => by omega⟩
    have ra := hl.uAt hu hi
    have ua := (uAt_u hu hi).1
    have hk1 : IntKind.i64.wrap ((k : Int) + 1) = (k : Int) + 1 := wrap_i64 (by omega) (by omega)
    have t0 := turns_nice hn k
    have t1 := turns_nice hn (k + 1)
    generalize hb : turns (uAt es i) k = b at *
    have hc : turns (uAt es i) (k + 1) = ofV 20 b 65536 := by rw [← hb]; rfl
    rw [hc] at t1
    simp only [hc]
    refine call_pu (of_op h.toPairT (by omega) t0.1.1 ⟨by omega, by omega⟩) ?_
    rintro r rfl
    simp only [go_sem, nth_puts, length_put, e0, e1, e2, e3, e4, e5, e8, e9, Nat.reduceEqDiff, ↓reduceIte, Nat.reduceLT, ra]
    refine call_pu (num_ok h.h14 _) ?_
    rintro r rfl
    simp only [go_sem, nth_puts, length_put, e0, e1, e2, e3, e4, e5, e8, e9, Nat.reduceEqDiff, ↓reduceIte, Nat.reduceLT, ra]
    refine call_pu (norm_ok h.h15 h.h43 h.h18 h.h45 t1.1.1) ?_
    rintro r rfl
    try simp only [go_sem, nth_puts, length_put, e0, e1, e2, e3, e4, e5, e8, e9, Nat.reduceEqDiff, ↓reduceIte, Nat.reduceLT, ra]
    refine call_pu (norm_ok h.h15 h.h43 h.h18 h.h45 ua) ?_
    rintro r rfl
    simp only [go_sem, nth_puts, length_put, e0, e1, e2, e3, e4, e5, e8, e9, Nat.reduceEqDiff, ↓reduceIte, Nat.reduceLT, ra, t1.2, hk1]
    simp
  · rintro env H O ⟨rfl, rfl, e0, e2, e3, e4, e5, e8, e9, e1⟩
    simp only [go_sem, e2, e3, e4, e5, e8, e9, e1, hl.len]
    refine ⟨fun hh => by omega, fun _ => ?_⟩
    exact hx env e0 e2 e3 e4 e5 (by rw [e8, turns4 hn]) e1

theorem turns_out (h : PairM tbl) {b1 l : AV} {es : List AV} (hl : IsSl 1 l es) (hu : IsU es) {Q : XR → Prop}
    (hx : ∀ env, env.length = 16 → Q (.exit 0 env [] [])) (env : List AV)
    (he : env.length = 16 ∧ nth env 2 = .bool false ∧ nth env 3 = l ∧ nth env 4 = u32 65536 ∧ nth env 5 = i64 0 ∧ nth env 1 = b1) : wLoop (wpc tbl x5l1) env [] [] Q := by
  have hle := hl.le
  refine wLoop_up x5l1.eq_1 es.length (fun k env H O => H = [] ∧ O = [] ∧ env.length = 16 ∧ nth env 2 = .bool false ∧ nth env 3 = l ∧ nth env 4 = u32 65536 ∧ nth env 5 = i64 k ∧ nth env 1 = b1) ?_ ?_ 0 env [] [] (by omega) ⟨rfl, rfl, he⟩
  · rintro k env H O hk ⟨rfl, rfl, e0, e2, e3, e4, e5, e1⟩
    simp only [go_sem, e2, e3, e4, e5, e1, hl.len]
    refine ⟨fun _ => ?_, fun hh => by omega⟩
    have ra := hl.uAt hu hk
    have ua := (uAt_u hu hk).1
    have hk1 : IntKind.i64.wrap ((k : Int) + 1) = (k : Int) + 1 := wrap_i64 (by omega) (by omega)
    simp only [ra]
    refine call_pu (parts_ok h.h18 ua) ?_
    rintro r rfl
    simp only [go_sem, nth_puts, length_put, e0, e1, e2, e3, e4, e5, Nat.reduceEqDiff, ↓reduceIte, Nat.reduceLT, ra]
    have h78 : Int.negSucc 32767 = -32768 := rfl
    simp only [h78]
    refine ⟨fun _ => by rw [hk1]; rfl, fun n1 => ⟨fun _ => by rw [hk1]; rfl, fun n2 => ?_⟩⟩
    have hn : Nice (uAt es k) := ⟨ua, n1, n2⟩
    have t0 := conj_re hn 0
    have t1 := conj_norm hn 0
    have t2 := conj2 hn 0
    refine turns_in (b1 := b1) h hl hu hk hn ?_ _ ?_
    · intro env f0 f2 f3 f4 f5 f8 f1
      generalize uAt es k = a at *
      simp only [go_sem, f0, f1, f2, f3, f4, f5, f8]
      refine call_pu (of_op h.toPairT (by omega) ua ⟨by omega, by omega⟩) ?_
      rintro r rfl
      simp only [go_sem, nth_puts, length_put, f0, f1, f2, f3, f4, f5, f8, Nat.reduceEqDiff, ↓reduceIte, Nat.reduceLT, ra]
      refine call_pu (of_op h.toPairT (by omega) (ofV_u _ _ _) ⟨by omega, by omega⟩) ?_
      rintro r rfl
      simp only [go_sem, nth_puts, length_put, f0, f1, f2, f3, f4, f5, f8, Nat.reduceEqDiff, ↓reduceIte, Nat.reduceLT, ra, t2]
      iterate 2
        refine call_pu (num_ok h.h14 _) ?_
        rintro r rfl
        try simp only [go_sem, nth_puts, length_put, f0, f1, f2, f3, f4, f5, f8, Nat.reduceEqDiff, ↓reduceIte, Nat.reduceLT, ra, t2]
      refine call_pu (norm_ok h.h15 h.h43 h.h18 h.h45 (ofV_u _ _ _)) ?_
      rintro r rfl
      try simp only [go_sem, nth_puts, length_put, f0, f1, f2, f3, f4, f5, f8, Nat.reduceEqDiff, ↓reduceIte, Nat.reduceLT, ra, t2]
      refine call_pu (norm_ok h.h15 h.h43 h.h18 h.h45 ua) ?_
      rintro r rfl
      simp only [go_sem, nth_puts, length_put, f0, f1, f2, f3, f4, f5, f8, Nat.reduceEqDiff, ↓reduceIte, Nat.reduceLT, ra, t2, t1, hk1]
      simp
    · simp only [nth_puts, length_put, e0, e1, e2, e3, e4, e5, Nat.reduceEqDiff, ↓reduceIte, Nat.reduceLT]
      simp
  · rintro env H O ⟨rfl, rfl, e0, e2, e3, e4, e5, e1⟩
    simp only [go_sem, e2, e3, e4, e5, e1, hl.len]
    refine ⟨fun hh => by omega, fun _ => ?_⟩
    exact hx env e0

theorem turns_law (h : PairM tbl) {cs : List AV} (ha : TyR askTy cs) : PuR tbl 5 [.agg cs] (· = .bool true) := by
  obtain ⟨vw, vn, ws, ns, rfl, h1, h2, h3, -⟩ := ask_of ha
  refine pu_of h.h5 w5 rfl rfl ?_
  simp only [x5, go_sem, Nat.reduceAdd, Nat.reduceLeDiff, ↓reduceIte]
  refine call_pu (words_ok h.h12 h1 h2 h3) ?_
  rintro r ⟨es, hl, hu, -⟩
  try simp only [go_sem]
  refine call_pu (make_ok h.h17 _ _) ?_
  rintro r rfl
  try simp only [go_sem]
  refine turns_out (b1 := .agg [vw, vn]) h hl hu ?_ _ ⟨rfl, rfl, rfl, by simp [nth, mk], rfl, rfl⟩
  intro env he
  simp only [go_sem]
  refine call_pu (wakes_ok h.toPairT h.h16) ?_
  rintro r rfl
  simp [nth_puts, he]

/-! ### Edges -/

/-- the inner of the first loops: pairs made -/
theorem edges_in (h : PairM tbl) {b1 l : AV} {ps : List AV} (hl : IsSl 1 l ps) (hp : ∀ j, j < ps.length → -32768 ≤ iAt ps j ∧ iAt ps j ≤ 32767) (hu : IsI ps) (hlen : ps.length = 11) {i : Nat} (hi : i < 11) {Q : XR → Prop}
    (hx : ∀ env v ms O, env.length = 15 → nth env 2 = .bool false → nth env 3 = l → nth env 4 = v → nth env 5 = i64 i → nth env 1 = b1 → Ap O 1 v ms → IsU ms → ms.length = (i + 1) * 11 → Q (.exit 2 env [] O)) (env : List AV) (v : AV) (ms : List AV) (O : Rows)
    (hv : Ap O 1 v ms) (hms : IsU ms) (hml : ms.length = i * 11)
    (he : env.length = 15 ∧ nth env 2 = .bool false ∧ nth env 3 = l ∧ nth env 4 = v ∧ nth env 5 = i64 i ∧ nth env 6 = i64 0 ∧ nth env 1 = b1) : wLoop (wpc tbl x4l0) env [] O Q := by
  refine wLoop_up x4l0.eq_1 11 (fun k env H O => ∃ v ms, H = [] ∧ Ap O 1 v ms ∧ IsU ms ∧ ms.length = i * 11 + k ∧ env.length = 15 ∧ nth env 2 = .bool false ∧ nth env 3 = l ∧ nth env 4 = v ∧ nth env 5 = i64 i ∧ nth env 6 = i64 k ∧ nth env 1 = b1) ?_ ?_ 0 env [] O (by omega) ⟨v, ms, rfl, hv, hms, hml, he⟩
  · rintro k env H O hk ⟨v, ms, rfl, hv, hms, hml, e0, e2, e3, e4, e5, e6, e1⟩
    simp only [go_sem, e2, e3, e4, e5, e6, e1, hl.len, hlen]
    refine ⟨fun _ => ?_, fun hh => by omega⟩
    have ra := hl.iAt hu (show i < ps.length by omega)
    have rb := hl.iAt hu (show k < ps.length by omega)
    have pa := hp i (by omega)
    have pb := hp k (by omega)
    have hk1 : IntKind.i64.wrap ((k : Int) + 1) = (k : Int) + 1 := wrap_i64 (by omega) (by omega)
    generalize iAt ps i = a at *
    generalize iAt ps k = b at *
    simp only [ra, rb]
    refine call_pu (make_ok h.h17 _ _) ?_
    rintro r rfl
    have hum := mk_u a b
    have hra : re (mk a b) = a := by rw [re_mk]; unfold s16; omega
    have hrb : im (mk a b) = b := by rw [im_mk]; unfold s16; omega
    simp only [go_sem, nth_puts, length_put, e0, e1, e2, e3, e4, e5, e6, Nat.reduceEqDiff, ↓reduceIte, Nat.reduceLT, ra, rb]
    refine call_pu (parts_ok h.h18 hum) ?_
    rintro r rfl
    simp only [go_sem, nth_puts, length_put, e0, e1, e2, e3, e4, e5, e6, Nat.reduceEqDiff, ↓reduceIte, Nat.reduceLT, ra, rb, hra, hrb]
    refine call_pu (norm_ok h.h15 h.h43 h.h18 h.h45 hum) ?_
    rintro r rfl
    have sa := mul_b (x := a) (y := a) (by omega) (by omega)
    have sb := mul_b (x := b) (y := b) (by omega) (by omega)
    have w1 : IntKind.i64.wrap (a * a) = a * a := wrap_i64 (by omega) (by omega)
    have w2 : IntKind.i64.wrap (b * b) = b * b := wrap_i64 (by omega) (by omega)
    have w3 : IntKind.i64.wrap (a * a + b * b) = norm (mk a b) := by
      rw [wrap_i64 (by omega) (by omega)]; unfold norm; rw [hra, hrb]
    simp only [go_sem, nth_puts, length_put, e0, e1, e2, e3, e4, e5, e6, Nat.reduceEqDiff, ↓reduceIte, Nat.reduceLT, ra, rb, hra, hrb, w1, w2, w3, not_true, false_imp_iff, true_and, not_false_eq_true, true_imp_iff]
    refine ap1_ok hv rfl rfl rfl (by decide) (by omega) (by decide) ?_
    intro r O' hr _
    simp only [go_sem, nth_puts, length_put, e0, e1, e2, e3, e4, e5, e6, Nat.reduceEqDiff, ↓reduceIte, Nat.reduceLT, hk1]
    refine ⟨r, ms ++ [u32 (mk a b)], hr, hms.app (fun x hx => ⟨_, hum, List.mem_singleton.mp hx⟩), by simp; omega, ?_⟩
    simp
  · rintro env H O ⟨v, ms, rfl, hv, hms, hml, e0, e2, e3, e4, e5, e6, e1⟩
    simp only [go_sem, e2, e3, e4, e5, e6, e1, hl.len, hlen]
    refine ⟨fun hh => by omega, fun _ => ?_⟩
    exact hx env v ms O e0 e2 e3 e4 e5 e1 hv hms (by omega)

theorem edges_out (h : PairM tbl) {b1 l : AV} {ps : List AV} (hl : IsSl 1 l ps) (hp : ∀ j, j < ps.length → -32768 ≤ iAt ps j ∧ iAt ps j ≤ 32767) (hu : IsI ps) (hlen : ps.length = 11) {Q : XR → Prop}
    (hx : ∀ env v ms O, env.length = 15 → nth env 2 = .bool false → nth env 4 = v → nth env 1 = b1 → Ap O 1 v ms → IsU ms → ms.length = 121 → Q (.exit 0 env [] O)) (env : List AV) (O : Rows)
    (he : env.length = 15 ∧ nth env 2 = .bool false ∧ nth env 3 = l ∧ nth env 4 = .nils ∧ nth env 5 = i64 0 ∧ nth env 1 = b1) : wLoop (wpc tbl x4l1) env [] O Q := by
  refine wLoop_up x4l1.eq_1 11 (fun k env H O => ∃ v ms, H = [] ∧ Ap O 1 v ms ∧ IsU ms ∧ ms.length = k * 11 ∧ env.length = 15 ∧ nth env 2 = .bool false ∧ nth env 3 = l ∧ nth env 4 = v ∧ nth env 5 = i64 k ∧ nth env 1 = b1) ?_ ?_ 0 env [] O (by omega) ⟨.nils, [], rfl, ap_nils _ _, fun x hx => by simp at hx, rfl, he⟩
  · rintro k env H O hk ⟨v, ms, rfl, hv, hms, hml, e0, e2, e3, e4, e5, e1⟩
    simp only [go_sem, e2, e3, e4, e5, e1, hl.len, hlen]
    refine ⟨fun _ => ?_, fun hh => by omega⟩
    have hk1 : IntKind.i64.wrap ((k : Int) + 1) = (k : Int) + 1 := wrap_i64 (by omega) (by omega)
    refine edges_in (b1 := b1) (i := k) h hl hp hu hlen hk ?_ _ v ms O hv hms hml ?_
    · intro env v ms O f0 f2 f3 f4 f5 f1 g1 g2 g3
      simp only [go_sem, nth_puts, length_put, f0, f1, f2, f3, f4, f5, Nat.reduceEqDiff, ↓reduceIte, Nat.reduceLT, hk1]
      refine ⟨v, ms, g1, g2, g3, ?_⟩
      simp
    · simp only [nth_puts, length_put, e0, e1, e2, e3, e4, e5, Nat.reduceEqDiff, ↓reduceIte, Nat.reduceLT]
      simp
  · rintro env H O ⟨v, ms, rfl, hv, hms, hml, e0, e2, e3, e4, e5, e1⟩
    simp only [go_sem, e2, e3, e4, e5, e1, hl.len, hlen]
    refine ⟨fun hh => by omega, fun _ => ?_⟩
    exact hx env v ms O e0 e2 e4 e1 hv hms (by omega)

/-- the pairs one after another, some left out -/
theorem edges_k (h : PairM tbl) {b1 l : AV} {es : List AV} {O0 : Rows} (hl : IsSl 1 l es) (hu : IsU es) (hlen : es.length ≤ 121) {op : Int} (ho : 18 ≤ op ∧ op ≤ 21) {i : Nat} (hi : i < es.length) {Q : XR → Prop}
    (hx : ∀ env, env.length = 15 → nth env 2 = .bool false → nth env 4 = l → nth env 10 = i64 op → nth env 11 = i64 i → nth env 1 = b1 → Q (.exit 8 env [] O0)) (env : List AV)
    (he : env.length = 15 ∧ nth env 2 = .bool false ∧ nth env 4 = l ∧ nth env 10 = i64 op ∧ nth env 11 = i64 i ∧ nth env 12 = i64 0 ∧ nth env 1 = b1) : wLoop (wpc tbl x4l2) env [] O0 Q := by
  refine wLoop_wf x4l2.eq_1 (fun k : Nat => 200 - k) (fun k env H O => H = [] ∧ O = O0 ∧ k < 200 ∧ env.length = 15 ∧ nth env 2 = .bool false ∧ nth env 4 = l ∧ nth env 10 = i64 op ∧ nth env 11 = i64 i ∧ nth env 12 = i64 k ∧ nth env 1 = b1) ?_ 0 env [] O0 ⟨rfl, rfl, by omega, he⟩
  rintro k env H O ⟨rfl, rfl, hk2, e0, e2, e3, e4, e5, e6, e1⟩
  simp only [go_sem, e2, e3, e4, e5, e6, e1, hl.len]
  refine ⟨fun hk => ?_, fun _ => hx env e0 e2 e3 e4 e5 e1⟩
  have hk : k < es.length := by omega
  have ra := hl.uAt hu hi
  have rb := hl.uAt hu hk
  have ua := (uAt_u hu hi).1
  have ub := (uAt_u hu hk).1
  have hr : (i : Int).tmod 3 = (i % 3 : Nat) := by rw [Int.tmod_eq_emod_of_nonneg (by omega)]; rfl
  have hk1 : IntKind.i64.wrap ((k : Int) + 1) = (k : Int) + 1 := wrap_i64 (by omega) (by omega)
  have hk2 : IntKind.i64.wrap ((k : Int) + 1 + (i % 3 : Nat)) = (k + 1 + i % 3 : Nat) := by rw [wrap_i64 (by omega) (by omega)]; omega
  generalize uAt es i = a at *
  generalize uAt es k = b at *
  simp only [ra, rb]
  refine call_pu (of_op h.toPairT ho ua ub) ?_
  rintro r rfl
  simp only [go_sem, nth_puts, length_put, e0, e1, e2, e3, e4, e5, e6, Nat.reduceEqDiff, ↓reduceIte, Nat.reduceLT, ra, rb]
  refine call_pu (num_ok h.h14 _) ?_
  rintro r rfl
  simp only [go_sem, nth_puts, length_put, e0, e1, e2, e3, e4, e5, e6, Nat.reduceEqDiff, ↓reduceIte, Nat.reduceLT, ra, rb]
  refine call_pu (rpair_ok h.h19 h.h22 h.h24 ua ub) ?_
  rintro r rfl
  simp only [go_sem, nth_puts, length_put, e0, e1, e2, e3, e4, e5, e6, Nat.reduceEqDiff, ↓reduceIte, Nat.reduceLT, ra, rb, hk1, hr, hk2, show ¬ (3 : Int) = 0 by omega, not_true, false_imp_iff, true_and, not_false_eq_true, true_imp_iff]
  exact ⟨k + 1 + i % 3, by omega, by omega, by simp⟩

theorem edges_i (h : PairM tbl) {b1 l : AV} {es : List AV} {O0 : Rows} (hl : IsSl 1 l es) (hu : IsU es) (hlen : es.length ≤ 121) {op : Int} (ho : 18 ≤ op ∧ op ≤ 21) {Q : XR → Prop}
    (hx : ∀ env, env.length = 15 → nth env 2 = .bool false → nth env 4 = l → nth env 10 = i64 op → nth env 1 = b1 → Q (.exit 6 env [] O0)) (env : List AV)
    (he : env.length = 15 ∧ nth env 2 = .bool false ∧ nth env 4 = l ∧ nth env 10 = i64 op ∧ nth env 11 = i64 0 ∧ nth env 1 = b1) : wLoop (wpc tbl x4l3) env [] O0 Q := by
  refine wLoop_up x4l3.eq_1 es.length (fun k env H O => H = [] ∧ O = O0 ∧ env.length = 15 ∧ nth env 2 = .bool false ∧ nth env 4 = l ∧ nth env 10 = i64 op ∧ nth env 11 = i64 k ∧ nth env 1 = b1) ?_ ?_ 0 env [] O0 (by omega) ⟨rfl, rfl, he⟩
  · rintro k env H O hk ⟨rfl, rfl, e0, e2, e3, e4, e5, e1⟩
    simp only [go_sem, e2, e3, e4, e5, e1, hl.len]
    refine ⟨fun _ => ?_, fun hh => by omega⟩
    have hk1 : IntKind.i64.wrap ((k : Int) + 1) = (k : Int) + 1 := wrap_i64 (by omega) (by omega)
    refine edges_k (b1 := b1) (i := k) (op := op) h hl hu hlen ho hk ?_ _ ?_
    · intro env f0 f2 f3 f4 f5 f1
      simp only [go_sem, nth_puts, length_put, f0, f1, f2, f3, f4, f5, Nat.reduceEqDiff, ↓reduceIte, Nat.reduceLT, hk1]
      simp
    · simp only [nth_puts, length_put, e0, e1, e2, e3, e4, e5, Nat.reduceEqDiff, ↓reduceIte, Nat.reduceLT]
      simp
  · rintro env H O ⟨rfl, rfl, e0, e2, e3, e4, e5, e1⟩
    simp only [go_sem, e2, e3, e4, e5, e1, hl.len]
    refine ⟨fun hh => by omega, fun _ => ?_⟩
    exact hx env e0 e2 e3 e4 e1

theorem edges_op (h : PairM tbl) {b1 l : AV} {es : List AV} {O0 : Rows} (hl : IsSl 1 l es) (hu : IsU es) (hlen : es.length ≤ 121) {Q : XR → Prop}
    (hx : ∀ env, env.length = 15 → Q (.exit 4 env [] O0)) (env : List AV)
    (he : env.length = 15 ∧ nth env 2 = .bool false ∧ nth env 4 = l ∧ nth env 10 = i64 18 ∧ nth env 1 = b1) : wLoop (wpc tbl x4l4) env [] O0 Q := by
  refine wLoop_up x4l4.eq_1 4 (fun k env H O => H = [] ∧ O = O0 ∧ env.length = 15 ∧ nth env 2 = .bool false ∧ nth env 4 = l ∧ nth env 10 = i64 (18 + k) ∧ nth env 1 = b1) ?_ ?_ 0 env [] O0 (by omega) ⟨rfl, rfl, he⟩
  · rintro k env H O hk ⟨rfl, rfl, e0, e2, e3, e4, e1⟩
    simp only [go_sem, e2, e3, e4, e1, hl.len]
    refine ⟨fun _ => ?_, fun hh => by omega⟩
    have hk1 : IntKind.i64.wrap (18 + (k : Int) + 1) = 18 + ((k : Int) + 1) := by rw [wrap_i64 (by omega) (by omega)]; omega
    refine edges_i (b1 := b1) (op := 18 + (k : Int)) h hl hu hlen (by omega) ?_ _ ?_
    · intro env f0 f2 f3 f4 f1
      simp only [go_sem, nth_puts, length_put, f0, f1, f2, f3, f4, Nat.reduceEqDiff, ↓reduceIte, Nat.reduceLT, hk1]
      simp
    · simp only [nth_puts, length_put, e0, e1, e2, e3, e4, Nat.reduceEqDiff, ↓reduceIte, Nat.reduceLT]
      simp
  · rintro env H O ⟨rfl, rfl, e0, e2, e3, e4, e1⟩
    simp only [go_sem, e2, e3, e4, e1, hl.len]
    refine ⟨fun hh => by omega, fun _ => ?_⟩
    exact hx env e0

theorem edges_law (h : PairM tbl) {cs : List AV} (ha : TyR askTy cs) : PuR tbl 4 [.agg cs] (· = .bool true) := by
  obtain ⟨vw, vn, ws, ns, rfl, h1, h2, h3, -⟩ := ask_of ha
  have hle := h1.le
  refine pu_of h.h4 w4 rfl rfl ?_
  simp only [x4, go_sem, Nat.reduceAdd, Nat.reduceLeDiff, ↓reduceIte, h1.len]
  simp
  rw [opt_some, if_pos ⟨rfl, rfl⟩, opt_some]
  intro id
  have hm : (ws.length : Int).tmod 100 = (ws.length % 100 : Nat) := by rw [Int.tmod_eq_emod_of_nonneg (by omega)]; rfl
  rw [hm]
  have hq : ws.length % 100 < 100 := Nat.mod_lt _ (by omega)
  generalize ws.length % 100 = q at *
  have hl := (ap_lit [] 1 id 11 [i64 (-32768), i64 (-32767), i64 (-1), i64 0, i64 1, i64 2, i64 181, i64 182, i64 32766, i64 32767, i64 q] rfl (by simp)).sl
  have hu : IsI [i64 (-32768), i64 (-32767), i64 (-1), i64 0, i64 1, i64 2, i64 181, i64 182, i64 32766, i64 32767, i64 q] := by
    intro x hx
    simp only [List.mem_cons, List.not_mem_nil, or_false] at hx
    rcases hx with rfl | rfl | rfl | rfl | rfl | rfl | rfl | rfl | rfl | rfl | rfl <;> exact ⟨_, by omega, rfl⟩
  refine edges_out (b1 := .agg [vw, vn]) h hl ?_ hu rfl ?_ _ [] ⟨rfl, rfl, rfl, rfl, rfl, rfl⟩
  · intro j hj
    have hj : j < 11 := hj
    have : j = 0 ∨ j = 1 ∨ j = 2 ∨ j = 3 ∨ j = 4 ∨ j = 5 ∨ j = 6 ∨ j = 7 ∨ j = 8 ∨ j = 9 ∨ j = 10 := by omega
    rcases this with rfl | rfl | rfl | rfl | rfl | rfl | rfl | rfl | rfl | rfl | rfl <;> simp [iAt] <;> omega
  · intro env v ms O f0 f2 f4 f1 g1 g2 g3
    simp only [go_sem, nth_puts, length_put, f0, f1, f2, f4, Nat.reduceEqDiff, ↓reduceIte, Nat.reduceLT]
    refine edges_op (b1 := .agg [vw, vn]) h g1.sl g2 (by omega) ?_ _ ?_
    · intro env he
      simp only [go_sem]
      refine call_pu (wakes_ok h.toPairT h.h16) ?_
      rintro r rfl
      simp [nth_puts, he]
    · simp only [nth_puts, length_put, f0, f1, f2, f4, Nat.reduceEqDiff, ↓reduceIte, Nat.reduceLT]
      simp

end
end M2
end
section
namespace M2
open Go
noncomputable section
variable {tbl : Nat → Option AFunc}

/-! ### Values and words -/

structure Tok where
  kind : Int
  text : List UInt8
  n : Int
  pos : Int
  deriving DecidableEq
structure Val where
  sym : List UInt8
  n : Int
  deriving DecidableEq
def tokV (t : Tok) : AV := .agg [i64 t.kind, .str t.text, i64 t.n, i64 t.pos]
def valV (t : Val) : AV := .agg [.str t.sym, i64 t.n]

@[go_sem] theorem valV_def (v : Val) : valV v = .agg [.str v.sym, .int .i64 v.n] := rfl
@[go_sem] theorem tokV_def (t : Tok) : tokV t = .agg [.int .i64 t.kind, .str t.text, .int .i64 t.n, .int .i64 t.pos] := rfl
@[go_sem] theorem known_fn (f : Nat) (l l' : List AV) : (AV.fn f l l').known = true := rfl
@[go_sem] theorem known_ptr (x o : Nat) : (AV.ptr x o).known = true := rfl
@[go_sem] theorem cells_ptr (x o : Nat) : (AV.ptr x o).cells = [.ptr x o] := rfl
@[go_sem] theorem cells_fn (f : Nat) (l l' : List AV) : (AV.fn f l l').cells = [.fn f l l'] := rfl
@[go_sem] theorem putAt_def (cs : List AV) (off : Nat) (vs : List AV) : putAt cs off vs = cs.take off ++ vs ++ cs.drop (off + vs.length) := rfl
@[go_sem] theorem pureV_build (z : List AV) (ps : List (Nat × Nat × Opd)) (vs : List AV) : pureV (.build z ps) vs = (fillA .nil z (fillP3 ps (vs.map .c))).map .agg := by
  show (opBuild z (fillP3 ps (vs.map .c)) noCall .nil ⟨0, [], []⟩).val = _
  unfold opBuild
  cases fillA .nil z (fillP3 ps (vs.map .c)) <;> rfl
@[go_sem] theorem fillA_nil (f : Fr) (cs : List AV) : fillA f cs [] = some cs := rfl
@[go_sem] theorem fillA_cons (f : Fr) (cs : List AV) (off size : Nat) (a : AV) (rest : List (Nat × Nat × Opd)) : fillA f cs ((off, size, .c a) :: rest) = if a.known = true ∧ a.cells.length = size ∧ off + size ≤ cs.length then fillA f (putAt cs off a.cells) rest else none := by
  show (match a.known && Nat.beq a.cells.length size && Nat.ble (off + size) cs.length with | true => fillA f (putAt cs off a.cells) rest | false => none) = _
  by_cases h : a.known = true ∧ a.cells.length = size ∧ off + size ≤ cs.length
  · rw [if_pos h, h.1, beq_true h.2.1, Nat.ble_eq_true_of_le h.2.2]; rfl
  · rw [if_neg h]
    cases hk : a.known
    · rfl
    · cases he : Nat.beq a.cells.length size
      · rfl
      · cases hb : Nat.ble (off + size) cs.length
        · rfl
        · exact absurd ⟨hk, Nat.eq_of_beq_eq_true he, Nat.le_of_ble_eq_true hb⟩ h

def aggD (a : AV) (off : Nat) : Option (List AV) := match a with | .agg cs => some (cs.drop off) | _ => none
@[go_sem] theorem aggD_agg (cs : List AV) (off : Nat) : aggD (.agg cs) off = some (cs.drop off) := rfl
@[go_sem] theorem lva_ptr (env : List AV) (j off : Nat) : lva env (.ptr j off) = aggD (nth env j) off := by
  unfold lva aggD
  simp only
  cases nth env j <;> rfl
@[go_sem] theorem isAgg_agg (cs : List AV) : isAgg (.agg cs) = true := rfl
@[go_sem] theorem faddr_ptr (x o i : Nat) : pureV (.faddr i hh) [.ptr x o] = some (.ptr x (o + i)) := rfl
@[go_sem] theorem nilck_ptr (x o : Nat) : pureV (.nilck hh) [.ptr x o] = some (.ptr x o) := rfl

section
variable {tbl : Nat → Option AFunc} {dr : Bool} {H : Heap} {O : Rows}
def hcell (o : Option VObj) (off : Nat) : Option (List AV) := match o with | some (.cells cs) => some (cs.drop off) | _ => none
@[go_sem] theorem hcell_cells (cs : List AV) (off : Nat) : hcell (some (.cells cs)) off = some (cs.drop off) := rfl
@[go_sem] theorem hread_e (cs : List AV) : hread H (.eptr cs) = some cs := rfl
@[go_sem] theorem hread_p (x off : Nat) : hread H (.ptr x off) = hcell (look x H) off := by
  unfold hread hcell
  simp only
  cases look x H with
  | none => rfl
  | some o => cases o <;> rfl
@[go_sem] theorem ld1_go (p : AV) (P : AV → Heap → Rows → Prop) : wpo tbl dr (.ld1 hh) [p] H O P = opt (hread H p) fun cs => opt cs.head? fun v => P v H O := rfl
@[go_sem] theorem ldA_go (n : Nat) (p : AV) (P : AV → Heap → Rows → Prop) : wpo tbl dr (.ldA n hh) [p] H O P = opt (hread H p) fun cs => opt (if n ≤ cs.length then some (.agg (cs.take n)) else none) fun v => P v H O := ldA_opt n H p P
def stc (o : Option VObj) (n off : Nat) (v : AV) (x : Nat) (H : Heap) (O : Rows) (Q : AV → Heap → Rows → Prop) : Prop :=
  match o with
  | some (.cells cs) => (v.known = true ∧ v.cells.all AV.isCell = true ∧ v.cells.length = n ∧ off + n ≤ cs.length) ∧ Q undefA (upd x (.cells (putAt cs off v.cells)) H) O
  | _ => False
@[congr] theorem stc_congr {o o' : Option VObj} {n off x : Nat} {v v' : AV} (H : Heap) (O : Rows) (Q : AV → Heap → Rows → Prop) (h : o = o') (k : v = v') : stc o n off v x H O Q = stc o' n off v' x H O Q := by rw [h, k]
@[go_sem] theorem stc_cells (cs : List AV) (n off : Nat) (v : AV) (x : Nat) (Q : AV → Heap → Rows → Prop) : stc (some (.cells cs)) n off v x H O Q = ((v.known = true ∧ v.cells.all AV.isCell = true ∧ v.cells.length = n ∧ off + n ≤ cs.length) ∧ Q undefA (upd x (.cells (putAt cs off v.cells)) H) O) := rfl
@[go_sem] theorem wSt_ptr (n x off : Nat) (v : AV) (Q : AV → Heap → Rows → Prop) : wSt n (.ptr x off) v H O Q = stc (look x H) n off v x H O Q := by
  unfold wSt stc
  simp only
  cases look x H with
  | none => rfl
  | some o =>
    cases o with
    | map es => rfl
    | cells cs =>
      simp only [Bool.and_eq_true, and_assoc]
      rw [show (v.cells.length.beq n = true) = (v.cells.length = n) from propext ⟨Nat.eq_of_beq_eq_true, beq_true⟩, show ((off + n).ble cs.length = true) = (off + n ≤ cs.length) from propext ⟨Nat.le_of_ble_eq_true, Nat.ble_eq_true_of_le⟩]
@[go_sem] theorem look_self {α : Type} (x : Nat) (o : α) (l : List (Nat × α)) : look x ((x, o) :: l) = some o := by rw [look_cons, if_pos rfl]
theorem upd_cons {α : Type} (x y : Nat) (v o : α) (l : List (Nat × α)) : upd x v ((y, o) :: l) = (if y = x then (y, v) else (y, o)) :: upd x v l := by
  show (Bool.rec (y, o) (y, v) (Nat.beq y x) : Nat × α) :: _ = _
  by_cases h : y = x
  · rw [if_pos h, beq_true h]; rfl
  · rw [if_neg h, beq_false h]; rfl
@[go_sem] theorem upd_self {α : Type} (x : Nat) (v o : α) (l : List (Nat × α)) : upd x v ((x, o) :: l) = (x, v) :: upd x v l := by rw [upd_cons, if_pos rfl]
theorem upd_notin {α : Type} (x : Nat) (v : α) : ∀ (l : List (Nat × α)), x ∉ ids l → upd x v l = l
  | [], _ => rfl
  | (y, o) :: l, h => by
    have h1 : y ≠ x ∧ x ∉ ids l := by
      refine ⟨fun e => h (by rw [e]; exact List.mem_cons_self), fun e => h (List.mem_cons_of_mem _ e)⟩
    rw [upd_cons, if_neg h1.1, upd_notin x v l h1.2]
@[go_sem] theorem mkfn_0c (g : Nat) (a : AV) : pureV (.mkfn g [] []) [a] = some (.fn g [] [a]) := rfl
@[go_sem] theorem mkfn_1 (g : Nat) (a : AV) : pureV (.mkfn g [hh] []) [a] = some (.fn g [a] []) := rfl
end

@[go_sem] theorem faddr_e0 (c : AV) (l : List AV) : pureV (.faddr 0 hh) [.eptr (c :: l)] = some (.eptr (c :: l)) := rfl
@[go_sem] theorem faddr_eS (n : Nat) (c : AV) (l : List AV) : pureV (.faddr (n + 1) hh) [.eptr (c :: l)] = pureV (.faddr n hh) [.eptr l] := by
  rw [pureV_faddr_e, pureV_faddr_e]; rfl

@[go_sem] theorem bstp_ptr (env : List AV) (j off n : Nat) (v : AV) (Q : List AV → Prop) : bstp env (.ptr j off) n v Q = opt (bst (nth env j) off n v) fun b => Q (put env j b) := rfl

theorem pureV_eqs (ty : ETy) (neg : Bool) (x y : AV) : pureV (.eqs ty neg hh hh) [x, y] = (avEqs 8 ty x y).map fun b => .bool (b != neg) := by
  show (opEqs ty neg (.c x) (.c y) noCall .nil ⟨0, [], []⟩).val = _
  unfold opEqs
  show (match avEqs 8 ty x y with | some b => OR.ok (.bool (b != neg)) ⟨0, [], []⟩ | none => .fail).val = _
  cases avEqs 8 ty x y <;> rfl
@[go_sem] theorem eqs_val (s t : List UInt8) (a b : Int) : pureV (.eqs (.st [(0, (1, (false, .str))), (1, (1, (false, .int)))]) true hh hh) [.agg [.str s, .int .i64 a], .agg [.str t, .int .i64 b]] = some (.bool (decide ((⟨s, a⟩ : Val) ≠ ⟨t, b⟩))) := by
  rw [pureV_eqs]
  by_cases h : s = t <;> by_cases k : a = b <;> simp [avEqs, eqsStep, eqsFields, partA, h, k]
@[go_sem] theorem eqs_tok (s t : List UInt8) (a b c d e f : Int) : pureV (.eqs (.st [(0, (1, (false, .int))), (1, (1, (false, .str))), (2, (1, (false, .int))), (3, (1, (false, .int)))]) true hh hh) [.agg [.int .i64 a, .str s, .int .i64 c, .int .i64 e], .agg [.int .i64 b, .str t, .int .i64 d, .int .i64 f]] = some (.bool (decide ((⟨a, s, c, e⟩ : Tok) ≠ ⟨b, t, d, f⟩))) := by
  rw [pureV_eqs]
  by_cases h : a = b <;> by_cases k : s = t <;> by_cases l : c = d <;> by_cases m : e = f <;> simp [avEqs, eqsStep, eqsFields, partA, h, k, l, m]
end
end M2
end
section
namespace M2
open Go
noncomputable section
variable {tbl : Nat → Option AFunc}

def inC (n : Int) : Prop := -2147483648 ≤ n ∧ n ≤ 2147483648
instance : DecidablePred inC := fun n => inferInstanceAs (Decidable (_ ∧ _))
abbrev v0 : Val := ⟨[], 0⟩
def valE (v : Val) (e : Int) : AV := .tup [valV v, i64 e]

theorem within_ok (h : tbl 81 = some (flatF x81)) (n : Int) : PuR tbl 81 [i64 n] (· = .bool (decide (inC n))) := by
  refine pu_of h w81 rfl rfl ?_
  simp only [x81, go_sem]
  by_cases h1 : -2147483648 ≤ n <;> simp [inC, h1]
theorem constant_ok (h : tbl 54 = some (flatF x54)) (h46 : tbl 46 = some (flatF x46)) (n : Int) : PuR tbl 54 [i64 n] (· = .bool (decide (inC n))) := by
  refine pu_of h w54 rfl rfl ?_
  simp only [x54, go_sem]
  refine call_pu (between_ok h46 _ _ _) ?_
  rintro r rfl
  by_cases h1 : -2147483648 ≤ n <;> by_cases h2 : n ≤ 2147483648 <;> simp [inC, nth, h1, h2]

/-- what an op of two values comes to: the value, the error -/
def rangedV (v : Val) : Val × Int := if inC v.n then (v, 0) else (v0, 7)
def addV (a b : Val) : Val × Int := if a.sym ≠ [] ∧ b.sym ≠ [] then (v0, 6) else rangedV ⟨a.sym ++ b.sym, a.n + b.n⟩
def lessV (a b : Val) : Val × Int := if b.sym ≠ [] then (v0, 6) else rangedV ⟨a.sym, a.n - b.n⟩
def timesV (a b : Val) : Val × Int := if a.sym ≠ [] ∨ b.sym ≠ [] then (v0, 6) else rangedV ⟨[], a.n * b.n⟩
def twoV (p : Val × Int) : AV := .tup [valV p.1, i64 p.2]

/-- values that may be met: their sizes -/
def okV (v : Val) : Prop := inC v.n ∧ v.sym.length ≤ 140737488351232

theorem ranged_ok (h : tbl 92 = some (flatF x92)) (h81 : tbl 81 = some (flatF x81)) (v : Val) : PuR tbl 92 [valV v] (· = twoV (rangedV v)) := by
  refine pu_of h w92 rfl rfl ?_
  simp only [x92, go_sem, Nat.reduceAdd, Nat.reduceLeDiff, Nat.reduceEqDiff, ↓reduceIte, and_self]
  refine call_pu (within_ok h81 _) ?_
  rintro r rfl
  simp only [go_sem, rangedV, twoV]
  by_cases hv : inC v.n <;> simp [hv]

theorem add_ok (h : tbl 71 = some (flatF x71)) (h92 : tbl 92 = some (flatF x92)) (h81 : tbl 81 = some (flatF x81)) {a b : Val} (ha : okV a) (hb : okV b) : PuR tbl 71 [valV a, valV b] (· = twoV (addV a b)) := by
  refine pu_of h w71 rfl rfl ?_
  obtain ⟨⟨a1, a2⟩, a3⟩ := ha
  obtain ⟨⟨b1, b2⟩, b3⟩ := hb
  have hs := av_sadd a.sym b.sym (by omega)
  have hw : IntKind.i64.wrap (a.n + b.n) = a.n + b.n := wrap_i64 (by omega) (by omega)
  simp only [x71, go_sem, Nat.reduceAdd, Nat.reduceLeDiff, Nat.reduceEqDiff, ↓reduceIte, and_self, hs, hw]
  have key : PuR tbl 92 [AV.agg [AV.str (a.sym ++ b.sym), AV.int IntKind.i64 (a.n + b.n)]] (· = twoV (rangedV ⟨a.sym ++ b.sym, a.n + b.n⟩)) := ranged_ok h92 h81 ⟨a.sym ++ b.sym, a.n + b.n⟩
  refine ⟨fun h1 => ⟨fun h2 => ?_, fun h2 => ?_⟩, fun h1 => ?_⟩
  · simp [twoV, addV, h1, h2, valV]
  all_goals
    refine call_pu key ?_
    rintro r rfl
    simp only [go_sem, twoV, Nat.reduceAdd, Nat.reduceLeDiff, Nat.reduceEqDiff, ↓reduceIte, and_self, List.getElem?_cons_zero, List.getElem?_cons_succ, addV]
    simp [h1]
    try simp only [Classical.not_not] at h2
    try simp [h2]

theorem less_ok (h : tbl 72 = some (flatF x72)) (h92 : tbl 92 = some (flatF x92)) (h81 : tbl 81 = some (flatF x81)) {a b : Val} (ha : okV a) (hb : okV b) : PuR tbl 72 [valV a, valV b] (· = twoV (lessV a b)) := by
  refine pu_of h w72 rfl rfl ?_
  obtain ⟨⟨a1, a2⟩, a3⟩ := ha
  obtain ⟨⟨b1, b2⟩, b3⟩ := hb
  have hw : IntKind.i64.wrap (a.n - b.n) = a.n - b.n := wrap_i64 (by omega) (by omega)
  simp only [x72, go_sem, Nat.reduceAdd, Nat.reduceLeDiff, Nat.reduceEqDiff, ↓reduceIte, and_self, hw]
  have key : PuR tbl 92 [AV.agg [AV.str a.sym, AV.int IntKind.i64 (a.n - b.n)]] (· = twoV (rangedV ⟨a.sym, a.n - b.n⟩)) := ranged_ok h92 h81 ⟨a.sym, a.n - b.n⟩
  refine ⟨fun h2 => ?_, fun h2 => ?_⟩
  · simp [twoV, lessV, h2, valV]
  · refine call_pu key ?_
    rintro r rfl
    simp only [go_sem, twoV, Nat.reduceAdd, Nat.reduceLeDiff, Nat.reduceEqDiff, ↓reduceIte, and_self, List.getElem?_cons_zero, List.getElem?_cons_succ, lessV]
    simp [h2]

theorem times_ok (h : tbl 91 = some (flatF x91)) (h92 : tbl 92 = some (flatF x92)) (h81 : tbl 81 = some (flatF x81)) {a b : Val} (ha : okV a) (hb : okV b) : PuR tbl 91 [valV a, valV b] (· = twoV (timesV a b)) := by
  refine pu_of h w91 rfl rfl ?_
  obtain ⟨⟨a1, a2⟩, a3⟩ := ha
  obtain ⟨⟨b1, b2⟩, b3⟩ := hb
  have hm : -4611686018427387904 ≤ a.n * b.n ∧ a.n * b.n ≤ 4611686018427387904 := by
    have : (a.n * b.n).natAbs ≤ 2147483648 * 2147483648 := by
      rw [Int.natAbs_mul]; exact Nat.mul_le_mul (by omega) (by omega)
    omega
  have hw : IntKind.i64.wrap (a.n * b.n) = a.n * b.n := wrap_i64 (by omega) (by omega)
  simp only [x91, go_sem, Nat.reduceAdd, Nat.reduceLeDiff, Nat.reduceEqDiff, ↓reduceIte, and_self, hw]
  have key : PuR tbl 92 [AV.agg [AV.str [], AV.int IntKind.i64 (a.n * b.n)]] (· = twoV (rangedV ⟨[], a.n * b.n⟩)) := ranged_ok h92 h81 ⟨[], a.n * b.n⟩
  refine ⟨fun h1 => ?_, fun h1 => ⟨fun h2 => ?_, fun h2 => ?_⟩⟩
  · simp [twoV, timesV, h1, valV]
  · simp [twoV, timesV, h2, valV]
  · refine call_pu key ?_
    rintro r rfl
    simp only [go_sem, twoV, Nat.reduceAdd, Nat.reduceLeDiff, Nat.reduceEqDiff, ↓reduceIte, and_self, List.getElem?_cons_zero, List.getElem?_cons_succ, timesV]
    simp at h1 h2
    simp [h1, h2]

/-- the reference's sum and difference -/
theorem radd_ok (h : tbl 75 = some (flatF x75)) (h54 : tbl 54 = some (flatF x54)) (h46 : tbl 46 = some (flatF x46)) {a b : Val} (ha : okV a) (hb : okV b) (mi : Bool) : PuR tbl 75 [valV a, valV b, .bool mi] (· = twoV (if mi then lessV a b else addV a b)) := by
  refine pu_of h w75 rfl rfl ?_
  obtain ⟨⟨a1, a2⟩, a3⟩ := ha
  obtain ⟨⟨b1, b2⟩, b3⟩ := hb
  have hs := av_sadd a.sym b.sym (by omega)
  have hw : IntKind.i64.wrap (a.n - b.n) = a.n - b.n := wrap_i64 (by omega) (by omega)
  have hw' : IntKind.i64.wrap (a.n + b.n) = a.n + b.n := wrap_i64 (by omega) (by omega)
  cases mi
  all_goals
    simp only [x75, go_sem, Nat.reduceAdd, Nat.reduceLeDiff, Nat.reduceEqDiff, ↓reduceIte, and_self, hw, hw', hs]
    by_cases e1 : a.sym = []
    all_goals by_cases e2 : b.sym = []
    all_goals
      simp only [e1, e2, go_sem]
      first
      | (refine call_pu (constant_ok h54 h46 _) ?_
         rintro r rfl
         simp only [go_sem, addV, lessV, rangedV, e1, e2, twoV, valV]
         by_cases e3 : inC (a.n + b.n)
         all_goals by_cases e4 : inC (a.n - b.n)
         all_goals simp [e3, e4])
      | simp [twoV, addV, lessV, e1, e2, valV]
/-! ### Names -/

def lowI (n : Int) : Bool := decide (n = 95 ∨ 97 ≤ n ∧ n ≤ 122)
def digI (n : Int) : Bool := decide (48 ≤ n ∧ n ≤ 57)
def begI (n : Int) : Bool := lowI n || decide (n = 46)
def let8 (c : UInt8) : Bool := lowI c.toNat
def dig8 (c : UInt8) : Bool := digI c.toNat
def beg8 (c : UInt8) : Bool := begI c.toNat
def nameOk : List UInt8 → Bool
  | [] => false
  | c :: r => decide (r.length < 12) && let8 c && (c :: r).all fun c => let8 c || dig8 c
abbrev chV (c : UInt8) : AV := .int .u8 c.toNat

theorem pureV_idxS (s : List UInt8) (k : IntKind) {i : Nat} (h : i < s.length) : pureV (.idxS hh hh) [.str s, .int k i] = some (chV s[i]) := by
  show (opIdxS (.c (.str s)) (.c (.int k i)) noCall .nil ⟨0, [], []⟩).val = _
  unfold opIdxS
  have hd : s.drop i = s[i] :: s.drop (i + 1) := List.drop_eq_getElem_cons h
  show (match decide (0 ≤ (i : Int)) with | true => (match s.drop (i : Int).toNat with | [] => OR.fail | c :: _ => .ok (.int .u8 c.toNat) ⟨0, [], []⟩) | false => .fail).val = _
  rw [decide_eq_true (by omega), Int.toNat_natCast, hd]
  rfl
@[go_sem] theorem pureV_idxS0 (c : UInt8) (s : List UInt8) (k : IntKind) : pureV (.idxS hh hh) [.str (c :: s), .int k 0] = some (chV c) := pureV_idxS (c :: s) k (i := 0) (by simp)

theorem rletter_ok (h : tbl 77 = some (flatF x77)) (c : UInt8) : PuR tbl 77 [chV c] (· = .bool (beg8 c)) := by
  refine pu_of h w77 rfl rfl ?_
  simp only [x77, go_sem]
  unfold beg8
  generalize (c.toNat : Int) = n
  simp only [AV.bool.injEq]
  grind [lowI, digI, begI]
theorem rdigit_ok (h : tbl 78 = some (flatF x78)) (c : UInt8) : PuR tbl 78 [chV c] (· = .bool (dig8 c)) := by
  refine pu_of h w78 rfl rfl ?_
  simp only [x78, go_sem]
  unfold dig8
  generalize (c.toNat : Int) = n
  simp only [AV.bool.injEq]
  grind [lowI, digI, begI]
theorem letter_ok (h : tbl 94 = some (flatF x94)) (c : UInt8) : PuR tbl 94 [chV c] (· = .bool (let8 c)) := by
  refine pu_of h w94 rfl rfl ?_
  simp only [x94, go_sem]
  unfold let8
  generalize (c.toNat : Int) = n
  simp only [AV.bool.injEq]
  grind [lowI, digI, begI]
theorem digit_ok (h : tbl 95 = some (flatF x95)) (c : UInt8) : PuR tbl 95 [chV c] (· = .bool (dig8 c)) := by
  refine pu_of h w95 rfl rfl ?_
  simp only [x95, go_sem]
  unfold dig8
  generalize (c.toNat : Int) = n
  simp only [AV.bool.injEq]
  grind [lowI, digI, begI]
theorem begins_ok (h : tbl 85 = some (flatF x85)) (c : UInt8) : PuR tbl 85 [chV c] (· = .bool (beg8 c)) := by
  refine pu_of h w85 rfl rfl ?_
  simp only [x85, go_sem]
  unfold beg8
  generalize (c.toNat : Int) = n
  simp only [AV.bool.injEq]
  grind [lowI, digI, begI]
theorem follows_ok (h : tbl 87 = some (flatF x87)) (h85 : tbl 85 = some (flatF x85)) (h95 : tbl 95 = some (flatF x95)) (c : UInt8) : PuR tbl 87 [chV c] (· = .bool (beg8 c || dig8 c)) := by
  refine pu_of h w87 rfl rfl ?_
  simp only [x87, go_sem]
  refine call_pu (begins_ok h85 c) ?_
  rintro r rfl
  simp only [go_sem]
  cases hb : beg8 c
  · simp
    refine call_pu (digit_ok h95 c) ?_
    rintro r rfl
    simp [nth]
  · simp [nth]

end
end M2
end
section
namespace M2
open Go
noncomputable section
variable {tbl : Nat → Option AFunc}

theorem all_take_succ {α : Type} (p : α → Bool) {l : List α} {k : Nat} (h : k < l.length) : (l.take (k + 1)).all p = ((l.take k).all p && p l[k]) := by
  rw [List.take_succ_eq_append_getElem h, List.all_append]; simp

theorem name2_in (h94 : tbl 94 = some (flatF x94)) {s : List UInt8} (hs : s.length ≤ 12) {Q : XR → Prop}
    (hx : s.all (fun c => let8 c || dig8 c) = true → ∀ env, env.length = 7 → Q (.exit 0 env [] []))
    (hr : s.all (fun c => let8 c || dig8 c) = false → ∀ env, env.length = 7 → nth env 1 = .bool false → Q (.ret env [] [])) (env : List AV)
    (he : env.length = 7 ∧ nth env 0 = .str s ∧ nth env 4 = i64 s.length ∧ nth env 5 = i64 0) : wLoop (wpc tbl x82l0) env [] [] Q := by
  refine wLoop_up x82l0.eq_1 s.length (fun k env H O => H = [] ∧ O = [] ∧ (s.take k).all (fun c => let8 c || dig8 c) = true ∧ env.length = 7 ∧ nth env 0 = .str s ∧ nth env 4 = i64 s.length ∧ nth env 5 = i64 k) ?_ ?_ 0 env [] [] (by omega) ⟨rfl, rfl, by simp, he⟩
  · rintro k env H O hk ⟨rfl, rfl, ha, e0, e1, e4, e5⟩
    have hk1 : IntKind.i64.wrap ((k : Int) + 1) = (k : Int) + 1 := wrap_i64 (by omega) (by omega)
    have g1 : (k : Int) < s.length := by omega
    have hc := pureV_idxS s .i64 hk
    have hn := all_take_succ (fun c => let8 c || dig8 c) hk
    simp only [go_sem, nth_puts, length_put, e0, e1, e4, e5, Nat.reduceEqDiff, ↓reduceIte, Nat.reduceLT, g1, decide_true, hc]
    have hf : s.all (fun c => let8 c || dig8 c) = false ∨ (let8 s[k] || dig8 s[k]) = true := by
      cases hb : (let8 s[k] || dig8 s[k]) with
      | true => exact .inr rfl
      | false =>
        left
        refine Bool.eq_false_iff.mpr fun ht => ?_
        have := List.all_eq_true.mp ht s[k] (List.getElem_mem hk)
        rw [hb] at this; cases this
    refine call_pu (letter_ok h94 _) ?_
    rintro r rfl
    simp only [go_sem, nth_puts, length_put, e0, e1, e4, e5, Nat.reduceEqDiff, ↓reduceIte, Nat.reduceLT]
    rw [hn, ha, hk1]
    have hd : dig8 s[k] = decide (48 ≤ (s[k].toNat : Int) ∧ (s[k].toNat : Int) ≤ 57) := rfl
    have hret : dig8 s[k] = false → let8 s[k] = false → Q (XR.ret (put (put (put (put env 6 (AV.bool true)) 2 (i64 k)) 3 (chV s[k])) 1 (AV.bool false)) [] []) := by
      intro h1 h2
      refine hr ?_ _ (by simp [length_put, e0]) (by simp [nth_puts, length_put, e0])
      rcases hf with hf | hf
      · exact hf
      · rw [h1, h2] at hf; cases hf
    cases hl : let8 s[k]
    · refine ⟨fun _ => ⟨fun h1 => hret (by rw [hd]; simp; omega) hl, fun h1 => ⟨fun h2 => hret (by rw [hd]; simp; omega) hl, fun h2 => ⟨?_, rfl⟩⟩⟩, fun h => by simp at h⟩
      rw [hd]; simp; omega
    · exact ⟨fun h => by simp at h, fun _ => ⟨by simp, rfl⟩⟩
  · rintro env H O ⟨rfl, rfl, ha, e0, e1, e4, e5⟩
    have g1 : ¬ (s.length : Int) < s.length := by omega
    simp only [go_sem, nth_puts, length_put, e0, e1, e4, e5, Nat.reduceEqDiff, ↓reduceIte, Nat.reduceLT, g1, decide_false]
    rw [List.take_length] at ha
    exact hx ha _ (by simp [length_put, e0])

theorem name2_ok (h : tbl 82 = some (flatF x82)) (h94 : tbl 94 = some (flatF x94)) {s : List UInt8} (hs : s.length ≤ 140737488351232) : PuR tbl 82 [.str s] (· = .bool (nameOk s)) := by
  refine pu_of h w82 rfl rfl ?_
  simp only [x82, go_sem]
  cases s with
  | nil => simp [nameOk]
  | cons c r =>
    by_cases hl : r.length < 12
    · have g1 : ¬ (12 : Int) < ((r.length + 1 : Nat) : Int) := by omega
      simp only [go_sem, g1, show ¬ (c :: r = ([] : List UInt8)) from nofun, decide_false]
      refine call_pu (letter_ok h94 _) ?_
      rintro r' rfl
      simp only [go_sem]
      cases hc : let8 c
      · simp [nameOk, hc]
      · simp
        refine name2_in h94 (s := c :: r) (by simp; omega) ?_ ?_ _ ⟨rfl, rfl, rfl, rfl⟩
        · intro ha env he
          simp only [go_sem]
          simp only [nameOk, hc, ha, hl, decide_true, Bool.and_self]
          simp [nth_puts, length_put, he]
        · intro ha env he e1
          simp only [go_sem]
          simp only [nameOk, ha, Bool.and_false, e1]
    · have g1 : (12 : Int) < ((r.length + 1 : Nat) : Int) := by omega
      simp only [go_sem, g1, show ¬ (c :: r = ([] : List UInt8)) from nofun, decide_false, decide_true]
      simp [nameOk, hl]

end
end M2
end
