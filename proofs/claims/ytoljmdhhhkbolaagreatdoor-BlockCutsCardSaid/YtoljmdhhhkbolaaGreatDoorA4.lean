/- General ground for the statement: an abstract machine that the program's code is shown to follow, and the contracts of the functions that the law reaches. Part 4. -/
import Derived.Test.YtoljmdhhhkbolaaGreatDoorA3
import Derived.Lib.Join
import Derived.Lib.ItoaNum
import Derived.Below
import Derived.Shelf.Small.Bits
import Derived.Shelf.Small.Wraps
import Derived.Shelf.Strconv.Itoa0
import Derived.Shelf.Strconv.Itoa1
import Derived.Shelf.LaysM
import Derived.Shelf.Strconv.Itoa2
import Derived.Shelf.Strconv.Itoa3
import Derived.Shelf.Sort.Plain
import Derived.Shelf.Slices.Turned
import Derived.Ground.Names2Prog
import Derived.Shelf.Slices.Clone
import Derived.Shelf.Slices.CompactS
import Derived.Shelf.Slices.SearchI
import Derived.Shelf.Slices.Cells
import Derived.Shelf.Slices.In.SortNone
import Derived.Ground.SlgnProg
import Derived.Shelf.SlicesE.Clone
import Derived.Test.YtoljmdhhhkbolaaGreatDoorProg
import Derived.KernelRfl
import Derived.Test.YtoljmdhhhkbolaaGreatDoorChecked
set_option linter.unusedVariables false
set_option linter.unusedSimpArgs false
section
/- Compiled functions, printed by a program of mine. -/
namespace M2
open Go

noncomputable def a250 : AFunc :=
  ⟨6, [p6n0, p6n1, p6n2], [], false, (.seq (.reg [⟨(some p6n8), none, (.mv (.t p6n1))⟩, ⟨(some p6n9), none, (.bin .add (.t p6n8) (.c (.int .i64 (.ofNat 1))))⟩, ⟨(some p6n6), none, (.mv (.t p6n9))⟩]) (.block 0 (.loop (.seq (.seq (.reg [⟨(some p6n10), none, (.mv (.t p6n6))⟩, ⟨(some p6n11), none, (.mv (.t p6n2))⟩, ⟨(some p6n12), none, (.bin .lss (.t p6n10) (.t p6n11))⟩]) (.cond (.t p6n12) .skip (.exit 0))) (.seq (.block 1 (.seq (.reg [⟨(some p6n15), none, (.mv (.t p6n6))⟩, ⟨(some p6n7), none, (.mv (.t p6n15))⟩]) (.block 2 (.loop (.seq (.seq (.regd [(.pure, ⟨(some p6n16), none, (.mv (.t p6n7))⟩), (.pure, ⟨(some p6n17), none, (.mv (.t p6n1))⟩), (.pure, ⟨(some p6n18), none, (.bin .gtr (.t p6n16) (.t p6n17))⟩), (.pure, ⟨(some p6n19), none, (.mv (.t p6n18))⟩), (.pure, ⟨(some p6n20), (some (p6n19, true)), (.mv (.t p6n0))⟩), (.pure, ⟨(some p6n21), (some (p6n19, true)), (.mv (.t p6n7))⟩), (.pure, ⟨(some p6n22), (some (p6n19, true)), (.iaddr 1 (.t p6n20) (.t p6n21))⟩), (.load, ⟨(some p6n23), (some (p6n19, true)), (.ld1 (.t p6n22))⟩), (.pure, ⟨(some p6n24), (some (p6n19, true)), (.mv (.t p6n0))⟩), (.pure, ⟨(some p6n25), (some (p6n19, true)), (.mv (.t p6n7))⟩), (.pure, ⟨(some p6n26), (some (p6n19, true)), (.bin .sub (.t p6n25) (.c (.int .i64 (.ofNat 1))))⟩), (.pure, ⟨(some p6n27), (some (p6n19, true)), (.iaddr 1 (.t p6n24) (.t p6n26))⟩), (.load, ⟨(some p6n28), (some (p6n19, true)), (.ld1 (.t p6n27))⟩)] [⟨(some p6n29), (some (p6n19, true)), (.call 256 [(.t p6n23), (.t p6n28)])⟩, ⟨(some p6n30), none, (.pick (.t p6n19) (.t p6n29) (.c (.bool false)))⟩]) (.cond (.t p6n30) .skip (.exit 2))) (.seq (.block 3 (.regd [(.pure, ⟨(some p6n33), none, (.mv (.t p6n0))⟩), (.pure, ⟨(some p6n34), none, (.mv (.t p6n7))⟩), (.pure, ⟨(some p6n35), none, (.mv (.t p6n0))⟩), (.pure, ⟨(some p6n36), none, (.mv (.t p6n7))⟩), (.pure, ⟨(some p6n37), none, (.bin .sub (.t p6n36) (.c (.int .i64 (.ofNat 1))))⟩), (.pure, ⟨(some p6n38), none, (.mv (.t p6n0))⟩), (.pure, ⟨(some p6n39), none, (.mv (.t p6n7))⟩), (.pure, ⟨(some p6n40), none, (.bin .sub (.t p6n39) (.c (.int .i64 (.ofNat 1))))⟩), (.pure, ⟨(some p6n41), none, (.iaddr 1 (.t p6n38) (.t p6n40))⟩), ((.loadm 9 480), ⟨(some p6n42), none, (.ld1 (.t p6n41))⟩), (.pure, ⟨(some p6n43), none, (.mv (.t p6n0))⟩), (.pure, ⟨(some p6n44), none, (.mv (.t p6n7))⟩), (.pure, ⟨(some p6n45), none, (.iaddr 1 (.t p6n43) (.t p6n44))⟩), ((.loadm 13 7168), ⟨(some p6n46), none, (.ld1 (.t p6n45))⟩), (.pure, ⟨(some p6n47), none, (.iaddr 1 (.t p6n33) (.t p6n34))⟩), ((.sto 15 32739), ⟨none, none, (.st 1 (.t p6n47) (.t p6n42))⟩)] [⟨(some p6n48), none, (.iaddr 1 (.t p6n35) (.t p6n37))⟩, ⟨none, none, (.st 1 (.t p6n48) (.t p6n46))⟩])) (.reg [⟨(some p6n31), none, (.mv (.t p6n7))⟩, ⟨(some p6n32), none, (.bin .sub (.t p6n31) (.c (.int .i64 (.ofNat 1))))⟩, ⟨(some p6n7), none, (.mv (.t p6n32))⟩]))))))) (.reg [⟨(some p6n13), none, (.mv (.t p6n6))⟩, ⟨(some p6n14), none, (.bin .add (.t p6n13) (.c (.int .i64 (.ofNat 1))))⟩, ⟨(some p6n6), none, (.mv (.t p6n14))⟩]))))))⟩
noncomputable def a251 : AFunc :=
  ⟨6, [p6n0, p6n1, p6n2], [], false, (.seq (.reg [⟨(some p6n11), none, (.mv (.t p6n1))⟩, ⟨(some p6n6), none, (.mv (.t p6n11))⟩]) (.seq (.reg [⟨(some p6n7), none, (.mv (.c (.int .i64 (.ofNat 0))))⟩]) (.seq (.reg [⟨(some p6n12), none, (.mv (.t p6n2))⟩, ⟨(some p6n13), none, (.mv (.t p6n1))⟩, ⟨(some p6n14), none, (.bin .sub (.t p6n12) (.t p6n13))⟩, ⟨(some p6n8), none, (.mv (.t p6n14))⟩]) (.seq (.seq (.reg [⟨(some p6n15), none, (.mv (.t p6n8))⟩, ⟨(some p6n16), none, (.bin .sub (.t p6n15) (.c (.int .i64 (.ofNat 1))))⟩, ⟨(some p6n17), none, (.bin .quo (.t p6n16) (.c (.int .i64 (.ofNat 2))))⟩, ⟨(some p6n9), none, (.mv (.t p6n17))⟩]) (.block 0 (.loop (.seq (.seq (.reg [⟨(some p6n18), none, (.mv (.t p6n9))⟩, ⟨(some p6n19), none, (.bin .geq (.t p6n18) (.c (.int .i64 (.ofNat 0))))⟩]) (.cond (.t p6n19) .skip (.exit 0))) (.seq (.block 1 (.reg [⟨(some p6n22), none, (.mv (.t p6n0))⟩, ⟨(some p6n23), none, (.mv (.t p6n9))⟩, ⟨(some p6n24), none, (.mv (.t p6n8))⟩, ⟨(some p6n25), none, (.mv (.t p6n6))⟩, ⟨(some p6n26), none, (.call 269 [(.t p6n22), (.t p6n23), (.t p6n24), (.t p6n25)])⟩])) (.reg [⟨(some p6n20), none, (.mv (.t p6n9))⟩, ⟨(some p6n21), none, (.bin .sub (.t p6n20) (.c (.int .i64 (.ofNat 1))))⟩, ⟨(some p6n9), none, (.mv (.t p6n21))⟩])))))) (.seq (.reg [⟨(some p6n27), none, (.mv (.t p6n8))⟩, ⟨(some p6n28), none, (.bin .sub (.t p6n27) (.c (.int .i64 (.ofNat 1))))⟩, ⟨(some p6n10), none, (.mv (.t p6n28))⟩]) (.block 2 (.loop (.seq (.seq (.reg [⟨(some p6n29), none, (.mv (.t p6n10))⟩, ⟨(some p6n30), none, (.bin .geq (.t p6n29) (.c (.int .i64 (.ofNat 0))))⟩]) (.cond (.t p6n30) .skip (.exit 2))) (.seq (.block 3 (.seq (.regd [(.pure, ⟨(some p6n33), none, (.mv (.t p6n0))⟩), (.pure, ⟨(some p6n34), none, (.mv (.t p6n6))⟩), (.pure, ⟨(some p6n35), none, (.mv (.t p6n0))⟩), (.pure, ⟨(some p6n36), none, (.mv (.t p6n6))⟩), (.pure, ⟨(some p6n37), none, (.mv (.t p6n10))⟩), (.pure, ⟨(some p6n38), none, (.bin .add (.t p6n36) (.t p6n37))⟩), (.pure, ⟨(some p6n39), none, (.mv (.t p6n0))⟩), (.pure, ⟨(some p6n40), none, (.mv (.t p6n6))⟩), (.pure, ⟨(some p6n41), none, (.mv (.t p6n10))⟩), (.pure, ⟨(some p6n42), none, (.bin .add (.t p6n40) (.t p6n41))⟩), (.pure, ⟨(some p6n43), none, (.iaddr 1 (.t p6n39) (.t p6n42))⟩), ((.loadm 11 1984), ⟨(some p6n44), none, (.ld1 (.t p6n43))⟩), (.pure, ⟨(some p6n45), none, (.mv (.t p6n0))⟩), (.pure, ⟨(some p6n46), none, (.mv (.t p6n6))⟩), (.pure, ⟨(some p6n47), none, (.iaddr 1 (.t p6n45) (.t p6n46))⟩), ((.loadm 15 28672), ⟨(some p6n48), none, (.ld1 (.t p6n47))⟩), (.pure, ⟨(some p6n49), none, (.iaddr 1 (.t p6n33) (.t p6n34))⟩), ((.sto 17 131011), ⟨none, none, (.st 1 (.t p6n49) (.t p6n44))⟩)] [⟨(some p6n50), none, (.iaddr 1 (.t p6n35) (.t p6n38))⟩, ⟨none, none, (.st 1 (.t p6n50) (.t p6n48))⟩]) (.reg [⟨(some p6n51), none, (.mv (.t p6n0))⟩, ⟨(some p6n52), none, (.mv (.t p6n7))⟩, ⟨(some p6n53), none, (.mv (.t p6n10))⟩, ⟨(some p6n54), none, (.mv (.t p6n6))⟩, ⟨(some p6n55), none, (.call 269 [(.t p6n51), (.t p6n52), (.t p6n53), (.t p6n54)])⟩]))) (.reg [⟨(some p6n31), none, (.mv (.t p6n10))⟩, ⟨(some p6n32), none, (.bin .sub (.t p6n31) (.c (.int .i64 (.ofNat 1))))⟩, ⟨(some p6n10), none, (.mv (.t p6n32))⟩]))))))))))⟩
noncomputable def a252 : AFunc :=
  ⟨7, [p7n0, p7n1, p7n2], [], false, (.seq (.reg [⟨(some p7n11), none, (.mv (.t p7n2))⟩, ⟨(some p7n12), none, (.mv (.t p7n1))⟩, ⟨(some p7n13), none, (.bin .sub (.t p7n11) (.t p7n12))⟩, ⟨(some p7n6), none, (.mv (.t p7n13))⟩]) (.seq (.reg [⟨(some p7n14), none, (.mv (.t p7n6))⟩, ⟨(some p7n15), none, (.bin .geq (.t p7n14) (.c (.int .i64 (.ofNat 8))))⟩]) (.cond (.t p7n15) (.seq (.reg [⟨(some p7n16), none, (.mv (.t p7n6))⟩, ⟨(some p7n17), none, (.cv (.int .u64) (.t p7n16))⟩, ⟨(some p7n7), none, (.alloc [(.int .u64 (.ofNat 0))])⟩, ⟨none, none, (.st 1 (.t p7n7) (.t p7n17))⟩]) (.seq (.reg [⟨(some p7n18), none, (.mv (.t p7n6))⟩, ⟨(some p7n19), none, (.call 270 [(.t p7n18)])⟩, ⟨(some p7n8), none, (.mv (.t p7n19))⟩]) (.seq (.reg [⟨(some p7n20), none, (.mv (.t p7n1))⟩, ⟨(some p7n21), none, (.mv (.t p7n6))⟩, ⟨(some p7n22), none, (.bin .quo (.t p7n21) (.c (.int .i64 (.ofNat 4))))⟩, ⟨(some p7n23), none, (.bin .mul (.t p7n22) (.c (.int .i64 (.ofNat 2))))⟩, ⟨(some p7n24), none, (.bin .add (.t p7n20) (.t p7n23))⟩, ⟨(some p7n25), none, (.bin .sub (.t p7n24) (.c (.int .i64 (.ofNat 1))))⟩, ⟨(some p7n9), none, (.mv (.t p7n25))⟩]) (.block 0 (.loop (.seq (.seq (.reg [⟨(some p7n26), none, (.mv (.t p7n9))⟩, ⟨(some p7n27), none, (.mv (.t p7n1))⟩, ⟨(some p7n28), none, (.mv (.t p7n6))⟩, ⟨(some p7n29), none, (.bin .quo (.t p7n28) (.c (.int .i64 (.ofNat 4))))⟩, ⟨(some p7n30), none, (.bin .mul (.t p7n29) (.c (.int .i64 (.ofNat 2))))⟩, ⟨(some p7n31), none, (.bin .add (.t p7n27) (.t p7n30))⟩, ⟨(some p7n32), none, (.bin .add (.t p7n31) (.c (.int .i64 (.ofNat 1))))⟩, ⟨(some p7n33), none, (.bin .leq (.t p7n26) (.t p7n32))⟩]) (.cond (.t p7n33) .skip (.exit 0))) (.seq (.block 1 (.seq (.reg [⟨(some p7n36), none, (.call 271 [(.t p7n7)])⟩, ⟨(some p7n37), none, (.mv (.t p7n8))⟩, ⟨(some p7n38), none, (.bin .sub (.t p7n37) (.c (.int .u64 (.ofNat 1))))⟩, ⟨(some p7n39), none, (.bin .and (.t p7n36) (.t p7n38))⟩, ⟨(some p7n40), none, (.cv (.int .i64) (.t p7n39))⟩, ⟨(some p7n10), none, (.mv (.t p7n40))⟩]) (.seq (.seq (.reg [⟨(some p7n41), none, (.mv (.t p7n10))⟩, ⟨(some p7n42), none, (.mv (.t p7n6))⟩, ⟨(some p7n43), none, (.bin .geq (.t p7n41) (.t p7n42))⟩]) (.cond (.t p7n43) (.reg [⟨(some p7n44), none, (.mv (.t p7n10))⟩, ⟨(some p7n45), none, (.mv (.t p7n6))⟩, ⟨(some p7n46), none, (.bin .sub (.t p7n44) (.t p7n45))⟩, ⟨(some p7n10), none, (.mv (.t p7n46))⟩]) .skip)) (.regd [(.pure, ⟨(some p7n47), none, (.mv (.t p7n0))⟩), (.pure, ⟨(some p7n48), none, (.mv (.t p7n9))⟩), (.pure, ⟨(some p7n49), none, (.mv (.t p7n0))⟩), (.pure, ⟨(some p7n50), none, (.mv (.t p7n1))⟩), (.pure, ⟨(some p7n51), none, (.mv (.t p7n10))⟩), (.pure, ⟨(some p7n52), none, (.bin .add (.t p7n50) (.t p7n51))⟩), (.pure, ⟨(some p7n53), none, (.mv (.t p7n0))⟩), (.pure, ⟨(some p7n54), none, (.mv (.t p7n1))⟩), (.pure, ⟨(some p7n55), none, (.mv (.t p7n10))⟩), (.pure, ⟨(some p7n56), none, (.bin .add (.t p7n54) (.t p7n55))⟩), (.pure, ⟨(some p7n57), none, (.iaddr 1 (.t p7n53) (.t p7n56))⟩), ((.loadm 11 1984), ⟨(some p7n58), none, (.ld1 (.t p7n57))⟩), (.pure, ⟨(some p7n59), none, (.mv (.t p7n0))⟩), (.pure, ⟨(some p7n60), none, (.mv (.t p7n9))⟩), (.pure, ⟨(some p7n61), none, (.iaddr 1 (.t p7n59) (.t p7n60))⟩), ((.loadm 15 28672), ⟨(some p7n62), none, (.ld1 (.t p7n61))⟩), (.pure, ⟨(some p7n63), none, (.iaddr 1 (.t p7n47) (.t p7n48))⟩), ((.sto 17 131011), ⟨none, none, (.st 1 (.t p7n63) (.t p7n58))⟩)] [⟨(some p7n64), none, (.iaddr 1 (.t p7n49) (.t p7n52))⟩, ⟨none, none, (.st 1 (.t p7n64) (.t p7n62))⟩])))) (.reg [⟨(some p7n34), none, (.mv (.t p7n9))⟩, ⟨(some p7n35), none, (.bin .add (.t p7n34) (.c (.int .i64 (.ofNat 1))))⟩, ⟨(some p7n9), none, (.mv (.t p7n35))⟩])))))))) .skip)))⟩
noncomputable def a253 : AFunc :=
  ⟨6, [p6n0, p6n1, p6n2], [(p6n6, none), (p6n7, none)], false, (.seq (.reg [⟨(some p6n6), none, (.mv (.c (.int .i64 (.ofNat 0))))⟩, ⟨(some p6n7), none, (.mv (.c (.int .i64 (.ofNat 0))))⟩]) (.seq (.reg [⟨(some p6n13), none, (.mv (.t p6n2))⟩, ⟨(some p6n14), none, (.mv (.t p6n1))⟩, ⟨(some p6n15), none, (.bin .sub (.t p6n13) (.t p6n14))⟩, ⟨(some p6n8), none, (.mv (.t p6n15))⟩]) (.seq (.reg [⟨(some p6n9), none, (.alloc [(.int .i64 (.ofNat 0))])⟩]) (.seq (.reg [⟨(some p6n16), none, (.mv (.t p6n1))⟩, ⟨(some p6n17), none, (.mv (.t p6n8))⟩, ⟨(some p6n18), none, (.bin .quo (.t p6n17) (.c (.int .i64 (.ofNat 4))))⟩, ⟨(some p6n19), none, (.bin .mul (.t p6n18) (.c (.int .i64 (.ofNat 1))))⟩, ⟨(some p6n20), none, (.bin .add (.t p6n16) (.t p6n19))⟩, ⟨(some p6n10), none, (.mv (.t p6n20))⟩]) (.seq (.reg [⟨(some p6n21), none, (.mv (.t p6n1))⟩, ⟨(some p6n22), none, (.mv (.t p6n8))⟩, ⟨(some p6n23), none, (.bin .quo (.t p6n22) (.c (.int .i64 (.ofNat 4))))⟩, ⟨(some p6n24), none, (.bin .mul (.t p6n23) (.c (.int .i64 (.ofNat 2))))⟩, ⟨(some p6n25), none, (.bin .add (.t p6n21) (.t p6n24))⟩, ⟨(some p6n11), none, (.mv (.t p6n25))⟩]) (.seq (.reg [⟨(some p6n26), none, (.mv (.t p6n1))⟩, ⟨(some p6n27), none, (.mv (.t p6n8))⟩, ⟨(some p6n28), none, (.bin .quo (.t p6n27) (.c (.int .i64 (.ofNat 4))))⟩, ⟨(some p6n29), none, (.bin .mul (.t p6n28) (.c (.int .i64 (.ofNat 3))))⟩, ⟨(some p6n30), none, (.bin .add (.t p6n26) (.t p6n29))⟩, ⟨(some p6n12), none, (.mv (.t p6n30))⟩]) (.seq (.seq (.reg [⟨(some p6n31), none, (.mv (.t p6n8))⟩, ⟨(some p6n32), none, (.bin .geq (.t p6n31) (.c (.int .i64 (.ofNat 8))))⟩]) (.cond (.t p6n32) (.seq (.seq (.reg [⟨(some p6n33), none, (.mv (.t p6n8))⟩, ⟨(some p6n34), none, (.bin .geq (.t p6n33) (.c (.int .i64 (.ofNat 50))))⟩]) (.cond (.t p6n34) (.seq (.reg [⟨(some p6n35), none, (.mv (.t p6n0))⟩, ⟨(some p6n36), none, (.mv (.t p6n10))⟩, ⟨(some p6n37), none, (.call 272 [(.t p6n35), (.t p6n36), (.t p6n9)])⟩, ⟨(some p6n10), none, (.mv (.t p6n37))⟩]) (.seq (.reg [⟨(some p6n38), none, (.mv (.t p6n0))⟩, ⟨(some p6n39), none, (.mv (.t p6n11))⟩, ⟨(some p6n40), none, (.call 272 [(.t p6n38), (.t p6n39), (.t p6n9)])⟩, ⟨(some p6n11), none, (.mv (.t p6n40))⟩]) (.reg [⟨(some p6n41), none, (.mv (.t p6n0))⟩, ⟨(some p6n42), none, (.mv (.t p6n12))⟩, ⟨(some p6n43), none, (.call 272 [(.t p6n41), (.t p6n42), (.t p6n9)])⟩, ⟨(some p6n12), none, (.mv (.t p6n43))⟩]))) .skip)) (.reg [⟨(some p6n44), none, (.mv (.t p6n0))⟩, ⟨(some p6n45), none, (.mv (.t p6n10))⟩, ⟨(some p6n46), none, (.mv (.t p6n11))⟩, ⟨(some p6n47), none, (.mv (.t p6n12))⟩, ⟨(some p6n48), none, (.call 273 [(.t p6n44), (.t p6n45), (.t p6n46), (.t p6n47), (.t p6n9)])⟩, ⟨(some p6n11), none, (.mv (.t p6n48))⟩])) .skip)) (.seq (.reg [⟨(some p6n49), none, (.ld1 (.t p6n9))⟩]) (.block 0 (.seq (.reg [⟨(some p6n52), none, (.bin .eql (.t p6n49) (.c (.int .i64 (.ofNat 0))))⟩, ⟨(some p6n51), none, (.mv (.t p6n52))⟩]) (.cond (.t p6n51) (.seq (.reg [⟨(some p6n53), none, (.mv (.t p6n11))⟩, ⟨(some p6n6), none, (.mv (.t p6n53))⟩, ⟨(some p6n7), none, (.mv (.c (.int .i64 (.ofNat 1))))⟩]) .ret) (.seq (.reg [⟨(some p6n55), none, (.bin .eql (.t p6n49) (.c (.int .i64 (.ofNat 12))))⟩, ⟨(some p6n54), none, (.mv (.t p6n55))⟩]) (.cond (.t p6n54) (.seq (.reg [⟨(some p6n56), none, (.mv (.t p6n11))⟩, ⟨(some p6n6), none, (.mv (.t p6n56))⟩, ⟨(some p6n7), none, (.mv (.c (.int .i64 (.ofNat 2))))⟩]) .ret) (.seq (.reg [⟨(some p6n50), none, (.mv (.t p6n11))⟩, ⟨(some p6n6), none, (.mv (.t p6n50))⟩, ⟨(some p6n7), none, (.mv (.c (.int .i64 (.ofNat 0))))⟩]) .ret))))))))))))))⟩
noncomputable def a254 : AFunc :=
  ⟨5, [p5n0, p5n1, p5n2], [], false, (.seq (.reg [⟨(some p5n8), none, (.mv (.t p5n1))⟩, ⟨(some p5n6), none, (.mv (.t p5n8))⟩]) (.seq (.reg [⟨(some p5n9), none, (.mv (.t p5n2))⟩, ⟨(some p5n10), none, (.bin .sub (.t p5n9) (.c (.int .i64 (.ofNat 1))))⟩, ⟨(some p5n7), none, (.mv (.t p5n10))⟩]) (.block 0 (.loop (.seq (.seq (.reg [⟨(some p5n11), none, (.mv (.t p5n6))⟩, ⟨(some p5n12), none, (.mv (.t p5n7))⟩, ⟨(some p5n13), none, (.bin .lss (.t p5n11) (.t p5n12))⟩]) (.cond (.t p5n13) .skip (.exit 0))) (.block 1 (.seq (.regd [(.pure, ⟨(some p5n14), none, (.mv (.t p5n0))⟩), (.pure, ⟨(some p5n15), none, (.mv (.t p5n6))⟩), (.pure, ⟨(some p5n16), none, (.mv (.t p5n0))⟩), (.pure, ⟨(some p5n17), none, (.mv (.t p5n7))⟩), (.pure, ⟨(some p5n18), none, (.mv (.t p5n0))⟩), (.pure, ⟨(some p5n19), none, (.mv (.t p5n7))⟩), (.pure, ⟨(some p5n20), none, (.iaddr 1 (.t p5n18) (.t p5n19))⟩), ((.loadm 7 112), ⟨(some p5n21), none, (.ld1 (.t p5n20))⟩), (.pure, ⟨(some p5n22), none, (.mv (.t p5n0))⟩), (.pure, ⟨(some p5n23), none, (.mv (.t p5n6))⟩), (.pure, ⟨(some p5n24), none, (.iaddr 1 (.t p5n22) (.t p5n23))⟩), ((.loadm 11 1792), ⟨(some p5n25), none, (.ld1 (.t p5n24))⟩), (.pure, ⟨(some p5n26), none, (.iaddr 1 (.t p5n14) (.t p5n15))⟩), ((.sto 13 8179), ⟨none, none, (.st 1 (.t p5n26) (.t p5n21))⟩)] [⟨(some p5n27), none, (.iaddr 1 (.t p5n16) (.t p5n17))⟩, ⟨none, none, (.st 1 (.t p5n27) (.t p5n25))⟩]) (.seq (.reg [⟨(some p5n28), none, (.mv (.t p5n6))⟩, ⟨(some p5n29), none, (.bin .add (.t p5n28) (.c (.int .i64 (.ofNat 1))))⟩, ⟨(some p5n6), none, (.mv (.t p5n29))⟩]) (.reg [⟨(some p5n30), none, (.mv (.t p5n7))⟩, ⟨(some p5n31), none, (.bin .sub (.t p5n30) (.c (.int .i64 (.ofNat 1))))⟩, ⟨(some p5n7), none, (.mv (.t p5n31))⟩])))))))))⟩
noncomputable def a255 : AFunc :=
  ⟨8, [p8n0, p8n1, p8n2], [(p8n6, none)], false, (.seq (.reg [⟨(some p8n6), none, (.mv (.c (.bool false)))⟩]) (.seq (.reg [⟨(some p8n11), none, (.mv (.t p8n1))⟩, ⟨(some p8n12), none, (.bin .add (.t p8n11) (.c (.int .i64 (.ofNat 1))))⟩, ⟨(some p8n7), none, (.mv (.t p8n12))⟩]) (.seq (.seq (.reg [⟨(some p8n8), none, (.mv (.c (.int .i64 (.ofNat 0))))⟩]) (.block 0 (.loop (.seq (.seq (.reg [⟨(some p8n13), none, (.mv (.t p8n8))⟩, ⟨(some p8n14), none, (.bin .lss (.t p8n13) (.c (.int .i64 (.ofNat 5))))⟩]) (.cond (.t p8n14) .skip (.exit 0))) (.seq (.block 1 (.seq (.block 2 (.loop (.seq (.seq (.regd [(.pure, ⟨(some p8n17), none, (.mv (.t p8n7))⟩), (.pure, ⟨(some p8n18), none, (.mv (.t p8n2))⟩), (.pure, ⟨(some p8n19), none, (.bin .lss (.t p8n17) (.t p8n18))⟩), (.pure, ⟨(some p8n20), none, (.mv (.t p8n19))⟩), (.pure, ⟨(some p8n21), (some (p8n20, true)), (.mv (.t p8n0))⟩), (.pure, ⟨(some p8n22), (some (p8n20, true)), (.mv (.t p8n7))⟩), (.pure, ⟨(some p8n23), (some (p8n20, true)), (.iaddr 1 (.t p8n21) (.t p8n22))⟩), (.load, ⟨(some p8n24), (some (p8n20, true)), (.ld1 (.t p8n23))⟩), (.pure, ⟨(some p8n25), (some (p8n20, true)), (.mv (.t p8n0))⟩), (.pure, ⟨(some p8n26), (some (p8n20, true)), (.mv (.t p8n7))⟩), (.pure, ⟨(some p8n27), (some (p8n20, true)), (.bin .sub (.t p8n26) (.c (.int .i64 (.ofNat 1))))⟩), (.pure, ⟨(some p8n28), (some (p8n20, true)), (.iaddr 1 (.t p8n25) (.t p8n27))⟩), (.load, ⟨(some p8n29), (some (p8n20, true)), (.ld1 (.t p8n28))⟩)] [⟨(some p8n30), (some (p8n20, true)), (.call 256 [(.t p8n24), (.t p8n29)])⟩, ⟨(some p8n31), (some (p8n20, true)), (.un .not (.t p8n30))⟩, ⟨(some p8n32), none, (.pick (.t p8n20) (.t p8n31) (.c (.bool false)))⟩]) (.cond (.t p8n32) .skip (.exit 2))) (.block 3 (.reg [⟨(some p8n33), none, (.mv (.t p8n7))⟩, ⟨(some p8n34), none, (.bin .add (.t p8n33) (.c (.int .i64 (.ofNat 1))))⟩, ⟨(some p8n7), none, (.mv (.t p8n34))⟩]))))) (.seq (.seq (.reg [⟨(some p8n35), none, (.mv (.t p8n7))⟩, ⟨(some p8n36), none, (.mv (.t p8n2))⟩, ⟨(some p8n37), none, (.bin .eql (.t p8n35) (.t p8n36))⟩]) (.cond (.t p8n37) (.seq (.reg [⟨(some p8n6), none, (.mv (.c (.bool true)))⟩]) .ret) .skip)) (.seq (.seq (.reg [⟨(some p8n38), none, (.mv (.t p8n2))⟩, ⟨(some p8n39), none, (.mv (.t p8n1))⟩, ⟨(some p8n40), none, (.bin .sub (.t p8n38) (.t p8n39))⟩, ⟨(some p8n41), none, (.bin .lss (.t p8n40) (.c (.int .i64 (.ofNat 50))))⟩]) (.cond (.t p8n41) (.seq (.reg [⟨(some p8n6), none, (.mv (.c (.bool false)))⟩]) .ret) .skip)) (.seq (.regd [(.pure, ⟨(some p8n42), none, (.mv (.t p8n0))⟩), (.pure, ⟨(some p8n43), none, (.mv (.t p8n7))⟩), (.pure, ⟨(some p8n44), none, (.mv (.t p8n0))⟩), (.pure, ⟨(some p8n45), none, (.mv (.t p8n7))⟩), (.pure, ⟨(some p8n46), none, (.bin .sub (.t p8n45) (.c (.int .i64 (.ofNat 1))))⟩), (.pure, ⟨(some p8n47), none, (.mv (.t p8n0))⟩), (.pure, ⟨(some p8n48), none, (.mv (.t p8n7))⟩), (.pure, ⟨(some p8n49), none, (.bin .sub (.t p8n48) (.c (.int .i64 (.ofNat 1))))⟩), (.pure, ⟨(some p8n50), none, (.iaddr 1 (.t p8n47) (.t p8n49))⟩), ((.loadm 9 480), ⟨(some p8n51), none, (.ld1 (.t p8n50))⟩), (.pure, ⟨(some p8n52), none, (.mv (.t p8n0))⟩), (.pure, ⟨(some p8n53), none, (.mv (.t p8n7))⟩), (.pure, ⟨(some p8n54), none, (.iaddr 1 (.t p8n52) (.t p8n53))⟩), ((.loadm 13 7168), ⟨(some p8n55), none, (.ld1 (.t p8n54))⟩), (.pure, ⟨(some p8n56), none, (.iaddr 1 (.t p8n42) (.t p8n43))⟩), ((.sto 15 32739), ⟨none, none, (.st 1 (.t p8n56) (.t p8n51))⟩)] [⟨(some p8n57), none, (.iaddr 1 (.t p8n44) (.t p8n46))⟩, ⟨none, none, (.st 1 (.t p8n57) (.t p8n55))⟩]) (.seq (.seq (.reg [⟨(some p8n58), none, (.mv (.t p8n7))⟩, ⟨(some p8n59), none, (.mv (.t p8n1))⟩, ⟨(some p8n60), none, (.bin .sub (.t p8n58) (.t p8n59))⟩, ⟨(some p8n61), none, (.bin .geq (.t p8n60) (.c (.int .i64 (.ofNat 2))))⟩]) (.cond (.t p8n61) (.seq (.reg [⟨(some p8n62), none, (.mv (.t p8n7))⟩, ⟨(some p8n63), none, (.bin .sub (.t p8n62) (.c (.int .i64 (.ofNat 1))))⟩, ⟨(some p8n9), none, (.mv (.t p8n63))⟩]) (.block 4 (.loop (.seq (.seq (.reg [⟨(some p8n64), none, (.mv (.t p8n9))⟩, ⟨(some p8n65), none, (.bin .geq (.t p8n64) (.c (.int .i64 (.ofNat 1))))⟩]) (.cond (.t p8n65) .skip (.exit 4))) (.seq (.block 5 (.seq (.seq (.regd [(.pure, ⟨(some p8n68), none, (.mv (.t p8n0))⟩), (.pure, ⟨(some p8n69), none, (.mv (.t p8n9))⟩), (.pure, ⟨(some p8n70), none, (.iaddr 1 (.t p8n68) (.t p8n69))⟩), (.load, ⟨(some p8n71), none, (.ld1 (.t p8n70))⟩), (.pure, ⟨(some p8n72), none, (.mv (.t p8n0))⟩), (.pure, ⟨(some p8n73), none, (.mv (.t p8n9))⟩), (.pure, ⟨(some p8n74), none, (.bin .sub (.t p8n73) (.c (.int .i64 (.ofNat 1))))⟩), (.pure, ⟨(some p8n75), none, (.iaddr 1 (.t p8n72) (.t p8n74))⟩), (.load, ⟨(some p8n76), none, (.ld1 (.t p8n75))⟩)] [⟨(some p8n77), none, (.call 256 [(.t p8n71), (.t p8n76)])⟩, ⟨(some p8n78), none, (.un .not (.t p8n77))⟩]) (.cond (.t p8n78) (.exit 4) .skip)) (.regd [(.pure, ⟨(some p8n79), none, (.mv (.t p8n0))⟩), (.pure, ⟨(some p8n80), none, (.mv (.t p8n9))⟩), (.pure, ⟨(some p8n81), none, (.mv (.t p8n0))⟩), (.pure, ⟨(some p8n82), none, (.mv (.t p8n9))⟩), (.pure, ⟨(some p8n83), none, (.bin .sub (.t p8n82) (.c (.int .i64 (.ofNat 1))))⟩), (.pure, ⟨(some p8n84), none, (.mv (.t p8n0))⟩), (.pure, ⟨(some p8n85), none, (.mv (.t p8n9))⟩), (.pure, ⟨(some p8n86), none, (.bin .sub (.t p8n85) (.c (.int .i64 (.ofNat 1))))⟩), (.pure, ⟨(some p8n87), none, (.iaddr 1 (.t p8n84) (.t p8n86))⟩), ((.loadm 9 480), ⟨(some p8n88), none, (.ld1 (.t p8n87))⟩), (.pure, ⟨(some p8n89), none, (.mv (.t p8n0))⟩), (.pure, ⟨(some p8n90), none, (.mv (.t p8n9))⟩), (.pure, ⟨(some p8n91), none, (.iaddr 1 (.t p8n89) (.t p8n90))⟩), ((.loadm 13 7168), ⟨(some p8n92), none, (.ld1 (.t p8n91))⟩), (.pure, ⟨(some p8n93), none, (.iaddr 1 (.t p8n79) (.t p8n80))⟩), ((.sto 15 32739), ⟨none, none, (.st 1 (.t p8n93) (.t p8n88))⟩)] [⟨(some p8n94), none, (.iaddr 1 (.t p8n81) (.t p8n83))⟩, ⟨none, none, (.st 1 (.t p8n94) (.t p8n92))⟩]))) (.reg [⟨(some p8n66), none, (.mv (.t p8n9))⟩, ⟨(some p8n67), none, (.bin .sub (.t p8n66) (.c (.int .i64 (.ofNat 1))))⟩, ⟨(some p8n9), none, (.mv (.t p8n67))⟩])))))) .skip)) (.seq (.reg [⟨(some p8n95), none, (.mv (.t p8n2))⟩, ⟨(some p8n96), none, (.mv (.t p8n7))⟩, ⟨(some p8n97), none, (.bin .sub (.t p8n95) (.t p8n96))⟩, ⟨(some p8n98), none, (.bin .geq (.t p8n97) (.c (.int .i64 (.ofNat 2))))⟩]) (.cond (.t p8n98) (.seq (.reg [⟨(some p8n99), none, (.mv (.t p8n7))⟩, ⟨(some p8n100), none, (.bin .add (.t p8n99) (.c (.int .i64 (.ofNat 1))))⟩, ⟨(some p8n10), none, (.mv (.t p8n100))⟩]) (.block 6 (.loop (.seq (.seq (.reg [⟨(some p8n101), none, (.mv (.t p8n10))⟩, ⟨(some p8n102), none, (.mv (.t p8n2))⟩, ⟨(some p8n103), none, (.bin .lss (.t p8n101) (.t p8n102))⟩]) (.cond (.t p8n103) .skip (.exit 6))) (.seq (.block 7 (.seq (.seq (.regd [(.pure, ⟨(some p8n106), none, (.mv (.t p8n0))⟩), (.pure, ⟨(some p8n107), none, (.mv (.t p8n10))⟩), (.pure, ⟨(some p8n108), none, (.iaddr 1 (.t p8n106) (.t p8n107))⟩), (.load, ⟨(some p8n109), none, (.ld1 (.t p8n108))⟩), (.pure, ⟨(some p8n110), none, (.mv (.t p8n0))⟩), (.pure, ⟨(some p8n111), none, (.mv (.t p8n10))⟩), (.pure, ⟨(some p8n112), none, (.bin .sub (.t p8n111) (.c (.int .i64 (.ofNat 1))))⟩), (.pure, ⟨(some p8n113), none, (.iaddr 1 (.t p8n110) (.t p8n112))⟩), (.load, ⟨(some p8n114), none, (.ld1 (.t p8n113))⟩)] [⟨(some p8n115), none, (.call 256 [(.t p8n109), (.t p8n114)])⟩, ⟨(some p8n116), none, (.un .not (.t p8n115))⟩]) (.cond (.t p8n116) (.exit 6) .skip)) (.regd [(.pure, ⟨(some p8n117), none, (.mv (.t p8n0))⟩), (.pure, ⟨(some p8n118), none, (.mv (.t p8n10))⟩), (.pure, ⟨(some p8n119), none, (.mv (.t p8n0))⟩), (.pure, ⟨(some p8n120), none, (.mv (.t p8n10))⟩), (.pure, ⟨(some p8n121), none, (.bin .sub (.t p8n120) (.c (.int .i64 (.ofNat 1))))⟩), (.pure, ⟨(some p8n122), none, (.mv (.t p8n0))⟩), (.pure, ⟨(some p8n123), none, (.mv (.t p8n10))⟩), (.pure, ⟨(some p8n124), none, (.bin .sub (.t p8n123) (.c (.int .i64 (.ofNat 1))))⟩), (.pure, ⟨(some p8n125), none, (.iaddr 1 (.t p8n122) (.t p8n124))⟩), ((.loadm 9 480), ⟨(some p8n126), none, (.ld1 (.t p8n125))⟩), (.pure, ⟨(some p8n127), none, (.mv (.t p8n0))⟩), (.pure, ⟨(some p8n128), none, (.mv (.t p8n10))⟩), (.pure, ⟨(some p8n129), none, (.iaddr 1 (.t p8n127) (.t p8n128))⟩), ((.loadm 13 7168), ⟨(some p8n130), none, (.ld1 (.t p8n129))⟩), (.pure, ⟨(some p8n131), none, (.iaddr 1 (.t p8n117) (.t p8n118))⟩), ((.sto 15 32739), ⟨none, none, (.st 1 (.t p8n131) (.t p8n126))⟩)] [⟨(some p8n132), none, (.iaddr 1 (.t p8n119) (.t p8n121))⟩, ⟨none, none, (.st 1 (.t p8n132) (.t p8n130))⟩]))) (.reg [⟨(some p8n104), none, (.mv (.t p8n10))⟩, ⟨(some p8n105), none, (.bin .add (.t p8n104) (.c (.int .i64 (.ofNat 1))))⟩, ⟨(some p8n10), none, (.mv (.t p8n105))⟩])))))) .skip)))))))) (.reg [⟨(some p8n15), none, (.mv (.t p8n8))⟩, ⟨(some p8n16), none, (.bin .add (.t p8n15) (.c (.int .i64 (.ofNat 1))))⟩, ⟨(some p8n8), none, (.mv (.t p8n16))⟩])))))) (.seq (.reg [⟨(some p8n6), none, (.mv (.c (.bool false)))⟩]) .ret))))⟩
noncomputable def a256 : AFunc :=
  ⟨5, [p5n0, p5n1], [(p5n4, none)], false, (.seq (.reg [⟨(some p5n4), none, (.mv (.c (.bool false)))⟩]) (.seq (.reg [⟨(some p5n5), none, (.mv (.t p5n0))⟩, ⟨(some p5n6), none, (.call 268 [(.t p5n5)])⟩, ⟨(some p5n7), none, (.mv (.t p5n6))⟩, ⟨(some p5n8), (some (p5n7, true)), (.mv (.t p5n1))⟩, ⟨(some p5n9), (some (p5n7, true)), (.call 268 [(.t p5n8)])⟩, ⟨(some p5n10), (some (p5n7, true)), (.un .not (.t p5n9))⟩, ⟨(some p5n11), none, (.pick (.t p5n7) (.t p5n10) (.c (.bool false)))⟩, ⟨(some p5n12), none, (.mv (.t p5n11))⟩, ⟨(some p5n13), (some (p5n12, false)), (.mv (.t p5n0))⟩, ⟨(some p5n14), (some (p5n12, false)), (.mv (.t p5n1))⟩, ⟨(some p5n15), (some (p5n12, false)), (.bin .lss (.t p5n13) (.t p5n14))⟩, ⟨(some p5n16), none, (.pick (.t p5n12) (.c (.bool true)) (.t p5n15))⟩, ⟨(some p5n4), none, (.mv (.t p5n16))⟩]) .ret))⟩
noncomputable def a257 : AFunc :=
  ⟨7, [p7n0, p7n1, p7n2, p7n3], [(p7n8, none)], false, (.seq (.reg [⟨(some p7n8), none, (.mv (.c (.int .i64 (.ofNat 0))))⟩]) (.seq (.regd [(.pure, ⟨(some p7n11), none, (.mv (.t p7n0))⟩), (.pure, ⟨(some p7n12), none, (.mv (.t p7n1))⟩), (.pure, ⟨(some p7n13), none, (.mv (.t p7n0))⟩), (.pure, ⟨(some p7n14), none, (.mv (.t p7n3))⟩), (.pure, ⟨(some p7n15), none, (.mv (.t p7n0))⟩), (.pure, ⟨(some p7n16), none, (.mv (.t p7n3))⟩), (.pure, ⟨(some p7n17), none, (.iaddr 1 (.t p7n15) (.t p7n16))⟩), ((.loadm 7 112), ⟨(some p7n18), none, (.ld1 (.t p7n17))⟩), (.pure, ⟨(some p7n19), none, (.mv (.t p7n0))⟩), (.pure, ⟨(some p7n20), none, (.mv (.t p7n1))⟩), (.pure, ⟨(some p7n21), none, (.iaddr 1 (.t p7n19) (.t p7n20))⟩), ((.loadm 11 1792), ⟨(some p7n22), none, (.ld1 (.t p7n21))⟩), (.pure, ⟨(some p7n23), none, (.iaddr 1 (.t p7n11) (.t p7n12))⟩), ((.sto 13 8179), ⟨none, none, (.st 1 (.t p7n23) (.t p7n18))⟩)] [⟨(some p7n24), none, (.iaddr 1 (.t p7n13) (.t p7n14))⟩, ⟨none, none, (.st 1 (.t p7n24) (.t p7n22))⟩]) (.seq (.reg [⟨(some p7n25), none, (.mv (.t p7n1))⟩, ⟨(some p7n26), none, (.bin .add (.t p7n25) (.c (.int .i64 (.ofNat 1))))⟩, ⟨(some p7n27), none, (.mv (.t p7n2))⟩, ⟨(some p7n28), none, (.bin .sub (.t p7n27) (.c (.int .i64 (.ofNat 1))))⟩, ⟨(some p7n9), none, (.mv (.t p7n26))⟩, ⟨(some p7n10), none, (.mv (.t p7n28))⟩]) (.seq (.block 0 (.loop (.block 1 (.seq (.block 2 (.loop (.seq (.seq (.regd [(.pure, ⟨(some p7n29), none, (.mv (.t p7n9))⟩), (.pure, ⟨(some p7n30), none, (.mv (.t p7n10))⟩), (.pure, ⟨(some p7n31), none, (.bin .leq (.t p7n29) (.t p7n30))⟩), (.pure, ⟨(some p7n32), none, (.mv (.t p7n31))⟩), (.pure, ⟨(some p7n33), (some (p7n32, true)), (.mv (.t p7n0))⟩), (.pure, ⟨(some p7n34), (some (p7n32, true)), (.mv (.t p7n1))⟩), (.pure, ⟨(some p7n35), (some (p7n32, true)), (.iaddr 1 (.t p7n33) (.t p7n34))⟩), (.load, ⟨(some p7n36), (some (p7n32, true)), (.ld1 (.t p7n35))⟩), (.pure, ⟨(some p7n37), (some (p7n32, true)), (.mv (.t p7n0))⟩), (.pure, ⟨(some p7n38), (some (p7n32, true)), (.mv (.t p7n9))⟩), (.pure, ⟨(some p7n39), (some (p7n32, true)), (.iaddr 1 (.t p7n37) (.t p7n38))⟩), (.load, ⟨(some p7n40), (some (p7n32, true)), (.ld1 (.t p7n39))⟩)] [⟨(some p7n41), (some (p7n32, true)), (.call 256 [(.t p7n36), (.t p7n40)])⟩, ⟨(some p7n42), (some (p7n32, true)), (.un .not (.t p7n41))⟩, ⟨(some p7n43), none, (.pick (.t p7n32) (.t p7n42) (.c (.bool false)))⟩]) (.cond (.t p7n43) .skip (.exit 2))) (.block 3 (.reg [⟨(some p7n44), none, (.mv (.t p7n9))⟩, ⟨(some p7n45), none, (.bin .add (.t p7n44) (.c (.int .i64 (.ofNat 1))))⟩, ⟨(some p7n9), none, (.mv (.t p7n45))⟩]))))) (.seq (.block 4 (.loop (.seq (.seq (.regd [(.pure, ⟨(some p7n46), none, (.mv (.t p7n9))⟩), (.pure, ⟨(some p7n47), none, (.mv (.t p7n10))⟩), (.pure, ⟨(some p7n48), none, (.bin .leq (.t p7n46) (.t p7n47))⟩), (.pure, ⟨(some p7n49), none, (.mv (.t p7n48))⟩), (.pure, ⟨(some p7n50), (some (p7n49, true)), (.mv (.t p7n0))⟩), (.pure, ⟨(some p7n51), (some (p7n49, true)), (.mv (.t p7n1))⟩), (.pure, ⟨(some p7n52), (some (p7n49, true)), (.iaddr 1 (.t p7n50) (.t p7n51))⟩), (.load, ⟨(some p7n53), (some (p7n49, true)), (.ld1 (.t p7n52))⟩), (.pure, ⟨(some p7n54), (some (p7n49, true)), (.mv (.t p7n0))⟩), (.pure, ⟨(some p7n55), (some (p7n49, true)), (.mv (.t p7n10))⟩), (.pure, ⟨(some p7n56), (some (p7n49, true)), (.iaddr 1 (.t p7n54) (.t p7n55))⟩), (.load, ⟨(some p7n57), (some (p7n49, true)), (.ld1 (.t p7n56))⟩)] [⟨(some p7n58), (some (p7n49, true)), (.call 256 [(.t p7n53), (.t p7n57)])⟩, ⟨(some p7n59), none, (.pick (.t p7n49) (.t p7n58) (.c (.bool false)))⟩]) (.cond (.t p7n59) .skip (.exit 4))) (.block 5 (.reg [⟨(some p7n60), none, (.mv (.t p7n10))⟩, ⟨(some p7n61), none, (.bin .sub (.t p7n60) (.c (.int .i64 (.ofNat 1))))⟩, ⟨(some p7n10), none, (.mv (.t p7n61))⟩]))))) (.seq (.seq (.reg [⟨(some p7n62), none, (.mv (.t p7n9))⟩, ⟨(some p7n63), none, (.mv (.t p7n10))⟩, ⟨(some p7n64), none, (.bin .gtr (.t p7n62) (.t p7n63))⟩]) (.cond (.t p7n64) (.exit 0) .skip)) (.seq (.regd [(.pure, ⟨(some p7n65), none, (.mv (.t p7n0))⟩), (.pure, ⟨(some p7n66), none, (.mv (.t p7n9))⟩), (.pure, ⟨(some p7n67), none, (.mv (.t p7n0))⟩), (.pure, ⟨(some p7n68), none, (.mv (.t p7n10))⟩), (.pure, ⟨(some p7n69), none, (.mv (.t p7n0))⟩), (.pure, ⟨(some p7n70), none, (.mv (.t p7n10))⟩), (.pure, ⟨(some p7n71), none, (.iaddr 1 (.t p7n69) (.t p7n70))⟩), ((.loadm 7 112), ⟨(some p7n72), none, (.ld1 (.t p7n71))⟩), (.pure, ⟨(some p7n73), none, (.mv (.t p7n0))⟩), (.pure, ⟨(some p7n74), none, (.mv (.t p7n9))⟩), (.pure, ⟨(some p7n75), none, (.iaddr 1 (.t p7n73) (.t p7n74))⟩), ((.loadm 11 1792), ⟨(some p7n76), none, (.ld1 (.t p7n75))⟩), (.pure, ⟨(some p7n77), none, (.iaddr 1 (.t p7n65) (.t p7n66))⟩), ((.sto 13 8179), ⟨none, none, (.st 1 (.t p7n77) (.t p7n72))⟩)] [⟨(some p7n78), none, (.iaddr 1 (.t p7n67) (.t p7n68))⟩, ⟨none, none, (.st 1 (.t p7n78) (.t p7n76))⟩]) (.seq (.reg [⟨(some p7n79), none, (.mv (.t p7n9))⟩, ⟨(some p7n80), none, (.bin .add (.t p7n79) (.c (.int .i64 (.ofNat 1))))⟩, ⟨(some p7n9), none, (.mv (.t p7n80))⟩]) (.reg [⟨(some p7n81), none, (.mv (.t p7n10))⟩, ⟨(some p7n82), none, (.bin .sub (.t p7n81) (.c (.int .i64 (.ofNat 1))))⟩, ⟨(some p7n10), none, (.mv (.t p7n82))⟩]))))))))) (.seq (.reg [⟨(some p7n83), none, (.mv (.t p7n9))⟩, ⟨(some p7n8), none, (.mv (.t p7n83))⟩]) .ret)))))⟩
noncomputable def a258 : AFunc :=
  ⟨8, [p8n0, p8n1, p8n2, p8n3], [(p8n8, none), (p8n9, none)], false, (.seq (.reg [⟨(some p8n8), none, (.mv (.c (.int .i64 (.ofNat 0))))⟩, ⟨(some p8n9), none, (.mv (.c (.bool false)))⟩]) (.seq (.regd [(.pure, ⟨(some p8n12), none, (.mv (.t p8n0))⟩), (.pure, ⟨(some p8n13), none, (.mv (.t p8n1))⟩), (.pure, ⟨(some p8n14), none, (.mv (.t p8n0))⟩), (.pure, ⟨(some p8n15), none, (.mv (.t p8n3))⟩), (.pure, ⟨(some p8n16), none, (.mv (.t p8n0))⟩), (.pure, ⟨(some p8n17), none, (.mv (.t p8n3))⟩), (.pure, ⟨(some p8n18), none, (.iaddr 1 (.t p8n16) (.t p8n17))⟩), ((.loadm 7 112), ⟨(some p8n19), none, (.ld1 (.t p8n18))⟩), (.pure, ⟨(some p8n20), none, (.mv (.t p8n0))⟩), (.pure, ⟨(some p8n21), none, (.mv (.t p8n1))⟩), (.pure, ⟨(some p8n22), none, (.iaddr 1 (.t p8n20) (.t p8n21))⟩), ((.loadm 11 1792), ⟨(some p8n23), none, (.ld1 (.t p8n22))⟩), (.pure, ⟨(some p8n24), none, (.iaddr 1 (.t p8n12) (.t p8n13))⟩), ((.sto 13 8179), ⟨none, none, (.st 1 (.t p8n24) (.t p8n19))⟩)] [⟨(some p8n25), none, (.iaddr 1 (.t p8n14) (.t p8n15))⟩, ⟨none, none, (.st 1 (.t p8n25) (.t p8n23))⟩]) (.seq (.reg [⟨(some p8n26), none, (.mv (.t p8n1))⟩, ⟨(some p8n27), none, (.bin .add (.t p8n26) (.c (.int .i64 (.ofNat 1))))⟩, ⟨(some p8n28), none, (.mv (.t p8n2))⟩, ⟨(some p8n29), none, (.bin .sub (.t p8n28) (.c (.int .i64 (.ofNat 1))))⟩, ⟨(some p8n10), none, (.mv (.t p8n27))⟩, ⟨(some p8n11), none, (.mv (.t p8n29))⟩]) (.seq (.block 0 (.loop (.seq (.seq (.regd [(.pure, ⟨(some p8n30), none, (.mv (.t p8n10))⟩), (.pure, ⟨(some p8n31), none, (.mv (.t p8n11))⟩), (.pure, ⟨(some p8n32), none, (.bin .leq (.t p8n30) (.t p8n31))⟩), (.pure, ⟨(some p8n33), none, (.mv (.t p8n32))⟩), (.pure, ⟨(some p8n34), (some (p8n33, true)), (.mv (.t p8n0))⟩), (.pure, ⟨(some p8n35), (some (p8n33, true)), (.mv (.t p8n10))⟩), (.pure, ⟨(some p8n36), (some (p8n33, true)), (.iaddr 1 (.t p8n34) (.t p8n35))⟩), (.load, ⟨(some p8n37), (some (p8n33, true)), (.ld1 (.t p8n36))⟩), (.pure, ⟨(some p8n38), (some (p8n33, true)), (.mv (.t p8n0))⟩), (.pure, ⟨(some p8n39), (some (p8n33, true)), (.mv (.t p8n1))⟩), (.pure, ⟨(some p8n40), (some (p8n33, true)), (.iaddr 1 (.t p8n38) (.t p8n39))⟩), (.load, ⟨(some p8n41), (some (p8n33, true)), (.ld1 (.t p8n40))⟩)] [⟨(some p8n42), (some (p8n33, true)), (.call 256 [(.t p8n37), (.t p8n41)])⟩, ⟨(some p8n43), none, (.pick (.t p8n33) (.t p8n42) (.c (.bool false)))⟩]) (.cond (.t p8n43) .skip (.exit 0))) (.block 1 (.reg [⟨(some p8n44), none, (.mv (.t p8n10))⟩, ⟨(some p8n45), none, (.bin .add (.t p8n44) (.c (.int .i64 (.ofNat 1))))⟩, ⟨(some p8n10), none, (.mv (.t p8n45))⟩]))))) (.seq (.block 2 (.loop (.seq (.seq (.regd [(.pure, ⟨(some p8n46), none, (.mv (.t p8n10))⟩), (.pure, ⟨(some p8n47), none, (.mv (.t p8n11))⟩), (.pure, ⟨(some p8n48), none, (.bin .leq (.t p8n46) (.t p8n47))⟩), (.pure, ⟨(some p8n49), none, (.mv (.t p8n48))⟩), (.pure, ⟨(some p8n50), (some (p8n49, true)), (.mv (.t p8n0))⟩), (.pure, ⟨(some p8n51), (some (p8n49, true)), (.mv (.t p8n11))⟩), (.pure, ⟨(some p8n52), (some (p8n49, true)), (.iaddr 1 (.t p8n50) (.t p8n51))⟩), (.load, ⟨(some p8n53), (some (p8n49, true)), (.ld1 (.t p8n52))⟩), (.pure, ⟨(some p8n54), (some (p8n49, true)), (.mv (.t p8n0))⟩), (.pure, ⟨(some p8n55), (some (p8n49, true)), (.mv (.t p8n1))⟩), (.pure, ⟨(some p8n56), (some (p8n49, true)), (.iaddr 1 (.t p8n54) (.t p8n55))⟩), (.load, ⟨(some p8n57), (some (p8n49, true)), (.ld1 (.t p8n56))⟩)] [⟨(some p8n58), (some (p8n49, true)), (.call 256 [(.t p8n53), (.t p8n57)])⟩, ⟨(some p8n59), (some (p8n49, true)), (.un .not (.t p8n58))⟩, ⟨(some p8n60), none, (.pick (.t p8n49) (.t p8n59) (.c (.bool false)))⟩]) (.cond (.t p8n60) .skip (.exit 2))) (.block 3 (.reg [⟨(some p8n61), none, (.mv (.t p8n11))⟩, ⟨(some p8n62), none, (.bin .sub (.t p8n61) (.c (.int .i64 (.ofNat 1))))⟩, ⟨(some p8n11), none, (.mv (.t p8n62))⟩]))))) (.seq (.seq (.reg [⟨(some p8n63), none, (.mv (.t p8n10))⟩, ⟨(some p8n64), none, (.mv (.t p8n11))⟩, ⟨(some p8n65), none, (.bin .gtr (.t p8n63) (.t p8n64))⟩]) (.cond (.t p8n65) (.seq (.regd [(.pure, ⟨(some p8n66), none, (.mv (.t p8n0))⟩), (.pure, ⟨(some p8n67), none, (.mv (.t p8n11))⟩), (.pure, ⟨(some p8n68), none, (.mv (.t p8n0))⟩), (.pure, ⟨(some p8n69), none, (.mv (.t p8n1))⟩), (.pure, ⟨(some p8n70), none, (.mv (.t p8n0))⟩), (.pure, ⟨(some p8n71), none, (.mv (.t p8n1))⟩), (.pure, ⟨(some p8n72), none, (.iaddr 1 (.t p8n70) (.t p8n71))⟩), ((.loadm 7 112), ⟨(some p8n73), none, (.ld1 (.t p8n72))⟩), (.pure, ⟨(some p8n74), none, (.mv (.t p8n0))⟩), (.pure, ⟨(some p8n75), none, (.mv (.t p8n11))⟩), (.pure, ⟨(some p8n76), none, (.iaddr 1 (.t p8n74) (.t p8n75))⟩), ((.loadm 11 1792), ⟨(some p8n77), none, (.ld1 (.t p8n76))⟩), (.pure, ⟨(some p8n78), none, (.iaddr 1 (.t p8n66) (.t p8n67))⟩), ((.sto 13 8179), ⟨none, none, (.st 1 (.t p8n78) (.t p8n73))⟩)] [⟨(some p8n79), none, (.iaddr 1 (.t p8n68) (.t p8n69))⟩, ⟨none, none, (.st 1 (.t p8n79) (.t p8n77))⟩]) (.seq (.reg [⟨(some p8n80), none, (.mv (.t p8n11))⟩, ⟨(some p8n8), none, (.mv (.t p8n80))⟩, ⟨(some p8n9), none, (.mv (.c (.bool true)))⟩]) .ret)) .skip)) (.seq (.regd [(.pure, ⟨(some p8n81), none, (.mv (.t p8n0))⟩), (.pure, ⟨(some p8n82), none, (.mv (.t p8n10))⟩), (.pure, ⟨(some p8n83), none, (.mv (.t p8n0))⟩), (.pure, ⟨(some p8n84), none, (.mv (.t p8n11))⟩), (.pure, ⟨(some p8n85), none, (.mv (.t p8n0))⟩), (.pure, ⟨(some p8n86), none, (.mv (.t p8n11))⟩), (.pure, ⟨(some p8n87), none, (.iaddr 1 (.t p8n85) (.t p8n86))⟩), ((.loadm 7 112), ⟨(some p8n88), none, (.ld1 (.t p8n87))⟩), (.pure, ⟨(some p8n89), none, (.mv (.t p8n0))⟩), (.pure, ⟨(some p8n90), none, (.mv (.t p8n10))⟩), (.pure, ⟨(some p8n91), none, (.iaddr 1 (.t p8n89) (.t p8n90))⟩), ((.loadm 11 1792), ⟨(some p8n92), none, (.ld1 (.t p8n91))⟩), (.pure, ⟨(some p8n93), none, (.iaddr 1 (.t p8n81) (.t p8n82))⟩), ((.sto 13 8179), ⟨none, none, (.st 1 (.t p8n93) (.t p8n88))⟩)] [⟨(some p8n94), none, (.iaddr 1 (.t p8n83) (.t p8n84))⟩, ⟨none, none, (.st 1 (.t p8n94) (.t p8n92))⟩]) (.seq (.reg [⟨(some p8n95), none, (.mv (.t p8n10))⟩, ⟨(some p8n96), none, (.bin .add (.t p8n95) (.c (.int .i64 (.ofNat 1))))⟩, ⟨(some p8n10), none, (.mv (.t p8n96))⟩]) (.seq (.reg [⟨(some p8n97), none, (.mv (.t p8n11))⟩, ⟨(some p8n98), none, (.bin .sub (.t p8n97) (.c (.int .i64 (.ofNat 1))))⟩, ⟨(some p8n11), none, (.mv (.t p8n98))⟩]) (.seq (.block 4 (.loop (.block 5 (.seq (.block 6 (.loop (.seq (.seq (.regd [(.pure, ⟨(some p8n99), none, (.mv (.t p8n10))⟩), (.pure, ⟨(some p8n100), none, (.mv (.t p8n11))⟩), (.pure, ⟨(some p8n101), none, (.bin .leq (.t p8n99) (.t p8n100))⟩), (.pure, ⟨(some p8n102), none, (.mv (.t p8n101))⟩), (.pure, ⟨(some p8n103), (some (p8n102, true)), (.mv (.t p8n0))⟩), (.pure, ⟨(some p8n104), (some (p8n102, true)), (.mv (.t p8n10))⟩), (.pure, ⟨(some p8n105), (some (p8n102, true)), (.iaddr 1 (.t p8n103) (.t p8n104))⟩), (.load, ⟨(some p8n106), (some (p8n102, true)), (.ld1 (.t p8n105))⟩), (.pure, ⟨(some p8n107), (some (p8n102, true)), (.mv (.t p8n0))⟩), (.pure, ⟨(some p8n108), (some (p8n102, true)), (.mv (.t p8n1))⟩), (.pure, ⟨(some p8n109), (some (p8n102, true)), (.iaddr 1 (.t p8n107) (.t p8n108))⟩), (.load, ⟨(some p8n110), (some (p8n102, true)), (.ld1 (.t p8n109))⟩)] [⟨(some p8n111), (some (p8n102, true)), (.call 256 [(.t p8n106), (.t p8n110)])⟩, ⟨(some p8n112), none, (.pick (.t p8n102) (.t p8n111) (.c (.bool false)))⟩]) (.cond (.t p8n112) .skip (.exit 6))) (.block 7 (.reg [⟨(some p8n113), none, (.mv (.t p8n10))⟩, ⟨(some p8n114), none, (.bin .add (.t p8n113) (.c (.int .i64 (.ofNat 1))))⟩, ⟨(some p8n10), none, (.mv (.t p8n114))⟩]))))) (.seq (.block 8 (.loop (.seq (.seq (.regd [(.pure, ⟨(some p8n115), none, (.mv (.t p8n10))⟩), (.pure, ⟨(some p8n116), none, (.mv (.t p8n11))⟩), (.pure, ⟨(some p8n117), none, (.bin .leq (.t p8n115) (.t p8n116))⟩), (.pure, ⟨(some p8n118), none, (.mv (.t p8n117))⟩), (.pure, ⟨(some p8n119), (some (p8n118, true)), (.mv (.t p8n0))⟩), (.pure, ⟨(some p8n120), (some (p8n118, true)), (.mv (.t p8n11))⟩), (.pure, ⟨(some p8n121), (some (p8n118, true)), (.iaddr 1 (.t p8n119) (.t p8n120))⟩), (.load, ⟨(some p8n122), (some (p8n118, true)), (.ld1 (.t p8n121))⟩), (.pure, ⟨(some p8n123), (some (p8n118, true)), (.mv (.t p8n0))⟩), (.pure, ⟨(some p8n124), (some (p8n118, true)), (.mv (.t p8n1))⟩), (.pure, ⟨(some p8n125), (some (p8n118, true)), (.iaddr 1 (.t p8n123) (.t p8n124))⟩), (.load, ⟨(some p8n126), (some (p8n118, true)), (.ld1 (.t p8n125))⟩)] [⟨(some p8n127), (some (p8n118, true)), (.call 256 [(.t p8n122), (.t p8n126)])⟩, ⟨(some p8n128), (some (p8n118, true)), (.un .not (.t p8n127))⟩, ⟨(some p8n129), none, (.pick (.t p8n118) (.t p8n128) (.c (.bool false)))⟩]) (.cond (.t p8n129) .skip (.exit 8))) (.block 9 (.reg [⟨(some p8n130), none, (.mv (.t p8n11))⟩, ⟨(some p8n131), none, (.bin .sub (.t p8n130) (.c (.int .i64 (.ofNat 1))))⟩, ⟨(some p8n11), none, (.mv (.t p8n131))⟩]))))) (.seq (.seq (.reg [⟨(some p8n132), none, (.mv (.t p8n10))⟩, ⟨(some p8n133), none, (.mv (.t p8n11))⟩, ⟨(some p8n134), none, (.bin .gtr (.t p8n132) (.t p8n133))⟩]) (.cond (.t p8n134) (.exit 4) .skip)) (.seq (.regd [(.pure, ⟨(some p8n135), none, (.mv (.t p8n0))⟩), (.pure, ⟨(some p8n136), none, (.mv (.t p8n10))⟩), (.pure, ⟨(some p8n137), none, (.mv (.t p8n0))⟩), (.pure, ⟨(some p8n138), none, (.mv (.t p8n11))⟩), (.pure, ⟨(some p8n139), none, (.mv (.t p8n0))⟩), (.pure, ⟨(some p8n140), none, (.mv (.t p8n11))⟩), (.pure, ⟨(some p8n141), none, (.iaddr 1 (.t p8n139) (.t p8n140))⟩), ((.loadm 7 112), ⟨(some p8n142), none, (.ld1 (.t p8n141))⟩), (.pure, ⟨(some p8n143), none, (.mv (.t p8n0))⟩), (.pure, ⟨(some p8n144), none, (.mv (.t p8n10))⟩), (.pure, ⟨(some p8n145), none, (.iaddr 1 (.t p8n143) (.t p8n144))⟩), ((.loadm 11 1792), ⟨(some p8n146), none, (.ld1 (.t p8n145))⟩), (.pure, ⟨(some p8n147), none, (.iaddr 1 (.t p8n135) (.t p8n136))⟩), ((.sto 13 8179), ⟨none, none, (.st 1 (.t p8n147) (.t p8n142))⟩)] [⟨(some p8n148), none, (.iaddr 1 (.t p8n137) (.t p8n138))⟩, ⟨none, none, (.st 1 (.t p8n148) (.t p8n146))⟩]) (.seq (.reg [⟨(some p8n149), none, (.mv (.t p8n10))⟩, ⟨(some p8n150), none, (.bin .add (.t p8n149) (.c (.int .i64 (.ofNat 1))))⟩, ⟨(some p8n10), none, (.mv (.t p8n150))⟩]) (.reg [⟨(some p8n151), none, (.mv (.t p8n11))⟩, ⟨(some p8n152), none, (.bin .sub (.t p8n151) (.c (.int .i64 (.ofNat 1))))⟩, ⟨(some p8n11), none, (.mv (.t p8n152))⟩]))))))))) (.seq (.regd [(.pure, ⟨(some p8n153), none, (.mv (.t p8n0))⟩), (.pure, ⟨(some p8n154), none, (.mv (.t p8n11))⟩), (.pure, ⟨(some p8n155), none, (.mv (.t p8n0))⟩), (.pure, ⟨(some p8n156), none, (.mv (.t p8n1))⟩), (.pure, ⟨(some p8n157), none, (.mv (.t p8n0))⟩), (.pure, ⟨(some p8n158), none, (.mv (.t p8n1))⟩), (.pure, ⟨(some p8n159), none, (.iaddr 1 (.t p8n157) (.t p8n158))⟩), ((.loadm 7 112), ⟨(some p8n160), none, (.ld1 (.t p8n159))⟩), (.pure, ⟨(some p8n161), none, (.mv (.t p8n0))⟩), (.pure, ⟨(some p8n162), none, (.mv (.t p8n11))⟩), (.pure, ⟨(some p8n163), none, (.iaddr 1 (.t p8n161) (.t p8n162))⟩), ((.loadm 11 1792), ⟨(some p8n164), none, (.ld1 (.t p8n163))⟩), (.pure, ⟨(some p8n165), none, (.iaddr 1 (.t p8n153) (.t p8n154))⟩), ((.sto 13 8179), ⟨none, none, (.st 1 (.t p8n165) (.t p8n160))⟩)] [⟨(some p8n166), none, (.iaddr 1 (.t p8n155) (.t p8n156))⟩, ⟨none, none, (.st 1 (.t p8n166) (.t p8n164))⟩]) (.seq (.reg [⟨(some p8n167), none, (.mv (.t p8n11))⟩, ⟨(some p8n8), none, (.mv (.t p8n167))⟩, ⟨(some p8n9), none, (.mv (.c (.bool false)))⟩]) .ret))))))))))))⟩
noncomputable def a259 : AFunc :=
  ⟨5, [p5n0], [(p5n2, none)], false, (.seq (.reg [⟨(some p5n2), none, (.mv (.c (.int .i64 (.ofNat 0))))⟩]) (.seq (.seq (.reg [⟨(some p5n3), none, (.mv (.t p5n0))⟩, ⟨(some p5n4), none, (.bin .geq (.t p5n3) (.c (.int .u32 (.ofNat 65536))))⟩]) (.cond (.t p5n4) (.seq (.reg [⟨(some p5n5), none, (.mv (.t p5n0))⟩, ⟨(some p5n6), none, (.bin .shr (.t p5n5) (.c (.int .u64 (.ofNat 16))))⟩, ⟨(some p5n0), none, (.mv (.t p5n6))⟩]) (.reg [⟨(some p5n2), none, (.mv (.c (.int .i64 (.ofNat 16))))⟩])) .skip)) (.seq (.seq (.reg [⟨(some p5n7), none, (.mv (.t p5n0))⟩, ⟨(some p5n8), none, (.bin .geq (.t p5n7) (.c (.int .u32 (.ofNat 256))))⟩]) (.cond (.t p5n8) (.seq (.reg [⟨(some p5n9), none, (.mv (.t p5n0))⟩, ⟨(some p5n10), none, (.bin .shr (.t p5n9) (.c (.int .u64 (.ofNat 8))))⟩, ⟨(some p5n0), none, (.mv (.t p5n10))⟩]) (.reg [⟨(some p5n11), none, (.mv (.t p5n2))⟩, ⟨(some p5n12), none, (.bin .add (.t p5n11) (.c (.int .i64 (.ofNat 8))))⟩, ⟨(some p5n2), none, (.mv (.t p5n12))⟩])) .skip)) (.seq (.reg [⟨(some p5n13), none, (.mv (.t p5n2))⟩, ⟨(some p5n14), none, (.mv (.t p5n0))⟩, ⟨(some p5n15), none, (.cv (.int .u8) (.t p5n14))⟩, ⟨(some p5n16), none, (.idxS (.c (.str [0, 1, 2, 2, 3, 3, 3, 3, 4, 4, 4, 4, 4, 4, 4, 4, 5, 5, 5, 5, 5, 5, 5, 5, 5, 5, 5, 5, 5, 5, 5, 5, 6, 6, 6, 6, 6, 6, 6, 6, 6, 6, 6, 6, 6, 6, 6, 6, 6, 6, 6, 6, 6, 6, 6, 6, 6, 6, 6, 6, 6, 6, 6, 6, 7, 7, 7, 7, 7, 7, 7, 7, 7, 7, 7, 7, 7, 7, 7, 7, 7, 7, 7, 7, 7, 7, 7, 7, 7, 7, 7, 7, 7, 7, 7, 7, 7, 7, 7, 7, 7, 7, 7, 7, 7, 7, 7, 7, 7, 7, 7, 7, 7, 7, 7, 7, 7, 7, 7, 7, 7, 7, 7, 7, 7, 7, 7, 7, 8, 8, 8, 8, 8, 8, 8, 8, 8, 8, 8, 8, 8, 8, 8, 8, 8, 8, 8, 8, 8, 8, 8, 8, 8, 8, 8, 8, 8, 8, 8, 8, 8, 8, 8, 8, 8, 8, 8, 8, 8, 8, 8, 8, 8, 8, 8, 8, 8, 8, 8, 8, 8, 8, 8, 8, 8, 8, 8, 8, 8, 8, 8, 8, 8, 8, 8, 8, 8, 8, 8, 8, 8, 8, 8, 8, 8, 8, 8, 8, 8, 8, 8, 8, 8, 8, 8, 8, 8, 8, 8, 8, 8, 8, 8, 8, 8, 8, 8, 8, 8, 8, 8, 8, 8, 8, 8, 8, 8, 8, 8, 8, 8, 8, 8, 8, 8, 8, 8, 8, 8, 8, 8, 8, 8, 8, 8, 8])) (.t p5n15))⟩, ⟨(some p5n17), none, (.cv (.int .i64) (.t p5n16))⟩, ⟨(some p5n18), none, (.bin .add (.t p5n13) (.t p5n17))⟩, ⟨(some p5n2), none, (.mv (.t p5n18))⟩]) .ret))))⟩
noncomputable def a260 : AFunc :=
  ⟨5, [p5n0], [(p5n2, none)], false, (.seq (.reg [⟨(some p5n2), none, (.mv (.c (.int .i64 (.ofNat 0))))⟩]) (.seq (.seq (.reg [⟨(some p5n3), none, (.mv (.t p5n0))⟩, ⟨(some p5n4), none, (.bin .geq (.t p5n3) (.c (.int .u64 (.ofNat 4294967296))))⟩]) (.cond (.t p5n4) (.seq (.reg [⟨(some p5n5), none, (.mv (.t p5n0))⟩, ⟨(some p5n6), none, (.bin .shr (.t p5n5) (.c (.int .u64 (.ofNat 32))))⟩, ⟨(some p5n0), none, (.mv (.t p5n6))⟩]) (.reg [⟨(some p5n2), none, (.mv (.c (.int .i64 (.ofNat 32))))⟩])) .skip)) (.seq (.seq (.reg [⟨(some p5n7), none, (.mv (.t p5n0))⟩, ⟨(some p5n8), none, (.bin .geq (.t p5n7) (.c (.int .u64 (.ofNat 65536))))⟩]) (.cond (.t p5n8) (.seq (.reg [⟨(some p5n9), none, (.mv (.t p5n0))⟩, ⟨(some p5n10), none, (.bin .shr (.t p5n9) (.c (.int .u64 (.ofNat 16))))⟩, ⟨(some p5n0), none, (.mv (.t p5n10))⟩]) (.reg [⟨(some p5n11), none, (.mv (.t p5n2))⟩, ⟨(some p5n12), none, (.bin .add (.t p5n11) (.c (.int .i64 (.ofNat 16))))⟩, ⟨(some p5n2), none, (.mv (.t p5n12))⟩])) .skip)) (.seq (.seq (.reg [⟨(some p5n13), none, (.mv (.t p5n0))⟩, ⟨(some p5n14), none, (.bin .geq (.t p5n13) (.c (.int .u64 (.ofNat 256))))⟩]) (.cond (.t p5n14) (.seq (.reg [⟨(some p5n15), none, (.mv (.t p5n0))⟩, ⟨(some p5n16), none, (.bin .shr (.t p5n15) (.c (.int .u64 (.ofNat 8))))⟩, ⟨(some p5n0), none, (.mv (.t p5n16))⟩]) (.reg [⟨(some p5n17), none, (.mv (.t p5n2))⟩, ⟨(some p5n18), none, (.bin .add (.t p5n17) (.c (.int .i64 (.ofNat 8))))⟩, ⟨(some p5n2), none, (.mv (.t p5n18))⟩])) .skip)) (.seq (.reg [⟨(some p5n19), none, (.mv (.t p5n2))⟩, ⟨(some p5n20), none, (.mv (.t p5n0))⟩, ⟨(some p5n21), none, (.cv (.int .u8) (.t p5n20))⟩, ⟨(some p5n22), none, (.idxS (.c (.str [0, 1, 2, 2, 3, 3, 3, 3, 4, 4, 4, 4, 4, 4, 4, 4, 5, 5, 5, 5, 5, 5, 5, 5, 5, 5, 5, 5, 5, 5, 5, 5, 6, 6, 6, 6, 6, 6, 6, 6, 6, 6, 6, 6, 6, 6, 6, 6, 6, 6, 6, 6, 6, 6, 6, 6, 6, 6, 6, 6, 6, 6, 6, 6, 7, 7, 7, 7, 7, 7, 7, 7, 7, 7, 7, 7, 7, 7, 7, 7, 7, 7, 7, 7, 7, 7, 7, 7, 7, 7, 7, 7, 7, 7, 7, 7, 7, 7, 7, 7, 7, 7, 7, 7, 7, 7, 7, 7, 7, 7, 7, 7, 7, 7, 7, 7, 7, 7, 7, 7, 7, 7, 7, 7, 7, 7, 7, 7, 8, 8, 8, 8, 8, 8, 8, 8, 8, 8, 8, 8, 8, 8, 8, 8, 8, 8, 8, 8, 8, 8, 8, 8, 8, 8, 8, 8, 8, 8, 8, 8, 8, 8, 8, 8, 8, 8, 8, 8, 8, 8, 8, 8, 8, 8, 8, 8, 8, 8, 8, 8, 8, 8, 8, 8, 8, 8, 8, 8, 8, 8, 8, 8, 8, 8, 8, 8, 8, 8, 8, 8, 8, 8, 8, 8, 8, 8, 8, 8, 8, 8, 8, 8, 8, 8, 8, 8, 8, 8, 8, 8, 8, 8, 8, 8, 8, 8, 8, 8, 8, 8, 8, 8, 8, 8, 8, 8, 8, 8, 8, 8, 8, 8, 8, 8, 8, 8, 8, 8, 8, 8, 8, 8, 8, 8, 8, 8])) (.t p5n21))⟩, ⟨(some p5n23), none, (.cv (.int .i64) (.t p5n22))⟩, ⟨(some p5n24), none, (.bin .add (.t p5n19) (.t p5n23))⟩, ⟨(some p5n2), none, (.mv (.t p5n24))⟩]) .ret)))))⟩
noncomputable def a261 : AFunc :=
  ⟨4, [p4n0], [(p4n2, none)], false, (.seq (.reg [⟨(some p4n2), none, (.mv (.c (.bool false)))⟩]) (.seq (.reg [⟨(some p4n3), none, (.mv (.t p4n0))⟩, ⟨(some p4n4), none, (.bin .geq (.t p4n3) (.c (.int .i64 (.ofNat 0))))⟩, ⟨(some p4n5), none, (.mv (.t p4n4))⟩, ⟨(some p4n6), (some (p4n5, true)), (.mv (.t p4n0))⟩, ⟨(some p4n7), (some (p4n5, true)), (.bin .leq (.t p4n6) (.c (.int .i64 (.ofNat 33))))⟩, ⟨(some p4n8), none, (.pick (.t p4n5) (.t p4n7) (.c (.bool false)))⟩, ⟨(some p4n2), none, (.mv (.t p4n8))⟩]) .ret))⟩
noncomputable def a262 : AFunc :=
  ⟨5, [p5n0, p5n1], [(p5n4, none)], false, (.seq (.reg [⟨(some p5n4), none, (.mv (.c (.bool false)))⟩]) (.seq (.reg [⟨(some p5n5), none, (.mv (.t p5n1))⟩, ⟨(some p5n6), none, (.bin .eql (.t p5n5) (.c (.int .i64 (.ofNat 0))))⟩, ⟨(some p5n7), none, (.mv (.t p5n6))⟩, ⟨(some p5n8), (some (p5n7, false)), (.mv (.t p5n0))⟩, ⟨(some p5n9), (some (p5n7, false)), (.mv (.t p5n8))⟩, ⟨(some p5n10), (some (p5n9, true)), (.mv (.t p5n1))⟩, ⟨(some p5n11), (some (p5n9, true)), (.bin .gtr (.t p5n10) (.c (.int .i64 (.ofNat 0))))⟩, ⟨(some p5n12), (some (p5n7, false)), (.pick (.t p5n9) (.t p5n11) (.c (.bool false)))⟩, ⟨(some p5n13), (some (p5n7, false)), (.mv (.t p5n12))⟩, ⟨(some p5n14), (some (p5n13, true)), (.mv (.t p5n1))⟩, ⟨(some p5n15), (some (p5n13, true)), (.bin .lss (.t p5n14) (.c (.int .i64 (.ofNat 16))))⟩, ⟨(some p5n16), (some (p5n7, false)), (.pick (.t p5n13) (.t p5n15) (.c (.bool false)))⟩, ⟨(some p5n17), none, (.pick (.t p5n7) (.c (.bool true)) (.t p5n16))⟩, ⟨(some p5n4), none, (.mv (.t p5n17))⟩]) .ret))⟩
noncomputable def a263 : AFunc :=
  ⟨4, [p4n0], [(p4n2, none)], false, (.seq (.reg [⟨(some p4n2), none, (.mv (.c (.bool false)))⟩]) (.seq (.reg [⟨(some p4n3), none, (.mv (.t p4n0))⟩, ⟨(some p4n4), none, (.bin .geq (.t p4n3) (.c (.int .i64 (.ofNat 1))))⟩, ⟨(some p4n5), none, (.mv (.t p4n4))⟩, ⟨(some p4n6), (some (p4n5, true)), (.mv (.t p4n0))⟩, ⟨(some p4n7), (some (p4n5, true)), (.bin .leq (.t p4n6) (.c (.int .i64 (.ofNat 4))))⟩, ⟨(some p4n8), none, (.pick (.t p4n5) (.t p4n7) (.c (.bool false)))⟩, ⟨(some p4n9), none, (.mv (.t p4n8))⟩, ⟨(some p4n10), (some (p4n9, false)), (.mv (.t p4n0))⟩, ⟨(some p4n11), (some (p4n9, false)), (.bin .eql (.t p4n10) (.c (.int .i64 (.ofNat 6))))⟩, ⟨(some p4n12), none, (.pick (.t p4n9) (.c (.bool true)) (.t p4n11))⟩, ⟨(some p4n2), none, (.mv (.t p4n12))⟩]) .ret))⟩
noncomputable def a264 : AFunc :=
  ⟨4, [p4n0], [(p4n2, none)], false, (.seq (.reg [⟨(some p4n2), none, (.mv (.c (.bool false)))⟩]) (.seq (.seq (.reg [⟨(some p4n3), none, (.mv (.t p4n0))⟩]) (.block 0 (.seq (.seq (.reg [⟨(some p4n5), none, (.bin .eql (.t p4n3) (.c (.int .i64 (.ofNat 1))))⟩, ⟨(some p4n4), none, (.mv (.t p4n5))⟩]) (.cond (.t p4n4) .skip (.seq (.reg [⟨(some p4n6), none, (.bin .eql (.t p4n3) (.c (.int .i64 (.ofNat 2))))⟩, ⟨(some p4n4), none, (.mv (.t p4n6))⟩]) (.cond (.t p4n4) .skip (.seq (.reg [⟨(some p4n7), none, (.bin .eql (.t p4n3) (.c (.int .i64 (.ofNat 3))))⟩, ⟨(some p4n4), none, (.mv (.t p4n7))⟩]) (.cond (.t p4n4) .skip (.seq (.reg [⟨(some p4n8), none, (.bin .eql (.t p4n3) (.c (.int .i64 (.ofNat 5))))⟩, ⟨(some p4n4), none, (.mv (.t p4n8))⟩]) (.cond (.t p4n4) .skip (.seq (.reg [⟨(some p4n9), none, (.bin .eql (.t p4n3) (.c (.int .i64 (.ofNat 7))))⟩, ⟨(some p4n4), none, (.mv (.t p4n9))⟩]) (.cond (.t p4n4) .skip (.reg [⟨(some p4n10), none, (.bin .eql (.t p4n3) (.c (.int .i64 (.ofNat 9))))⟩, ⟨(some p4n4), none, (.mv (.t p4n10))⟩]))))))))))) (.cond (.t p4n4) (.seq (.reg [⟨(some p4n2), none, (.mv (.c (.bool true)))⟩]) .ret) .skip)))) (.seq (.reg [⟨(some p4n2), none, (.mv (.c (.bool false)))⟩]) .ret)))⟩
noncomputable def a265 : AFunc :=
  ⟨4, [p4n0], [(p4n2, none)], false, (.seq (.reg [⟨(some p4n2), none, (.mv (.c (.bool false)))⟩]) (.seq (.reg [⟨(some p4n3), none, (.mv (.t p4n0))⟩, ⟨(some p4n4), none, (.bin .eql (.t p4n3) (.c (.int .i64 (.ofNat 1))))⟩, ⟨(some p4n5), none, (.mv (.t p4n4))⟩, ⟨(some p4n6), (some (p4n5, false)), (.mv (.t p4n0))⟩, ⟨(some p4n7), (some (p4n5, false)), (.bin .eql (.t p4n6) (.c (.int .i64 (.ofNat 5))))⟩, ⟨(some p4n8), none, (.pick (.t p4n5) (.c (.bool true)) (.t p4n7))⟩, ⟨(some p4n2), none, (.mv (.t p4n8))⟩]) .ret))⟩
noncomputable def a266 : AFunc :=
  ⟨7, [p7n0, p7n1], [(p7n4, none)], false, (.seq (.reg [⟨(some p7n2), none, (.box (.t p7n0))⟩, ⟨(some p7n4), none, (.mv (.c (.bool false)))⟩]) (.seq (.block 0 (.seq (.reg [⟨(some p7n6), none, (.mv (.t p7n1))⟩, ⟨(some p7n7), none, (.call 230 [(.t p7n6)])⟩, ⟨(some p7n8), none, (.mv (.t p7n7))⟩, ⟨(some p7n9), (some (p7n8, true)), (.faddr 5 (.t p7n2))⟩, ⟨(some p7n10), (some (p7n8, true)), (.ld1 (.t p7n9))⟩, ⟨(some p7n11), (some (p7n8, true)), (.bin .neq (.t p7n10) (.c (.str [])))⟩, ⟨(some p7n12), none, (.pick (.t p7n8) (.t p7n11) (.c (.bool false)))⟩, ⟨(some p7n5), none, (.mv (.t p7n12))⟩]) (.cond (.t p7n5) (.seq (.reg [⟨(some p7n13), none, (.faddr 4 (.t p7n2))⟩, ⟨(some p7n14), none, (.ld1 (.t p7n13))⟩, ⟨(some p7n15), none, (.bin .eql (.t p7n14) (.c (.int .i64 (.ofNat 0))))⟩, ⟨(some p7n16), none, (.mv (.t p7n15))⟩, ⟨(some p7n17), (some (p7n16, true)), (.faddr 5 (.t p7n2))⟩, ⟨(some p7n18), (some (p7n16, true)), (.ld1 (.t p7n17))⟩, ⟨(some p7n19), (some (p7n16, true)), (.call 82 [(.t p7n18)])⟩, ⟨(some p7n20), none, (.pick (.t p7n16) (.t p7n19) (.c (.bool false)))⟩, ⟨(some p7n4), none, (.mv (.t p7n20))⟩]) .ret) (.seq (.reg [⟨(some p7n22), none, (.mv (.t p7n1))⟩, ⟨(some p7n23), none, (.call 230 [(.t p7n22)])⟩, ⟨(some p7n21), none, (.mv (.t p7n23))⟩]) (.cond (.t p7n21) (.seq (.reg [⟨(some p7n24), none, (.faddr 4 (.t p7n2))⟩, ⟨(some p7n25), none, (.ld1 (.t p7n24))⟩, ⟨(some p7n26), none, (.bin .geq (.t p7n25) (.c (.int .i64 (.ofNat 0))))⟩, ⟨(some p7n27), none, (.mv (.t p7n26))⟩, ⟨(some p7n28), (some (p7n27, true)), (.faddr 4 (.t p7n2))⟩, ⟨(some p7n29), (some (p7n27, true)), (.ld1 (.t p7n28))⟩, ⟨(some p7n30), (some (p7n27, true)), (.bin .lss (.t p7n29) (.c (.int .i64 (.ofNat 1024))))⟩, ⟨(some p7n31), none, (.pick (.t p7n27) (.t p7n30) (.c (.bool false)))⟩, ⟨(some p7n4), none, (.mv (.t p7n31))⟩]) .ret) (.seq (.seq (.reg [⟨(some p7n33), none, (.mv (.t p7n1))⟩, ⟨(some p7n34), none, (.bin .eql (.t p7n33) (.c (.int .i64 (.ofNat 4))))⟩, ⟨(some p7n35), none, (.mv (.t p7n34))⟩, ⟨(some p7n36), (some (p7n35, true)), (.faddr 5 (.t p7n2))⟩, ⟨(some p7n37), (some (p7n35, true)), (.ld1 (.t p7n36))⟩, ⟨(some p7n38), (some (p7n35, true)), (.bin .neq (.t p7n37) (.c (.str [])))⟩, ⟨(some p7n39), none, (.pick (.t p7n35) (.t p7n38) (.c (.bool false)))⟩, ⟨(some p7n40), none, (.mv (.t p7n39))⟩, ⟨(some p7n41), (some (p7n40, true)), (.faddr 5 (.t p7n2))⟩, ⟨(some p7n42), (some (p7n40, true)), (.ld1 (.t p7n41))⟩, ⟨(some p7n43), (some (p7n40, true)), (.call 82 [(.t p7n42)])⟩, ⟨(some p7n44), (some (p7n40, true)), (.un .not (.t p7n43))⟩, ⟨(some p7n45), none, (.pick (.t p7n40) (.t p7n44) (.c (.bool false)))⟩, ⟨(some p7n32), none, (.mv (.t p7n45))⟩]) (.cond (.t p7n32) .skip (.reg [⟨(some p7n46), none, (.mv (.t p7n1))⟩, ⟨(some p7n47), none, (.bin .neq (.t p7n46) (.c (.int .i64 (.ofNat 4))))⟩, ⟨(some p7n48), none, (.mv (.t p7n47))⟩, ⟨(some p7n49), (some (p7n48, true)), (.faddr 5 (.t p7n2))⟩, ⟨(some p7n50), (some (p7n48, true)), (.ld1 (.t p7n49))⟩, ⟨(some p7n51), (some (p7n48, true)), (.bin .neq (.t p7n50) (.c (.str [])))⟩, ⟨(some p7n52), none, (.pick (.t p7n48) (.t p7n51) (.c (.bool false)))⟩, ⟨(some p7n32), none, (.mv (.t p7n52))⟩]))) (.cond (.t p7n32) (.seq (.reg [⟨(some p7n4), none, (.mv (.c (.bool false)))⟩]) .ret) (.seq (.reg [⟨(some p7n54), none, (.mv (.t p7n1))⟩, ⟨(some p7n55), none, (.call 274 [(.t p7n54)])⟩, ⟨(some p7n56), none, (.bin .eql (.t p7n55) (.c (.int .i64 (.ofNat 0))))⟩, ⟨(some p7n53), none, (.mv (.t p7n56))⟩]) (.cond (.t p7n53) (.seq (.reg [⟨(some p7n57), none, (.faddr 4 (.t p7n2))⟩, ⟨(some p7n58), none, (.ld1 (.t p7n57))⟩, ⟨(some p7n59), none, (.bin .eql (.t p7n58) (.c (.int .i64 (.ofNat 0))))⟩, ⟨(some p7n4), none, (.mv (.t p7n59))⟩]) .ret) .skip))))))))) (.seq (.regd [(.pure, ⟨(some p7n60), none, (.faddr 4 (.t p7n2))⟩), (.load, ⟨(some p7n61), none, (.ld1 (.t p7n60))⟩), (.pure, ⟨(some p7n62), none, (.mv (.t p7n1))⟩), (.iso, ⟨(some p7n63), none, (.call 274 [(.t p7n62)])⟩)] [⟨(some p7n64), none, (.call 275 [(.t p7n61), (.t p7n63)])⟩, ⟨(some p7n4), none, (.mv (.t p7n64))⟩]) .ret)))⟩
noncomputable def a267 : AFunc :=
  ⟨4, [p4n0], [(p4n2, none)], false, (.seq (.reg [⟨(some p4n2), none, (.mv (.c (.bool false)))⟩]) (.seq (.reg [⟨(some p4n3), none, (.mv (.t p4n0))⟩, ⟨(some p4n4), none, (.bin .geq (.t p4n3) (.c (.int .i64 (.ofNat 28))))⟩, ⟨(some p4n5), none, (.mv (.t p4n4))⟩, ⟨(some p4n6), (some (p4n5, true)), (.mv (.t p4n0))⟩, ⟨(some p4n7), (some (p4n5, true)), (.bin .leq (.t p4n6) (.c (.int .i64 (.ofNat 33))))⟩, ⟨(some p4n8), none, (.pick (.t p4n5) (.t p4n7) (.c (.bool false)))⟩, ⟨(some p4n2), none, (.mv (.t p4n8))⟩]) .ret))⟩
noncomputable def a268 : AFunc :=
  ⟨3, [p3n0], [(p3n2, none)], false, (.seq (.reg [⟨(some p3n2), none, (.mv (.c (.bool false)))⟩]) (.seq (.reg [⟨(some p3n3), none, (.mv (.t p3n0))⟩, ⟨(some p3n4), none, (.mv (.t p3n0))⟩, ⟨(some p3n5), none, (.bin .neq (.t p3n3) (.t p3n4))⟩, ⟨(some p3n2), none, (.mv (.t p3n5))⟩]) .ret))⟩
noncomputable def a269 : AFunc :=
  ⟨7, [p7n0, p7n1, p7n2, p7n3], [], false, (.seq (.reg [⟨(some p7n10), none, (.mv (.t p7n1))⟩, ⟨(some p7n8), none, (.mv (.t p7n10))⟩]) (.block 0 (.loop (.block 1 (.seq (.reg [⟨(some p7n11), none, (.mv (.t p7n8))⟩, ⟨(some p7n12), none, (.bin .mul (.c (.int .i64 (.ofNat 2))) (.t p7n11))⟩, ⟨(some p7n13), none, (.bin .add (.t p7n12) (.c (.int .i64 (.ofNat 1))))⟩, ⟨(some p7n9), none, (.mv (.t p7n13))⟩]) (.seq (.seq (.reg [⟨(some p7n14), none, (.mv (.t p7n9))⟩, ⟨(some p7n15), none, (.mv (.t p7n2))⟩, ⟨(some p7n16), none, (.bin .geq (.t p7n14) (.t p7n15))⟩]) (.cond (.t p7n16) (.exit 0) .skip)) (.seq (.seq (.regd [(.pure, ⟨(some p7n17), none, (.mv (.t p7n9))⟩), (.pure, ⟨(some p7n18), none, (.bin .add (.t p7n17) (.c (.int .i64 (.ofNat 1))))⟩), (.pure, ⟨(some p7n19), none, (.mv (.t p7n2))⟩), (.pure, ⟨(some p7n20), none, (.bin .lss (.t p7n18) (.t p7n19))⟩), (.pure, ⟨(some p7n21), none, (.mv (.t p7n20))⟩), (.pure, ⟨(some p7n22), (some (p7n21, true)), (.mv (.t p7n0))⟩), (.pure, ⟨(some p7n23), (some (p7n21, true)), (.mv (.t p7n3))⟩), (.pure, ⟨(some p7n24), (some (p7n21, true)), (.mv (.t p7n9))⟩), (.pure, ⟨(some p7n25), (some (p7n21, true)), (.bin .add (.t p7n23) (.t p7n24))⟩), (.pure, ⟨(some p7n26), (some (p7n21, true)), (.iaddr 1 (.t p7n22) (.t p7n25))⟩), (.load, ⟨(some p7n27), (some (p7n21, true)), (.ld1 (.t p7n26))⟩), (.pure, ⟨(some p7n28), (some (p7n21, true)), (.mv (.t p7n0))⟩), (.pure, ⟨(some p7n29), (some (p7n21, true)), (.mv (.t p7n3))⟩), (.pure, ⟨(some p7n30), (some (p7n21, true)), (.mv (.t p7n9))⟩), (.pure, ⟨(some p7n31), (some (p7n21, true)), (.bin .add (.t p7n29) (.t p7n30))⟩), (.pure, ⟨(some p7n32), (some (p7n21, true)), (.bin .add (.t p7n31) (.c (.int .i64 (.ofNat 1))))⟩), (.pure, ⟨(some p7n33), (some (p7n21, true)), (.iaddr 1 (.t p7n28) (.t p7n32))⟩), (.load, ⟨(some p7n34), (some (p7n21, true)), (.ld1 (.t p7n33))⟩)] [⟨(some p7n35), (some (p7n21, true)), (.call 256 [(.t p7n27), (.t p7n34)])⟩, ⟨(some p7n36), none, (.pick (.t p7n21) (.t p7n35) (.c (.bool false)))⟩]) (.cond (.t p7n36) (.reg [⟨(some p7n37), none, (.mv (.t p7n9))⟩, ⟨(some p7n38), none, (.bin .add (.t p7n37) (.c (.int .i64 (.ofNat 1))))⟩, ⟨(some p7n9), none, (.mv (.t p7n38))⟩]) .skip)) (.seq (.seq (.regd [(.pure, ⟨(some p7n39), none, (.mv (.t p7n0))⟩), (.pure, ⟨(some p7n40), none, (.mv (.t p7n3))⟩), (.pure, ⟨(some p7n41), none, (.mv (.t p7n8))⟩), (.pure, ⟨(some p7n42), none, (.bin .add (.t p7n40) (.t p7n41))⟩), (.pure, ⟨(some p7n43), none, (.iaddr 1 (.t p7n39) (.t p7n42))⟩), (.load, ⟨(some p7n44), none, (.ld1 (.t p7n43))⟩), (.pure, ⟨(some p7n45), none, (.mv (.t p7n0))⟩), (.pure, ⟨(some p7n46), none, (.mv (.t p7n3))⟩), (.pure, ⟨(some p7n47), none, (.mv (.t p7n9))⟩), (.pure, ⟨(some p7n48), none, (.bin .add (.t p7n46) (.t p7n47))⟩), (.pure, ⟨(some p7n49), none, (.iaddr 1 (.t p7n45) (.t p7n48))⟩), (.load, ⟨(some p7n50), none, (.ld1 (.t p7n49))⟩)] [⟨(some p7n51), none, (.call 256 [(.t p7n44), (.t p7n50)])⟩, ⟨(some p7n52), none, (.un .not (.t p7n51))⟩]) (.cond (.t p7n52) .ret .skip)) (.seq (.regd [(.pure, ⟨(some p7n53), none, (.mv (.t p7n0))⟩), (.pure, ⟨(some p7n54), none, (.mv (.t p7n3))⟩), (.pure, ⟨(some p7n55), none, (.mv (.t p7n8))⟩), (.pure, ⟨(some p7n56), none, (.bin .add (.t p7n54) (.t p7n55))⟩), (.pure, ⟨(some p7n57), none, (.mv (.t p7n0))⟩), (.pure, ⟨(some p7n58), none, (.mv (.t p7n3))⟩), (.pure, ⟨(some p7n59), none, (.mv (.t p7n9))⟩), (.pure, ⟨(some p7n60), none, (.bin .add (.t p7n58) (.t p7n59))⟩), (.pure, ⟨(some p7n61), none, (.mv (.t p7n0))⟩), (.pure, ⟨(some p7n62), none, (.mv (.t p7n3))⟩), (.pure, ⟨(some p7n63), none, (.mv (.t p7n9))⟩), (.pure, ⟨(some p7n64), none, (.bin .add (.t p7n62) (.t p7n63))⟩), (.pure, ⟨(some p7n65), none, (.iaddr 1 (.t p7n61) (.t p7n64))⟩), ((.loadm 13 7936), ⟨(some p7n66), none, (.ld1 (.t p7n65))⟩), (.pure, ⟨(some p7n67), none, (.mv (.t p7n0))⟩), (.pure, ⟨(some p7n68), none, (.mv (.t p7n3))⟩), (.pure, ⟨(some p7n69), none, (.mv (.t p7n8))⟩), (.pure, ⟨(some p7n70), none, (.bin .add (.t p7n68) (.t p7n69))⟩), (.pure, ⟨(some p7n71), none, (.iaddr 1 (.t p7n67) (.t p7n70))⟩), ((.loadm 19 507904), ⟨(some p7n72), none, (.ld1 (.t p7n71))⟩), (.pure, ⟨(some p7n73), none, (.iaddr 1 (.t p7n53) (.t p7n56))⟩), ((.sto 21 2096911), ⟨none, none, (.st 1 (.t p7n73) (.t p7n66))⟩)] [⟨(some p7n74), none, (.iaddr 1 (.t p7n57) (.t p7n60))⟩, ⟨none, none, (.st 1 (.t p7n74) (.t p7n72))⟩]) (.reg [⟨(some p7n75), none, (.mv (.t p7n9))⟩, ⟨(some p7n8), none, (.mv (.t p7n75))⟩]))))))))))⟩
noncomputable def a270 : AFunc :=
  ⟨3, [p3n0], [(p3n2, none)], false, (.seq (.reg [⟨(some p3n2), none, (.mv (.c (.int .u64 (.ofNat 0))))⟩]) (.seq (.reg [⟨(some p3n3), none, (.mv (.t p3n0))⟩, ⟨(some p3n4), none, (.cv (.int .u64) (.t p3n3))⟩, ⟨(some p3n5), none, (.call 237 [(.t p3n4)])⟩, ⟨(some p3n6), none, (.bin .shl (.c (.int .u64 (.ofNat 1))) (.t p3n5))⟩, ⟨(some p3n2), none, (.mv (.t p3n6))⟩]) .ret))⟩
noncomputable def a271 : AFunc :=
  ⟨6, [p6n0], [(p6n2, none)], false, (.seq (.reg [⟨(some p6n2), none, (.mv (.c (.int .u64 (.ofNat 0))))⟩]) (.seq (.regd [(.pure, ⟨(some p6n3), none, (.mv (.t p6n0))⟩), (.pure, ⟨(some p6n4), none, (.nilck (.t p6n3))⟩), (.load, ⟨(some p6n5), none, (.ld1 (.t p6n4))⟩), (.pure, ⟨(some p6n6), none, (.mv (.t p6n0))⟩), (.pure, ⟨(some p6n7), none, (.nilck (.t p6n6))⟩), (.load, ⟨(some p6n8), none, (.ld1 (.t p6n7))⟩), (.pure, ⟨(some p6n9), none, (.bin .shl (.t p6n8) (.c (.int .u64 (.ofNat 13))))⟩)] [⟨(some p6n10), none, (.bin .xor (.t p6n5) (.t p6n9))⟩, ⟨(some p6n11), none, (.nilck (.t p6n3))⟩, ⟨none, none, (.st 1 (.t p6n11) (.t p6n10))⟩]) (.seq (.regd [(.pure, ⟨(some p6n12), none, (.mv (.t p6n0))⟩), (.pure, ⟨(some p6n13), none, (.nilck (.t p6n12))⟩), (.load, ⟨(some p6n14), none, (.ld1 (.t p6n13))⟩), (.pure, ⟨(some p6n15), none, (.mv (.t p6n0))⟩), (.pure, ⟨(some p6n16), none, (.nilck (.t p6n15))⟩), (.load, ⟨(some p6n17), none, (.ld1 (.t p6n16))⟩), (.pure, ⟨(some p6n18), none, (.bin .shr (.t p6n17) (.c (.int .u64 (.ofNat 7))))⟩)] [⟨(some p6n19), none, (.bin .xor (.t p6n14) (.t p6n18))⟩, ⟨(some p6n20), none, (.nilck (.t p6n12))⟩, ⟨none, none, (.st 1 (.t p6n20) (.t p6n19))⟩]) (.seq (.regd [(.pure, ⟨(some p6n21), none, (.mv (.t p6n0))⟩), (.pure, ⟨(some p6n22), none, (.nilck (.t p6n21))⟩), (.load, ⟨(some p6n23), none, (.ld1 (.t p6n22))⟩), (.pure, ⟨(some p6n24), none, (.mv (.t p6n0))⟩), (.pure, ⟨(some p6n25), none, (.nilck (.t p6n24))⟩), (.load, ⟨(some p6n26), none, (.ld1 (.t p6n25))⟩), (.pure, ⟨(some p6n27), none, (.bin .shl (.t p6n26) (.c (.int .u64 (.ofNat 17))))⟩)] [⟨(some p6n28), none, (.bin .xor (.t p6n23) (.t p6n27))⟩, ⟨(some p6n29), none, (.nilck (.t p6n21))⟩, ⟨none, none, (.st 1 (.t p6n29) (.t p6n28))⟩]) (.seq (.reg [⟨(some p6n30), none, (.mv (.t p6n0))⟩, ⟨(some p6n31), none, (.nilck (.t p6n30))⟩, ⟨(some p6n32), none, (.ld1 (.t p6n31))⟩, ⟨(some p6n2), none, (.mv (.t p6n32))⟩]) .ret)))))⟩
noncomputable def a272 : AFunc :=
  ⟨4, [p4n0, p4n1, p4n2], [(p4n6, none)], false, (.seq (.reg [⟨(some p4n6), none, (.mv (.c (.int .i64 (.ofNat 0))))⟩]) (.seq (.reg [⟨(some p4n7), none, (.mv (.t p4n0))⟩, ⟨(some p4n8), none, (.mv (.t p4n1))⟩, ⟨(some p4n9), none, (.bin .sub (.t p4n8) (.c (.int .i64 (.ofNat 1))))⟩, ⟨(some p4n10), none, (.mv (.t p4n1))⟩, ⟨(some p4n11), none, (.mv (.t p4n1))⟩, ⟨(some p4n12), none, (.bin .add (.t p4n11) (.c (.int .i64 (.ofNat 1))))⟩, ⟨(some p4n13), none, (.mv (.t p4n2))⟩, ⟨(some p4n14), none, (.call 273 [(.t p4n7), (.t p4n9), (.t p4n10), (.t p4n12), (.t p4n13)])⟩, ⟨(some p4n6), none, (.mv (.t p4n14))⟩]) .ret))⟩
noncomputable def a273 : AFunc :=
  ⟨6, [p6n0, p6n1, p6n2, p6n3, p6n4], [(p6n10, none)], false, (.seq (.reg [⟨(some p6n10), none, (.mv (.c (.int .i64 (.ofNat 0))))⟩]) (.seq (.reg [⟨(some p6n12), none, (.mv (.t p6n0))⟩, ⟨(some p6n13), none, (.mv (.t p6n1))⟩, ⟨(some p6n14), none, (.mv (.t p6n2))⟩, ⟨(some p6n15), none, (.mv (.t p6n4))⟩, ⟨(some p6n16), none, (.call 276 [(.t p6n12), (.t p6n13), (.t p6n14), (.t p6n15)])⟩, ⟨(some p6n11), none, (.mv (.t p6n16))⟩, ⟨(some p6n17), none, (.ext (.t p6n11) 0)⟩, ⟨(some p6n18), none, (.ext (.t p6n11) 1)⟩, ⟨(some p6n1), none, (.mv (.t p6n17))⟩, ⟨(some p6n2), none, (.mv (.t p6n18))⟩]) (.seq (.reg [⟨(some p6n20), none, (.mv (.t p6n0))⟩, ⟨(some p6n21), none, (.mv (.t p6n2))⟩, ⟨(some p6n22), none, (.mv (.t p6n3))⟩, ⟨(some p6n23), none, (.mv (.t p6n4))⟩, ⟨(some p6n24), none, (.call 276 [(.t p6n20), (.t p6n21), (.t p6n22), (.t p6n23)])⟩, ⟨(some p6n19), none, (.mv (.t p6n24))⟩, ⟨(some p6n25), none, (.ext (.t p6n19) 0)⟩, ⟨(some p6n26), none, (.ext (.t p6n19) 1)⟩, ⟨(some p6n2), none, (.mv (.t p6n25))⟩, ⟨(some p6n3), none, (.mv (.t p6n26))⟩]) (.seq (.reg [⟨(some p6n28), none, (.mv (.t p6n0))⟩, ⟨(some p6n29), none, (.mv (.t p6n1))⟩, ⟨(some p6n30), none, (.mv (.t p6n2))⟩, ⟨(some p6n31), none, (.mv (.t p6n4))⟩, ⟨(some p6n32), none, (.call 276 [(.t p6n28), (.t p6n29), (.t p6n30), (.t p6n31)])⟩, ⟨(some p6n27), none, (.mv (.t p6n32))⟩, ⟨(some p6n33), none, (.ext (.t p6n27) 0)⟩, ⟨(some p6n34), none, (.ext (.t p6n27) 1)⟩, ⟨(some p6n1), none, (.mv (.t p6n33))⟩, ⟨(some p6n2), none, (.mv (.t p6n34))⟩]) (.seq (.reg [⟨(some p6n35), none, (.mv (.t p6n2))⟩, ⟨(some p6n10), none, (.mv (.t p6n35))⟩]) .ret)))))⟩
noncomputable def a274 : AFunc :=
  ⟨4, [p4n0], [(p4n2, none)], false, (.seq (.reg [⟨(some p4n2), none, (.mv (.c (.int .i64 (.ofNat 0))))⟩]) (.seq (.seq (.reg [⟨(some p4n3), none, (.mv (.t p4n0))⟩]) (.block 0 (.seq (.seq (.reg [⟨(some p4n5), none, (.bin .eql (.t p4n3) (.c (.int .i64 (.ofNat 3))))⟩, ⟨(some p4n4), none, (.mv (.t p4n5))⟩]) (.cond (.t p4n4) .skip (.seq (.reg [⟨(some p4n6), none, (.bin .eql (.t p4n3) (.c (.int .i64 (.ofNat 5))))⟩, ⟨(some p4n4), none, (.mv (.t p4n6))⟩]) (.cond (.t p4n4) .skip (.reg [⟨(some p4n7), none, (.bin .eql (.t p4n3) (.c (.int .i64 (.ofNat 9))))⟩, ⟨(some p4n4), none, (.mv (.t p4n7))⟩]))))) (.cond (.t p4n4) (.seq (.reg [⟨(some p4n2), none, (.mv (.c (.int .i64 (.ofNat 14))))⟩]) .ret) (.seq (.seq (.reg [⟨(some p4n9), none, (.bin .eql (.t p4n3) (.c (.int .i64 (.ofNat 4))))⟩, ⟨(some p4n8), none, (.mv (.t p4n9))⟩]) (.cond (.t p4n8) .skip (.reg [⟨(some p4n10), none, (.bin .eql (.t p4n3) (.c (.int .i64 (.ofNat 8))))⟩, ⟨(some p4n8), none, (.mv (.t p4n10))⟩]))) (.cond (.t p4n8) (.seq (.reg [⟨(some p4n2), none, (.mv (.c (.int .i64 (.ofNat 18))))⟩]) .ret) .skip)))))) (.seq (.reg [⟨(some p4n2), none, (.mv (.c (.int .i64 (.ofNat 0))))⟩]) .ret)))⟩
noncomputable def a275 : AFunc :=
  ⟨5, [p5n0, p5n1], [(p5n4, none)], false, (.seq (.reg [⟨(some p5n4), none, (.mv (.c (.bool false)))⟩]) (.seq (.reg [⟨(some p5n5), none, (.mv (.t p5n0))⟩, ⟨(some p5n6), none, (.mv (.t p5n1))⟩, ⟨(some p5n7), none, (.bin .sub (.t p5n6) (.c (.int .i64 (.ofNat 1))))⟩, ⟨(some p5n8), none, (.bin .shl (.c (.int .i64 (.negSucc 0))) (.t p5n7))⟩, ⟨(some p5n9), none, (.bin .geq (.t p5n5) (.t p5n8))⟩, ⟨(some p5n10), none, (.mv (.t p5n9))⟩, ⟨(some p5n11), (some (p5n10, true)), (.mv (.t p5n0))⟩, ⟨(some p5n12), (some (p5n10, true)), (.mv (.t p5n1))⟩, ⟨(some p5n13), (some (p5n10, true)), (.bin .sub (.t p5n12) (.c (.int .i64 (.ofNat 1))))⟩, ⟨(some p5n14), (some (p5n10, true)), (.bin .shl (.c (.int .i64 (.ofNat 1))) (.t p5n13))⟩, ⟨(some p5n15), (some (p5n10, true)), (.bin .lss (.t p5n11) (.t p5n14))⟩, ⟨(some p5n16), none, (.pick (.t p5n10) (.t p5n15) (.c (.bool false)))⟩, ⟨(some p5n4), none, (.mv (.t p5n16))⟩]) .ret))⟩
noncomputable def a276 : AFunc :=
  ⟨5, [p5n0, p5n1, p5n2, p5n3], [(p5n8, none), (p5n9, none)], false, (.seq (.reg [⟨(some p5n8), none, (.mv (.c (.int .i64 (.ofNat 0))))⟩, ⟨(some p5n9), none, (.mv (.c (.int .i64 (.ofNat 0))))⟩]) (.seq (.seq (.regd [(.pure, ⟨(some p5n10), none, (.mv (.t p5n0))⟩), (.pure, ⟨(some p5n11), none, (.mv (.t p5n2))⟩), (.pure, ⟨(some p5n12), none, (.iaddr 1 (.t p5n10) (.t p5n11))⟩), (.load, ⟨(some p5n13), none, (.ld1 (.t p5n12))⟩), (.pure, ⟨(some p5n14), none, (.mv (.t p5n0))⟩), (.pure, ⟨(some p5n15), none, (.mv (.t p5n1))⟩), (.pure, ⟨(some p5n16), none, (.iaddr 1 (.t p5n14) (.t p5n15))⟩), (.load, ⟨(some p5n17), none, (.ld1 (.t p5n16))⟩)] [⟨(some p5n18), none, (.call 256 [(.t p5n13), (.t p5n17)])⟩]) (.cond (.t p5n18) (.seq (.reg [⟨(some p5n19), none, (.mv (.t p5n3))⟩, ⟨(some p5n20), none, (.nilck (.t p5n19))⟩, ⟨(some p5n21), none, (.ld1 (.t p5n20))⟩, ⟨(some p5n22), none, (.bin .add (.t p5n21) (.c (.int .i64 (.ofNat 1))))⟩, ⟨(some p5n23), none, (.nilck (.t p5n19))⟩, ⟨none, none, (.st 1 (.t p5n23) (.t p5n22))⟩]) (.seq (.reg [⟨(some p5n24), none, (.mv (.t p5n2))⟩, ⟨(some p5n25), none, (.mv (.t p5n1))⟩, ⟨(some p5n8), none, (.mv (.t p5n24))⟩, ⟨(some p5n9), none, (.mv (.t p5n25))⟩]) .ret)) .skip)) (.seq (.reg [⟨(some p5n26), none, (.mv (.t p5n1))⟩, ⟨(some p5n27), none, (.mv (.t p5n2))⟩, ⟨(some p5n8), none, (.mv (.t p5n26))⟩, ⟨(some p5n9), none, (.mv (.t p5n27))⟩]) .ret)))⟩
noncomputable def a289 : AFunc :=
  ⟨77, [p3n0], [(p3n1, none)], false, (.reg [⟨(some p3n1), none, (.mem (.prim 1) [(.t p3n0)])⟩])⟩
noncomputable def a353 : AFunc :=
  ⟨8, [p8n0], [(p8n2, (some (4, true))), (p8n3, none), (p8n4, none)], false, (.seq (.reg [⟨(some p8n2), none, (.alloc [.nils, .nils, .nils, .nils])⟩, ⟨(some p8n3), none, (.mv (.c (.int .i64 (.ofNat 0))))⟩, ⟨(some p8n4), none, (.mv (.c (.int .i64 (.ofNat 0))))⟩]) (.seq (.reg [⟨(some p8n16), none, (.mv (.t p8n0))⟩, ⟨(some p8n17), none, (.call 139 [(.t p8n16)])⟩, ⟨(some p8n15), none, (.mv (.t p8n17))⟩, ⟨(some p8n18), none, (.ext (.t p8n15) 0)⟩, ⟨(some p8n19), none, (.ext (.t p8n15) 1)⟩, ⟨(some p8n20), none, (.ext (.t p8n15) 2)⟩, ⟨(some p8n5), none, (.mv (.t p8n18))⟩, ⟨(some p8n6), none, (.mv (.t p8n19))⟩, ⟨(some p8n7), none, (.mv (.t p8n20))⟩]) (.seq (.seq (.reg [⟨(some p8n21), none, (.mv (.t p8n7))⟩, ⟨(some p8n22), none, (.bin .neq (.t p8n21) (.c (.int .i64 (.ofNat 0))))⟩]) (.cond (.t p8n22) (.seq (.reg [⟨(some p8n23), none, (.build [.nils, .nils, .nils, .nils] [])⟩, ⟨(some p8n24), none, (.mv (.t p8n6))⟩, ⟨(some p8n25), none, (.mv (.t p8n7))⟩, ⟨none, none, (.st 4 (.t p8n2) (.t p8n23))⟩, ⟨(some p8n3), none, (.mv (.t p8n24))⟩, ⟨(some p8n4), none, (.mv (.t p8n25))⟩]) .ret) .skip)) (.seq (.reg [⟨(some p8n27), none, (.mv (.t p8n5))⟩, ⟨(some p8n28), none, (.call 132 [(.t p8n27)])⟩, ⟨(some p8n26), none, (.mv (.t p8n28))⟩, ⟨(some p8n29), none, (.ext (.t p8n26) 0)⟩, ⟨(some p8n30), none, (.ext (.t p8n26) 1)⟩, ⟨(some p8n31), none, (.ext (.t p8n26) 2)⟩, ⟨(some p8n32), none, (.ext (.t p8n26) 3)⟩, ⟨(some p8n8), none, (.mv (.t p8n29))⟩, ⟨(some p8n9), none, (.mv (.t p8n30))⟩, ⟨(some p8n6), none, (.mv (.t p8n31))⟩, ⟨(some p8n7), none, (.mv (.t p8n32))⟩]) (.seq (.seq (.reg [⟨(some p8n33), none, (.mv (.t p8n7))⟩, ⟨(some p8n34), none, (.bin .neq (.t p8n33) (.c (.int .i64 (.ofNat 0))))⟩]) (.cond (.t p8n34) (.seq (.reg [⟨(some p8n35), none, (.build [.nils, .nils, .nils, .nils] [])⟩, ⟨(some p8n36), none, (.mv (.t p8n6))⟩, ⟨(some p8n37), none, (.mv (.t p8n7))⟩, ⟨none, none, (.st 4 (.t p8n2) (.t p8n35))⟩, ⟨(some p8n3), none, (.mv (.t p8n36))⟩, ⟨(some p8n4), none, (.mv (.t p8n37))⟩]) .ret) .skip)) (.seq (.reg [⟨(some p8n38), none, (.mv (.t p8n9))⟩, ⟨(some p8n39), none, (.build [.nils, .nils, .nils, .nils, .nils, (.bool false), (.int .i64 (.ofNat 0)), .nils, (.int .i64 (.ofNat 0))] [(0, (1, (.t p8n38)))])⟩, ⟨(some p8n40), none, (.box (.t p8n39))⟩, ⟨(some p8n10), none, (.mv (.t p8n40))⟩]) (.seq (.seq (.reg [⟨(some p8n11), none, (.mv (.c (.int .i64 (.ofNat 0))))⟩]) (.block 0 (.loop (.seq (.seq (.reg [⟨(some p8n41), none, (.mv (.t p8n11))⟩, ⟨(some p8n42), none, (.mv (.t p8n8))⟩, ⟨(some p8n43), none, (.len false (.t p8n42))⟩, ⟨(some p8n44), none, (.bin .lss (.t p8n41) (.t p8n43))⟩]) (.cond (.t p8n44) .skip (.exit 0))) (.seq (.block 1 (.seq (.reg [⟨(some p8n47), none, (.mv (.t p8n8))⟩, ⟨(some p8n48), none, (.mv (.t p8n11))⟩, ⟨(some p8n49), none, (.iaddr 3 (.t p8n47) (.t p8n48))⟩, ⟨(some p8n50), none, (.faddr 2 (.t p8n49))⟩, ⟨(some p8n51), none, (.ld1 (.t p8n50))⟩, ⟨(some p8n12), none, (.mv (.t p8n51))⟩]) (.seq (.seq (.reg [⟨(some p8n52), none, (.mv (.t p8n8))⟩, ⟨(some p8n53), none, (.mv (.t p8n11))⟩, ⟨(some p8n54), none, (.iaddr 3 (.t p8n52) (.t p8n53))⟩, ⟨(some p8n55), none, (.faddr 1 (.t p8n54))⟩, ⟨(some p8n56), none, (.ld1 (.t p8n55))⟩, ⟨(some p8n57), none, (.bin .neq (.t p8n56) (.c (.str [])))⟩]) (.cond (.t p8n57) (.reg [⟨(some p8n58), none, (.mv (.t p8n10))⟩, ⟨(some p8n59), none, (.mv (.t p8n8))⟩, ⟨(some p8n60), none, (.mv (.t p8n11))⟩, ⟨(some p8n61), none, (.iaddr 3 (.t p8n59) (.t p8n60))⟩, ⟨(some p8n62), none, (.faddr 1 (.t p8n61))⟩, ⟨(some p8n63), none, (.ld1 (.t p8n62))⟩, ⟨(some p8n64), none, (.call 361 [(.t p8n58), (.t p8n63)])⟩]) .skip)) (.seq (.seq (.reg [⟨(some p8n65), none, (.mv (.t p8n10))⟩, ⟨(some p8n66), none, (.nilck (.t p8n65))⟩, ⟨(some p8n67), none, (.faddr 8 (.t p8n66))⟩, ⟨(some p8n68), none, (.ld1 (.t p8n67))⟩, ⟨(some p8n69), none, (.bin .eql (.t p8n68) (.c (.int .i64 (.ofNat 0))))⟩, ⟨(some p8n70), none, (.mv (.t p8n69))⟩, ⟨(some p8n71), (some (p8n70, true)), (.mv (.t p8n12))⟩, ⟨(some p8n72), (some (p8n70, true)), (.len false (.t p8n71))⟩, ⟨(some p8n73), (some (p8n70, true)), (.bin .gtr (.t p8n72) (.c (.int .i64 (.ofNat 0))))⟩, ⟨(some p8n74), none, (.pick (.t p8n70) (.t p8n73) (.c (.bool false)))⟩]) (.cond (.t p8n74) (.seq (.reg [⟨(some p8n75), none, (.mv (.t p8n8))⟩, ⟨(some p8n76), none, (.mv (.t p8n11))⟩, ⟨(some p8n77), none, (.iaddr 3 (.t p8n75) (.t p8n76))⟩, ⟨(some p8n78), none, (.ldA 3 (.t p8n77))⟩, ⟨(some p8n79), none, (.call 154 [(.t p8n78)])⟩]) (.block 2 (.seq (.seq (.reg [⟨(some p8n84), none, (.bin .eql (.t p8n79) (.c (.str [46, 99, 111, 100, 101])))⟩, ⟨(some p8n83), none, (.mv (.t p8n84))⟩]) (.cond (.t p8n83) .skip (.reg [⟨(some p8n85), none, (.bin .eql (.t p8n79) (.c (.str [46, 100, 97, 116, 97])))⟩, ⟨(some p8n83), none, (.mv (.t p8n85))⟩]))) (.cond (.t p8n83) (.seq (.seq (.reg [⟨(some p8n86), none, (.mv (.t p8n12))⟩, ⟨(some p8n87), none, (.len false (.t p8n86))⟩, ⟨(some p8n88), none, (.bin .gtr (.t p8n87) (.c (.int .i64 (.ofNat 1))))⟩]) (.cond (.t p8n88) (.reg [⟨(some p8n89), none, (.mv (.t p8n10))⟩, ⟨(some p8n90), none, (.nilck (.t p8n89))⟩, ⟨(some p8n91), none, (.faddr 8 (.t p8n90))⟩, ⟨none, none, (.st 1 (.t p8n91) (.c (.int .i64 (.ofNat 3))))⟩]) .skip)) (.reg [⟨(some p8n92), none, (.mv (.t p8n10))⟩, ⟨(some p8n93), none, (.mv (.t p8n12))⟩, ⟨(some p8n94), none, (.iaddr 4 (.t p8n93) (.c (.int .i64 (.ofNat 0))))⟩, ⟨(some p8n95), none, (.faddr 1 (.t p8n94))⟩, ⟨(some p8n96), none, (.ld1 (.t p8n95))⟩, ⟨(some p8n97), none, (.bin .eql (.t p8n96) (.c (.str [46, 100, 97, 116, 97])))⟩, ⟨(some p8n98), none, (.nilck (.t p8n92))⟩, ⟨(some p8n99), none, (.faddr 5 (.t p8n98))⟩, ⟨none, none, (.st 1 (.t p8n99) (.t p8n97))⟩])) (.seq (.reg [⟨(some p8n101), none, (.bin .eql (.t p8n79) (.c (.str [46, 103, 108, 111, 98, 97, 108])))⟩, ⟨(some p8n100), none, (.mv (.t p8n101))⟩]) (.cond (.t p8n100) (.seq (.reg [⟨(some p8n102), none, (.mv (.t p8n12))⟩, ⟨(some p8n103), none, (.len false (.t p8n102))⟩, ⟨(some p8n104), none, (.bin .neq (.t p8n103) (.c (.int .i64 (.ofNat 2))))⟩, ⟨(some p8n105), none, (.mv (.t p8n104))⟩, ⟨(some p8n106), (some (p8n105, false)), (.mv (.t p8n12))⟩, ⟨(some p8n107), (some (p8n105, false)), (.iaddr 4 (.t p8n106) (.c (.int .i64 (.ofNat 1))))⟩, ⟨(some p8n108), (some (p8n105, false)), (.ldA 4 (.t p8n107))⟩, ⟨(some p8n109), (some (p8n105, false)), (.call 148 [(.t p8n108)])⟩, ⟨(some p8n110), (some (p8n105, false)), (.un .not (.t p8n109))⟩, ⟨(some p8n111), none, (.pick (.t p8n105) (.c (.bool true)) (.t p8n110))⟩]) (.cond (.t p8n111) (.reg [⟨(some p8n112), none, (.mv (.t p8n10))⟩, ⟨(some p8n113), none, (.nilck (.t p8n112))⟩, ⟨(some p8n114), none, (.faddr 8 (.t p8n113))⟩, ⟨none, none, (.st 1 (.t p8n114) (.c (.int .i64 (.ofNat 3))))⟩]) (.regd [(.pure, ⟨(some p8n115), none, (.mv (.t p8n10))⟩), (.pure, ⟨(some p8n116), none, (.mv (.t p8n10))⟩), (.pure, ⟨(some p8n117), none, (.nilck (.t p8n116))⟩), (.pure, ⟨(some p8n118), none, (.faddr 7 (.t p8n117))⟩), (.load, ⟨(some p8n119), none, (.ld1 (.t p8n118))⟩), (.pure, ⟨(some p8n120), none, (.mv (.t p8n12))⟩), (.pure, ⟨(some p8n121), none, (.iaddr 4 (.t p8n120) (.c (.int .i64 (.ofNat 1))))⟩), (.pure, ⟨(some p8n122), none, (.faddr 1 (.t p8n121))⟩), (.load, ⟨(some p8n123), none, (.ld1 (.t p8n122))⟩), (.pure, ⟨(some p8n124), none, (.mv (.t p8n8))⟩), (.pure, ⟨(some p8n125), none, (.mv (.t p8n11))⟩), (.pure, ⟨(some p8n126), none, (.iaddr 3 (.t p8n124) (.t p8n125))⟩), (.pure, ⟨(some p8n127), none, (.faddr 0 (.t p8n126))⟩), (.load, ⟨(some p8n128), none, (.ld1 (.t p8n127))⟩), (.pure, ⟨(some p8n129), none, (.build [(.str []), (.bool false), (.int .i64 (.ofNat 0)), (.bool false)] [(0, (1, (.t p8n123))), (2, (1, (.t p8n128)))])⟩), (.pure, ⟨(some p8n130), none, (.buildS 4 1 (.agg [(.str []), (.bool false), (.int .i64 (.ofNat 0)), (.bool false)]) [(0, (.t p8n129))])⟩), (.iso, ⟨(some p8n131), none, (.app 4 40 (.agg [(.str []), (.bool false), (.int .i64 (.ofNat 0)), (.bool false)]) (.t p8n119) (.t p8n130))⟩)] [⟨(some p8n132), none, (.nilck (.t p8n115))⟩, ⟨(some p8n133), none, (.faddr 7 (.t p8n132))⟩, ⟨none, none, (.st 1 (.t p8n133) (.t p8n131))⟩]))) (.seq (.reg [⟨(some p8n135), none, (.bin .eql (.t p8n79) (.c (.str [46, 119, 111, 114, 100])))⟩, ⟨(some p8n134), none, (.mv (.t p8n135))⟩]) (.cond (.t p8n134) (.reg [⟨(some p8n136), none, (.mv (.t p8n10))⟩, ⟨(some p8n137), none, (.mv (.t p8n12))⟩, ⟨(some p8n138), none, (.slL 4 (.t p8n137) (some (.c (.int .i64 (.ofNat 1)))) none none)⟩, ⟨(some p8n139), none, (.call 362 [(.t p8n136), (.t p8n138)])⟩]) (.seq (.reg [⟨(some p8n141), none, (.bin .eql (.t p8n79) (.c (.str [46, 115, 112, 97, 99, 101])))⟩, ⟨(some p8n140), none, (.mv (.t p8n141))⟩]) (.cond (.t p8n140) (.reg [⟨(some p8n142), none, (.mv (.t p8n10))⟩, ⟨(some p8n143), none, (.mv (.t p8n12))⟩, ⟨(some p8n144), none, (.slL 4 (.t p8n143) (some (.c (.int .i64 (.ofNat 1)))) none none)⟩, ⟨(some p8n145), none, (.call 363 [(.t p8n142), (.t p8n144)])⟩]) (.reg [⟨(some p8n80), none, (.mv (.t p8n10))⟩, ⟨(some p8n81), none, (.mv (.t p8n12))⟩, ⟨(some p8n82), none, (.call 364 [(.t p8n80), (.t p8n81)])⟩]))))))))))) .skip)) (.seq (.reg [⟨(some p8n146), none, (.mv (.t p8n10))⟩, ⟨(some p8n147), none, (.nilck (.t p8n146))⟩, ⟨(some p8n148), none, (.faddr 8 (.t p8n147))⟩, ⟨(some p8n149), none, (.ld1 (.t p8n148))⟩, ⟨(some p8n150), none, (.bin .neq (.t p8n149) (.c (.int .i64 (.ofNat 0))))⟩]) (.cond (.t p8n150) (.seq (.regd [(.pure, ⟨(some p8n151), none, (.build [.nils, .nils, .nils, .nils] [])⟩), (.pure, ⟨(some p8n152), none, (.mv (.t p8n8))⟩), (.pure, ⟨(some p8n153), none, (.mv (.t p8n11))⟩), (.pure, ⟨(some p8n154), none, (.iaddr 3 (.t p8n152) (.t p8n153))⟩), (.pure, ⟨(some p8n155), none, (.faddr 0 (.t p8n154))⟩), ((.loadm 5 30), ⟨(some p8n156), none, (.ld1 (.t p8n155))⟩), (.pure, ⟨(some p8n157), none, (.mv (.t p8n10))⟩), (.pure, ⟨(some p8n158), none, (.nilck (.t p8n157))⟩), (.pure, ⟨(some p8n159), none, (.faddr 8 (.t p8n158))⟩), ((.loadm 9 448), ⟨(some p8n160), none, (.ld1 (.t p8n159))⟩), ((.sto 10 1), ⟨none, none, (.st 4 (.t p8n2) (.t p8n151))⟩), (.pure, ⟨(some p8n3), none, (.mv (.t p8n156))⟩)] [⟨(some p8n4), none, (.mv (.t p8n160))⟩]) .ret) .skip)))))) (.reg [⟨(some p8n45), none, (.mv (.t p8n11))⟩, ⟨(some p8n46), none, (.bin .add (.t p8n45) (.c (.int .i64 (.ofNat 1))))⟩, ⟨(some p8n11), none, (.mv (.t p8n46))⟩])))))) (.seq (.reg [⟨(some p8n161), none, (.mv (.t p8n10))⟩, ⟨(some p8n162), none, (.nilck (.t p8n161))⟩, ⟨(some p8n163), none, (.faddr 1 (.t p8n162))⟩, ⟨(some p8n164), none, (.ldA 4 (.t p8n163))⟩, ⟨(some p8n165), none, (.call 365 [(.t p8n164)])⟩, ⟨(some p8n13), none, (.mv (.t p8n165))⟩]) (.seq (.seq (.reg [⟨(some p8n14), none, (.mv (.c (.int .i64 (.ofNat 0))))⟩]) (.block 3 (.loop (.seq (.seq (.reg [⟨(some p8n166), none, (.mv (.t p8n14))⟩, ⟨(some p8n167), none, (.mv (.t p8n10))⟩, ⟨(some p8n168), none, (.nilck (.t p8n167))⟩, ⟨(some p8n169), none, (.faddr 7 (.t p8n168))⟩, ⟨(some p8n170), none, (.ld1 (.t p8n169))⟩, ⟨(some p8n171), none, (.len false (.t p8n170))⟩, ⟨(some p8n172), none, (.bin .lss (.t p8n166) (.t p8n171))⟩]) (.cond (.t p8n172) .skip (.exit 3))) (.seq (.block 4 (.seq (.seq (.reg [⟨(some p8n175), none, (.mv (.t p8n13))⟩, ⟨(some p8n176), none, (.mv (.t p8n10))⟩, ⟨(some p8n177), none, (.nilck (.t p8n176))⟩, ⟨(some p8n178), none, (.faddr 7 (.t p8n177))⟩, ⟨(some p8n179), none, (.ld1 (.t p8n178))⟩, ⟨(some p8n180), none, (.mv (.t p8n14))⟩, ⟨(some p8n181), none, (.iaddr 4 (.t p8n179) (.t p8n180))⟩, ⟨(some p8n182), none, (.faddr 0 (.t p8n181))⟩, ⟨(some p8n183), none, (.ld1 (.t p8n182))⟩, ⟨(some p8n184), none, (.call 172 [(.t p8n175), (.t p8n183)])⟩, ⟨(some p8n185), none, (.bin .lss (.t p8n184) (.c (.int .i64 (.ofNat 0))))⟩]) (.cond (.t p8n185) (.seq (.regd [(.pure, ⟨(some p8n186), none, (.build [.nils, .nils, .nils, .nils] [])⟩), (.pure, ⟨(some p8n187), none, (.mv (.t p8n10))⟩), (.pure, ⟨(some p8n188), none, (.nilck (.t p8n187))⟩), (.pure, ⟨(some p8n189), none, (.faddr 7 (.t p8n188))⟩), ((.loadm 4 14), ⟨(some p8n190), none, (.ld1 (.t p8n189))⟩), (.pure, ⟨(some p8n191), none, (.mv (.t p8n14))⟩), (.pure, ⟨(some p8n192), none, (.iaddr 4 (.t p8n190) (.t p8n191))⟩), (.pure, ⟨(some p8n193), none, (.faddr 2 (.t p8n192))⟩), ((.loadm 8 254), ⟨(some p8n194), none, (.ld1 (.t p8n193))⟩), ((.sto 9 1), ⟨none, none, (.st 4 (.t p8n2) (.t p8n186))⟩)] [⟨(some p8n3), none, (.mv (.t p8n194))⟩, ⟨(some p8n4), none, (.mv (.c (.int .i64 (.ofNat 4))))⟩]) .ret) .skip)) (.regd [(.pure, ⟨(some p8n195), none, (.mv (.t p8n10))⟩), (.pure, ⟨(some p8n196), none, (.mv (.t p8n10))⟩), (.pure, ⟨(some p8n197), none, (.nilck (.t p8n196))⟩), (.pure, ⟨(some p8n198), none, (.faddr 1 (.t p8n197))⟩), (.pure, ⟨(some p8n199), none, (.faddr 3 (.t p8n198))⟩), (.load, ⟨(some p8n200), none, (.ld1 (.t p8n199))⟩), (.pure, ⟨(some p8n201), none, (.mv (.t p8n10))⟩), (.pure, ⟨(some p8n202), none, (.nilck (.t p8n201))⟩), (.pure, ⟨(some p8n203), none, (.faddr 7 (.t p8n202))⟩), (.load, ⟨(some p8n204), none, (.ld1 (.t p8n203))⟩), (.pure, ⟨(some p8n205), none, (.mv (.t p8n14))⟩), (.pure, ⟨(some p8n206), none, (.iaddr 4 (.t p8n204) (.t p8n205))⟩), (.pure, ⟨(some p8n207), none, (.faddr 0 (.t p8n206))⟩), (.load, ⟨(some p8n208), none, (.ld1 (.t p8n207))⟩), (.iso, ⟨(some p8n209), none, (.call 206 [(.t p8n200), (.t p8n208)])⟩)] [⟨(some p8n210), none, (.nilck (.t p8n195))⟩, ⟨(some p8n211), none, (.faddr 1 (.t p8n210))⟩, ⟨(some p8n212), none, (.faddr 3 (.t p8n211))⟩, ⟨none, none, (.st 1 (.t p8n212) (.t p8n209))⟩]))) (.reg [⟨(some p8n173), none, (.mv (.t p8n14))⟩, ⟨(some p8n174), none, (.bin .add (.t p8n173) (.c (.int .i64 (.ofNat 1))))⟩, ⟨(some p8n14), none, (.mv (.t p8n174))⟩])))))) (.seq (.reg [⟨(some p8n213), none, (.mv (.t p8n10))⟩, ⟨(some p8n214), none, (.nilck (.t p8n213))⟩, ⟨(some p8n215), none, (.faddr 1 (.t p8n214))⟩, ⟨(some p8n216), none, (.ldA 4 (.t p8n215))⟩, ⟨none, none, (.st 4 (.t p8n2) (.t p8n216))⟩, ⟨(some p8n3), none, (.mv (.c (.int .i64 (.ofNat 0))))⟩, ⟨(some p8n4), none, (.mv (.c (.int .i64 (.ofNat 0))))⟩]) .ret))))))))))⟩
noncomputable def a361 : AFunc :=
  ⟨6, [p6n0, p6n1], [], true, (.seq (.reg [⟨(some p6n5), none, (.mv (.t p6n0))⟩, ⟨(some p6n6), none, (.nilck (.t p6n5))⟩, ⟨(some p6n7), none, (.faddr 1 (.t p6n6))⟩, ⟨(some p6n8), none, (.ldA 4 (.t p6n7))⟩, ⟨(some p6n9), none, (.call 365 [(.t p6n8)])⟩, ⟨(some p6n4), none, (.mv (.t p6n9))⟩]) (.seq (.seq (.reg [⟨(some p6n10), none, (.mv (.t p6n4))⟩, ⟨(some p6n11), none, (.mv (.t p6n1))⟩, ⟨(some p6n12), none, (.call 172 [(.t p6n10), (.t p6n11)])⟩, ⟨(some p6n13), none, (.bin .geq (.t p6n12) (.c (.int .i64 (.ofNat 0))))⟩]) (.cond (.t p6n13) (.seq (.reg [⟨(some p6n14), none, (.mv (.t p6n0))⟩, ⟨(some p6n15), none, (.nilck (.t p6n14))⟩, ⟨(some p6n16), none, (.faddr 8 (.t p6n15))⟩, ⟨none, none, (.st 1 (.t p6n16) (.c (.int .i64 (.ofNat 5))))⟩]) .ret) .skip)) (.seq (.seq (.reg [⟨(some p6n17), none, (.mv (.t p6n4))⟩, ⟨(some p6n18), none, (.len false (.t p6n17))⟩, ⟨(some p6n19), none, (.bin .geq (.t p6n18) (.c (.int .i64 (.ofNat 60))))⟩]) (.cond (.t p6n19) (.seq (.reg [⟨(some p6n20), none, (.mv (.t p6n0))⟩, ⟨(some p6n21), none, (.nilck (.t p6n20))⟩, ⟨(some p6n22), none, (.faddr 8 (.t p6n21))⟩, ⟨none, none, (.st 1 (.t p6n22) (.c (.int .i64 (.ofNat 2))))⟩]) .ret) .skip)) (.seq (.reg [⟨(some p6n23), none, (.mv (.t p6n0))⟩, ⟨(some p6n24), none, (.nilck (.t p6n23))⟩, ⟨(some p6n25), none, (.faddr 5 (.t p6n24))⟩, ⟨(some p6n26), none, (.ld1 (.t p6n25))⟩]) (.cond (.t p6n26) (.regd [(.pure, ⟨(some p6n27), none, (.mv (.t p6n0))⟩), (.pure, ⟨(some p6n28), none, (.mv (.t p6n0))⟩), (.pure, ⟨(some p6n29), none, (.nilck (.t p6n28))⟩), (.pure, ⟨(some p6n30), none, (.faddr 1 (.t p6n29))⟩), (.pure, ⟨(some p6n31), none, (.faddr 2 (.t p6n30))⟩), (.load, ⟨(some p6n32), none, (.ld1 (.t p6n31))⟩), (.pure, ⟨(some p6n33), none, (.mv (.t p6n1))⟩), (.pure, ⟨(some p6n34), none, (.mv (.t p6n0))⟩), (.pure, ⟨(some p6n35), none, (.nilck (.t p6n34))⟩), (.pure, ⟨(some p6n36), none, (.faddr 1 (.t p6n35))⟩), (.pure, ⟨(some p6n37), none, (.faddr 1 (.t p6n36))⟩), (.load, ⟨(some p6n38), none, (.ld1 (.t p6n37))⟩), (.pure, ⟨(some p6n39), none, (.len false (.t p6n38))⟩), (.pure, ⟨(some p6n40), none, (.build [(.str []), (.bool false), (.int .i64 (.ofNat 0)), (.bool false)] [(0, (1, (.t p6n33))), (2, (1, (.t p6n39)))])⟩), (.pure, ⟨(some p6n41), none, (.buildS 4 1 (.agg [(.str []), (.bool false), (.int .i64 (.ofNat 0)), (.bool false)]) [(0, (.t p6n40))])⟩), (.iso, ⟨(some p6n42), none, (.app 4 40 (.agg [(.str []), (.bool false), (.int .i64 (.ofNat 0)), (.bool false)]) (.t p6n32) (.t p6n41))⟩)] [⟨(some p6n43), none, (.nilck (.t p6n27))⟩, ⟨(some p6n44), none, (.faddr 1 (.t p6n43))⟩, ⟨(some p6n45), none, (.faddr 2 (.t p6n44))⟩, ⟨none, none, (.st 1 (.t p6n45) (.t p6n42))⟩]) (.reg [⟨(some p6n46), none, (.mv (.t p6n0))⟩, ⟨(some p6n47), none, (.mv (.t p6n0))⟩, ⟨(some p6n48), none, (.nilck (.t p6n47))⟩, ⟨(some p6n49), none, (.faddr 1 (.t p6n48))⟩, ⟨(some p6n50), none, (.faddr 0 (.t p6n49))⟩, ⟨(some p6n51), none, (.ld1 (.t p6n50))⟩, ⟨(some p6n52), none, (.mv (.t p6n1))⟩, ⟨(some p6n53), none, (.build [(.str []), (.int .i64 (.ofNat 0)), (.int .i64 (.ofNat 0)), (.int .i64 (.ofNat 0)), (.int .i64 (.ofNat 0)), (.int .i64 (.ofNat 0)), (.str [])] [(0, (1, (.t p6n52)))])⟩, ⟨(some p6n54), none, (.buildS 7 1 (.agg [(.str []), (.int .i64 (.ofNat 0)), (.int .i64 (.ofNat 0)), (.int .i64 (.ofNat 0)), (.int .i64 (.ofNat 0)), (.int .i64 (.ofNat 0)), (.str [])]) [(0, (.t p6n53))])⟩, ⟨(some p6n55), none, (.app 7 72 (.agg [(.str []), (.int .i64 (.ofNat 0)), (.int .i64 (.ofNat 0)), (.int .i64 (.ofNat 0)), (.int .i64 (.ofNat 0)), (.int .i64 (.ofNat 0)), (.str [])]) (.t p6n51) (.t p6n54))⟩, ⟨(some p6n56), none, (.nilck (.t p6n46))⟩, ⟨(some p6n57), none, (.faddr 1 (.t p6n56))⟩, ⟨(some p6n58), none, (.faddr 0 (.t p6n57))⟩, ⟨none, none, (.st 1 (.t p6n58) (.t p6n55))⟩]))))))⟩
noncomputable def a362 : AFunc :=
  ⟨7, [p7n0, p7n1], [], true, (.seq (.seq (.reg [⟨(some p7n8), none, (.mv (.t p7n0))⟩, ⟨(some p7n9), none, (.nilck (.t p7n8))⟩, ⟨(some p7n10), none, (.faddr 5 (.t p7n9))⟩, ⟨(some p7n11), none, (.ld1 (.t p7n10))⟩, ⟨(some p7n12), none, (.un .not (.t p7n11))⟩, ⟨(some p7n13), none, (.mv (.t p7n12))⟩, ⟨(some p7n14), (some (p7n13, false)), (.mv (.t p7n1))⟩, ⟨(some p7n15), (some (p7n13, false)), (.len false (.t p7n14))⟩, ⟨(some p7n16), (some (p7n13, false)), (.bin .eql (.t p7n15) (.c (.int .i64 (.ofNat 0))))⟩, ⟨(some p7n17), none, (.pick (.t p7n13) (.c (.bool true)) (.t p7n16))⟩]) (.cond (.t p7n17) (.seq (.reg [⟨(some p7n18), none, (.mv (.t p7n0))⟩, ⟨(some p7n19), none, (.nilck (.t p7n18))⟩, ⟨(some p7n20), none, (.faddr 8 (.t p7n19))⟩, ⟨none, none, (.st 1 (.t p7n20) (.c (.int .i64 (.ofNat 3))))⟩]) .ret) .skip)) (.seq (.reg [⟨(some p7n21), none, (.mv (.t p7n1))⟩, ⟨(some p7n22), none, (.call 175 [(.t p7n21)])⟩, ⟨(some p7n4), none, (.mv (.t p7n22))⟩]) (.seq (.reg [⟨(some p7n5), none, (.mv (.c (.int .i64 (.ofNat 0))))⟩]) (.block 0 (.loop (.seq (.seq (.reg [⟨(some p7n23), none, (.mv (.t p7n5))⟩, ⟨(some p7n24), none, (.mv (.t p7n4))⟩, ⟨(some p7n25), none, (.len false (.t p7n24))⟩, ⟨(some p7n26), none, (.bin .lss (.t p7n23) (.t p7n25))⟩]) (.cond (.t p7n26) .skip (.exit 0))) (.seq (.block 1 (.seq (.regd [(.pure, ⟨(some p7n30), none, (.mv (.t p7n0))⟩), (.pure, ⟨(some p7n31), none, (.nilck (.t p7n30))⟩), (.pure, ⟨(some p7n32), none, (.faddr 0 (.t p7n31))⟩), ((.loadm 3 7), ⟨(some p7n33), none, (.ld1 (.t p7n32))⟩), (.pure, ⟨(some p7n34), none, (.mv (.t p7n4))⟩), (.pure, ⟨(some p7n35), none, (.mv (.t p7n5))⟩), (.pure, ⟨(some p7n36), none, (.iaddr 1 (.t p7n34) (.t p7n35))⟩), ((.loadm 7 112), ⟨(some p7n37), none, (.ld1 (.t p7n36))⟩), (.iso, ⟨(some p7n38), none, (.call 35 [(.t p7n33), (.t p7n37)])⟩), (.pure, ⟨(some p7n29), none, (.mv (.t p7n38))⟩), (.pure, ⟨(some p7n39), none, (.ext (.t p7n29) 0)⟩), (.pure, ⟨(some p7n40), none, (.ext (.t p7n29) 1)⟩), (.pure, ⟨(some p7n6), none, (.alloc [(.str []), (.int .i64 (.ofNat 0))])⟩), ((.sto 13 6143), ⟨none, none, (.st 2 (.t p7n6) (.t p7n39))⟩)] [⟨(some p7n7), none, (.mv (.t p7n40))⟩]) (.seq (.seq (.reg [⟨(some p7n41), none, (.mv (.t p7n7))⟩, ⟨(some p7n42), none, (.bin .eql (.t p7n41) (.c (.int .i64 (.ofNat 0))))⟩, ⟨(some p7n43), none, (.mv (.t p7n42))⟩, ⟨(some p7n44), (some (p7n43, true)), (.mv (.t p7n0))⟩, ⟨(some p7n45), (some (p7n43, true)), (.nilck (.t p7n44))⟩, ⟨(some p7n46), (some (p7n43, true)), (.faddr 1 (.t p7n45))⟩, ⟨(some p7n47), (some (p7n43, true)), (.faddr 1 (.t p7n46))⟩, ⟨(some p7n48), (some (p7n43, true)), (.ld1 (.t p7n47))⟩, ⟨(some p7n49), (some (p7n43, true)), (.len false (.t p7n48))⟩, ⟨(some p7n50), (some (p7n43, true)), (.bin .geq (.t p7n49) (.c (.int .i64 (.ofNat 128))))⟩, ⟨(some p7n51), none, (.pick (.t p7n43) (.t p7n50) (.c (.bool false)))⟩]) (.cond (.t p7n51) (.reg [⟨(some p7n7), none, (.mv (.c (.int .i64 (.ofNat 2))))⟩]) .skip)) (.seq (.seq (.reg [⟨(some p7n52), none, (.mv (.t p7n7))⟩, ⟨(some p7n53), none, (.bin .neq (.t p7n52) (.c (.int .i64 (.ofNat 0))))⟩]) (.cond (.t p7n53) (.seq (.reg [⟨(some p7n54), none, (.mv (.t p7n0))⟩, ⟨(some p7n55), none, (.mv (.t p7n7))⟩, ⟨(some p7n56), none, (.nilck (.t p7n54))⟩, ⟨(some p7n57), none, (.faddr 8 (.t p7n56))⟩, ⟨none, none, (.st 1 (.t p7n57) (.t p7n55))⟩]) .ret) .skip)) (.regd [(.pure, ⟨(some p7n58), none, (.mv (.t p7n0))⟩), (.pure, ⟨(some p7n59), none, (.mv (.t p7n0))⟩), (.pure, ⟨(some p7n60), none, (.nilck (.t p7n59))⟩), (.pure, ⟨(some p7n61), none, (.faddr 1 (.t p7n60))⟩), (.pure, ⟨(some p7n62), none, (.faddr 1 (.t p7n61))⟩), (.load, ⟨(some p7n63), none, (.ld1 (.t p7n62))⟩), (.load, ⟨(some p7n64), none, (.ldA 2 (.t p7n6))⟩), (.pure, ⟨(some p7n65), none, (.buildS 2 1 (.agg [(.str []), (.int .i64 (.ofNat 0))]) [(0, (.t p7n64))])⟩), (.iso, ⟨(some p7n66), none, (.app 2 24 (.agg [(.str []), (.int .i64 (.ofNat 0))]) (.t p7n63) (.t p7n65))⟩)] [⟨(some p7n67), none, (.nilck (.t p7n58))⟩, ⟨(some p7n68), none, (.faddr 1 (.t p7n67))⟩, ⟨(some p7n69), none, (.faddr 1 (.t p7n68))⟩, ⟨none, none, (.st 1 (.t p7n69) (.t p7n66))⟩]))))) (.reg [⟨(some p7n27), none, (.mv (.t p7n5))⟩, ⟨(some p7n28), none, (.bin .add (.t p7n27) (.c (.int .i64 (.ofNat 1))))⟩, ⟨(some p7n5), none, (.mv (.t p7n28))⟩]))))))))⟩
noncomputable def a363 : AFunc :=
  ⟨6, [p6n0, p6n1], [], true, (.seq (.seq (.reg [⟨(some p6n6), none, (.mv (.t p6n0))⟩, ⟨(some p6n7), none, (.nilck (.t p6n6))⟩, ⟨(some p6n8), none, (.faddr 5 (.t p6n7))⟩, ⟨(some p6n9), none, (.ld1 (.t p6n8))⟩, ⟨(some p6n10), none, (.un .not (.t p6n9))⟩]) (.cond (.t p6n10) (.seq (.reg [⟨(some p6n11), none, (.mv (.t p6n0))⟩, ⟨(some p6n12), none, (.nilck (.t p6n11))⟩, ⟨(some p6n13), none, (.faddr 8 (.t p6n12))⟩, ⟨none, none, (.st 1 (.t p6n13) (.c (.int .i64 (.ofNat 3))))⟩]) .ret) .skip)) (.seq (.reg [⟨(some p6n15), none, (.mv (.t p6n0))⟩, ⟨(some p6n16), none, (.nilck (.t p6n15))⟩, ⟨(some p6n17), none, (.faddr 0 (.t p6n16))⟩, ⟨(some p6n18), none, (.ld1 (.t p6n17))⟩, ⟨(some p6n19), none, (.mv (.t p6n1))⟩, ⟨(some p6n20), none, (.call 36 [(.t p6n18), (.t p6n19)])⟩, ⟨(some p6n14), none, (.mv (.t p6n20))⟩, ⟨(some p6n21), none, (.ext (.t p6n14) 0)⟩, ⟨(some p6n22), none, (.ext (.t p6n14) 1)⟩, ⟨(some p6n4), none, (.mv (.t p6n21))⟩, ⟨(some p6n5), none, (.mv (.t p6n22))⟩]) (.seq (.seq (.reg [⟨(some p6n23), none, (.mv (.t p6n5))⟩, ⟨(some p6n24), none, (.bin .eql (.t p6n23) (.c (.int .i64 (.ofNat 0))))⟩, ⟨(some p6n25), none, (.mv (.t p6n24))⟩, ⟨(some p6n26), (some (p6n25, true)), (.mv (.t p6n4))⟩, ⟨(some p6n27), (some (p6n25, true)), (.call 377 [(.t p6n26), (.c (.int .i64 (.ofNat 128)))])⟩, ⟨(some p6n28), (some (p6n25, true)), (.un .not (.t p6n27))⟩, ⟨(some p6n29), none, (.pick (.t p6n25) (.t p6n28) (.c (.bool false)))⟩]) (.cond (.t p6n29) (.reg [⟨(some p6n5), none, (.mv (.c (.int .i64 (.ofNat 7))))⟩]) .skip)) (.seq (.seq (.reg [⟨(some p6n30), none, (.mv (.t p6n5))⟩, ⟨(some p6n31), none, (.bin .eql (.t p6n30) (.c (.int .i64 (.ofNat 0))))⟩, ⟨(some p6n32), none, (.mv (.t p6n31))⟩, ⟨(some p6n33), (some (p6n32, true)), (.mv (.t p6n4))⟩, ⟨(some p6n34), (some (p6n32, true)), (.mv (.t p6n0))⟩, ⟨(some p6n35), (some (p6n32, true)), (.nilck (.t p6n34))⟩, ⟨(some p6n36), (some (p6n32, true)), (.faddr 1 (.t p6n35))⟩, ⟨(some p6n37), (some (p6n32, true)), (.faddr 1 (.t p6n36))⟩, ⟨(some p6n38), (some (p6n32, true)), (.ld1 (.t p6n37))⟩, ⟨(some p6n39), (some (p6n32, true)), (.len false (.t p6n38))⟩, ⟨(some p6n40), (some (p6n32, true)), (.bin .sub (.c (.int .i64 (.ofNat 128))) (.t p6n39))⟩, ⟨(some p6n41), (some (p6n32, true)), (.bin .gtr (.t p6n33) (.t p6n40))⟩, ⟨(some p6n42), none, (.pick (.t p6n32) (.t p6n41) (.c (.bool false)))⟩]) (.cond (.t p6n42) (.reg [⟨(some p6n5), none, (.mv (.c (.int .i64 (.ofNat 2))))⟩]) .skip)) (.seq (.seq (.reg [⟨(some p6n43), none, (.mv (.t p6n5))⟩, ⟨(some p6n44), none, (.bin .neq (.t p6n43) (.c (.int .i64 (.ofNat 0))))⟩]) (.cond (.t p6n44) (.seq (.reg [⟨(some p6n45), none, (.mv (.t p6n0))⟩, ⟨(some p6n46), none, (.mv (.t p6n5))⟩, ⟨(some p6n47), none, (.nilck (.t p6n45))⟩, ⟨(some p6n48), none, (.faddr 8 (.t p6n47))⟩, ⟨none, none, (.st 1 (.t p6n48) (.t p6n46))⟩]) .ret) .skip)) (.reg [⟨(some p6n49), none, (.mv (.t p6n0))⟩, ⟨(some p6n50), none, (.mv (.t p6n0))⟩, ⟨(some p6n51), none, (.nilck (.t p6n50))⟩, ⟨(some p6n52), none, (.faddr 1 (.t p6n51))⟩, ⟨(some p6n53), none, (.faddr 1 (.t p6n52))⟩, ⟨(some p6n54), none, (.ld1 (.t p6n53))⟩, ⟨(some p6n55), none, (.mv (.t p6n4))⟩, ⟨(some p6n56), none, (.mem .mlen [])⟩, ⟨(some p6n57), none, (.nilck (.t p6n49))⟩, ⟨(some p6n58), none, (.faddr 1 (.t p6n57))⟩, ⟨(some p6n59), none, (.faddr 1 (.t p6n58))⟩, ⟨none, none, (.st 1 (.t p6n59) (.t p6n56))⟩]))))))⟩
noncomputable def a364 : AFunc :=
  ⟨8, [p8n0, p8n1], [], true, (.seq (.seq (.reg [⟨(some p8n10), none, (.mv (.t p8n0))⟩, ⟨(some p8n11), none, (.nilck (.t p8n10))⟩, ⟨(some p8n12), none, (.faddr 5 (.t p8n11))⟩, ⟨(some p8n13), none, (.ld1 (.t p8n12))⟩, ⟨(some p8n14), none, (.mv (.t p8n13))⟩, ⟨(some p8n15), (some (p8n14, false)), (.mv (.t p8n1))⟩, ⟨(some p8n16), (some (p8n14, false)), (.iaddr 4 (.t p8n15) (.c (.int .i64 (.ofNat 0))))⟩, ⟨(some p8n17), (some (p8n14, false)), (.faddr 0 (.t p8n16))⟩, ⟨(some p8n18), (some (p8n14, false)), (.ld1 (.t p8n17))⟩, ⟨(some p8n19), (some (p8n14, false)), (.bin .neq (.t p8n18) (.c (.int .i64 (.ofNat 1))))⟩, ⟨(some p8n20), none, (.pick (.t p8n14) (.c (.bool true)) (.t p8n19))⟩]) (.cond (.t p8n20) (.seq (.reg [⟨(some p8n21), none, (.mv (.t p8n0))⟩, ⟨(some p8n22), none, (.nilck (.t p8n21))⟩, ⟨(some p8n23), none, (.faddr 8 (.t p8n22))⟩, ⟨none, none, (.st 1 (.t p8n23) (.c (.int .i64 (.ofNat 3))))⟩]) .ret) .skip)) (.seq (.regd [(.iso, ⟨(some p8n24), none, (.call 378 [])⟩), (.pure, ⟨(some p8n25), none, (.mv (.t p8n1))⟩), (.pure, ⟨(some p8n26), none, (.iaddr 4 (.t p8n25) (.c (.int .i64 (.ofNat 0))))⟩), (.pure, ⟨(some p8n27), none, (.faddr 1 (.t p8n26))⟩), (.load, ⟨(some p8n28), none, (.ld1 (.t p8n27))⟩), (.iso, ⟨(some p8n29), none, (.call 172 [(.t p8n24), (.t p8n28)])⟩), (.pure, ⟨(some p8n30), none, (.build [(.int .i64 (.ofNat 0)), (.int .i64 (.ofNat 0)), (.int .i64 (.ofNat 0)), (.int .i64 (.ofNat 0)), (.int .i64 (.ofNat 0)), (.str [])] [(0, (1, (.t p8n29)))])⟩), (.pure, ⟨(some p8n4), none, (.alloc [(.int .i64 (.ofNat 0)), (.int .i64 (.ofNat 0)), (.int .i64 (.ofNat 0)), (.int .i64 (.ofNat 0)), (.int .i64 (.ofNat 0)), (.str [])])⟩)] [⟨none, none, (.st 6 (.t p8n4) (.t p8n30))⟩]) (.seq (.seq (.reg [⟨(some p8n31), none, (.faddr 0 (.t p8n4))⟩, ⟨(some p8n32), none, (.ld1 (.t p8n31))⟩, ⟨(some p8n33), none, (.bin .lss (.t p8n32) (.c (.int .i64 (.ofNat 0))))⟩]) (.cond (.t p8n33) (.seq (.reg [⟨(some p8n34), none, (.mv (.t p8n0))⟩, ⟨(some p8n35), none, (.nilck (.t p8n34))⟩, ⟨(some p8n36), none, (.faddr 8 (.t p8n35))⟩, ⟨none, none, (.st 1 (.t p8n36) (.c (.int .i64 (.ofNat 4))))⟩]) .ret) .skip)) (.seq (.reg [⟨(some p8n37), none, (.faddr 0 (.t p8n4))⟩, ⟨(some p8n38), none, (.ld1 (.t p8n37))⟩, ⟨(some p8n39), none, (.call 379 [(.t p8n38)])⟩, ⟨(some p8n5), none, (.mv (.t p8n39))⟩]) (.seq (.reg [⟨(some p8n6), none, (.mv (.c .nils))⟩]) (.seq (.seq (.reg [⟨(some p8n40), none, (.mv (.t p8n5))⟩, ⟨(some p8n41), none, (.call 380 [(.t p8n40)])⟩]) (.cond (.t p8n41) (.reg [⟨(some p8n42), none, (.mv (.t p8n6))⟩, ⟨(some p8n43), none, (.buildS 1 1 (.int .i64 (.ofNat 0)) [(0, (.c (.int .i64 (.ofNat 0))))])⟩, ⟨(some p8n44), none, (.app 1 8 (.int .i64 (.ofNat 0)) (.t p8n42) (.t p8n43))⟩, ⟨(some p8n6), none, (.mv (.t p8n44))⟩]) .skip)) (.seq (.seq (.reg [⟨(some p8n45), none, (.mv (.t p8n5))⟩, ⟨(some p8n46), none, (.bin .eql (.t p8n45) (.c (.int .i64 (.ofNat 5))))⟩]) (.cond (.t p8n46) (.reg [⟨(some p8n47), none, (.mv (.t p8n6))⟩, ⟨(some p8n48), none, (.buildS 1 1 (.int .i64 (.ofNat 0)) [(0, (.c (.int .i64 (.ofNat 2))))])⟩, ⟨(some p8n49), none, (.app 1 8 (.int .i64 (.ofNat 0)) (.t p8n47) (.t p8n48))⟩, ⟨(some p8n6), none, (.mv (.t p8n49))⟩]) .skip)) (.seq (.seq (.reg [⟨(some p8n50), none, (.mv (.t p8n5))⟩, ⟨(some p8n51), none, (.call 381 [(.t p8n50)])⟩]) (.cond (.t p8n51) (.reg [⟨(some p8n52), none, (.mv (.t p8n6))⟩, ⟨(some p8n53), none, (.buildS 1 1 (.int .i64 (.ofNat 0)) [(0, (.c (.int .i64 (.ofNat 1))))])⟩, ⟨(some p8n54), none, (.app 1 8 (.int .i64 (.ofNat 0)) (.t p8n52) (.t p8n53))⟩, ⟨(some p8n6), none, (.mv (.t p8n54))⟩]) .skip)) (.seq (.seq (.reg [⟨(some p8n55), none, (.mv (.t p8n5))⟩, ⟨(some p8n56), none, (.bin .eql (.t p8n55) (.c (.int .i64 (.ofNat 1))))⟩]) (.cond (.t p8n56) (.reg [⟨(some p8n57), none, (.mv (.t p8n6))⟩, ⟨(some p8n58), none, (.buildS 1 1 (.int .i64 (.ofNat 0)) [(0, (.c (.int .i64 (.ofNat 2))))])⟩, ⟨(some p8n59), none, (.app 1 8 (.int .i64 (.ofNat 0)) (.t p8n57) (.t p8n58))⟩, ⟨(some p8n6), none, (.mv (.t p8n59))⟩]) .skip)) (.seq (.seq (.reg [⟨(some p8n60), none, (.mv (.t p8n5))⟩, ⟨(some p8n61), none, (.call 382 [(.t p8n60)])⟩, ⟨(some p8n62), none, (.bin .gtr (.t p8n61) (.c (.int .i64 (.ofNat 0))))⟩]) (.cond (.t p8n62) (.reg [⟨(some p8n63), none, (.mv (.t p8n6))⟩, ⟨(some p8n64), none, (.buildS 1 1 (.int .i64 (.ofNat 0)) [(0, (.c (.int .i64 (.ofNat 3))))])⟩, ⟨(some p8n65), none, (.app 1 8 (.int .i64 (.ofNat 0)) (.t p8n63) (.t p8n64))⟩, ⟨(some p8n6), none, (.mv (.t p8n65))⟩]) .skip)) (.seq (.reg [⟨(some p8n66), none, (.mv (.t p8n1))⟩, ⟨(some p8n67), none, (.slL 4 (.t p8n66) (some (.c (.int .i64 (.ofNat 1)))) none none)⟩, ⟨(some p8n68), none, (.call 175 [(.t p8n67)])⟩, ⟨(some p8n7), none, (.mv (.t p8n68))⟩]) (.seq (.seq (.reg [⟨(some p8n69), none, (.mv (.t p8n7))⟩, ⟨(some p8n70), none, (.len false (.t p8n69))⟩, ⟨(some p8n71), none, (.mv (.t p8n6))⟩, ⟨(some p8n72), none, (.len false (.t p8n71))⟩, ⟨(some p8n73), none, (.bin .neq (.t p8n70) (.t p8n72))⟩]) (.cond (.t p8n73) (.seq (.reg [⟨(some p8n74), none, (.mv (.t p8n0))⟩, ⟨(some p8n75), none, (.nilck (.t p8n74))⟩, ⟨(some p8n76), none, (.faddr 8 (.t p8n75))⟩, ⟨none, none, (.st 1 (.t p8n76) (.c (.int .i64 (.ofNat 3))))⟩]) .ret) .skip)) (.seq (.seq (.reg [⟨(some p8n8), none, (.mv (.c (.int .i64 (.ofNat 0))))⟩]) (.block 0 (.loop (.seq (.seq (.reg [⟨(some p8n77), none, (.mv (.t p8n8))⟩, ⟨(some p8n78), none, (.mv (.t p8n6))⟩, ⟨(some p8n79), none, (.len false (.t p8n78))⟩, ⟨(some p8n80), none, (.bin .lss (.t p8n77) (.t p8n79))⟩, ⟨(some p8n81), none, (.mv (.t p8n80))⟩, ⟨(some p8n82), (some (p8n81, true)), (.mv (.t p8n0))⟩, ⟨(some p8n83), (some (p8n81, true)), (.nilck (.t p8n82))⟩, ⟨(some p8n84), (some (p8n81, true)), (.faddr 8 (.t p8n83))⟩, ⟨(some p8n85), (some (p8n81, true)), (.ld1 (.t p8n84))⟩, ⟨(some p8n86), (some (p8n81, true)), (.bin .eql (.t p8n85) (.c (.int .i64 (.ofNat 0))))⟩, ⟨(some p8n87), none, (.pick (.t p8n81) (.t p8n86) (.c (.bool false)))⟩]) (.cond (.t p8n87) .skip (.exit 0))) (.seq (.block 1 (.seq (.seq (.reg [⟨(some p8n90), none, (.mv (.t p8n6))⟩, ⟨(some p8n91), none, (.mv (.t p8n8))⟩, ⟨(some p8n92), none, (.iaddr 1 (.t p8n90) (.t p8n91))⟩, ⟨(some p8n93), none, (.ld1 (.t p8n92))⟩, ⟨(some p8n94), none, (.bin .eql (.t p8n93) (.c (.int .i64 (.ofNat 3))))⟩]) (.cond (.t p8n94) (.seq (.reg [⟨(some p8n95), none, (.mv (.t p8n0))⟩, ⟨(some p8n96), none, (.mv (.t p8n7))⟩, ⟨(some p8n97), none, (.mv (.t p8n8))⟩, ⟨(some p8n98), none, (.iaddr 1 (.t p8n96) (.t p8n97))⟩, ⟨(some p8n99), none, (.ld1 (.t p8n98))⟩, ⟨(some p8n100), none, (.call 383 [(.t p8n95), (.t p8n4), (.t p8n99)])⟩]) (.exit 1)) .skip)) (.seq (.reg [⟨(some p8n101), none, (.mv (.t p8n7))⟩, ⟨(some p8n102), none, (.mv (.t p8n8))⟩, ⟨(some p8n103), none, (.iaddr 1 (.t p8n101) (.t p8n102))⟩, ⟨(some p8n104), none, (.ld1 (.t p8n103))⟩, ⟨(some p8n105), none, (.call 384 [(.t p8n104)])⟩, ⟨(some p8n9), none, (.mv (.t p8n105))⟩]) (.seq (.seq (.reg [⟨(some p8n106), none, (.mv (.t p8n9))⟩, ⟨(some p8n107), none, (.bin .lss (.t p8n106) (.c (.int .i64 (.ofNat 0))))⟩]) (.cond (.t p8n107) (.seq (.reg [⟨(some p8n108), none, (.mv (.t p8n0))⟩, ⟨(some p8n109), none, (.nilck (.t p8n108))⟩, ⟨(some p8n110), none, (.faddr 8 (.t p8n109))⟩, ⟨none, none, (.st 1 (.t p8n110) (.c (.int .i64 (.ofNat 3))))⟩]) .ret) .skip)) (.seq (.reg [⟨(some p8n111), none, (.mv (.t p8n6))⟩, ⟨(some p8n112), none, (.mv (.t p8n8))⟩, ⟨(some p8n113), none, (.iaddr 1 (.t p8n111) (.t p8n112))⟩, ⟨(some p8n114), none, (.ld1 (.t p8n113))⟩]) (.block 2 (.seq (.reg [⟨(some p8n118), none, (.bin .eql (.t p8n114) (.c (.int .i64 (.ofNat 0))))⟩, ⟨(some p8n117), none, (.mv (.t p8n118))⟩]) (.cond (.t p8n117) (.reg [⟨(some p8n119), none, (.mv (.t p8n9))⟩, ⟨(some p8n120), none, (.faddr 1 (.t p8n4))⟩, ⟨none, none, (.st 1 (.t p8n120) (.t p8n119))⟩]) (.seq (.reg [⟨(some p8n122), none, (.bin .eql (.t p8n114) (.c (.int .i64 (.ofNat 1))))⟩, ⟨(some p8n121), none, (.mv (.t p8n122))⟩]) (.cond (.t p8n121) (.reg [⟨(some p8n123), none, (.mv (.t p8n9))⟩, ⟨(some p8n124), none, (.faddr 2 (.t p8n4))⟩, ⟨none, none, (.st 1 (.t p8n124) (.t p8n123))⟩]) (.reg [⟨(some p8n115), none, (.mv (.t p8n9))⟩, ⟨(some p8n116), none, (.faddr 3 (.t p8n4))⟩, ⟨none, none, (.st 1 (.t p8n116) (.t p8n115))⟩]))))))))))) (.reg [⟨(some p8n88), none, (.mv (.t p8n8))⟩, ⟨(some p8n89), none, (.bin .add (.t p8n88) (.c (.int .i64 (.ofNat 1))))⟩, ⟨(some p8n8), none, (.mv (.t p8n89))⟩])))))) (.seq (.seq (.reg [⟨(some p8n125), none, (.mv (.t p8n0))⟩, ⟨(some p8n126), none, (.nilck (.t p8n125))⟩, ⟨(some p8n127), none, (.faddr 8 (.t p8n126))⟩, ⟨(some p8n128), none, (.ld1 (.t p8n127))⟩, ⟨(some p8n129), none, (.bin .eql (.t p8n128) (.c (.int .i64 (.ofNat 0))))⟩, ⟨(some p8n130), none, (.mv (.t p8n129))⟩, ⟨(some p8n131), (some (p8n130, true)), (.mv (.t p8n0))⟩, ⟨(some p8n132), (some (p8n130, true)), (.nilck (.t p8n131))⟩, ⟨(some p8n133), (some (p8n130, true)), (.faddr 6 (.t p8n132))⟩, ⟨(some p8n134), (some (p8n130, true)), (.ld1 (.t p8n133))⟩, ⟨(some p8n135), (some (p8n130, true)), (.bin .geq (.t p8n134) (.c (.int .i64 (.ofNat 200))))⟩, ⟨(some p8n136), none, (.pick (.t p8n130) (.t p8n135) (.c (.bool false)))⟩]) (.cond (.t p8n136) (.reg [⟨(some p8n137), none, (.mv (.t p8n0))⟩, ⟨(some p8n138), none, (.nilck (.t p8n137))⟩, ⟨(some p8n139), none, (.faddr 8 (.t p8n138))⟩, ⟨none, none, (.st 1 (.t p8n139) (.c (.int .i64 (.ofNat 2))))⟩]) .skip)) (.seq (.reg [⟨(some p8n140), none, (.mv (.t p8n0))⟩, ⟨(some p8n141), none, (.nilck (.t p8n140))⟩, ⟨(some p8n142), none, (.faddr 6 (.t p8n141))⟩, ⟨(some p8n143), none, (.ld1 (.t p8n142))⟩, ⟨(some p8n144), none, (.bin .add (.t p8n143) (.c (.int .i64 (.ofNat 1))))⟩, ⟨(some p8n145), none, (.nilck (.t p8n140))⟩, ⟨(some p8n146), none, (.faddr 6 (.t p8n145))⟩, ⟨none, none, (.st 1 (.t p8n146) (.t p8n144))⟩]) (.regd [(.pure, ⟨(some p8n147), none, (.mv (.t p8n0))⟩), (.pure, ⟨(some p8n148), none, (.mv (.t p8n0))⟩), (.pure, ⟨(some p8n149), none, (.nilck (.t p8n148))⟩), (.pure, ⟨(some p8n150), none, (.faddr 1 (.t p8n149))⟩), (.pure, ⟨(some p8n151), none, (.faddr 0 (.t p8n150))⟩), (.load, ⟨(some p8n152), none, (.ld1 (.t p8n151))⟩), (.load, ⟨(some p8n153), none, (.ldA 6 (.t p8n4))⟩), (.pure, ⟨(some p8n154), none, (.build [(.str []), (.int .i64 (.ofNat 0)), (.int .i64 (.ofNat 0)), (.int .i64 (.ofNat 0)), (.int .i64 (.ofNat 0)), (.int .i64 (.ofNat 0)), (.str [])] [(1, (6, (.t p8n153)))])⟩), (.pure, ⟨(some p8n155), none, (.buildS 7 1 (.agg [(.str []), (.int .i64 (.ofNat 0)), (.int .i64 (.ofNat 0)), (.int .i64 (.ofNat 0)), (.int .i64 (.ofNat 0)), (.int .i64 (.ofNat 0)), (.str [])]) [(0, (.t p8n154))])⟩), (.iso, ⟨(some p8n156), none, (.app 7 72 (.agg [(.str []), (.int .i64 (.ofNat 0)), (.int .i64 (.ofNat 0)), (.int .i64 (.ofNat 0)), (.int .i64 (.ofNat 0)), (.int .i64 (.ofNat 0)), (.str [])]) (.t p8n152) (.t p8n155))⟩)] [⟨(some p8n157), none, (.nilck (.t p8n147))⟩, ⟨(some p8n158), none, (.faddr 1 (.t p8n157))⟩, ⟨(some p8n159), none, (.faddr 0 (.t p8n158))⟩, ⟨none, none, (.st 1 (.t p8n159) (.t p8n156))⟩]))))))))))))))))⟩
noncomputable def a365 : AFunc :=
  ⟨6, [p6n0], [(p6n2, none)], false, (.seq (.reg [⟨(some p6n1), none, (.box (.t p6n0))⟩, ⟨(some p6n2), none, (.mv (.c .nils))⟩]) (.seq (.reg [⟨(some p6n3), none, (.mv (.c .nils))⟩]) (.seq (.seq (.reg [⟨(some p6n4), none, (.mv (.c (.int .i64 (.ofNat 0))))⟩]) (.block 0 (.loop (.seq (.seq (.reg [⟨(some p6n6), none, (.mv (.t p6n4))⟩, ⟨(some p6n7), none, (.faddr 0 (.t p6n1))⟩, ⟨(some p6n8), none, (.ld1 (.t p6n7))⟩, ⟨(some p6n9), none, (.len false (.t p6n8))⟩, ⟨(some p6n10), none, (.bin .lss (.t p6n6) (.t p6n9))⟩]) (.cond (.t p6n10) .skip (.exit 0))) (.seq (.block 1 (.seq (.reg [⟨(some p6n13), none, (.faddr 0 (.t p6n1))⟩, ⟨(some p6n14), none, (.ld1 (.t p6n13))⟩, ⟨(some p6n15), none, (.mv (.t p6n4))⟩, ⟨(some p6n16), none, (.iaddr 7 (.t p6n14) (.t p6n15))⟩, ⟨(some p6n17), none, (.faddr 0 (.t p6n16))⟩, ⟨(some p6n18), none, (.ld1 (.t p6n17))⟩, ⟨(some p6n19), none, (.bin .neq (.t p6n18) (.c (.str [])))⟩]) (.cond (.t p6n19) (.reg [⟨(some p6n20), none, (.mv (.t p6n3))⟩, ⟨(some p6n21), none, (.faddr 0 (.t p6n1))⟩, ⟨(some p6n22), none, (.ld1 (.t p6n21))⟩, ⟨(some p6n23), none, (.mv (.t p6n4))⟩, ⟨(some p6n24), none, (.iaddr 7 (.t p6n22) (.t p6n23))⟩, ⟨(some p6n25), none, (.faddr 0 (.t p6n24))⟩, ⟨(some p6n26), none, (.ld1 (.t p6n25))⟩, ⟨(some p6n27), none, (.buildS 1 1 (.str []) [(0, (.t p6n26))])⟩, ⟨(some p6n28), none, (.app 1 16 (.str []) (.t p6n20) (.t p6n27))⟩, ⟨(some p6n3), none, (.mv (.t p6n28))⟩]) .skip))) (.reg [⟨(some p6n11), none, (.mv (.t p6n4))⟩, ⟨(some p6n12), none, (.bin .add (.t p6n11) (.c (.int .i64 (.ofNat 1))))⟩, ⟨(some p6n4), none, (.mv (.t p6n12))⟩])))))) (.seq (.seq (.reg [⟨(some p6n5), none, (.mv (.c (.int .i64 (.ofNat 0))))⟩]) (.block 2 (.loop (.seq (.seq (.reg [⟨(some p6n29), none, (.mv (.t p6n5))⟩, ⟨(some p6n30), none, (.faddr 2 (.t p6n1))⟩, ⟨(some p6n31), none, (.ld1 (.t p6n30))⟩, ⟨(some p6n32), none, (.len false (.t p6n31))⟩, ⟨(some p6n33), none, (.bin .lss (.t p6n29) (.t p6n32))⟩]) (.cond (.t p6n33) .skip (.exit 2))) (.seq (.block 3 (.reg [⟨(some p6n36), none, (.mv (.t p6n3))⟩, ⟨(some p6n37), none, (.faddr 2 (.t p6n1))⟩, ⟨(some p6n38), none, (.ld1 (.t p6n37))⟩, ⟨(some p6n39), none, (.mv (.t p6n5))⟩, ⟨(some p6n40), none, (.iaddr 4 (.t p6n38) (.t p6n39))⟩, ⟨(some p6n41), none, (.faddr 0 (.t p6n40))⟩, ⟨(some p6n42), none, (.ld1 (.t p6n41))⟩, ⟨(some p6n43), none, (.buildS 1 1 (.str []) [(0, (.t p6n42))])⟩, ⟨(some p6n44), none, (.app 1 16 (.str []) (.t p6n36) (.t p6n43))⟩, ⟨(some p6n3), none, (.mv (.t p6n44))⟩])) (.reg [⟨(some p6n34), none, (.mv (.t p6n5))⟩, ⟨(some p6n35), none, (.bin .add (.t p6n34) (.c (.int .i64 (.ofNat 1))))⟩, ⟨(some p6n5), none, (.mv (.t p6n35))⟩])))))) (.seq (.reg [⟨(some p6n45), none, (.mv (.t p6n3))⟩, ⟨(some p6n2), none, (.mv (.t p6n45))⟩]) .ret)))))⟩
noncomputable def a368 : AFunc :=
  ⟨5, [p5n0, p5n1], [(p5n4, none)], false, (.seq (.reg [⟨(some p5n4), none, (.mv (.c (.bool false)))⟩]) (.seq (.seq (.reg [⟨(some p5n6), none, (.mv (.t p5n0))⟩, ⟨(some p5n7), none, (.len false (.t p5n6))⟩, ⟨(some p5n8), none, (.mv (.t p5n1))⟩, ⟨(some p5n9), none, (.len false (.t p5n8))⟩, ⟨(some p5n10), none, (.bin .neq (.t p5n7) (.t p5n9))⟩]) (.cond (.t p5n10) (.seq (.reg [⟨(some p5n4), none, (.mv (.c (.bool false)))⟩]) .ret) .skip)) (.seq (.seq (.reg [⟨(some p5n5), none, (.mv (.c (.int .i64 (.ofNat 0))))⟩]) (.block 0 (.loop (.seq (.seq (.reg [⟨(some p5n11), none, (.mv (.t p5n5))⟩, ⟨(some p5n12), none, (.mv (.t p5n0))⟩, ⟨(some p5n13), none, (.len false (.t p5n12))⟩, ⟨(some p5n14), none, (.bin .lss (.t p5n11) (.t p5n13))⟩]) (.cond (.t p5n14) .skip (.exit 0))) (.seq (.block 1 (.seq (.regd [(.pure, ⟨(some p5n17), none, (.mv (.t p5n0))⟩), (.pure, ⟨(some p5n18), none, (.mv (.t p5n5))⟩), (.pure, ⟨(some p5n19), none, (.iaddr 1 (.t p5n17) (.t p5n18))⟩), (.load, ⟨(some p5n20), none, (.ld1 (.t p5n19))⟩), (.pure, ⟨(some p5n21), none, (.mv (.t p5n1))⟩), (.pure, ⟨(some p5n22), none, (.mv (.t p5n5))⟩), (.pure, ⟨(some p5n23), none, (.iaddr 1 (.t p5n21) (.t p5n22))⟩), (.load, ⟨(some p5n24), none, (.ld1 (.t p5n23))⟩)] [⟨(some p5n25), none, (.bin .neq (.t p5n20) (.t p5n24))⟩]) (.cond (.t p5n25) (.seq (.reg [⟨(some p5n4), none, (.mv (.c (.bool false)))⟩]) .ret) .skip))) (.reg [⟨(some p5n15), none, (.mv (.t p5n5))⟩, ⟨(some p5n16), none, (.bin .add (.t p5n15) (.c (.int .i64 (.ofNat 1))))⟩, ⟨(some p5n5), none, (.mv (.t p5n16))⟩])))))) (.seq (.reg [⟨(some p5n4), none, (.mv (.c (.bool true)))⟩]) .ret))))⟩
noncomputable def a377 : AFunc :=
  ⟨4, [p4n0, p4n1], [(p4n4, none)], false, (.seq (.reg [⟨(some p4n4), none, (.mv (.c (.bool false)))⟩]) (.seq (.reg [⟨(some p4n5), none, (.mv (.t p4n0))⟩, ⟨(some p4n6), none, (.bin .geq (.t p4n5) (.c (.int .i64 (.ofNat 0))))⟩, ⟨(some p4n7), none, (.mv (.t p4n6))⟩, ⟨(some p4n8), (some (p4n7, true)), (.mv (.t p4n0))⟩, ⟨(some p4n9), (some (p4n7, true)), (.mv (.t p4n1))⟩, ⟨(some p4n10), (some (p4n7, true)), (.bin .leq (.t p4n8) (.t p4n9))⟩, ⟨(some p4n11), none, (.pick (.t p4n7) (.t p4n10) (.c (.bool false)))⟩, ⟨(some p4n4), none, (.mv (.t p4n11))⟩]) .ret))⟩
noncomputable def a378 : AFunc :=
  ⟨3, [], [(p3n0, none)], false, (.seq (.reg [⟨(some p3n0), none, (.mv (.c .nils))⟩]) (.seq (.reg [⟨(some p3n1), none, (.buildS 1 34 (.str []) [(0, (.c (.str [110, 111, 112]))), (1, (.c (.str [97, 100, 100]))), (2, (.c (.str [115, 117, 98]))), (3, (.c (.str [97, 110, 100]))), (4, (.c (.str [111, 114]))), (5, (.c (.str [120, 111, 114]))), (6, (.c (.str [115, 104, 108]))), (7, (.c (.str [115, 104, 114]))), (8, (.c (.str [115, 97, 114]))), (9, (.c (.str [115, 108, 116]))), (10, (.c (.str [115, 108, 116, 117]))), (11, (.c (.str [101, 113]))), (12, (.c (.str [109, 105, 110]))), (13, (.c (.str [109, 97, 120]))), (14, (.c (.str [109, 117, 108]))), (15, (.c (.str [109, 117, 108, 104]))), (16, (.c (.str [100, 105, 118]))), (17, (.c (.str [114, 101, 109]))), (18, (.c (.str [99, 97, 100, 100]))), (19, (.c (.str [99, 115, 117, 98]))), (20, (.c (.str [99, 109, 117, 108]))), (21, (.c (.str [99, 111, 110, 106]))), (22, (.c (.str [97, 100, 100, 105]))), (23, (.c (.str [108, 105]))), (24, (.c (.str [108, 100]))), (25, (.c (.str [115, 116]))), (26, (.c (.str [105, 110]))), (27, (.c (.str [111, 117, 116]))), (28, (.c (.str [106, 109, 112]))), (29, (.c (.str [98, 122]))), (30, (.c (.str [98, 110, 122]))), (31, (.c (.str [99, 97, 108, 108]))), (32, (.c (.str [114, 101, 116]))), (33, (.c (.str [104, 97, 108, 116])))])⟩, ⟨(some p3n0), none, (.mv (.t p3n1))⟩]) .ret))⟩
noncomputable def a379 : AFunc :=
  ⟨3, [p3n0], [(p3n2, none)], false, (.seq (.reg [⟨(some p3n2), none, (.mv (.c (.int .i64 (.ofNat 0))))⟩]) (.seq (.reg [⟨(some p3n3), none, (.buildS 1 34 (.int .i64 (.ofNat 0)) [(0, (.c (.int .i64 (.ofNat 0)))), (1, (.c (.int .i64 (.ofNat 1)))), (2, (.c (.int .i64 (.ofNat 1)))), (3, (.c (.int .i64 (.ofNat 1)))), (4, (.c (.int .i64 (.ofNat 1)))), (5, (.c (.int .i64 (.ofNat 1)))), (6, (.c (.int .i64 (.ofNat 1)))), (7, (.c (.int .i64 (.ofNat 1)))), (8, (.c (.int .i64 (.ofNat 1)))), (9, (.c (.int .i64 (.ofNat 1)))), (10, (.c (.int .i64 (.ofNat 1)))), (11, (.c (.int .i64 (.ofNat 1)))), (12, (.c (.int .i64 (.ofNat 1)))), (13, (.c (.int .i64 (.ofNat 1)))), (14, (.c (.int .i64 (.ofNat 1)))), (15, (.c (.int .i64 (.ofNat 1)))), (16, (.c (.int .i64 (.ofNat 1)))), (17, (.c (.int .i64 (.ofNat 1)))), (18, (.c (.int .i64 (.ofNat 1)))), (19, (.c (.int .i64 (.ofNat 1)))), (20, (.c (.int .i64 (.ofNat 1)))), (21, (.c (.int .i64 (.ofNat 2)))), (22, (.c (.int .i64 (.ofNat 3)))), (23, (.c (.int .i64 (.ofNat 4)))), (24, (.c (.int .i64 (.ofNat 3)))), (25, (.c (.int .i64 (.ofNat 5)))), (26, (.c (.int .i64 (.ofNat 6)))), (27, (.c (.int .i64 (.ofNat 7)))), (28, (.c (.int .i64 (.ofNat 8)))), (29, (.c (.int .i64 (.ofNat 9)))), (30, (.c (.int .i64 (.ofNat 9)))), (31, (.c (.int .i64 (.ofNat 8)))), (32, (.c (.int .i64 (.ofNat 0)))), (33, (.c (.int .i64 (.ofNat 0))))])⟩, ⟨(some p3n4), none, (.mv (.t p3n0))⟩, ⟨(some p3n5), none, (.iaddr 1 (.t p3n3) (.t p3n4))⟩, ⟨(some p3n6), none, (.ld1 (.t p3n5))⟩, ⟨(some p3n2), none, (.mv (.t p3n6))⟩]) .ret))⟩
noncomputable def a380 : AFunc :=
  ⟨4, [p4n0], [(p4n2, none)], false, (.seq (.reg [⟨(some p4n2), none, (.mv (.c (.bool false)))⟩]) (.seq (.reg [⟨(some p4n3), none, (.mv (.t p4n0))⟩, ⟨(some p4n4), none, (.call 46 [(.t p4n3), (.c (.int .i64 (.ofNat 1))), (.c (.int .i64 (.ofNat 4)))])⟩, ⟨(some p4n5), none, (.mv (.t p4n4))⟩, ⟨(some p4n6), (some (p4n5, false)), (.mv (.t p4n0))⟩, ⟨(some p4n7), (some (p4n5, false)), (.bin .eql (.t p4n6) (.c (.int .i64 (.ofNat 6))))⟩, ⟨(some p4n8), none, (.pick (.t p4n5) (.c (.bool true)) (.t p4n7))⟩, ⟨(some p4n2), none, (.mv (.t p4n8))⟩]) .ret))⟩
noncomputable def a381 : AFunc :=
  ⟨5, [p5n0], [(p5n2, none)], false, (.seq (.reg [⟨(some p5n2), none, (.mv (.c (.bool false)))⟩]) (.seq (.reg [⟨(some p5n3), none, (.mv (.t p5n0))⟩, ⟨(some p5n4), none, (.call 46 [(.t p5n3), (.c (.int .i64 (.ofNat 1))), (.c (.int .i64 (.ofNat 3)))])⟩, ⟨(some p5n5), none, (.mv (.t p5n4))⟩, ⟨(some p5n6), (some (p5n5, false)), (.mv (.t p5n0))⟩, ⟨(some p5n7), (some (p5n5, false)), (.bin .eql (.t p5n6) (.c (.int .i64 (.ofNat 5))))⟩, ⟨(some p5n8), none, (.pick (.t p5n5) (.c (.bool true)) (.t p5n7))⟩, ⟨(some p5n9), none, (.mv (.t p5n8))⟩, ⟨(some p5n10), (some (p5n9, false)), (.mv (.t p5n0))⟩, ⟨(some p5n11), (some (p5n9, false)), (.bin .eql (.t p5n10) (.c (.int .i64 (.ofNat 7))))⟩, ⟨(some p5n12), none, (.pick (.t p5n9) (.c (.bool true)) (.t p5n11))⟩, ⟨(some p5n13), none, (.mv (.t p5n12))⟩, ⟨(some p5n14), (some (p5n13, false)), (.mv (.t p5n0))⟩, ⟨(some p5n15), (some (p5n13, false)), (.bin .eql (.t p5n14) (.c (.int .i64 (.ofNat 9))))⟩, ⟨(some p5n16), none, (.pick (.t p5n13) (.c (.bool true)) (.t p5n15))⟩, ⟨(some p5n2), none, (.mv (.t p5n16))⟩]) .ret))⟩
noncomputable def a382 : AFunc :=
  ⟨4, [p4n0], [(p4n2, none)], false, (.seq (.reg [⟨(some p4n2), none, (.mv (.c (.int .i64 (.ofNat 0))))⟩]) (.seq (.seq (.reg [⟨(some p4n3), none, (.mv (.t p4n0))⟩]) (.block 0 (.seq (.seq (.reg [⟨(some p4n5), none, (.bin .eql (.t p4n3) (.c (.int .i64 (.ofNat 3))))⟩, ⟨(some p4n4), none, (.mv (.t p4n5))⟩]) (.cond (.t p4n4) .skip (.seq (.reg [⟨(some p4n6), none, (.bin .eql (.t p4n3) (.c (.int .i64 (.ofNat 5))))⟩, ⟨(some p4n4), none, (.mv (.t p4n6))⟩]) (.cond (.t p4n4) .skip (.reg [⟨(some p4n7), none, (.bin .eql (.t p4n3) (.c (.int .i64 (.ofNat 9))))⟩, ⟨(some p4n4), none, (.mv (.t p4n7))⟩]))))) (.cond (.t p4n4) (.seq (.reg [⟨(some p4n2), none, (.mv (.c (.int .i64 (.ofNat 14))))⟩]) .ret) (.seq (.seq (.reg [⟨(some p4n9), none, (.bin .eql (.t p4n3) (.c (.int .i64 (.ofNat 4))))⟩, ⟨(some p4n8), none, (.mv (.t p4n9))⟩]) (.cond (.t p4n8) .skip (.reg [⟨(some p4n10), none, (.bin .eql (.t p4n3) (.c (.int .i64 (.ofNat 8))))⟩, ⟨(some p4n8), none, (.mv (.t p4n10))⟩]))) (.cond (.t p4n8) (.seq (.reg [⟨(some p4n2), none, (.mv (.c (.int .i64 (.ofNat 18))))⟩]) .ret) .skip)))))) (.seq (.reg [⟨(some p4n2), none, (.mv (.c (.int .i64 (.ofNat 0))))⟩]) .ret)))⟩
noncomputable def a383 : AFunc :=
  ⟨7, [p7n0, p7n1, p7n2], [], true, (.seq (.reg [⟨(some p7n10), none, (.mv (.t p7n0))⟩, ⟨(some p7n11), none, (.nilck (.t p7n10))⟩, ⟨(some p7n12), none, (.faddr 0 (.t p7n11))⟩, ⟨(some p7n13), none, (.ld1 (.t p7n12))⟩, ⟨(some p7n14), none, (.mv (.t p7n2))⟩, ⟨(some p7n15), none, (.call 35 [(.t p7n13), (.t p7n14)])⟩, ⟨(some p7n9), none, (.mv (.t p7n15))⟩, ⟨(some p7n16), none, (.ext (.t p7n9) 0)⟩, ⟨(some p7n17), none, (.ext (.t p7n9) 1)⟩, ⟨(some p7n6), none, (.alloc [(.str []), (.int .i64 (.ofNat 0))])⟩, ⟨none, none, (.st 2 (.t p7n6) (.t p7n16))⟩, ⟨(some p7n7), none, (.mv (.t p7n17))⟩]) (.seq (.seq (.reg [⟨(some p7n18), none, (.mv (.t p7n7))⟩, ⟨(some p7n19), none, (.bin .neq (.t p7n18) (.c (.int .i64 (.ofNat 0))))⟩]) (.cond (.t p7n19) (.seq (.reg [⟨(some p7n20), none, (.mv (.t p7n0))⟩, ⟨(some p7n21), none, (.mv (.t p7n7))⟩, ⟨(some p7n22), none, (.nilck (.t p7n20))⟩, ⟨(some p7n23), none, (.faddr 8 (.t p7n22))⟩, ⟨none, none, (.st 1 (.t p7n23) (.t p7n21))⟩]) .ret) .skip)) (.seq (.reg [⟨(some p7n24), none, (.mv (.t p7n1))⟩, ⟨(some p7n25), none, (.nilck (.t p7n24))⟩, ⟨(some p7n26), none, (.faddr 0 (.t p7n25))⟩, ⟨(some p7n27), none, (.ld1 (.t p7n26))⟩, ⟨(some p7n28), none, (.call 379 [(.t p7n27)])⟩, ⟨(some p7n8), none, (.mv (.t p7n28))⟩]) (.seq (.seq (.reg [⟨(some p7n29), none, (.mv (.t p7n8))⟩, ⟨(some p7n30), none, (.call 395 [(.t p7n29)])⟩]) (.cond (.t p7n30) (.seq (.reg [⟨(some p7n31), none, (.faddr 0 (.t p7n6))⟩, ⟨(some p7n32), none, (.ld1 (.t p7n31))⟩, ⟨(some p7n33), none, (.bin .eql (.t p7n32) (.c (.str [])))⟩, ⟨(some p7n34), none, (.mv (.t p7n33))⟩, ⟨(some p7n35), (some (p7n34, false)), (.faddr 1 (.t p7n6))⟩, ⟨(some p7n36), (some (p7n34, false)), (.ld1 (.t p7n35))⟩, ⟨(some p7n37), (some (p7n34, false)), (.bin .neq (.t p7n36) (.c (.int .i64 (.ofNat 0))))⟩, ⟨(some p7n38), none, (.pick (.t p7n34) (.c (.bool true)) (.t p7n37))⟩]) (.cond (.t p7n38) (.reg [⟨(some p7n39), none, (.mv (.t p7n0))⟩, ⟨(some p7n40), none, (.nilck (.t p7n39))⟩, ⟨(some p7n41), none, (.faddr 8 (.t p7n40))⟩, ⟨none, none, (.st 1 (.t p7n41) (.c (.int .i64 (.ofNat 6))))⟩]) .skip)) (.seq (.reg [⟨(some p7n42), none, (.faddr 0 (.t p7n6))⟩, ⟨(some p7n43), none, (.ld1 (.t p7n42))⟩, ⟨(some p7n44), none, (.bin .neq (.t p7n43) (.c (.str [])))⟩, ⟨(some p7n45), none, (.mv (.t p7n44))⟩, ⟨(some p7n46), (some (p7n45, true)), (.mv (.t p7n1))⟩, ⟨(some p7n47), (some (p7n45, true)), (.nilck (.t p7n46))⟩, ⟨(some p7n48), (some (p7n45, true)), (.faddr 0 (.t p7n47))⟩, ⟨(some p7n49), (some (p7n45, true)), (.ld1 (.t p7n48))⟩, ⟨(some p7n50), (some (p7n45, true)), (.bin .neq (.t p7n49) (.c (.int .i64 (.ofNat 23))))⟩, ⟨(some p7n51), none, (.pick (.t p7n45) (.t p7n50) (.c (.bool false)))⟩]) (.cond (.t p7n51) (.reg [⟨(some p7n52), none, (.mv (.t p7n0))⟩, ⟨(some p7n53), none, (.nilck (.t p7n52))⟩, ⟨(some p7n54), none, (.faddr 8 (.t p7n53))⟩, ⟨none, none, (.st 1 (.t p7n54) (.c (.int .i64 (.ofNat 6))))⟩]) (.seq (.regd [(.pure, ⟨(some p7n55), none, (.faddr 1 (.t p7n6))⟩), (.load, ⟨(some p7n56), none, (.ld1 (.t p7n55))⟩), (.pure, ⟨(some p7n57), none, (.mv (.t p7n8))⟩), (.iso, ⟨(some p7n58), none, (.call 382 [(.t p7n57)])⟩)] [⟨(some p7n59), none, (.call 396 [(.t p7n56), (.t p7n58)])⟩, ⟨(some p7n60), none, (.un .not (.t p7n59))⟩]) (.cond (.t p7n60) (.reg [⟨(some p7n61), none, (.mv (.t p7n0))⟩, ⟨(some p7n62), none, (.nilck (.t p7n61))⟩, ⟨(some p7n63), none, (.faddr 8 (.t p7n62))⟩, ⟨none, none, (.st 1 (.t p7n63) (.c (.int .i64 (.ofNat 7))))⟩]) .skip)))))) (.regd [(.pure, ⟨(some p7n64), none, (.mv (.t p7n1))⟩), (.pure, ⟨(some p7n65), none, (.mv (.t p7n1))⟩), (.pure, ⟨(some p7n66), none, (.faddr 1 (.t p7n6))⟩), ((.loadm 3 4), ⟨(some p7n67), none, (.ld1 (.t p7n66))⟩), (.pure, ⟨(some p7n68), none, (.faddr 0 (.t p7n6))⟩), ((.loadm 5 16), ⟨(some p7n69), none, (.ld1 (.t p7n68))⟩), (.pure, ⟨(some p7n70), none, (.nilck (.t p7n64))⟩), (.pure, ⟨(some p7n71), none, (.faddr 4 (.t p7n70))⟩), ((.sto 8 205), ⟨none, none, (.st 1 (.t p7n71) (.t p7n67))⟩)] [⟨(some p7n72), none, (.nilck (.t p7n65))⟩, ⟨(some p7n73), none, (.faddr 5 (.t p7n72))⟩, ⟨none, none, (.st 1 (.t p7n73) (.t p7n69))⟩])))))⟩
noncomputable def a384 : AFunc :=
  ⟨5, [p5n0], [(p5n2, none)], false, (.seq (.reg [⟨(some p5n2), none, (.mv (.c (.int .i64 (.ofNat 0))))⟩]) (.seq (.seq (.reg [⟨(some p5n3), none, (.mv (.c (.int .i64 (.ofNat 0))))⟩]) (.block 0 (.loop (.seq (.seq (.reg [⟨(some p5n4), none, (.mv (.t p5n3))⟩, ⟨(some p5n5), none, (.bin .lss (.t p5n4) (.c (.int .i64 (.ofNat 16))))⟩, ⟨(some p5n6), none, (.mv (.t p5n5))⟩, ⟨(some p5n7), (some (p5n6, true)), (.mv (.t p5n0))⟩, ⟨(some p5n8), (some (p5n6, true)), (.len false (.t p5n7))⟩, ⟨(some p5n9), (some (p5n6, true)), (.bin .eql (.t p5n8) (.c (.int .i64 (.ofNat 1))))⟩, ⟨(some p5n10), none, (.pick (.t p5n6) (.t p5n9) (.c (.bool false)))⟩]) (.cond (.t p5n10) .skip (.exit 0))) (.seq (.block 1 (.seq (.regd [(.pure, ⟨(some p5n13), none, (.mv (.t p5n0))⟩), (.pure, ⟨(some p5n14), none, (.iaddr 4 (.t p5n13) (.c (.int .i64 (.ofNat 0))))⟩), (.pure, ⟨(some p5n15), none, (.faddr 0 (.t p5n14))⟩), (.load, ⟨(some p5n16), none, (.ld1 (.t p5n15))⟩), (.pure, ⟨(some p5n17), none, (.bin .eql (.t p5n16) (.c (.int .i64 (.ofNat 1))))⟩), (.pure, ⟨(some p5n18), none, (.mv (.t p5n17))⟩), (.pure, ⟨(some p5n19), (some (p5n18, true)), (.mv (.t p5n0))⟩), (.pure, ⟨(some p5n20), (some (p5n18, true)), (.iaddr 4 (.t p5n19) (.c (.int .i64 (.ofNat 0))))⟩), (.pure, ⟨(some p5n21), (some (p5n18, true)), (.faddr 1 (.t p5n20))⟩), (.load, ⟨(some p5n22), (some (p5n18, true)), (.ld1 (.t p5n21))⟩), (.pure, ⟨(some p5n23), (some (p5n18, true)), (.mv (.t p5n3))⟩), (.iso, ⟨(some p5n24), (some (p5n18, true)), (.call 289 [(.t p5n23)])⟩), (.pure, ⟨(some p5n25), (some (p5n18, true)), (.bin .add (.c (.str [114])) (.t p5n24))⟩)] [⟨(some p5n26), (some (p5n18, true)), (.bin .eql (.t p5n22) (.t p5n25))⟩, ⟨(some p5n27), none, (.pick (.t p5n18) (.t p5n26) (.c (.bool false)))⟩]) (.cond (.t p5n27) (.seq (.reg [⟨(some p5n28), none, (.mv (.t p5n3))⟩, ⟨(some p5n2), none, (.mv (.t p5n28))⟩]) .ret) .skip))) (.reg [⟨(some p5n11), none, (.mv (.t p5n3))⟩, ⟨(some p5n12), none, (.bin .add (.t p5n11) (.c (.int .i64 (.ofNat 1))))⟩, ⟨(some p5n3), none, (.mv (.t p5n12))⟩])))))) (.seq (.reg [⟨(some p5n2), none, (.mv (.c (.int .i64 (.negSucc 0))))⟩]) .ret)))⟩
noncomputable def a385 : AFunc :=
  ⟨6, [p6n0], [(p6n2, none)], false, (.seq (.reg [⟨(some p6n1), none, (.box (.t p6n0))⟩, ⟨(some p6n2), none, (.mv (.c (.bool false)))⟩]) (.seq (.seq (.reg [⟨(some p6n4), none, (.faddr 0 (.t p6n1))⟩, ⟨(some p6n5), none, (.ld1 (.t p6n4))⟩, ⟨(some p6n6), none, (.call 397 [(.t p6n5), (.c (.fn 398 [] []))])⟩, ⟨(some p6n7), none, (.mv (.t p6n6))⟩, ⟨(some p6n8), (some (p6n7, false)), (.ldA 4 (.t p6n1))⟩, ⟨(some p6n9), (some (p6n7, false)), (.call 400 [(.t p6n8)])⟩, ⟨(some p6n10), (some (p6n7, false)), (.bin .gtr (.t p6n9) (.c (.int .i64 (.ofNat 200))))⟩, ⟨(some p6n11), none, (.pick (.t p6n7) (.c (.bool true)) (.t p6n10))⟩, ⟨(some p6n12), none, (.mv (.t p6n11))⟩, ⟨(some p6n13), (some (p6n12, false)), (.ldA 4 (.t p6n1))⟩, ⟨(some p6n14), (some (p6n12, false)), (.call 401 [(.t p6n13)])⟩, ⟨(some p6n15), (some (p6n12, false)), (.un .not (.t p6n14))⟩, ⟨(some p6n16), none, (.pick (.t p6n12) (.c (.bool true)) (.t p6n15))⟩]) (.cond (.t p6n16) (.seq (.reg [⟨(some p6n2), none, (.mv (.c (.bool false)))⟩]) .ret) .skip)) (.seq (.reg [⟨(some p6n17), none, (.ldA 4 (.t p6n1))⟩, ⟨(some p6n18), none, (.call 402 [(.t p6n17)])⟩, ⟨(some p6n3), none, (.alloc [.nils])⟩, ⟨none, none, (.st 1 (.t p6n3) (.t p6n18))⟩]) (.seq (.seq (.reg [⟨(some p6n19), none, (.ld1 (.t p6n3))⟩, ⟨(some p6n20), none, (.len false (.t p6n19))⟩, ⟨(some p6n21), none, (.bin .gtr (.t p6n20) (.c (.int .i64 (.ofNat 60))))⟩, ⟨(some p6n22), none, (.mv (.t p6n21))⟩, ⟨(some p6n23), (some (p6n22, false)), (.ld1 (.t p6n3))⟩, ⟨(some p6n24), (some (p6n22, false)), (.call 403 [(.t p6n23)])⟩, ⟨(some p6n25), (some (p6n22, false)), (.un .not (.t p6n24))⟩, ⟨(some p6n26), none, (.pick (.t p6n22) (.c (.bool true)) (.t p6n25))⟩, ⟨(some p6n27), none, (.mv (.t p6n26))⟩, ⟨(some p6n28), (some (p6n27, false)), (.faddr 3 (.t p6n1))⟩, ⟨(some p6n29), (some (p6n27, false)), (.ld1 (.t p6n28))⟩, ⟨(some p6n30), (some (p6n27, false)), (.call 403 [(.t p6n29)])⟩, ⟨(some p6n31), (some (p6n27, false)), (.un .not (.t p6n30))⟩, ⟨(some p6n32), none, (.pick (.t p6n27) (.c (.bool true)) (.t p6n31))⟩, ⟨(some p6n33), none, (.mv (.t p6n32))⟩, ⟨(some p6n34), (some (p6n33, false)), (.faddr 3 (.t p6n1))⟩, ⟨(some p6n35), (some (p6n33, false)), (.ld1 (.t p6n34))⟩, ⟨(some p6n36), (some (p6n33, false)), (.call 404 [(.t p6n35)])⟩, ⟨(some p6n37), (some (p6n33, false)), (.un .not (.t p6n36))⟩, ⟨(some p6n38), none, (.pick (.t p6n33) (.c (.bool true)) (.t p6n37))⟩]) (.cond (.t p6n38) (.seq (.reg [⟨(some p6n2), none, (.mv (.c (.bool false)))⟩]) .ret) .skip)) (.seq (.reg [⟨(some p6n39), none, (.faddr 3 (.t p6n1))⟩, ⟨(some p6n40), none, (.ld1 (.t p6n39))⟩, ⟨(some p6n41), none, (.mkfn 405 [] [(.t p6n3)])⟩, ⟨(some p6n42), none, (.call 201 [(.t p6n40), (.t p6n41)])⟩, ⟨(some p6n43), none, (.un .not (.t p6n42))⟩, ⟨(some p6n2), none, (.mv (.t p6n43))⟩]) .ret)))))⟩
noncomputable def a395 : AFunc :=
  ⟨4, [p4n0], [(p4n2, none)], false, (.seq (.reg [⟨(some p4n2), none, (.mv (.c (.bool false)))⟩]) (.seq (.reg [⟨(some p4n3), none, (.mv (.t p4n0))⟩, ⟨(some p4n4), none, (.bin .eql (.t p4n3) (.c (.int .i64 (.ofNat 8))))⟩, ⟨(some p4n5), none, (.mv (.t p4n4))⟩, ⟨(some p4n6), (some (p4n5, false)), (.mv (.t p4n0))⟩, ⟨(some p4n7), (some (p4n5, false)), (.bin .eql (.t p4n6) (.c (.int .i64 (.ofNat 9))))⟩, ⟨(some p4n8), none, (.pick (.t p4n5) (.c (.bool true)) (.t p4n7))⟩, ⟨(some p4n2), none, (.mv (.t p4n8))⟩]) .ret))⟩
noncomputable def a396 : AFunc :=
  ⟨5, [p5n0, p5n1], [(p5n4, none)], false, (.seq (.reg [⟨(some p5n4), none, (.mv (.c (.bool false)))⟩]) (.seq (.reg [⟨(some p5n6), none, (.mv (.t p5n1))⟩, ⟨(some p5n7), none, (.bin .sub (.t p5n6) (.c (.int .i64 (.ofNat 1))))⟩, ⟨(some p5n8), none, (.bin .shl (.c (.int .i64 (.ofNat 1))) (.t p5n7))⟩, ⟨(some p5n5), none, (.mv (.t p5n8))⟩]) (.seq (.reg [⟨(some p5n9), none, (.mv (.t p5n0))⟩, ⟨(some p5n10), none, (.mv (.t p5n5))⟩, ⟨(some p5n11), none, (.un .neg (.t p5n10))⟩, ⟨(some p5n12), none, (.bin .geq (.t p5n9) (.t p5n11))⟩, ⟨(some p5n13), none, (.mv (.t p5n12))⟩, ⟨(some p5n14), (some (p5n13, true)), (.mv (.t p5n0))⟩, ⟨(some p5n15), (some (p5n13, true)), (.mv (.t p5n5))⟩, ⟨(some p5n16), (some (p5n13, true)), (.bin .lss (.t p5n14) (.t p5n15))⟩, ⟨(some p5n17), none, (.pick (.t p5n13) (.t p5n16) (.c (.bool false)))⟩, ⟨(some p5n4), none, (.mv (.t p5n17))⟩]) .ret)))⟩
noncomputable def a397 : AFunc :=
  ⟨4, [p4n0, p4n1], [(p4n4, none)], false, (.seq (.reg [⟨(some p4n4), none, (.mv (.c (.bool false)))⟩]) (.seq (.reg [⟨(some p4n5), none, (.mv (.t p4n0))⟩, ⟨(some p4n6), none, (.mv (.t p4n1))⟩, ⟨(some p4n7), none, (.call 417 [(.t p4n5), (.t p4n6)])⟩, ⟨(some p4n8), none, (.bin .geq (.t p4n7) (.c (.int .i64 (.ofNat 0))))⟩, ⟨(some p4n4), none, (.mv (.t p4n8))⟩]) .ret))⟩
noncomputable def a398 : AFunc :=
  ⟨3, [p3n0], [(p3n2, none)], false, (.seq (.reg [⟨(some p3n1), none, (.box (.t p3n0))⟩, ⟨(some p3n2), none, (.mv (.c (.bool false)))⟩]) (.seq (.reg [⟨(some p3n3), none, (.ldA 7 (.t p3n1))⟩, ⟨(some p3n4), none, (.call 399 [(.t p3n3)])⟩, ⟨(some p3n5), none, (.un .not (.t p3n4))⟩, ⟨(some p3n2), none, (.mv (.t p3n5))⟩]) .ret))⟩
noncomputable def a399 : AFunc :=
  ⟨5, [p5n0], [(p5n2, none)], false, (.seq (.reg [⟨(some p5n1), none, (.box (.t p5n0))⟩, ⟨(some p5n2), none, (.mv (.c (.bool false)))⟩]) (.seq (.seq (.reg [⟨(some p5n3), none, (.faddr 0 (.t p5n1))⟩, ⟨(some p5n4), none, (.ld1 (.t p5n3))⟩, ⟨(some p5n5), none, (.bin .neq (.t p5n4) (.c (.str [])))⟩]) (.cond (.t p5n5) (.seq (.reg [⟨(some p5n6), none, (.faddr 0 (.t p5n1))⟩, ⟨(some p5n7), none, (.ld1 (.t p5n6))⟩, ⟨(some p5n8), none, (.call 82 [(.t p5n7)])⟩, ⟨(some p5n9), none, (.mv (.t p5n8))⟩, ⟨(some p5n10), (some (p5n9, true)), (.faddr 1 (.t p5n1))⟩, ⟨(some p5n11), (some (p5n9, true)), (.ldA 6 (.t p5n10))⟩, ⟨(some p5n12), (some (p5n9, true)), (.build [(.int .i64 (.ofNat 0)), (.int .i64 (.ofNat 0)), (.int .i64 (.ofNat 0)), (.int .i64 (.ofNat 0)), (.int .i64 (.ofNat 0)), (.str [])] [])⟩, ⟨(some p5n13), (some (p5n9, true)), (.eqs (.st [(0, (1, (false, .int))), (1, (1, (false, .int))), (2, (1, (false, .int))), (3, (1, (false, .int))), (4, (1, (false, .int))), (5, (1, (false, .str)))]) false (.t p5n11) (.t p5n12))⟩, ⟨(some p5n14), none, (.pick (.t p5n9) (.t p5n13) (.c (.bool false)))⟩, ⟨(some p5n2), none, (.mv (.t p5n14))⟩]) .ret) .skip)) (.seq (.reg [⟨(some p5n15), none, (.faddr 1 (.t p5n1))⟩, ⟨(some p5n16), none, (.ldA 6 (.t p5n15))⟩, ⟨(some p5n17), none, (.call 242 [(.t p5n16)])⟩, ⟨(some p5n18), none, (.mv (.t p5n17))⟩, ⟨(some p5n19), (some (p5n18, true)), (.faddr 1 (.t p5n1))⟩, ⟨(some p5n20), (some (p5n18, true)), (.faddr 0 (.t p5n19))⟩, ⟨(some p5n21), (some (p5n18, true)), (.ld1 (.t p5n20))⟩, ⟨(some p5n22), (some (p5n18, true)), (.call 231 [(.t p5n21)])⟩, ⟨(some p5n23), (some (p5n18, true)), (.call 230 [(.t p5n22)])⟩, ⟨(some p5n24), (some (p5n18, true)), (.un .not (.t p5n23))⟩, ⟨(some p5n25), (some (p5n18, true)), (.mv (.t p5n24))⟩, ⟨(some p5n26), (some (p5n25, false)), (.faddr 1 (.t p5n1))⟩, ⟨(some p5n27), (some (p5n25, false)), (.faddr 5 (.t p5n26))⟩, ⟨(some p5n28), (some (p5n25, false)), (.ld1 (.t p5n27))⟩, ⟨(some p5n29), (some (p5n25, false)), (.bin .neq (.t p5n28) (.c (.str [])))⟩, ⟨(some p5n30), (some (p5n18, true)), (.pick (.t p5n25) (.c (.bool true)) (.t p5n29))⟩, ⟨(some p5n31), none, (.pick (.t p5n18) (.t p5n30) (.c (.bool false)))⟩, ⟨(some p5n2), none, (.mv (.t p5n31))⟩]) .ret)))⟩
noncomputable def a400 : AFunc :=
  ⟨5, [p5n0], [(p5n2, none)], false, (.seq (.reg [⟨(some p5n1), none, (.box (.t p5n0))⟩, ⟨(some p5n2), none, (.mv (.c (.int .i64 (.ofNat 0))))⟩]) (.seq (.reg [⟨(some p5n3), none, (.mv (.c (.int .i64 (.ofNat 0))))⟩]) (.seq (.seq (.reg [⟨(some p5n6), none, (.faddr 0 (.t p5n1))⟩, ⟨(some p5n7), none, (.ld1 (.t p5n6))⟩, ⟨(some p5n8), none, (.len false (.t p5n7))⟩, ⟨(some p5n9), none, (.mv (.c (.int .i64 (.ofNat 0))))⟩]) (.block 0 (.loop (.seq (.reg [⟨(some p5n10), none, (.bin .lss (.t p5n9) (.t p5n8))⟩]) (.seq (.cond (.t p5n10) .skip (.exit 0)) (.seq (.block 1 (.seq (.reg [⟨(some p5n11), none, (.iaddr 7 (.t p5n7) (.t p5n9))⟩, ⟨(some p5n12), none, (.ldA 7 (.t p5n11))⟩, ⟨(some p5n5), none, (.alloc [(.str []), (.int .i64 (.ofNat 0)), (.int .i64 (.ofNat 0)), (.int .i64 (.ofNat 0)), (.int .i64 (.ofNat 0)), (.int .i64 (.ofNat 0)), (.str [])])⟩, ⟨none, none, (.st 7 (.t p5n5) (.t p5n12))⟩]) (.seq (.reg [⟨(some p5n13), none, (.faddr 0 (.t p5n5))⟩, ⟨(some p5n14), none, (.ld1 (.t p5n13))⟩, ⟨(some p5n15), none, (.bin .eql (.t p5n14) (.c (.str [])))⟩]) (.cond (.t p5n15) (.reg [⟨(some p5n16), none, (.mv (.t p5n3))⟩, ⟨(some p5n17), none, (.bin .add (.t p5n16) (.c (.int .i64 (.ofNat 1))))⟩, ⟨(some p5n3), none, (.mv (.t p5n17))⟩]) .skip)))) (.reg [⟨(some p5n18), none, (.bin .add (.t p5n9) (.c (.int .i64 (.ofNat 1))))⟩, ⟨(some p5n9), none, (.mv (.t p5n18))⟩]))))))) (.seq (.reg [⟨(some p5n19), none, (.mv (.t p5n3))⟩, ⟨(some p5n2), none, (.mv (.t p5n19))⟩]) .ret))))⟩
noncomputable def a401 : AFunc :=
  ⟨6, [p6n0], [(p6n2, none)], false, (.seq (.reg [⟨(some p6n1), none, (.box (.t p6n0))⟩, ⟨(some p6n2), none, (.mv (.c (.bool false)))⟩]) (.seq (.reg [⟨(some p6n3), none, (.mv (.c (.int .i64 (.ofNat 0))))⟩]) (.seq (.seq (.reg [⟨(some p6n6), none, (.faddr 2 (.t p6n1))⟩, ⟨(some p6n7), none, (.ld1 (.t p6n6))⟩, ⟨(some p6n8), none, (.len false (.t p6n7))⟩, ⟨(some p6n9), none, (.mv (.c (.int .i64 (.ofNat 0))))⟩]) (.block 0 (.loop (.seq (.reg [⟨(some p6n10), none, (.bin .lss (.t p6n9) (.t p6n8))⟩]) (.seq (.cond (.t p6n10) .skip (.exit 0)) (.seq (.block 1 (.seq (.reg [⟨(some p6n11), none, (.iaddr 4 (.t p6n7) (.t p6n9))⟩, ⟨(some p6n12), none, (.ldA 4 (.t p6n11))⟩, ⟨(some p6n5), none, (.alloc [(.str []), (.bool false), (.int .i64 (.ofNat 0)), (.bool false)])⟩, ⟨none, none, (.st 4 (.t p6n5) (.t p6n12))⟩]) (.seq (.seq (.reg [⟨(some p6n13), none, (.faddr 0 (.t p6n5))⟩, ⟨(some p6n14), none, (.ld1 (.t p6n13))⟩, ⟨(some p6n15), none, (.call 82 [(.t p6n14)])⟩, ⟨(some p6n16), none, (.un .not (.t p6n15))⟩, ⟨(some p6n17), none, (.mv (.t p6n16))⟩, ⟨(some p6n18), (some (p6n17, false)), (.faddr 1 (.t p6n5))⟩, ⟨(some p6n19), (some (p6n17, false)), (.ld1 (.t p6n18))⟩, ⟨(some p6n20), none, (.pick (.t p6n17) (.c (.bool true)) (.t p6n19))⟩, ⟨(some p6n21), none, (.mv (.t p6n20))⟩, ⟨(some p6n22), (some (p6n21, false)), (.faddr 3 (.t p6n5))⟩, ⟨(some p6n23), (some (p6n21, false)), (.ld1 (.t p6n22))⟩, ⟨(some p6n24), none, (.pick (.t p6n21) (.c (.bool true)) (.t p6n23))⟩, ⟨(some p6n25), none, (.mv (.t p6n24))⟩, ⟨(some p6n26), (some (p6n25, false)), (.faddr 2 (.t p6n5))⟩, ⟨(some p6n27), (some (p6n25, false)), (.ld1 (.t p6n26))⟩, ⟨(some p6n28), (some (p6n25, false)), (.mv (.t p6n3))⟩, ⟨(some p6n29), (some (p6n25, false)), (.bin .lss (.t p6n27) (.t p6n28))⟩, ⟨(some p6n30), none, (.pick (.t p6n25) (.c (.bool true)) (.t p6n29))⟩, ⟨(some p6n31), none, (.mv (.t p6n30))⟩, ⟨(some p6n32), (some (p6n31, false)), (.faddr 2 (.t p6n5))⟩, ⟨(some p6n33), (some (p6n31, false)), (.ld1 (.t p6n32))⟩, ⟨(some p6n34), (some (p6n31, false)), (.faddr 1 (.t p6n1))⟩, ⟨(some p6n35), (some (p6n31, false)), (.ld1 (.t p6n34))⟩, ⟨(some p6n36), (some (p6n31, false)), (.len false (.t p6n35))⟩, ⟨(some p6n37), (some (p6n31, false)), (.bin .gtr (.t p6n33) (.t p6n36))⟩, ⟨(some p6n38), none, (.pick (.t p6n31) (.c (.bool true)) (.t p6n37))⟩]) (.cond (.t p6n38) (.seq (.reg [⟨(some p6n2), none, (.mv (.c (.bool false)))⟩]) .ret) .skip)) (.reg [⟨(some p6n39), none, (.faddr 2 (.t p6n5))⟩, ⟨(some p6n40), none, (.ld1 (.t p6n39))⟩, ⟨(some p6n3), none, (.mv (.t p6n40))⟩])))) (.reg [⟨(some p6n41), none, (.bin .add (.t p6n9) (.c (.int .i64 (.ofNat 1))))⟩, ⟨(some p6n9), none, (.mv (.t p6n41))⟩]))))))) (.seq (.reg [⟨(some p6n42), none, (.faddr 1 (.t p6n1))⟩, ⟨(some p6n43), none, (.ld1 (.t p6n42))⟩, ⟨(some p6n44), none, (.len false (.t p6n43))⟩, ⟨(some p6n45), none, (.bin .leq (.t p6n44) (.c (.int .i64 (.ofNat 128))))⟩, ⟨(some p6n46), none, (.mv (.t p6n45))⟩, ⟨(some p6n47), (some (p6n46, true)), (.faddr 1 (.t p6n1))⟩, ⟨(some p6n48), (some (p6n46, true)), (.ld1 (.t p6n47))⟩, ⟨(some p6n49), (some (p6n46, true)), (.call 62 [(.t p6n48), (.c (.fn 418 [] []))])⟩, ⟨(some p6n50), (some (p6n46, true)), (.un .not (.t p6n49))⟩, ⟨(some p6n51), none, (.pick (.t p6n46) (.t p6n50) (.c (.bool false)))⟩, ⟨(some p6n2), none, (.mv (.t p6n51))⟩]) .ret))))⟩
noncomputable def a402 : AFunc :=
  ⟨6, [p6n0], [(p6n2, none)], false, (.seq (.reg [⟨(some p6n1), none, (.box (.t p6n0))⟩, ⟨(some p6n2), none, (.mv (.c .nils))⟩]) (.seq (.seq (.reg [⟨(some p6n7), none, (.faddr 0 (.t p6n1))⟩, ⟨(some p6n8), none, (.ld1 (.t p6n7))⟩, ⟨(some p6n9), none, (.len false (.t p6n8))⟩, ⟨(some p6n10), none, (.mv (.c (.int .i64 (.ofNat 0))))⟩]) (.block 0 (.loop (.seq (.reg [⟨(some p6n11), none, (.bin .lss (.t p6n10) (.t p6n9))⟩]) (.seq (.cond (.t p6n11) .skip (.exit 0)) (.seq (.block 1 (.seq (.reg [⟨(some p6n12), none, (.iaddr 7 (.t p6n8) (.t p6n10))⟩, ⟨(some p6n13), none, (.ldA 7 (.t p6n12))⟩, ⟨(some p6n4), none, (.alloc [(.str []), (.int .i64 (.ofNat 0)), (.int .i64 (.ofNat 0)), (.int .i64 (.ofNat 0)), (.int .i64 (.ofNat 0)), (.int .i64 (.ofNat 0)), (.str [])])⟩, ⟨none, none, (.st 7 (.t p6n4) (.t p6n13))⟩]) (.seq (.reg [⟨(some p6n14), none, (.faddr 0 (.t p6n4))⟩, ⟨(some p6n15), none, (.ld1 (.t p6n14))⟩, ⟨(some p6n16), none, (.bin .neq (.t p6n15) (.c (.str [])))⟩]) (.cond (.t p6n16) (.reg [⟨(some p6n17), none, (.mv (.t p6n2))⟩, ⟨(some p6n18), none, (.faddr 0 (.t p6n4))⟩, ⟨(some p6n19), none, (.ld1 (.t p6n18))⟩, ⟨(some p6n20), none, (.buildS 1 1 (.str []) [(0, (.t p6n19))])⟩, ⟨(some p6n21), none, (.app 1 16 (.str []) (.t p6n17) (.t p6n20))⟩, ⟨(some p6n2), none, (.mv (.t p6n21))⟩]) .skip)))) (.reg [⟨(some p6n22), none, (.bin .add (.t p6n10) (.c (.int .i64 (.ofNat 1))))⟩, ⟨(some p6n10), none, (.mv (.t p6n22))⟩]))))))) (.seq (.seq (.reg [⟨(some p6n23), none, (.faddr 2 (.t p6n1))⟩, ⟨(some p6n24), none, (.ld1 (.t p6n23))⟩, ⟨(some p6n25), none, (.len false (.t p6n24))⟩, ⟨(some p6n26), none, (.mv (.c (.int .i64 (.ofNat 0))))⟩]) (.block 2 (.loop (.seq (.reg [⟨(some p6n27), none, (.bin .lss (.t p6n26) (.t p6n25))⟩]) (.seq (.cond (.t p6n27) .skip (.exit 2)) (.seq (.block 3 (.seq (.reg [⟨(some p6n28), none, (.iaddr 4 (.t p6n24) (.t p6n26))⟩, ⟨(some p6n29), none, (.ldA 4 (.t p6n28))⟩, ⟨(some p6n6), none, (.alloc [(.str []), (.bool false), (.int .i64 (.ofNat 0)), (.bool false)])⟩, ⟨none, none, (.st 4 (.t p6n6) (.t p6n29))⟩]) (.reg [⟨(some p6n30), none, (.mv (.t p6n2))⟩, ⟨(some p6n31), none, (.faddr 0 (.t p6n6))⟩, ⟨(some p6n32), none, (.ld1 (.t p6n31))⟩, ⟨(some p6n33), none, (.buildS 1 1 (.str []) [(0, (.t p6n32))])⟩, ⟨(some p6n34), none, (.app 1 16 (.str []) (.t p6n30) (.t p6n33))⟩, ⟨(some p6n2), none, (.mv (.t p6n34))⟩]))) (.reg [⟨(some p6n35), none, (.bin .add (.t p6n26) (.c (.int .i64 (.ofNat 1))))⟩, ⟨(some p6n26), none, (.mv (.t p6n35))⟩]))))))) (.seq (.reg [⟨(some p6n36), none, (.mv (.t p6n2))⟩, ⟨(some p6n2), none, (.mv (.t p6n36))⟩]) .ret))))⟩
noncomputable def a403 : AFunc :=
  ⟨4, [p4n0], [(p4n2, none)], false, (.seq (.reg [⟨(some p4n2), none, (.mv (.c (.bool false)))⟩]) (.seq (.reg [⟨(some p4n3), none, (.mv (.t p4n0))⟩, ⟨(some p4n4), none, (.call 419 [(.t p4n3)])⟩, ⟨(some p4n0), none, (.mv (.t p4n4))⟩]) (.seq (.reg [⟨(some p4n5), none, (.mv (.t p4n0))⟩, ⟨(some p4n6), none, (.call 214 [(.t p4n5)])⟩]) (.seq (.reg [⟨(some p4n7), none, (.mv (.t p4n0))⟩, ⟨(some p4n8), none, (.call 216 [(.t p4n7)])⟩, ⟨(some p4n9), none, (.len false (.t p4n8))⟩, ⟨(some p4n10), none, (.mv (.t p4n0))⟩, ⟨(some p4n11), none, (.len false (.t p4n10))⟩, ⟨(some p4n12), none, (.bin .eql (.t p4n9) (.t p4n11))⟩, ⟨(some p4n2), none, (.mv (.t p4n12))⟩]) .ret))))⟩
noncomputable def a404 : AFunc :=
  ⟨5, [p5n0], [(p5n2, none)], false, (.seq (.reg [⟨(some p5n2), none, (.mv (.c (.bool false)))⟩]) (.seq (.seq (.reg [⟨(some p5n4), none, (.mv (.t p5n0))⟩, ⟨(some p5n5), none, (.len false (.t p5n4))⟩, ⟨(some p5n6), none, (.bin .sub (.t p5n5) (.c (.int .i64 (.ofNat 1))))⟩, ⟨(some p5n3), none, (.mv (.t p5n6))⟩]) (.block 0 (.loop (.seq (.seq (.reg [⟨(some p5n7), none, (.mv (.t p5n3))⟩, ⟨(some p5n8), none, (.bin .gtr (.t p5n7) (.c (.int .i64 (.ofNat 0))))⟩]) (.cond (.t p5n8) .skip (.exit 0))) (.seq (.block 1 (.seq (.regd [(.pure, ⟨(some p5n11), none, (.mv (.t p5n0))⟩), (.pure, ⟨(some p5n12), none, (.mv (.t p5n3))⟩), (.pure, ⟨(some p5n13), none, (.iaddr 1 (.t p5n11) (.t p5n12))⟩), (.load, ⟨(some p5n14), none, (.ld1 (.t p5n13))⟩), (.pure, ⟨(some p5n15), none, (.mv (.t p5n0))⟩), (.pure, ⟨(some p5n16), none, (.mv (.t p5n3))⟩), (.pure, ⟨(some p5n17), none, (.bin .sub (.t p5n16) (.c (.int .i64 (.ofNat 1))))⟩), (.pure, ⟨(some p5n18), none, (.iaddr 1 (.t p5n15) (.t p5n17))⟩), (.load, ⟨(some p5n19), none, (.ld1 (.t p5n18))⟩)] [⟨(some p5n20), none, (.call 256 [(.t p5n14), (.t p5n19)])⟩]) (.cond (.t p5n20) (.seq (.reg [⟨(some p5n2), none, (.mv (.c (.bool false)))⟩]) .ret) .skip))) (.reg [⟨(some p5n9), none, (.mv (.t p5n3))⟩, ⟨(some p5n10), none, (.bin .sub (.t p5n9) (.c (.int .i64 (.ofNat 1))))⟩, ⟨(some p5n3), none, (.mv (.t p5n10))⟩])))))) (.seq (.reg [⟨(some p5n2), none, (.mv (.c (.bool true)))⟩]) .ret)))⟩
noncomputable def a405 : AFunc :=
  ⟨3, [p3n0, p3n1], [(p3n3, none)], false, (.seq (.reg [⟨(some p3n3), none, (.mv (.c (.bool false)))⟩]) (.seq (.reg [⟨(some p3n4), none, (.ld1 (.t p3n1))⟩, ⟨(some p3n5), none, (.mv (.t p3n0))⟩, ⟨(some p3n6), none, (.call 176 [(.t p3n4), (.t p3n5)])⟩, ⟨(some p3n7), none, (.un .not (.t p3n6))⟩, ⟨(some p3n3), none, (.mv (.t p3n7))⟩]) .ret))⟩
noncomputable def a417 : AFunc :=
  ⟨5, [p5n0, p5n1], [(p5n4, none)], false, (.seq (.reg [⟨(some p5n4), none, (.mv (.c (.int .i64 (.ofNat 0))))⟩]) (.seq (.seq (.reg [⟨(some p5n6), none, (.mv (.t p5n0))⟩, ⟨(some p5n7), none, (.len false (.t p5n6))⟩, ⟨(some p5n8), none, (.mv (.c (.int .i64 (.ofNat 0))))⟩]) (.block 0 (.loop (.seq (.reg [⟨(some p5n9), none, (.bin .lss (.t p5n8) (.t p5n7))⟩]) (.seq (.cond (.t p5n9) .skip (.exit 0)) (.seq (.block 1 (.seq (.reg [⟨(some p5n10), none, (.mv (.t p5n8))⟩, ⟨(some p5n5), none, (.mv (.t p5n10))⟩]) (.seq (.reg [⟨(some p5n11), none, (.mv (.t p5n1))⟩, ⟨(some p5n12), none, (.mv (.t p5n0))⟩, ⟨(some p5n13), none, (.mv (.t p5n5))⟩, ⟨(some p5n14), none, (.iaddr 7 (.t p5n12) (.t p5n13))⟩, ⟨(some p5n15), none, (.ldA 7 (.t p5n14))⟩, ⟨(some p5n16), none, (.calld (.t p5n11) [(.t p5n15)])⟩]) (.cond (.t p5n16) (.seq (.reg [⟨(some p5n17), none, (.mv (.t p5n5))⟩, ⟨(some p5n4), none, (.mv (.t p5n17))⟩]) .ret) .skip)))) (.reg [⟨(some p5n18), none, (.bin .add (.t p5n8) (.c (.int .i64 (.ofNat 1))))⟩, ⟨(some p5n8), none, (.mv (.t p5n18))⟩]))))))) (.seq (.reg [⟨(some p5n4), none, (.mv (.c (.int .i64 (.negSucc 0))))⟩]) .ret)))⟩
noncomputable def a418 : AFunc :=
  ⟨3, [p3n0], [(p3n2, none)], false, (.seq (.reg [⟨(some p3n1), none, (.box (.t p3n0))⟩, ⟨(some p3n2), none, (.mv (.c (.bool false)))⟩]) (.seq (.reg [⟨(some p3n3), none, (.ldA 2 (.t p3n1))⟩, ⟨(some p3n4), none, (.call 61 [(.t p3n3)])⟩, ⟨(some p3n5), none, (.un .not (.t p3n4))⟩, ⟨(some p3n2), none, (.mv (.t p3n5))⟩]) .ret))⟩
noncomputable def a419 : AFunc :=
  ⟨3, [p3n0], [(p3n2, none)], false, (.seq (.reg [⟨(some p3n2), none, (.mv (.c .nils))⟩]) (.seq (.seq (.reg [⟨(some p3n3), none, (.mv (.t p3n0))⟩, ⟨(some p3n4), none, (.eqk .slice false (.t p3n3) (.c .nils))⟩]) (.cond (.t p3n4) (.seq (.reg [⟨(some p3n2), none, (.mv (.c .nils))⟩]) .ret) .skip)) (.seq (.reg [⟨(some p3n5), none, (.buildS 1 0 (.str []) [])⟩, ⟨(some p3n6), none, (.mv (.t p3n0))⟩, ⟨(some p3n7), none, (.app 1 16 (.str []) (.t p3n5) (.t p3n6))⟩, ⟨(some p3n2), none, (.mv (.t p3n7))⟩]) .ret)))⟩
noncomputable def a439 : AFunc :=
  ⟨6, [p6n0], [(p6n2, none)], false, (.seq (.reg [⟨(some p6n1), none, (.box (.t p6n0))⟩, ⟨(some p6n2), none, (.mv (.c (.bool false)))⟩]) (.seq (.reg [⟨(some p6n10), none, (.buildS 1 11 (.str []) [(0, (.c (.str []))), (1, (.c (.str [110, 111, 112]))), (2, (.c (.str [97, 58]))), (3, (.c (.str [97, 58, 10, 98, 58, 10, 104, 97, 108, 116]))), (4, (.c (.str [104, 97, 108, 116, 10, 104, 97, 108, 116]))), (5, (.c (.str [97, 58, 32, 110, 111, 112, 10, 98, 58, 32, 110, 111, 112, 10, 104, 97, 108, 116]))), (6, (.c (.str [110, 111, 112, 10, 97, 58, 32, 97, 100, 100, 32, 114, 49, 44, 114, 49, 44, 114, 49, 10, 98, 58]))), (7, (.c (.str [106, 109, 112, 32, 97, 10, 97, 58, 10, 106, 109, 112, 32, 98, 10, 110, 111, 112, 10, 98, 58]))), (8, (.c (.str [97, 100, 100, 32, 114, 49, 44, 114, 49, 44, 114, 49, 10, 110, 111, 112, 10, 97, 100, 100, 32, 114, 50, 44, 114, 50, 44, 114, 50, 10, 114, 101, 116, 10, 110, 111, 112, 10, 110, 111, 112]))), (9, (.c (.str [97, 58, 32, 98, 122, 32, 114, 49, 44, 97, 10, 98, 110, 122, 32, 114, 49, 44, 97, 10, 99, 97, 108, 108, 32, 97, 10, 114, 101, 116]))), (10, (.c (.str [97, 58, 10, 110, 111, 112, 10, 98, 58, 10, 110, 111, 112, 10, 99, 58])))])⟩, ⟨(some p6n3), none, (.mv (.t p6n10))⟩]) (.seq (.seq (.reg [⟨(some p6n4), none, (.mv (.c (.int .i64 (.ofNat 0))))⟩]) (.block 0 (.loop (.seq (.seq (.reg [⟨(some p6n11), none, (.mv (.t p6n4))⟩, ⟨(some p6n12), none, (.mv (.t p6n3))⟩, ⟨(some p6n13), none, (.len false (.t p6n12))⟩, ⟨(some p6n14), none, (.bin .lss (.t p6n11) (.t p6n13))⟩]) (.cond (.t p6n14) .skip (.exit 0))) (.seq (.block 1 (.seq (.reg [⟨(some p6n18), none, (.mv (.t p6n3))⟩, ⟨(some p6n19), none, (.mv (.t p6n4))⟩, ⟨(some p6n20), none, (.iaddr 1 (.t p6n18) (.t p6n19))⟩, ⟨(some p6n21), none, (.ld1 (.t p6n20))⟩, ⟨(some p6n22), none, (.call 353 [(.t p6n21)])⟩, ⟨(some p6n17), none, (.mv (.t p6n22))⟩, ⟨(some p6n23), none, (.ext (.t p6n17) 0)⟩, ⟨(some p6n24), none, (.ext (.t p6n17) 1)⟩, ⟨(some p6n25), none, (.ext (.t p6n17) 2)⟩, ⟨(some p6n5), none, (.alloc [.nils, .nils, .nils, .nils])⟩, ⟨none, none, (.st 4 (.t p6n5) (.t p6n23))⟩, ⟨(some p6n6), none, (.mv (.t p6n24))⟩, ⟨(some p6n7), none, (.mv (.t p6n25))⟩]) (.seq (.seq (.reg [⟨(some p6n26), none, (.mv (.t p6n7))⟩, ⟨(some p6n27), none, (.bin .neq (.t p6n26) (.c (.int .i64 (.ofNat 0))))⟩]) (.cond (.t p6n27) (.seq (.reg [⟨(some p6n2), none, (.mv (.c (.bool false)))⟩]) .ret) .skip)) (.seq (.reg [⟨(some p6n29), none, (.ldA 4 (.t p6n5))⟩, ⟨(some p6n30), none, (.call 442 [(.t p6n29)])⟩, ⟨(some p6n28), none, (.mv (.t p6n30))⟩, ⟨(some p6n31), none, (.ext (.t p6n28) 0)⟩, ⟨(some p6n32), none, (.ext (.t p6n28) 1)⟩, ⟨(some p6n8), none, (.mv (.t p6n31))⟩, ⟨(some p6n9), none, (.mv (.t p6n32))⟩]) (.seq (.reg [⟨(some p6n33), none, (.mv (.t p6n9))⟩, ⟨(some p6n34), none, (.call 443 [(.t p6n33)])⟩, ⟨(some p6n35), none, (.bin .neq (.t p6n34) (.c (.int .i64 (.ofNat 0))))⟩, ⟨(some p6n36), none, (.mv (.t p6n35))⟩, ⟨(some p6n37), (some (p6n36, false)), (.mv (.t p6n8))⟩, ⟨(some p6n38), (some (p6n36, false)), (.ldA 4 (.t p6n5))⟩, ⟨(some p6n39), (some (p6n36, false)), (.call 445 [(.t p6n38)])⟩, ⟨(some p6n40), (some (p6n36, false)), (.call 444 [(.t p6n37), (.t p6n39)])⟩, ⟨(some p6n41), (some (p6n36, false)), (.un .not (.t p6n40))⟩, ⟨(some p6n42), none, (.pick (.t p6n36) (.c (.bool true)) (.t p6n41))⟩]) (.cond (.t p6n42) (.seq (.reg [⟨(some p6n2), none, (.mv (.c (.bool false)))⟩]) .ret) .skip)))))) (.reg [⟨(some p6n15), none, (.mv (.t p6n4))⟩, ⟨(some p6n16), none, (.bin .add (.t p6n15) (.c (.int .i64 (.ofNat 1))))⟩, ⟨(some p6n4), none, (.mv (.t p6n16))⟩])))))) (.seq (.reg [⟨(some p6n43), none, (.faddr 2 (.t p6n1))⟩, ⟨(some p6n44), none, (.ld1 (.t p6n43))⟩, ⟨(some p6n45), none, (.len false (.t p6n44))⟩, ⟨(some p6n46), none, (.bin .geq (.t p6n45) (.c (.int .i64 (.ofNat 0))))⟩, ⟨(some p6n47), none, (.mv (.t p6n46))⟩, ⟨(some p6n48), (some (p6n47, true)), (.call 446 [])⟩, ⟨(some p6n49), none, (.pick (.t p6n47) (.t p6n48) (.c (.bool false)))⟩, ⟨(some p6n2), none, (.mv (.t p6n49))⟩]) .ret))))⟩
noncomputable def a442 : AFunc :=
  ⟨4, [p4n0], [(p4n2, none), (p4n3, none)], false, (.seq (.reg [⟨(some p4n1), none, (.box (.t p4n0))⟩, ⟨(some p4n2), none, (.mv (.c .nils))⟩, ⟨(some p4n3), none, (.mv (.c (.int .i64 (.ofNat 0))))⟩]) (.seq (.seq (.reg [⟨(some p4n4), none, (.ldA 4 (.t p4n1))⟩, ⟨(some p4n5), none, (.call 385 [(.t p4n4)])⟩, ⟨(some p4n6), none, (.un .not (.t p4n5))⟩]) (.cond (.t p4n6) (.seq (.reg [⟨(some p4n2), none, (.mv (.c .nils))⟩, ⟨(some p4n3), none, (.mv (.c (.int .i64 (.ofNat 1))))⟩]) .ret) .skip)) (.seq (.reg [⟨(some p4n7), none, (.ldA 4 (.t p4n1))⟩, ⟨(some p4n8), none, (.call 459 [(.t p4n7)])⟩, ⟨(some p4n2), none, (.mv (.t p4n8))⟩, ⟨(some p4n3), none, (.mv (.c (.int .i64 (.ofNat 0))))⟩]) .ret)))⟩
noncomputable def a443 : AFunc :=
  ⟨3, [p3n0], [(p3n2, none)], false, (.seq (.reg [⟨(some p3n2), none, (.mv (.c (.int .i64 (.ofNat 0))))⟩]) (.seq (.reg [⟨(some p3n3), none, (.mv (.t p3n0))⟩, ⟨(some p3n2), none, (.mv (.t p3n3))⟩]) .ret))⟩
noncomputable def a444 : AFunc :=
  ⟨5, [p5n0, p5n1], [(p5n4, none)], false, (.seq (.reg [⟨(some p5n4), none, (.mv (.c (.bool false)))⟩]) (.seq (.seq (.reg [⟨(some p5n6), none, (.mv (.t p5n0))⟩, ⟨(some p5n7), none, (.len false (.t p5n6))⟩, ⟨(some p5n8), none, (.mv (.t p5n1))⟩, ⟨(some p5n9), none, (.len false (.t p5n8))⟩, ⟨(some p5n10), none, (.bin .neq (.t p5n7) (.t p5n9))⟩]) (.cond (.t p5n10) (.seq (.reg [⟨(some p5n4), none, (.mv (.c (.bool false)))⟩]) .ret) .skip)) (.seq (.seq (.reg [⟨(some p5n5), none, (.mv (.c (.int .i64 (.ofNat 0))))⟩]) (.block 0 (.loop (.seq (.seq (.reg [⟨(some p5n11), none, (.mv (.t p5n5))⟩, ⟨(some p5n12), none, (.mv (.t p5n0))⟩, ⟨(some p5n13), none, (.len false (.t p5n12))⟩, ⟨(some p5n14), none, (.bin .lss (.t p5n11) (.t p5n13))⟩]) (.cond (.t p5n14) .skip (.exit 0))) (.seq (.block 1 (.seq (.regd [(.pure, ⟨(some p5n17), none, (.mv (.t p5n0))⟩), (.pure, ⟨(some p5n18), none, (.mv (.t p5n5))⟩), (.pure, ⟨(some p5n19), none, (.iaddr 8 (.t p5n17) (.t p5n18))⟩), (.load, ⟨(some p5n20), none, (.ldA 8 (.t p5n19))⟩), (.pure, ⟨(some p5n21), none, (.mv (.t p5n1))⟩), (.pure, ⟨(some p5n22), none, (.mv (.t p5n5))⟩), (.pure, ⟨(some p5n23), none, (.iaddr 8 (.t p5n21) (.t p5n22))⟩), (.load, ⟨(some p5n24), none, (.ldA 8 (.t p5n23))⟩)] [⟨(some p5n25), none, (.call 460 [(.t p5n20), (.t p5n24)])⟩, ⟨(some p5n26), none, (.un .not (.t p5n25))⟩]) (.cond (.t p5n26) (.seq (.reg [⟨(some p5n4), none, (.mv (.c (.bool false)))⟩]) .ret) .skip))) (.reg [⟨(some p5n15), none, (.mv (.t p5n5))⟩, ⟨(some p5n16), none, (.bin .add (.t p5n15) (.c (.int .i64 (.ofNat 1))))⟩, ⟨(some p5n5), none, (.mv (.t p5n16))⟩])))))) (.seq (.reg [⟨(some p5n4), none, (.mv (.c (.bool true)))⟩]) .ret))))⟩
noncomputable def a445 : AFunc :=
  ⟨6, [p6n0], [(p6n2, none)], false, (.seq (.reg [⟨(some p6n1), none, (.box (.t p6n0))⟩, ⟨(some p6n2), none, (.mv (.c .nils))⟩]) (.seq (.reg [⟨(some p6n3), none, (.mv (.c .nils))⟩]) (.seq (.reg [⟨(some p6n4), none, (.alloc [.nils, .nils, (.int .i64 (.ofNat 0)), (.int .i64 (.ofNat 0)), (.int .i64 (.ofNat 0)), (.int .i64 (.ofNat 0)), (.int .i64 (.ofNat 0)), (.str [])])⟩]) (.seq (.reg [⟨(some p6n5), none, (.mv (.c (.bool false)))⟩]) (.seq (.seq (.reg [⟨(some p6n6), none, (.mv (.c (.int .i64 (.ofNat 0))))⟩]) (.block 0 (.loop (.seq (.seq (.reg [⟨(some p6n8), none, (.mv (.t p6n6))⟩, ⟨(some p6n9), none, (.faddr 0 (.t p6n1))⟩, ⟨(some p6n10), none, (.ld1 (.t p6n9))⟩, ⟨(some p6n11), none, (.len false (.t p6n10))⟩, ⟨(some p6n12), none, (.bin .lss (.t p6n8) (.t p6n11))⟩]) (.cond (.t p6n12) .skip (.exit 0))) (.seq (.block 1 (.seq (.reg [⟨(some p6n15), none, (.faddr 0 (.t p6n1))⟩, ⟨(some p6n16), none, (.ld1 (.t p6n15))⟩, ⟨(some p6n17), none, (.mv (.t p6n6))⟩, ⟨(some p6n18), none, (.iaddr 7 (.t p6n16) (.t p6n17))⟩, ⟨(some p6n19), none, (.ldA 7 (.t p6n18))⟩, ⟨(some p6n7), none, (.alloc [(.str []), (.int .i64 (.ofNat 0)), (.int .i64 (.ofNat 0)), (.int .i64 (.ofNat 0)), (.int .i64 (.ofNat 0)), (.int .i64 (.ofNat 0)), (.str [])])⟩, ⟨none, none, (.st 7 (.t p6n7) (.t p6n19))⟩]) (.block 2 (.seq (.reg [⟨(some p6n32), none, (.faddr 0 (.t p6n7))⟩, ⟨(some p6n33), none, (.ld1 (.t p6n32))⟩, ⟨(some p6n34), none, (.bin .neq (.t p6n33) (.c (.str [])))⟩, ⟨(some p6n31), none, (.mv (.t p6n34))⟩]) (.cond (.t p6n31) (.seq (.seq (.reg [⟨(some p6n35), none, (.mv (.t p6n5))⟩]) (.cond (.t p6n35) (.seq (.reg [⟨(some p6n36), none, (.mv (.t p6n3))⟩, ⟨(some p6n37), none, (.ldA 8 (.t p6n4))⟩, ⟨(some p6n38), none, (.call 461 [(.t p6n36), (.t p6n37)])⟩, ⟨(some p6n3), none, (.mv (.t p6n38))⟩]) (.reg [⟨(some p6n39), none, (.build [.nils, .nils, (.int .i64 (.ofNat 0)), (.int .i64 (.ofNat 0)), (.int .i64 (.ofNat 0)), (.int .i64 (.ofNat 0)), (.int .i64 (.ofNat 0)), (.str [])] [])⟩, ⟨none, none, (.st 8 (.t p6n4) (.t p6n39))⟩, ⟨(some p6n5), none, (.mv (.c (.bool false)))⟩])) .skip)) (.reg [⟨(some p6n40), none, (.faddr 0 (.t p6n4))⟩, ⟨(some p6n41), none, (.ld1 (.t p6n40))⟩, ⟨(some p6n42), none, (.faddr 0 (.t p6n7))⟩, ⟨(some p6n43), none, (.ld1 (.t p6n42))⟩, ⟨(some p6n44), none, (.buildS 1 1 (.str []) [(0, (.t p6n43))])⟩, ⟨(some p6n45), none, (.app 1 16 (.str []) (.t p6n41) (.t p6n44))⟩, ⟨(some p6n46), none, (.faddr 0 (.t p6n4))⟩, ⟨none, none, (.st 1 (.t p6n46) (.t p6n45))⟩])) (.seq (.reg [⟨(some p6n48), none, (.faddr 1 (.t p6n7))⟩, ⟨(some p6n49), none, (.faddr 0 (.t p6n48))⟩, ⟨(some p6n50), none, (.ld1 (.t p6n49))⟩, ⟨(some p6n51), none, (.call 462 [(.t p6n50)])⟩, ⟨(some p6n47), none, (.mv (.t p6n51))⟩]) (.cond (.t p6n47) (.seq (.reg [⟨(some p6n52), none, (.faddr 1 (.t p6n7))⟩, ⟨(some p6n53), none, (.ldA 6 (.t p6n52))⟩, ⟨(some p6n54), none, (.faddr 2 (.t p6n4))⟩, ⟨none, none, (.st 6 (.t p6n54) (.t p6n53))⟩]) (.seq (.reg [⟨(some p6n55), none, (.mv (.t p6n3))⟩, ⟨(some p6n56), none, (.ldA 8 (.t p6n4))⟩, ⟨(some p6n57), none, (.call 461 [(.t p6n55), (.t p6n56)])⟩, ⟨(some p6n3), none, (.mv (.t p6n57))⟩]) (.reg [⟨(some p6n58), none, (.build [.nils, .nils, (.int .i64 (.ofNat 0)), (.int .i64 (.ofNat 0)), (.int .i64 (.ofNat 0)), (.int .i64 (.ofNat 0)), (.int .i64 (.ofNat 0)), (.str [])] [])⟩, ⟨none, none, (.st 8 (.t p6n4) (.t p6n58))⟩, ⟨(some p6n5), none, (.mv (.c (.bool false)))⟩]))) (.seq (.reg [⟨(some p6n5), none, (.mv (.c (.bool true)))⟩]) (.seq (.reg [⟨(some p6n20), none, (.faddr 1 (.t p6n7))⟩, ⟨(some p6n21), none, (.faddr 0 (.t p6n20))⟩, ⟨(some p6n22), none, (.ld1 (.t p6n21))⟩, ⟨(some p6n23), none, (.bin .neq (.t p6n22) (.c (.int .i64 (.ofNat 0))))⟩]) (.cond (.t p6n23) (.reg [⟨(some p6n24), none, (.faddr 1 (.t p6n4))⟩, ⟨(some p6n25), none, (.ld1 (.t p6n24))⟩, ⟨(some p6n26), none, (.faddr 1 (.t p6n7))⟩, ⟨(some p6n27), none, (.ldA 6 (.t p6n26))⟩, ⟨(some p6n28), none, (.buildS 6 1 (.agg [(.int .i64 (.ofNat 0)), (.int .i64 (.ofNat 0)), (.int .i64 (.ofNat 0)), (.int .i64 (.ofNat 0)), (.int .i64 (.ofNat 0)), (.str [])]) [(0, (.t p6n27))])⟩, ⟨(some p6n29), none, (.app 6 56 (.agg [(.int .i64 (.ofNat 0)), (.int .i64 (.ofNat 0)), (.int .i64 (.ofNat 0)), (.int .i64 (.ofNat 0)), (.int .i64 (.ofNat 0)), (.str [])]) (.t p6n25) (.t p6n28))⟩, ⟨(some p6n30), none, (.faddr 1 (.t p6n4))⟩, ⟨none, none, (.st 1 (.t p6n30) (.t p6n29))⟩]) .skip)))))))))) (.reg [⟨(some p6n13), none, (.mv (.t p6n6))⟩, ⟨(some p6n14), none, (.bin .add (.t p6n13) (.c (.int .i64 (.ofNat 1))))⟩, ⟨(some p6n6), none, (.mv (.t p6n14))⟩])))))) (.seq (.reg [⟨(some p6n59), none, (.mv (.t p6n3))⟩, ⟨(some p6n60), none, (.ldA 8 (.t p6n4))⟩, ⟨(some p6n61), none, (.call 461 [(.t p6n59), (.t p6n60)])⟩, ⟨(some p6n2), none, (.mv (.t p6n61))⟩]) .ret))))))⟩
noncomputable def a446 : AFunc :=
  ⟨6, [], [(p6n0, none)], false, (.seq (.reg [⟨(some p6n0), none, (.mv (.c (.bool false)))⟩]) (.seq (.reg [⟨(some p6n4), none, (.build [(.str []), (.int .i64 (.ofNat 0)), (.int .i64 (.ofNat 0)), (.int .i64 (.ofNat 0)), (.int .i64 (.ofNat 0)), (.int .i64 (.ofNat 0)), (.str [])] [(0, (1, (.c (.str [97]))))])⟩, ⟨(some p6n5), none, (.build [(.int .i64 (.ofNat 0)), (.int .i64 (.ofNat 0)), (.int .i64 (.ofNat 0)), (.int .i64 (.ofNat 0)), (.int .i64 (.ofNat 0)), (.str [])] [(0, (1, (.c (.int .i64 (.ofNat 28))))), (5, (1, (.c (.str [97]))))])⟩, ⟨(some p6n6), none, (.build [(.str []), (.int .i64 (.ofNat 0)), (.int .i64 (.ofNat 0)), (.int .i64 (.ofNat 0)), (.int .i64 (.ofNat 0)), (.int .i64 (.ofNat 0)), (.str [])] [(1, (6, (.t p6n5)))])⟩, ⟨(some p6n7), none, (.buildS 7 2 (.agg [(.str []), (.int .i64 (.ofNat 0)), (.int .i64 (.ofNat 0)), (.int .i64 (.ofNat 0)), (.int .i64 (.ofNat 0)), (.int .i64 (.ofNat 0)), (.str [])]) [(0, (.t p6n4)), (1, (.t p6n6))])⟩, ⟨(some p6n8), none, (.build [.nils, .nils, .nils, .nils] [(0, (1, (.t p6n7)))])⟩, ⟨(some p6n9), none, (.call 442 [(.t p6n8)])⟩, ⟨(some p6n3), none, (.mv (.t p6n9))⟩, ⟨(some p6n10), none, (.ext (.t p6n3) 0)⟩, ⟨(some p6n11), none, (.ext (.t p6n3) 1)⟩, ⟨(some p6n1), none, (.mv (.t p6n10))⟩, ⟨(some p6n2), none, (.mv (.t p6n11))⟩]) (.seq (.reg [⟨(some p6n12), none, (.mv (.t p6n2))⟩, ⟨(some p6n13), none, (.call 443 [(.t p6n12)])⟩, ⟨(some p6n14), none, (.bin .eql (.t p6n13) (.c (.int .i64 (.ofNat 0))))⟩, ⟨(some p6n15), none, (.mv (.t p6n14))⟩, ⟨(some p6n16), (some (p6n15, true)), (.mv (.t p6n1))⟩, ⟨(some p6n17), (some (p6n15, true)), (.len false (.t p6n16))⟩, ⟨(some p6n18), (some (p6n15, true)), (.bin .eql (.t p6n17) (.c (.int .i64 (.ofNat 1))))⟩, ⟨(some p6n19), none, (.pick (.t p6n15) (.t p6n18) (.c (.bool false)))⟩, ⟨(some p6n20), none, (.mv (.t p6n19))⟩, ⟨(some p6n21), (some (p6n20, true)), (.mv (.t p6n1))⟩, ⟨(some p6n22), (some (p6n20, true)), (.iaddr 8 (.t p6n21) (.c (.int .i64 (.ofNat 0))))⟩, ⟨(some p6n23), (some (p6n20, true)), (.faddr 0 (.t p6n22))⟩, ⟨(some p6n24), (some (p6n20, true)), (.ld1 (.t p6n23))⟩, ⟨(some p6n25), (some (p6n20, true)), (.len false (.t p6n24))⟩, ⟨(some p6n26), (some (p6n20, true)), (.bin .eql (.t p6n25) (.c (.int .i64 (.ofNat 1))))⟩, ⟨(some p6n27), none, (.pick (.t p6n20) (.t p6n26) (.c (.bool false)))⟩, ⟨(some p6n28), none, (.mv (.t p6n27))⟩, ⟨(some p6n29), (some (p6n28, true)), (.mv (.t p6n1))⟩, ⟨(some p6n30), (some (p6n28, true)), (.iaddr 8 (.t p6n29) (.c (.int .i64 (.ofNat 0))))⟩, ⟨(some p6n31), (some (p6n28, true)), (.faddr 2 (.t p6n30))⟩, ⟨(some p6n32), (some (p6n28, true)), (.faddr 0 (.t p6n31))⟩, ⟨(some p6n33), (some (p6n28, true)), (.ld1 (.t p6n32))⟩, ⟨(some p6n34), (some (p6n28, true)), (.bin .eql (.t p6n33) (.c (.int .i64 (.ofNat 28))))⟩, ⟨(some p6n35), none, (.pick (.t p6n28) (.t p6n34) (.c (.bool false)))⟩, ⟨(some p6n0), none, (.mv (.t p6n35))⟩]) .ret)))⟩

end M2
end
section
/- Compiled functions, printed by a program of mine. -/
namespace M2
open Go

noncomputable def a459 : AFunc :=
  ⟨5, [p5n0], [(p5n2, none)], false, (.seq (.reg [⟨(some p5n1), none, (.box (.t p5n0))⟩, ⟨(some p5n2), none, (.mv (.c .nils))⟩]) (.seq (.reg [⟨(some p5n6), none, (.build [.nils, .nils, .nils, (.int .i64 (.ofNat 0)), (.int .i64 (.ofNat 0)), (.int .i64 (.ofNat 0)), (.int .i64 (.ofNat 0)), (.int .i64 (.ofNat 0)), (.str []), (.bool false)] [])⟩, ⟨(some p5n7), none, (.box (.t p5n6))⟩, ⟨(some p5n3), none, (.mv (.t p5n7))⟩]) (.seq (.seq (.reg [⟨(some p5n8), none, (.faddr 0 (.t p5n1))⟩, ⟨(some p5n9), none, (.ld1 (.t p5n8))⟩, ⟨(some p5n10), none, (.len false (.t p5n9))⟩, ⟨(some p5n11), none, (.mv (.c (.int .i64 (.ofNat 0))))⟩]) (.block 0 (.loop (.seq (.reg [⟨(some p5n12), none, (.bin .lss (.t p5n11) (.t p5n10))⟩]) (.seq (.cond (.t p5n12) .skip (.exit 0)) (.seq (.block 1 (.seq (.reg [⟨(some p5n13), none, (.iaddr 7 (.t p5n9) (.t p5n11))⟩, ⟨(some p5n14), none, (.ldA 7 (.t p5n13))⟩, ⟨(some p5n5), none, (.alloc [(.str []), (.int .i64 (.ofNat 0)), (.int .i64 (.ofNat 0)), (.int .i64 (.ofNat 0)), (.int .i64 (.ofNat 0)), (.int .i64 (.ofNat 0)), (.str [])])⟩, ⟨none, none, (.st 7 (.t p5n5) (.t p5n14))⟩]) (.reg [⟨(some p5n15), none, (.mv (.t p5n3))⟩, ⟨(some p5n16), none, (.ldA 7 (.t p5n5))⟩, ⟨(some p5n17), none, (.call 478 [(.t p5n15), (.t p5n16)])⟩]))) (.reg [⟨(some p5n18), none, (.bin .add (.t p5n11) (.c (.int .i64 (.ofNat 1))))⟩, ⟨(some p5n11), none, (.mv (.t p5n18))⟩]))))))) (.seq (.reg [⟨(some p5n19), none, (.mv (.t p5n3))⟩, ⟨(some p5n20), none, (.call 479 [(.t p5n19)])⟩]) (.seq (.reg [⟨(some p5n21), none, (.mv (.t p5n3))⟩, ⟨(some p5n22), none, (.nilck (.t p5n21))⟩, ⟨(some p5n23), none, (.faddr 0 (.t p5n22))⟩, ⟨(some p5n24), none, (.ld1 (.t p5n23))⟩, ⟨(some p5n2), none, (.mv (.t p5n24))⟩]) .ret)))))⟩
noncomputable def a460 : AFunc :=
  ⟨5, [p5n0, p5n1], [(p5n4, none)], false, (.seq (.reg [⟨(some p5n2), none, (.box (.t p5n0))⟩, ⟨(some p5n3), none, (.box (.t p5n1))⟩, ⟨(some p5n4), none, (.mv (.c (.bool false)))⟩]) (.seq (.reg [⟨(some p5n5), none, (.faddr 0 (.t p5n2))⟩, ⟨(some p5n6), none, (.ld1 (.t p5n5))⟩, ⟨(some p5n7), none, (.faddr 0 (.t p5n3))⟩, ⟨(some p5n8), none, (.ld1 (.t p5n7))⟩, ⟨(some p5n9), none, (.call 368 [(.t p5n6), (.t p5n8)])⟩, ⟨(some p5n10), none, (.mv (.t p5n9))⟩, ⟨(some p5n11), (some (p5n10, true)), (.faddr 1 (.t p5n2))⟩, ⟨(some p5n12), (some (p5n10, true)), (.ld1 (.t p5n11))⟩, ⟨(some p5n13), (some (p5n10, true)), (.faddr 1 (.t p5n3))⟩, ⟨(some p5n14), (some (p5n10, true)), (.ld1 (.t p5n13))⟩, ⟨(some p5n15), (some (p5n10, true)), (.call 469 [(.t p5n12), (.t p5n14)])⟩, ⟨(some p5n16), none, (.pick (.t p5n10) (.t p5n15) (.c (.bool false)))⟩, ⟨(some p5n17), none, (.mv (.t p5n16))⟩, ⟨(some p5n18), (some (p5n17, true)), (.faddr 2 (.t p5n2))⟩, ⟨(some p5n19), (some (p5n17, true)), (.ldA 6 (.t p5n18))⟩, ⟨(some p5n20), (some (p5n17, true)), (.faddr 2 (.t p5n3))⟩, ⟨(some p5n21), (some (p5n17, true)), (.ldA 6 (.t p5n20))⟩, ⟨(some p5n22), (some (p5n17, true)), (.eqs (.st [(0, (1, (false, .int))), (1, (1, (false, .int))), (2, (1, (false, .int))), (3, (1, (false, .int))), (4, (1, (false, .int))), (5, (1, (false, .str)))]) false (.t p5n19) (.t p5n21))⟩, ⟨(some p5n23), none, (.pick (.t p5n17) (.t p5n22) (.c (.bool false)))⟩, ⟨(some p5n4), none, (.mv (.t p5n23))⟩]) .ret))⟩
noncomputable def a461 : AFunc :=
  ⟨5, [p5n0, p5n1], [(p5n4, none)], false, (.seq (.reg [⟨(some p5n3), none, (.box (.t p5n1))⟩, ⟨(some p5n4), none, (.mv (.c .nils))⟩]) (.seq (.seq (.reg [⟨(some p5n5), none, (.faddr 0 (.t p5n3))⟩, ⟨(some p5n6), none, (.ld1 (.t p5n5))⟩, ⟨(some p5n7), none, (.len false (.t p5n6))⟩, ⟨(some p5n8), none, (.bin .eql (.t p5n7) (.c (.int .i64 (.ofNat 0))))⟩, ⟨(some p5n9), none, (.mv (.t p5n8))⟩, ⟨(some p5n10), (some (p5n9, true)), (.faddr 1 (.t p5n3))⟩, ⟨(some p5n11), (some (p5n9, true)), (.ld1 (.t p5n10))⟩, ⟨(some p5n12), (some (p5n9, true)), (.len false (.t p5n11))⟩, ⟨(some p5n13), (some (p5n9, true)), (.bin .eql (.t p5n12) (.c (.int .i64 (.ofNat 0))))⟩, ⟨(some p5n14), none, (.pick (.t p5n9) (.t p5n13) (.c (.bool false)))⟩, ⟨(some p5n15), none, (.mv (.t p5n14))⟩, ⟨(some p5n16), (some (p5n15, true)), (.faddr 2 (.t p5n3))⟩, ⟨(some p5n17), (some (p5n15, true)), (.faddr 0 (.t p5n16))⟩, ⟨(some p5n18), (some (p5n15, true)), (.ld1 (.t p5n17))⟩, ⟨(some p5n19), (some (p5n15, true)), (.bin .eql (.t p5n18) (.c (.int .i64 (.ofNat 0))))⟩, ⟨(some p5n20), none, (.pick (.t p5n15) (.t p5n19) (.c (.bool false)))⟩]) (.cond (.t p5n20) (.seq (.reg [⟨(some p5n21), none, (.mv (.t p5n0))⟩, ⟨(some p5n4), none, (.mv (.t p5n21))⟩]) .ret) .skip)) (.seq (.reg [⟨(some p5n22), none, (.mv (.t p5n0))⟩, ⟨(some p5n23), none, (.ldA 8 (.t p5n3))⟩, ⟨(some p5n24), none, (.buildS 8 1 (.agg [.nils, .nils, (.int .i64 (.ofNat 0)), (.int .i64 (.ofNat 0)), (.int .i64 (.ofNat 0)), (.int .i64 (.ofNat 0)), (.int .i64 (.ofNat 0)), (.str [])]) [(0, (.t p5n23))])⟩, ⟨(some p5n25), none, (.app 8 104 (.agg [.nils, .nils, (.int .i64 (.ofNat 0)), (.int .i64 (.ofNat 0)), (.int .i64 (.ofNat 0)), (.int .i64 (.ofNat 0)), (.int .i64 (.ofNat 0)), (.str [])]) (.t p5n22) (.t p5n24))⟩, ⟨(some p5n4), none, (.mv (.t p5n25))⟩]) .ret)))⟩
noncomputable def a462 : AFunc :=
  ⟨3, [p3n0], [(p3n2, none)], false, (.seq (.reg [⟨(some p3n2), none, (.mv (.c (.bool false)))⟩]) (.seq (.reg [⟨(some p3n3), none, (.mv (.t p3n0))⟩, ⟨(some p3n4), none, (.call 46 [(.t p3n3), (.c (.int .i64 (.ofNat 28))), (.c (.int .i64 (.ofNat 33)))])⟩, ⟨(some p3n2), none, (.mv (.t p3n4))⟩]) .ret))⟩
noncomputable def a469 : AFunc :=
  ⟨5, [p5n0, p5n1], [(p5n4, none)], false, (.seq (.reg [⟨(some p5n4), none, (.mv (.c (.bool false)))⟩]) (.seq (.seq (.reg [⟨(some p5n6), none, (.mv (.t p5n0))⟩, ⟨(some p5n7), none, (.len false (.t p5n6))⟩, ⟨(some p5n8), none, (.mv (.t p5n1))⟩, ⟨(some p5n9), none, (.len false (.t p5n8))⟩, ⟨(some p5n10), none, (.bin .neq (.t p5n7) (.t p5n9))⟩]) (.cond (.t p5n10) (.seq (.reg [⟨(some p5n4), none, (.mv (.c (.bool false)))⟩]) .ret) .skip)) (.seq (.seq (.reg [⟨(some p5n5), none, (.mv (.c (.int .i64 (.ofNat 0))))⟩]) (.block 0 (.loop (.seq (.seq (.reg [⟨(some p5n11), none, (.mv (.t p5n5))⟩, ⟨(some p5n12), none, (.mv (.t p5n0))⟩, ⟨(some p5n13), none, (.len false (.t p5n12))⟩, ⟨(some p5n14), none, (.bin .lss (.t p5n11) (.t p5n13))⟩]) (.cond (.t p5n14) .skip (.exit 0))) (.seq (.block 1 (.seq (.regd [(.pure, ⟨(some p5n17), none, (.mv (.t p5n0))⟩), (.pure, ⟨(some p5n18), none, (.mv (.t p5n5))⟩), (.pure, ⟨(some p5n19), none, (.iaddr 6 (.t p5n17) (.t p5n18))⟩), (.load, ⟨(some p5n20), none, (.ldA 6 (.t p5n19))⟩), (.pure, ⟨(some p5n21), none, (.mv (.t p5n1))⟩), (.pure, ⟨(some p5n22), none, (.mv (.t p5n5))⟩), (.pure, ⟨(some p5n23), none, (.iaddr 6 (.t p5n21) (.t p5n22))⟩), (.load, ⟨(some p5n24), none, (.ldA 6 (.t p5n23))⟩)] [⟨(some p5n25), none, (.eqs (.st [(0, (1, (false, .int))), (1, (1, (false, .int))), (2, (1, (false, .int))), (3, (1, (false, .int))), (4, (1, (false, .int))), (5, (1, (false, .str)))]) true (.t p5n20) (.t p5n24))⟩]) (.cond (.t p5n25) (.seq (.reg [⟨(some p5n4), none, (.mv (.c (.bool false)))⟩]) .ret) .skip))) (.reg [⟨(some p5n15), none, (.mv (.t p5n5))⟩, ⟨(some p5n16), none, (.bin .add (.t p5n15) (.c (.int .i64 (.ofNat 1))))⟩, ⟨(some p5n5), none, (.mv (.t p5n16))⟩])))))) (.seq (.reg [⟨(some p5n4), none, (.mv (.c (.bool true)))⟩]) .ret))))⟩
noncomputable def a478 : AFunc :=
  ⟨7, [p7n0, p7n1], [], true, (.seq (.reg [⟨(some p7n3), none, (.box (.t p7n1))⟩]) (.block 0 (.seq (.reg [⟨(some p7n18), none, (.faddr 0 (.t p7n3))⟩, ⟨(some p7n19), none, (.ld1 (.t p7n18))⟩, ⟨(some p7n20), none, (.bin .neq (.t p7n19) (.c (.str [])))⟩, ⟨(some p7n17), none, (.mv (.t p7n20))⟩]) (.cond (.t p7n17) (.seq (.seq (.reg [⟨(some p7n21), none, (.mv (.t p7n0))⟩, ⟨(some p7n22), none, (.nilck (.t p7n21))⟩, ⟨(some p7n23), none, (.faddr 1 (.t p7n22))⟩, ⟨(some p7n24), none, (.faddr 1 (.t p7n23))⟩, ⟨(some p7n25), none, (.ld1 (.t p7n24))⟩, ⟨(some p7n26), none, (.len false (.t p7n25))⟩, ⟨(some p7n27), none, (.bin .gtr (.t p7n26) (.c (.int .i64 (.ofNat 0))))⟩, ⟨(some p7n28), none, (.mv (.t p7n27))⟩, ⟨(some p7n29), (some (p7n28, false)), (.mv (.t p7n0))⟩, ⟨(some p7n30), (some (p7n28, false)), (.nilck (.t p7n29))⟩, ⟨(some p7n31), (some (p7n28, false)), (.faddr 9 (.t p7n30))⟩, ⟨(some p7n32), (some (p7n28, false)), (.ld1 (.t p7n31))⟩, ⟨(some p7n33), none, (.pick (.t p7n28) (.c (.bool true)) (.t p7n32))⟩]) (.cond (.t p7n33) (.reg [⟨(some p7n34), none, (.mv (.t p7n0))⟩, ⟨(some p7n35), none, (.call 479 [(.t p7n34)])⟩]) .skip)) (.regd [(.pure, ⟨(some p7n36), none, (.mv (.t p7n0))⟩), (.pure, ⟨(some p7n37), none, (.mv (.t p7n0))⟩), (.pure, ⟨(some p7n38), none, (.nilck (.t p7n37))⟩), (.pure, ⟨(some p7n39), none, (.faddr 1 (.t p7n38))⟩), (.pure, ⟨(some p7n40), none, (.faddr 0 (.t p7n39))⟩), (.load, ⟨(some p7n41), none, (.ld1 (.t p7n40))⟩), (.pure, ⟨(some p7n42), none, (.faddr 0 (.t p7n3))⟩), (.load, ⟨(some p7n43), none, (.ld1 (.t p7n42))⟩), (.pure, ⟨(some p7n44), none, (.buildS 1 1 (.str []) [(0, (.t p7n43))])⟩), (.iso, ⟨(some p7n45), none, (.app 1 16 (.str []) (.t p7n41) (.t p7n44))⟩)] [⟨(some p7n46), none, (.nilck (.t p7n36))⟩, ⟨(some p7n47), none, (.faddr 1 (.t p7n46))⟩, ⟨(some p7n48), none, (.faddr 0 (.t p7n47))⟩, ⟨none, none, (.st 1 (.t p7n48) (.t p7n45))⟩])) (.seq (.reg [⟨(some p7n50), none, (.faddr 1 (.t p7n3))⟩, ⟨(some p7n51), none, (.faddr 0 (.t p7n50))⟩, ⟨(some p7n52), none, (.ld1 (.t p7n51))⟩, ⟨(some p7n53), none, (.call 267 [(.t p7n52)])⟩, ⟨(some p7n49), none, (.mv (.t p7n53))⟩]) (.cond (.t p7n49) (.seq (.reg [⟨(some p7n54), none, (.mv (.t p7n0))⟩, ⟨(some p7n55), none, (.faddr 1 (.t p7n3))⟩, ⟨(some p7n56), none, (.ldA 6 (.t p7n55))⟩, ⟨(some p7n57), none, (.nilck (.t p7n54))⟩, ⟨(some p7n58), none, (.faddr 1 (.t p7n57))⟩, ⟨(some p7n59), none, (.faddr 2 (.t p7n58))⟩, ⟨none, none, (.st 6 (.t p7n59) (.t p7n56))⟩]) (.reg [⟨(some p7n60), none, (.mv (.t p7n0))⟩, ⟨(some p7n61), none, (.call 479 [(.t p7n60)])⟩])) (.seq (.reg [⟨(some p7n63), none, (.faddr 1 (.t p7n3))⟩, ⟨(some p7n64), none, (.faddr 0 (.t p7n63))⟩, ⟨(some p7n65), none, (.ld1 (.t p7n64))⟩, ⟨(some p7n66), none, (.bin .eql (.t p7n65) (.c (.int .i64 (.ofNat 0))))⟩, ⟨(some p7n62), none, (.mv (.t p7n66))⟩]) (.cond (.t p7n62) (.reg [⟨(some p7n67), none, (.mv (.t p7n0))⟩, ⟨(some p7n68), none, (.nilck (.t p7n67))⟩, ⟨(some p7n69), none, (.faddr 9 (.t p7n68))⟩, ⟨none, none, (.st 1 (.t p7n69) (.c (.bool true)))⟩]) (.regd [(.pure, ⟨(some p7n4), none, (.mv (.t p7n0))⟩), (.pure, ⟨(some p7n5), none, (.mv (.t p7n0))⟩), (.pure, ⟨(some p7n6), none, (.nilck (.t p7n5))⟩), (.pure, ⟨(some p7n7), none, (.faddr 1 (.t p7n6))⟩), (.pure, ⟨(some p7n8), none, (.faddr 1 (.t p7n7))⟩), (.load, ⟨(some p7n9), none, (.ld1 (.t p7n8))⟩), (.pure, ⟨(some p7n10), none, (.faddr 1 (.t p7n3))⟩), (.load, ⟨(some p7n11), none, (.ldA 6 (.t p7n10))⟩), (.pure, ⟨(some p7n12), none, (.buildS 6 1 (.agg [(.int .i64 (.ofNat 0)), (.int .i64 (.ofNat 0)), (.int .i64 (.ofNat 0)), (.int .i64 (.ofNat 0)), (.int .i64 (.ofNat 0)), (.str [])]) [(0, (.t p7n11))])⟩), (.iso, ⟨(some p7n13), none, (.app 6 56 (.agg [(.int .i64 (.ofNat 0)), (.int .i64 (.ofNat 0)), (.int .i64 (.ofNat 0)), (.int .i64 (.ofNat 0)), (.int .i64 (.ofNat 0)), (.str [])]) (.t p7n9) (.t p7n12))⟩)] [⟨(some p7n14), none, (.nilck (.t p7n4))⟩, ⟨(some p7n15), none, (.faddr 1 (.t p7n14))⟩, ⟨(some p7n16), none, (.faddr 1 (.t p7n15))⟩, ⟨none, none, (.st 1 (.t p7n16) (.t p7n13))⟩])))))))))⟩
noncomputable def a479 : AFunc :=
  ⟨6, [p6n0], [], true, (.seq (.seq (.regd [(.pure, ⟨(some p6n2), none, (.mv (.t p6n0))⟩), (.pure, ⟨(some p6n3), none, (.nilck (.t p6n2))⟩), (.pure, ⟨(some p6n4), none, (.faddr 1 (.t p6n3))⟩), (.pure, ⟨(some p6n5), none, (.faddr 0 (.t p6n4))⟩), (.load, ⟨(some p6n6), none, (.ld1 (.t p6n5))⟩), (.pure, ⟨(some p6n7), none, (.len false (.t p6n6))⟩), (.pure, ⟨(some p6n8), none, (.mv (.t p6n0))⟩), (.pure, ⟨(some p6n9), none, (.nilck (.t p6n8))⟩), (.pure, ⟨(some p6n10), none, (.faddr 1 (.t p6n9))⟩), (.pure, ⟨(some p6n11), none, (.faddr 1 (.t p6n10))⟩), (.load, ⟨(some p6n12), none, (.ld1 (.t p6n11))⟩), (.pure, ⟨(some p6n13), none, (.len false (.t p6n12))⟩)] [⟨(some p6n14), none, (.bin .add (.t p6n7) (.t p6n13))⟩, ⟨(some p6n15), none, (.bin .gtr (.t p6n14) (.c (.int .i64 (.ofNat 0))))⟩, ⟨(some p6n16), none, (.mv (.t p6n15))⟩, ⟨(some p6n17), (some (p6n16, false)), (.mv (.t p6n0))⟩, ⟨(some p6n18), (some (p6n16, false)), (.nilck (.t p6n17))⟩, ⟨(some p6n19), (some (p6n16, false)), (.faddr 1 (.t p6n18))⟩, ⟨(some p6n20), (some (p6n16, false)), (.faddr 2 (.t p6n19))⟩, ⟨(some p6n21), (some (p6n16, false)), (.faddr 0 (.t p6n20))⟩, ⟨(some p6n22), (some (p6n16, false)), (.ld1 (.t p6n21))⟩, ⟨(some p6n23), (some (p6n16, false)), (.bin .neq (.t p6n22) (.c (.int .i64 (.ofNat 0))))⟩, ⟨(some p6n24), none, (.pick (.t p6n16) (.c (.bool true)) (.t p6n23))⟩]) (.cond (.t p6n24) (.regd [(.pure, ⟨(some p6n25), none, (.mv (.t p6n0))⟩), (.pure, ⟨(some p6n26), none, (.mv (.t p6n0))⟩), (.pure, ⟨(some p6n27), none, (.nilck (.t p6n26))⟩), (.pure, ⟨(some p6n28), none, (.faddr 0 (.t p6n27))⟩), (.load, ⟨(some p6n29), none, (.ld1 (.t p6n28))⟩), (.pure, ⟨(some p6n30), none, (.mv (.t p6n0))⟩), (.pure, ⟨(some p6n31), none, (.nilck (.t p6n30))⟩), (.pure, ⟨(some p6n32), none, (.faddr 1 (.t p6n31))⟩), (.load, ⟨(some p6n33), none, (.ldA 8 (.t p6n32))⟩), (.pure, ⟨(some p6n34), none, (.buildS 8 1 (.agg [.nils, .nils, (.int .i64 (.ofNat 0)), (.int .i64 (.ofNat 0)), (.int .i64 (.ofNat 0)), (.int .i64 (.ofNat 0)), (.int .i64 (.ofNat 0)), (.str [])]) [(0, (.t p6n33))])⟩), (.iso, ⟨(some p6n35), none, (.app 8 104 (.agg [.nils, .nils, (.int .i64 (.ofNat 0)), (.int .i64 (.ofNat 0)), (.int .i64 (.ofNat 0)), (.int .i64 (.ofNat 0)), (.int .i64 (.ofNat 0)), (.str [])]) (.t p6n29) (.t p6n34))⟩)] [⟨(some p6n36), none, (.nilck (.t p6n25))⟩, ⟨(some p6n37), none, (.faddr 0 (.t p6n36))⟩, ⟨none, none, (.st 1 (.t p6n37) (.t p6n35))⟩]) .skip)) (.reg [⟨(some p6n38), none, (.mv (.t p6n0))⟩, ⟨(some p6n39), none, (.mv (.t p6n0))⟩, ⟨(some p6n40), none, (.build [.nils, .nils, (.int .i64 (.ofNat 0)), (.int .i64 (.ofNat 0)), (.int .i64 (.ofNat 0)), (.int .i64 (.ofNat 0)), (.int .i64 (.ofNat 0)), (.str [])] [])⟩, ⟨(some p6n41), none, (.nilck (.t p6n38))⟩, ⟨(some p6n42), none, (.faddr 1 (.t p6n41))⟩, ⟨none, none, (.st 8 (.t p6n42) (.t p6n40))⟩, ⟨(some p6n43), none, (.nilck (.t p6n39))⟩, ⟨(some p6n44), none, (.faddr 9 (.t p6n43))⟩, ⟨none, none, (.st 1 (.t p6n44) (.c (.bool false)))⟩]))⟩

end M2
end
section
namespace M2
open Go

noncomputable def tab : Tr := (.node 257 a257 (.node 153 a153 (.node 77 a77 (.node 57 a57 (.node 48 a48 (.node 36 a36 (.node 35 a35 (.node 34 a34 .leaf .leaf) .leaf) (.node 46 a46 .leaf .leaf)) (.node 54 a54 (.node 53 a53 .leaf .leaf) (.node 55 a55 .leaf .leaf))) (.node 73 a73 (.node 61 a61 (.node 60 a60 .leaf .leaf) (.node 62 a62 .leaf .leaf)) (.node 75 a75 (.node 74 a74 .leaf .leaf) (.node 76 a76 .leaf .leaf)))) (.node 94 a94 (.node 81 a81 (.node 79 a79 (.node 78 a78 .leaf .leaf) (.node 80 a80 .leaf .leaf)) (.node 83 a83 (.node 82 a82 .leaf .leaf) (.node 93 a93 .leaf .leaf))) (.node 144 a144 (.node 139 a139 (.node 132 a132 .leaf .leaf) (.node 143 a143 .leaf .leaf)) (.node 148 a148 (.node 147 a147 .leaf .leaf) (.node 152 a152 .leaf .leaf))))) (.node 214 a214 (.node 172 a172 (.node 157 a157 (.node 155 a155 (.node 154 a154 .leaf .leaf) (.node 156 a156 .leaf .leaf)) (.node 159 a159 (.node 158 a158 .leaf .leaf) (.node 160 a160 .leaf .leaf))) (.node 176 a176 (.node 174 a174 (.node 173 a173 .leaf .leaf) (.node 175 a175 .leaf .leaf)) (.node 201 a201 (.node 181 a181 .leaf .leaf) (.node 206 a206 .leaf .leaf)))) (.node 242 a242 (.node 230 a230 (.node 219 a219 (.node 216 a216 .leaf .leaf) (.node 222 a222 .leaf .leaf)) (.node 236 a236 (.node 231 a231 .leaf .leaf) (.node 237 a237 .leaf .leaf))) (.node 253 a253 (.node 251 a251 (.node 250 a250 .leaf .leaf) (.node 252 a252 .leaf .leaf)) (.node 255 a255 (.node 254 a254 .leaf .leaf) (.node 256 a256 .leaf .leaf)))))) (.node 381 a381 (.node 273 a273 (.node 265 a265 (.node 261 a261 (.node 259 a259 (.node 258 a258 .leaf .leaf) (.node 260 a260 .leaf .leaf)) (.node 263 a263 (.node 262 a262 .leaf .leaf) (.node 264 a264 .leaf .leaf))) (.node 269 a269 (.node 267 a267 (.node 266 a266 .leaf .leaf) (.node 268 a268 .leaf .leaf)) (.node 271 a271 (.node 270 a270 .leaf .leaf) (.node 272 a272 .leaf .leaf)))) (.node 363 a363 (.node 289 a289 (.node 275 a275 (.node 274 a274 .leaf .leaf) (.node 276 a276 .leaf .leaf)) (.node 361 a361 (.node 353 a353 .leaf .leaf) (.node 362 a362 .leaf .leaf))) (.node 377 a377 (.node 365 a365 (.node 364 a364 .leaf .leaf) (.node 368 a368 .leaf .leaf)) (.node 379 a379 (.node 378 a378 .leaf .leaf) (.node 380 a380 .leaf .leaf))))) (.node 417 a417 (.node 398 a398 (.node 385 a385 (.node 383 a383 (.node 382 a382 .leaf .leaf) (.node 384 a384 .leaf .leaf)) (.node 396 a396 (.node 395 a395 .leaf .leaf) (.node 397 a397 .leaf .leaf))) (.node 402 a402 (.node 400 a400 (.node 399 a399 .leaf .leaf) (.node 401 a401 .leaf .leaf)) (.node 404 a404 (.node 403 a403 .leaf .leaf) (.node 405 a405 .leaf .leaf)))) (.node 446 a446 (.node 442 a442 (.node 419 a419 (.node 418 a418 .leaf .leaf) (.node 439 a439 .leaf .leaf)) (.node 444 a444 (.node 443 a443 .leaf .leaf) (.node 445 a445 .leaf .leaf))) (.node 462 a462 (.node 460 a460 (.node 459 a459 .leaf .leaf) (.node 461 a461 .leaf .leaf)) (.node 478 a478 (.node 469 a469 .leaf .leaf) (.node 479 a479 .leaf .leaf)))))))

end M2
end
section
namespace M2
open Go Go.RowKit

/-! ### Functions of the library whose contracts are known -/

def primJoin : AFunc := ⟨77, [pth 3 0, pth 3 1], [(pth 3 2, none)], false, .reg [⟨some (pth 3 2), none, .mem (.prim 0) [.t (pth 3 0), .t (pth 3 1)]⟩]⟩
def primItoa : AFunc := ⟨77, [pth 3 0], [(pth 3 1, none)], false, .reg [⟨some (pth 3 1), none, .mem (.prim 1) [.t (pth 3 0)]⟩]⟩

theorem ev_reg (tbl : Nat → Option AFunc) (n : Nat) (l : List AO) (F : Fr) (t : T) : ev tbl (n + 1) (.reg l) F t = runOps l (callA tbl (ev tbl n)) F t := rfl
theorem runOps_one (op : AOp) (p : Bits) (call : CallF) (F : Fr) (t : T) : runOps [⟨some p, none, op⟩] call F t = (match op.run call F t with | .ok v t => .norm (F.put p v) t | .fail => .fail) := rfl

theorem prim2 {tbl : Nat → Option AFunc} {n i k : Nat} {args : List AV} {t t' : T} {r : AV} {fn : AFunc} (hfn : fn = ⟨77, [pth 3 0, pth 3 1], [(pth 3 2, none)], false, .reg [⟨some (pth 3 2), none, .mem (.prim k) [.t (pth 3 0), .t (pth 3 1)]⟩]⟩)
    (hi : tbl i = some fn) (h : callA tbl (ev tbl n) i args t = .ok r t') : ∃ x y, args = [x, y] ∧ primA k [x, y] = some r ∧ t' = t.enter.leave false r := by
  unfold callA at h
  rw [hi] at h
  subst hfn
  simp only at h
  match args, h with
  | [x, y], h =>
    refine ⟨x, y, rfl, ?_⟩
    simp only [argsIn] at h
    cases n with
    | zero => cases h
    | succ n =>
      rw [ev_reg, runOps_one] at h
      have e : AOp.run (.mem (.prim k) [.t (pth 3 0), .t (pth 3 1)]) (callA tbl (ev tbl n)) ((Fr.nil.put (pth 3 0) x).put (pth 3 1) y) t.enter = (match primA k [x, y] with | some v => .ok v t.enter | none => .fail) := by
        show memStep (.prim k) [((Fr.nil.put (pth 3 0) x).put (pth 3 1) y).get (pth 3 0), ((Fr.nil.put (pth 3 0) x).put (pth 3 1) y).get (pth 3 1)] t.enter = _
        rw [Fr.get_put, Fr.get_put, Fr.get_put, if_pos rfl, if_pos rfl, if_neg (by decide)]
        rfl
      rw [e] at h
      cases hp : primA k [x, y] with
      | none => rw [hp] at h; cases h
      | some v =>
        rw [hp] at h
        simp only [afterBody, resultsOf, resultOf, packed] at h
        rw [Fr.get_put, if_pos rfl] at h
        cases h
        exact ⟨rfl, rfl⟩
  | [], h => simp [argsIn] at h
  | [_], h => simp [argsIn] at h
  | _ :: _ :: _ :: _, h => simp [argsIn] at h

theorem prim1 {tbl : Nat → Option AFunc} {n i k : Nat} {args : List AV} {t t' : T} {r : AV} {fn : AFunc} (hfn : fn = ⟨77, [pth 3 0], [(pth 3 1, none)], false, .reg [⟨some (pth 3 1), none, .mem (.prim k) [.t (pth 3 0)]⟩]⟩)
    (hi : tbl i = some fn) (h : callA tbl (ev tbl n) i args t = .ok r t') : ∃ x, args = [x] ∧ primA k [x] = some r ∧ t' = t.enter.leave false r := by
  unfold callA at h
  rw [hi] at h
  subst hfn
  simp only at h
  match args, h with
  | [x], h =>
    refine ⟨x, rfl, ?_⟩
    simp only [argsIn] at h
    cases n with
    | zero => cases h
    | succ n =>
      rw [ev_reg, runOps_one] at h
      have e : AOp.run (.mem (.prim k) [.t (pth 3 0)]) (callA tbl (ev tbl n)) (Fr.nil.put (pth 3 0) x) t.enter = (match primA k [x] with | some v => .ok v t.enter | none => .fail) := by
        show memStep (.prim k) [(Fr.nil.put (pth 3 0) x).get (pth 3 0)] t.enter = _
        rw [Fr.get_put, if_pos rfl]
        rfl
      rw [e] at h
      cases hp : primA k [x] with
      | none => rw [hp] at h; cases h
      | some v =>
        rw [hp] at h
        simp only [afterBody, resultsOf, resultOf, packed] at h
        rw [Fr.get_put, if_pos rfl] at h
        cases h
        exact ⟨rfl, rfl⟩
  | [], h => simp [argsIn] at h
  | _ :: _ :: _, h => simp [argsIn] at h

section
variable {P : Program} {M : Maps}

/-- a world in which what was there stands -/
def G.grown (g : G) (w : World) : G := { g with w := w }
theorem le_grown {g : G} {w : World} (h : Below g.w.heap.size g.w w) : g.Le (g.grown w) where
  n := Nat.le_refl _
  ok _ h := h
  new _ h := .inl h
  ρ _ _ := rfl
  ν _ _ := rfl
  size := h.size
  lim b k hb hk := ⟨k, hk, Nat.le_refl _, fun _ _ => cell?_of_heap (h.block b hb)⟩
  oth b hb _ := ⟨rfl, h.block b hb⟩
  os := h.os
  tape := h.tape
  output := h.output
  sz b hb := csize_of_heap (h.block b hb)
theorem sr_grown {g : G} {w : World} {t : T} (h : Below g.w.heap.size g.w w) (hS : SR M g t) : SR M (g.grown w) t where
  n := hS.n
  wf := hS.wf
  okn := hS.okn
  var x o hx := by
    obtain ⟨a, b, c⟩ := hS.var x o hx
    refine ⟨a, b, c.mono (le_grown h) (h.block _ ?_)⟩
    cases c with
    | cells cs b c ty fz hh hz hl hv => exact (getElem?_some_iff.mp hh).1
    | map es b ms clock hh hl hk hv => exact (getElem?_some_iff.mp hh).1
  inj := hS.inj
  ids i en e hi := by
    obtain ⟨a, b, c, ty, fz, c1, c2, c3⟩ := hS.ids i en e hi
    have hb := h.block _ (getElem?_some_iff.mp c1).1
    exact ⟨a, b, c, ty, fz, hb.trans c1, fun off ho => by rw [← c2 off ho]; exact frozen_of_heap hb, c3⟩
  idinj := hS.idinj

theorem joinA_eq (sep : List UInt8) (l : List (List UInt8)) : joinA sep l = Lib.join l sep := by
  induction l with
  | nil => rfl
  | cons x l ih =>
    cases l with
    | nil => rw [Lib.join_one]; rfl
    | cons y l =>
      rw [Lib.join_cons]
      show x ++ (sep ++ joinA sep (y :: l)) = _
      rw [ih, Lib.join_cons]
      simp [Lib.joinTail]

theorem strsA_ok : ∀ (es : List AV) (l : List (List UInt8)), strsA es = some l → es = l.map AV.str := by
  intro es
  induction es with
  | nil => intro l h; cases h; rfl
  | cons x es ih =>
    intro l h
    cases x with
    | str s =>
      simp only [strsA] at h
      cases hs : strsA es with
      | none => rw [hs] at h; cases h
      | some r => rw [hs] at h; cases h; rw [ih r hs]; rfl
    | _ => cases h

theorem prim_join {i : Nat} (hgood : Good P (M.fm i))
    (h0 : ∀ (a : Option Addr) (c : Nat) (sep : ByteArray) (w : World), Calls P (M.fm i) #[.slice a 0 c, .string sep] w fun e w' => e = .returned (.string ⟨#[]⟩) ∧ w' = w)
    (h1 : ∀ (bk o c : Nat) (xs : List ByteArray) (sep : ByteArray) (w : World), (∀ (j : Nat) x, xs[j]? = some x → w.cell? ⟨bk, o + j, none⟩ = some (.string x)) → bk < w.heap.size → xs.length ≤ 140737488355328 → xs.length ≤ c →
      (Lib.join (xs.map (·.data.toList)) sep.data.toList).length ≤ 140737488355328 →
      Calls P (M.fm i) #[.slice (some ⟨bk, o, none⟩) xs.length c, .string sep] w fun e w' => e = .returned (.string ⟨(Lib.join (xs.map (·.data.toList)) sep.data.toList).toArray⟩) ∧ Below w.heap.size w w') : PrimAt P M i primJoin := by
  intro tbl n args t r t' hi hr
  obtain ⟨x, y, rfl, hp, rfl⟩ := prim2 rfl hi hr
  refine ⟨hgood, fun g cargs hS hsz hv => ?_⟩
  have hsz2 : cargs.size = 2 := by simpa using hsz
  have vx := hv 0 (by simp)
  have vy := hv 1 (by simp)
  obtain ⟨cx, cy, rfl⟩ : ∃ cx cy, cargs = #[cx, cy] := ⟨cargs[0], cargs[1], by
    apply Array.ext
    · simp [hsz2]
    · intro j h1 h2
      match j, h2 with
      | 0, _ => rfl
      | 1, _ => rfl⟩
  simp only [List.getElem_cons_zero, List.getElem_cons_succ] at vx vy
  have vx : VR M g x cx := vx
  have vy : VR M g y cy := vy
  have none_case : ∀ a c (sep : List UInt8), cx = .slice a 0 c → y = .str sep → r = .str [] → Calls P (M.fm i) #[cx, cy] g.w fun e w' => ∃ v g', e = .returned v ∧ g'.w = w' ∧ g.Le g' ∧ VR M g' r v ∧ SR M g' (t.enter.leave false r) := by
    intro a c sep e1 e2 e3
    subst e1 e2 e3
    cases vy
    refine (h0 a c _ g.w).mono ?_
    rintro e w' ⟨rfl, rfl⟩
    exact ⟨_, g, rfl, rfl, .refl g, .str [], hS.enter.leave _ _⟩
  unfold primA at hp
  split at hp
  · rename_i s e0 e1
    cases e1
    cases hp
    cases vx
    exact none_case _ _ _ rfl rfl rfl
  · rename_i s e0 e1
    cases e1
    cases hp
    cases vx
    exact none_case _ _ _ rfl rfl rfl
  · rename_i id e pos cap fl alt es sep e0 e1
    cases e1
    cases hl : strsA es with
    | none => rw [hl] at hp; cases hp
    | some l =>
      rw [hl] at hp
      simp only at hp
      split at hp
      · rename_i hb
        cases hp
        simp only [Bool.and_eq_true] at hb
        have b1 := Nat.eq_of_beq_eq_true hb.1.1
        have b2 := Nat.le_of_ble_eq_true hb.1.2
        have b3 := Nat.le_of_ble_eq_true hb.2
        subst b1
        have hes := strsA_ok es l hl
        cases vy
        cases vx with
        | sl id e pos cap fl alt es b o ccap vs hid hcc hb' ho hlen hv' hsz' hc hf =>
          have hlen2 : es.length = l.length := by rw [hes]; simp
          have hvs : ∀ j (hj : j < l.length), vs j = .string ⟨l[j].toArray⟩ := by
            intro j hj
            have h := hv' j (by omega)
            have e5 : es[j]'(by omega) = .str l[j] := by simp [hes]
            rw [e5] at h
            generalize vs j = vj at h
            cases h
            rfl
          have hcall := h1 b o ccap (l.map fun s => ⟨s.toArray⟩) ⟨sep.toArray⟩ g.w (by
            intro j x hx
            rw [List.getElem?_map] at hx
            rw [Option.map_eq_some_iff] at hx
            obtain ⟨s, hs, rfl⟩ := hx
            obtain ⟨hj, rfl⟩ := List.getElem?_eq_some_iff.mp hs
            have h := hc j 0 (by omega) (by omega)
            rw [Nat.mul_one, Nat.add_zero, hvs j hj] at h
            exact h) hf.1 (by simp; omega) (by simp; omega) (by
            rw [List.map_map]
            have : (l.map ((fun (x : ByteArray) => x.data.toList) ∘ fun s => (⟨s.toArray⟩ : ByteArray))) = l := by simp [Function.comp_def]
            rw [this, show (⟨sep.toArray⟩ : ByteArray).data.toList = sep by simp, ← joinA_eq]
            omega)
          rw [List.length_map, ← hlen2] at hcall
          refine hcall.mono ?_
          rintro e w' ⟨rfl, hw⟩
          refine ⟨_, g.grown w', rfl, rfl, le_grown hw, ?_, (sr_grown hw hS).enter.leave _ _⟩
          have : (l.map (fun s => (⟨s.toArray⟩ : ByteArray))).map (fun x => x.data.toList) = l := by simp [Function.comp_def]
          rw [this, show (⟨sep.toArray⟩ : ByteArray).data.toList = sep by simp, joinA_eq]
          exact .str _
      · cases hp
  · rename_i e0 e1
    cases e1
  · cases hp

theorem smallA_eq : ∀ n, n < 100 → smallA n = Lib.decDigits n := by
  intro n hn
  unfold Lib.decDigits
  by_cases h : n < 10
  · rw [dif_pos h]
    have : Nat.blt n 10 = true := Nat.ble_eq_true_of_le h
    simp [smallA, this]
  · rw [dif_neg h]
    unfold Lib.decDigits
    have h2 : n / 10 < 10 := by omega
    rw [dif_pos h2]
    have : Nat.blt n 10 = false := by
      cases hc : Nat.blt n 10 with
      | false => rfl
      | true => exact absurd (Nat.le_of_ble_eq_true hc) h
    simp [smallA, this]

theorem prim_itoa {i : Nat} (hgood : Good P (M.fm i))
    (h0 : ∀ (n : Nat) (_ : n < 100) (w : World), Calls P (M.fm i) #[.int .i64 n] w fun e w' => e = .returned (.string ⟨(Lib.decDigits n).toArray⟩) ∧ w' = w) : PrimAt P M i primItoa := by
  intro tbl n args t r t' hi hr
  obtain ⟨x, rfl, hp, rfl⟩ := prim1 rfl hi hr
  refine ⟨hgood, fun g cargs hS hsz hv => ?_⟩
  have hsz1 : cargs.size = 1 := by simpa using hsz
  have vx := hv 0 (by simp)
  obtain ⟨cx, rfl⟩ : ∃ cx, cargs = #[cx] := ⟨cargs[0], by
    apply Array.ext
    · simp [hsz1]
    · intro j h1 h2
      match j, h2 with
      | 0, _ => rfl⟩
  simp only [List.getElem_cons_zero] at vx
  have vx : VR M g x cx := vx
  unfold primA at hp
  split at hp
  · rename_i e0 e1; cases e1
  · rename_i e0 e1; cases e1
  · rename_i e0 e1; cases e1
  · rename_i k m e0 e1
    cases e1
    split at hp
    · rename_i hb
      cases hp
      simp only [Bool.and_eq_true] at hb
      have hk : k = .i64 := by simpa using hb.1
      have hm : m < 100 := Nat.le_of_ble_eq_true hb.2
      subst hk
      cases vx
      refine (h0 m hm g.w).mono ?_
      rintro e w' ⟨rfl, rfl⟩
      refine ⟨_, g, rfl, rfl, .refl g, ?_, hS.enter.leave _ _⟩
      rw [← smallA_eq m hm]
      exact .str _
    · cases hp
  · cases hp

theorem Here.prim {im : FuncId → Option Nat} {i : Nat} {a : AFunc} (hd : a.depth = 77) (h : PrimAt P M i a) : Here P M im i a := .inr ⟨hd, h⟩

end

end M2
end
section
/-
  DERIVED: THE SHELF's CONTRACTS AT THIS DUMP, IN PLAIN WORDS (tools/lay-plain.mjs out of 'TryzShelf.lean', which tools/lay-shelf.mjs wrote): THE SAME DECLARATIONS UNDER THE SAME NAMES: 'import', 'namespace', 'open', 'def', 'theorem' AND NOTHING ELSE: no command of the shelf's: FOR A HAND-IN. Each laying: the table of numbers ('.._ren') and one theorem, a field a fact of the dump's own or the kernel's comparison; each contract: ONE APPLICATION.
-/
namespace Go.Proofs
open Go.Shelf
def Tryz.lays171_ren : Go.Shelf.Ren := ⟨fun | 171 => 142 | 243 => 204 | 246 => 237 | 283 => 254 | 284 => 255 | 285 => 256 | 286 => 257 | 129 => 177 | 317 => 268 | 318 => 269 | 319 => 270 | 320 => 271 | 337 => 275 | 338 => 276 | n => n, fun | 3 => 3 | 9 => 9 | 2 => 2 | 4 => 4 | 171 => 313 | 0 => 0 | 53 => 259 | 37 => 275 | 5 => 5 | 173 => 315 | 212 => 324 | 51 => 134 | 20 => 20 | 213 => 325 | 46 => 203 | 232 => 329 | 233 => 330 | n => n, fun | 17 => 0 | 18 => 1 | 19 => 2 | n => n⟩
theorem Tryz.lays171 : Go.Proofs.Lays.n171 Tryz.prog Tryz.lays171_ren := {
  mixed := by kernel_rfl
  f129 := Tryz.func177.trans (congrArg some (by kernel_rfl))
  f171 := Tryz.func142.trans (congrArg some (by kernel_rfl))
  f243 := Tryz.func204.trans (congrArg some (by kernel_rfl))
  f246 := Tryz.func237.trans (congrArg some (by kernel_rfl))
  f283 := Tryz.func254.trans (congrArg some (by kernel_rfl))
  f284 := Tryz.func255.trans (congrArg some (by kernel_rfl))
  f285 := Tryz.func256.trans (congrArg some (by kernel_rfl))
  f286 := Tryz.func257.trans (congrArg some (by kernel_rfl))
  f317 := Tryz.func268.trans (congrArg some (by kernel_rfl))
  f318 := Tryz.func269.trans (congrArg some (by kernel_rfl))
  f319 := Tryz.func270.trans (congrArg some (by kernel_rfl))
  f320 := Tryz.func271.trans (congrArg some (by kernel_rfl))
  f337 := Tryz.func275.trans (congrArg some (by kernel_rfl))
  f338 := Tryz.func276.trans (congrArg some (by kernel_rfl))
  t0 := Tryz.underlying0
  a0 := Tryz.isAgg0
  z0 := Tryz.sizeOf0
  v0 := Tryz.zeroValue0
  t2 := Tryz.underlying2
  a2 := Tryz.isAgg2
  z2 := Tryz.sizeOf2
  v2 := Tryz.zeroValue2
  t3 := Tryz.underlying3
  a3 := Tryz.isAgg3
  z3 := Tryz.sizeOf3
  v3 := Tryz.zeroValue3
  t4 := Tryz.underlying4
  a4 := Tryz.isAgg4
  z4 := Tryz.sizeOf4
  v4 := Tryz.zeroValue4
  t5 := Tryz.underlying5
  a5 := Tryz.isAgg5
  z5 := Tryz.sizeOf5
  v5 := Tryz.zeroValue5
  t9 := Tryz.underlying9
  a9 := Tryz.isAgg9
  z9 := Tryz.sizeOf9
  v9 := Tryz.zeroValue9
  t20 := Tryz.underlying20
  a20 := Tryz.isAgg20
  z20 := Tryz.sizeOf20
  v20 := Tryz.zeroValue20
  t37 := Tryz.underlying275
  a37 := Tryz.isAgg275
  z37 := Tryz.sizeOf275
  v37 := Tryz.zeroValue275
  t46 := Tryz.underlying203
  a46 := Tryz.isAgg203
  z46 := Tryz.sizeOf203
  v46 := Tryz.zeroValue203
  t51 := Tryz.underlying134
  a51 := Tryz.isAgg134
  z51 := Tryz.sizeOf134
  v51 := Tryz.zeroValue134
  t53 := Tryz.underlying259
  a53 := Tryz.isAgg259
  z53 := Tryz.sizeOf259
  v53 := Tryz.zeroValue259
  t171 := Tryz.underlying313
  a171 := Tryz.isAgg313
  z171 := Tryz.sizeOf313
  v171 := Tryz.zeroValue313
  t173 := Tryz.underlying315
  a173 := Tryz.isAgg315
  z173 := Tryz.sizeOf315
  v173 := Tryz.zeroValue315
  t212 := Tryz.underlying324
  a212 := Tryz.isAgg324
  z212 := Tryz.sizeOf324
  v212 := Tryz.zeroValue324
  t213 := Tryz.underlying325
  a213 := Tryz.isAgg325
  z213 := Tryz.sizeOf325
  t232 := Tryz.underlying329
  a232 := Tryz.isAgg329
  z232 := Tryz.sizeOf329
  v232 := Tryz.zeroValue329
  t233 := Tryz.underlying330
  a233 := Tryz.isAgg330
  z233 := Tryz.sizeOf330
  v233 := Tryz.zeroValue330
  g17 := by kernel_rfl
  g18 := by kernel_rfl
  g19 := by kernel_rfl }
open Go.RowKit Go.Sort Go.Lib in
/-- THE ROAD WITHOUT THE TABLE: 0 <= i < 100: NO PREMISE ON THE WORLD, AND THE WORLD IS AS IT WAS: a row that keeps its argument in that range need list no table ('laid = []'). (LAID: no walk: one application.) -/
theorem Tryz.strconv_Itoa_small (i : Nat) (hi : i < 100) (w : World) :
    Calls Tryz.prog 142 #[.int .i64 i] w fun e w' => e = .returned (.string ⟨(Lib.decDigits i).toArray⟩) ∧ w' = w := Any.strconv_Itoa_small Tryz.lays171 i hi w
end Go.Proofs
end
section
namespace Go.Proofs.YtoljmdhhhkbolaaGreatDoor
open Go M2

def ims : List Nat := [0, 1, 2, 439, 440, 441, 353, 442, 443, 444, 445, 446, 447, 448, 449, 450, 451, 452, 453, 454, 455, 456, 457, 368, 205, 458, 139, 132, 361, 154, 148, 362, 363, 364, 365, 172, 206, 385, 459, 460, 461, 462, 463, 464, 465, 400, 466, 467, 468, 469, 470, 471, 472, 176, 473, 229, 474, 475, 476, 367, 477, 198, 213, 202, 221, 147, 48, 143, 144, 53, 175, 35, 36, 377, 378, 379, 380, 381, 382, 383, 384, 222, 397, 398, 399, 401, 402, 403, 404, 201, 405, 478, 479, 46, 480, 481, 482, 483, 484, 485, 486, 487, 488, 489, 490, 491, 492, 493, 494, 495, 496, 181, 497, 237, 245, 232, 233, 246, 498, 499, 500, 501, 502, 503, 209, 210, 211, 212, 235, 220, 60, 152, 153, 155, 156, 157, 158, 159, 160, 34, 395, 396, 289, 417, 82, 242, 230, 231, 62, 418, 61, 419, 214, 216, 256, 219, 267, 504, 505, 506, 507, 508, 275, 274, 204, 509, 510, 511, 512, 513, 514, 515, 516, 517, 518, 519, 259, 260, 247, 268, 520, 521, 522, 523, 524, 525, 526, 527, 528, 225, 226, 227, 228, 234, 248, 249, 77, 78, 79, 80, 173, 55, 174, 57, 295, 94, 261, 262, 263, 264, 265, 266, 83, 81, 236, 529, 530, 531, 532, 533, 534, 535, 536, 270, 271, 537, 538, 539, 540, 541, 542, 243, 244, 73, 74, 75, 76, 305, 250, 251, 252, 253, 254, 255, 257, 258, 543, 544, 545, 546, 547, 548, 93, 54, 314, 315, 316, 317, 269, 272, 273, 549, 550, 551, 552, 553, 554, 555, 324, 325, 326, 327, 276, 556, 557, 328, 329, 102, 103, 104, 105, 106, 107, 108, 109, 110, 111, 112, 113, 114, 115, 116, 117, 334, 335, 336, 337, 340, 341]
def im (f : Nat) : Option Nat := ims[f]?

end Go.Proofs.YtoljmdhhhkbolaaGreatDoor
end
section
/- The functions of the program compile to those. -/
namespace Go.Proofs.YtoljmdhhhkbolaaGreatDoor
open Go M2

theorem c34 : cmpF Tryz.prog im 5 false Tryz.f139 = some a34 := by kernel_rfl
theorem c35 : cmpF Tryz.prog im 5 false Tryz.f71 = some a35 := by kernel_rfl
theorem c36 : cmpF Tryz.prog im 5 false Tryz.f72 = some a36 := by kernel_rfl
theorem c46 : cmpF Tryz.prog im 4 false Tryz.f93 = some a46 := by kernel_rfl
theorem c48 : cmpF Tryz.prog im 7 false Tryz.f66 = some a48 := by kernel_rfl
theorem c53 : cmpF Tryz.prog im 6 false Tryz.f69 = some a53 := by kernel_rfl
theorem c54 : cmpF Tryz.prog im 3 false Tryz.f253 = some a54 := by kernel_rfl
theorem c55 : cmpF Tryz.prog im 5 false Tryz.f201 = some a55 := by kernel_rfl
theorem c57 : cmpF Tryz.prog im 6 false Tryz.f203 = some a57 := by kernel_rfl
theorem c60 : cmpF Tryz.prog im 7 false Tryz.f130 = some a60 := by kernel_rfl
theorem c61 : cmpF Tryz.prog im 4 false Tryz.f150 = some a61 := by kernel_rfl
theorem c62 : cmpF Tryz.prog im 4 false Tryz.f148 = some a62 := by kernel_rfl
theorem c73 : cmpF Tryz.prog im 6 false Tryz.f233 = some a73 := by kernel_rfl
theorem c74 : cmpF Tryz.prog im 6 false Tryz.f234 = some a74 := by kernel_rfl
theorem c75 : cmpF Tryz.prog im 6 false Tryz.f235 = some a75 := by kernel_rfl
theorem c76 : cmpF Tryz.prog im 4 false Tryz.f236 = some a76 := by kernel_rfl
theorem c77 : cmpF Tryz.prog im 5 false Tryz.f196 = some a77 := by kernel_rfl
theorem c78 : cmpF Tryz.prog im 4 false Tryz.f197 = some a78 := by kernel_rfl
theorem c79 : cmpF Tryz.prog im 4 false Tryz.f198 = some a79 := by kernel_rfl
theorem c80 : cmpF Tryz.prog im 6 false Tryz.f199 = some a80 := by kernel_rfl
theorem c81 : cmpF Tryz.prog im 4 false Tryz.f213 = some a81 := by kernel_rfl
theorem c82 : cmpF Tryz.prog im 6 false Tryz.f144 = some a82 := by kernel_rfl
theorem c83 : cmpF Tryz.prog im 5 false Tryz.f212 = some a83 := by kernel_rfl
theorem c93 : cmpF Tryz.prog im 8 false Tryz.f252 = some a93 := by kernel_rfl
theorem c94 : cmpF Tryz.prog im 4 false Tryz.f205 = some a94 := by kernel_rfl
theorem c132 : cmpF Tryz.prog im 6 true Tryz.f27 = some a132 := by kernel_rfl
theorem c139 : cmpF Tryz.prog im 7 true Tryz.f26 = some a139 := by kernel_rfl
theorem c143 : cmpF Tryz.prog im 4 false Tryz.f67 = some a143 := by kernel_rfl
theorem c144 : cmpF Tryz.prog im 9 true Tryz.f68 = some a144 := by kernel_rfl
theorem c147 : cmpF Tryz.prog im 6 false Tryz.f65 = some a147 := by kernel_rfl
theorem c148 : cmpF Tryz.prog im 4 false Tryz.f30 = some a148 := by kernel_rfl
theorem c152 : cmpF Tryz.prog im 4 false Tryz.f131 = some a152 := by kernel_rfl
theorem c153 : cmpF Tryz.prog im 7 false Tryz.f132 = some a153 := by kernel_rfl
theorem c154 : cmpF Tryz.prog im 5 false Tryz.f29 = some a154 := by kernel_rfl
theorem c155 : cmpF Tryz.prog im 3 false Tryz.f133 = some a155 := by kernel_rfl
theorem c156 : cmpF Tryz.prog im 5 false Tryz.f134 = some a156 := by kernel_rfl
theorem c157 : cmpF Tryz.prog im 7 true Tryz.f135 = some a157 := by kernel_rfl
theorem c158 : cmpF Tryz.prog im 6 false Tryz.f136 = some a158 := by kernel_rfl
theorem c159 : cmpF Tryz.prog im 7 true Tryz.f137 = some a159 := by kernel_rfl
theorem c160 : cmpF Tryz.prog im 7 true Tryz.f138 = some a160 := by kernel_rfl
theorem c172 : cmpF Tryz.prog im 5 false Tryz.f35 = some a172 := by kernel_rfl
theorem c173 : cmpF Tryz.prog im 5 false Tryz.f200 = some a173 := by kernel_rfl
theorem c174 : cmpF Tryz.prog im 5 true Tryz.f202 = some a174 := by kernel_rfl
theorem c175 : cmpF Tryz.prog im 6 false Tryz.f70 = some a175 := by kernel_rfl
theorem c176 : cmpF Tryz.prog im 4 false Tryz.f53 = some a176 := by kernel_rfl
theorem c181 : cmpF Tryz.prog im 5 false Tryz.f111 = some a181 := by kernel_rfl
theorem c201 : cmpF Tryz.prog im 4 false Tryz.f89 = some a201 := by kernel_rfl
theorem c206 : cmpF Tryz.prog im 6 false Tryz.f36 = some a206 := by kernel_rfl
theorem c214 : cmpF Tryz.prog im 4 false Tryz.f152 = some a214 := by kernel_rfl
theorem c216 : cmpF Tryz.prog im 6 false Tryz.f153 = some a216 := by kernel_rfl
theorem c219 : cmpF Tryz.prog im 5 false Tryz.f155 = some a219 := by kernel_rfl
theorem c222 : cmpF Tryz.prog im 5 false Tryz.f81 = some a222 := by kernel_rfl
theorem c230 : cmpF Tryz.prog im 4 false Tryz.f146 = some a230 := by kernel_rfl
theorem c231 : cmpF Tryz.prog im 5 false Tryz.f147 = some a231 := by kernel_rfl
theorem c236 : cmpF Tryz.prog im 8 false Tryz.f214 = some a236 := by kernel_rfl
theorem c237 : cmpF Tryz.prog im 3 false Tryz.f113 = some a237 := by kernel_rfl
theorem c242 : cmpF Tryz.prog im 6 false Tryz.f145 = some a242 := by kernel_rfl

end Go.Proofs.YtoljmdhhhkbolaaGreatDoor
end
section
/- The functions of the program compile to those. -/
namespace Go.Proofs.YtoljmdhhhkbolaaGreatDoor
open Go M2

theorem c250 : cmpF Tryz.prog im 6 false Tryz.f238 = some a250 := by kernel_rfl
theorem c251 : cmpF Tryz.prog im 6 false Tryz.f239 = some a251 := by kernel_rfl
theorem c252 : cmpF Tryz.prog im 7 false Tryz.f240 = some a252 := by kernel_rfl
theorem c253 : cmpF Tryz.prog im 6 false Tryz.f241 = some a253 := by kernel_rfl
theorem c254 : cmpF Tryz.prog im 5 false Tryz.f242 = some a254 := by kernel_rfl
theorem c255 : cmpF Tryz.prog im 8 false Tryz.f243 = some a255 := by kernel_rfl
theorem c256 : cmpF Tryz.prog im 5 false Tryz.f154 = some a256 := by kernel_rfl
theorem c257 : cmpF Tryz.prog im 7 false Tryz.f244 = some a257 := by kernel_rfl
theorem c258 : cmpF Tryz.prog im 8 false Tryz.f245 = some a258 := by kernel_rfl
theorem c259 : cmpF Tryz.prog im 5 false Tryz.f176 = some a259 := by kernel_rfl
theorem c260 : cmpF Tryz.prog im 5 false Tryz.f177 = some a260 := by kernel_rfl
theorem c261 : cmpF Tryz.prog im 4 false Tryz.f206 = some a261 := by kernel_rfl
theorem c262 : cmpF Tryz.prog im 5 false Tryz.f207 = some a262 := by kernel_rfl
theorem c263 : cmpF Tryz.prog im 4 false Tryz.f208 = some a263 := by kernel_rfl
theorem c264 : cmpF Tryz.prog im 4 false Tryz.f209 = some a264 := by kernel_rfl
theorem c265 : cmpF Tryz.prog im 4 false Tryz.f210 = some a265 := by kernel_rfl
theorem c266 : cmpF Tryz.prog im 7 false Tryz.f211 = some a266 := by kernel_rfl
theorem c267 : cmpF Tryz.prog im 4 false Tryz.f156 = some a267 := by kernel_rfl
theorem c268 : cmpF Tryz.prog im 3 false Tryz.f179 = some a268 := by kernel_rfl
theorem c269 : cmpF Tryz.prog im 7 false Tryz.f258 = some a269 := by kernel_rfl
theorem c270 : cmpF Tryz.prog im 3 false Tryz.f223 = some a270 := by kernel_rfl
theorem c271 : cmpF Tryz.prog im 6 false Tryz.f224 = some a271 := by kernel_rfl
theorem c272 : cmpF Tryz.prog im 4 false Tryz.f259 = some a272 := by kernel_rfl
theorem c273 : cmpF Tryz.prog im 6 false Tryz.f260 = some a273 := by kernel_rfl
theorem c274 : cmpF Tryz.prog im 4 false Tryz.f163 = some a274 := by kernel_rfl
theorem c275 : cmpF Tryz.prog im 5 false Tryz.f162 = some a275 := by kernel_rfl
theorem c276 : cmpF Tryz.prog im 5 false Tryz.f272 = some a276 := by kernel_rfl
theorem c353 : cmpF Tryz.prog im 8 false Tryz.f6 = some a353 := by kernel_rfl
theorem c361 : cmpF Tryz.prog im 6 true Tryz.f28 = some a361 := by kernel_rfl
theorem c362 : cmpF Tryz.prog im 7 true Tryz.f31 = some a362 := by kernel_rfl
theorem c363 : cmpF Tryz.prog im 6 true Tryz.f32 = some a363 := by kernel_rfl
theorem c364 : cmpF Tryz.prog im 8 true Tryz.f33 = some a364 := by kernel_rfl
theorem c365 : cmpF Tryz.prog im 6 false Tryz.f34 = some a365 := by kernel_rfl
theorem c368 : cmpF Tryz.prog im 5 false Tryz.f23 = some a368 := by kernel_rfl
theorem c377 : cmpF Tryz.prog im 4 false Tryz.f73 = some a377 := by kernel_rfl
theorem c378 : cmpF Tryz.prog im 3 false Tryz.f74 = some a378 := by kernel_rfl
theorem c379 : cmpF Tryz.prog im 3 false Tryz.f75 = some a379 := by kernel_rfl
theorem c380 : cmpF Tryz.prog im 4 false Tryz.f76 = some a380 := by kernel_rfl
theorem c381 : cmpF Tryz.prog im 5 false Tryz.f77 = some a381 := by kernel_rfl
theorem c382 : cmpF Tryz.prog im 4 false Tryz.f78 = some a382 := by kernel_rfl
theorem c383 : cmpF Tryz.prog im 7 true Tryz.f79 = some a383 := by kernel_rfl
theorem c384 : cmpF Tryz.prog im 5 false Tryz.f80 = some a384 := by kernel_rfl
theorem c385 : cmpF Tryz.prog im 6 false Tryz.f37 = some a385 := by kernel_rfl
theorem c395 : cmpF Tryz.prog im 4 false Tryz.f140 = some a395 := by kernel_rfl
theorem c396 : cmpF Tryz.prog im 5 false Tryz.f141 = some a396 := by kernel_rfl
theorem c397 : cmpF Tryz.prog im 4 false Tryz.f82 = some a397 := by kernel_rfl
theorem c398 : cmpF Tryz.prog im 3 false Tryz.f83 = some a398 := by kernel_rfl
theorem c399 : cmpF Tryz.prog im 5 false Tryz.f84 = some a399 := by kernel_rfl
theorem c400 : cmpF Tryz.prog im 5 false Tryz.f45 = some a400 := by kernel_rfl
theorem c401 : cmpF Tryz.prog im 6 false Tryz.f85 = some a401 := by kernel_rfl
theorem c402 : cmpF Tryz.prog im 6 false Tryz.f86 = some a402 := by kernel_rfl
theorem c403 : cmpF Tryz.prog im 4 false Tryz.f87 = some a403 := by kernel_rfl
theorem c404 : cmpF Tryz.prog im 5 false Tryz.f88 = some a404 := by kernel_rfl
theorem c405 : cmpF Tryz.prog im 3 false Tryz.f90 = some a405 := by kernel_rfl
theorem c417 : cmpF Tryz.prog im 5 false Tryz.f143 = some a417 := by kernel_rfl
theorem c418 : cmpF Tryz.prog im 3 false Tryz.f149 = some a418 := by kernel_rfl
theorem c419 : cmpF Tryz.prog im 3 false Tryz.f151 = some a419 := by kernel_rfl
theorem c439 : cmpF Tryz.prog im 6 false Tryz.f3 = some a439 := by kernel_rfl
theorem c442 : cmpF Tryz.prog im 4 false Tryz.f7 = some a442 := by kernel_rfl
theorem c443 : cmpF Tryz.prog im 3 false Tryz.f8 = some a443 := by kernel_rfl
theorem c444 : cmpF Tryz.prog im 5 false Tryz.f9 = some a444 := by kernel_rfl
theorem c445 : cmpF Tryz.prog im 6 false Tryz.f10 = some a445 := by kernel_rfl
theorem c446 : cmpF Tryz.prog im 6 false Tryz.f11 = some a446 := by kernel_rfl

end Go.Proofs.YtoljmdhhhkbolaaGreatDoor
end
section
/- The functions of the program compile to those. -/
namespace Go.Proofs.YtoljmdhhhkbolaaGreatDoor
open Go M2

theorem c459 : cmpF Tryz.prog im 5 false Tryz.f38 = some a459 := by kernel_rfl
theorem c460 : cmpF Tryz.prog im 5 false Tryz.f39 = some a460 := by kernel_rfl
theorem c461 : cmpF Tryz.prog im 5 false Tryz.f40 = some a461 := by kernel_rfl
theorem c462 : cmpF Tryz.prog im 3 false Tryz.f41 = some a462 := by kernel_rfl
theorem c469 : cmpF Tryz.prog im 5 false Tryz.f49 = some a469 := by kernel_rfl
theorem c478 : cmpF Tryz.prog im 7 true Tryz.f91 = some a478 := by kernel_rfl
theorem c479 : cmpF Tryz.prog im 6 true Tryz.f92 = some a479 := by kernel_rfl

end Go.Proofs.YtoljmdhhhkbolaaGreatDoor
end
section
/- The table of the compiled functions stands for the program. -/
namespace Go.Proofs.YtoljmdhhhkbolaaGreatDoor
open Go M2

theorem g34 : Here Tryz.prog (maps ims) im 34 a34 := Here.of Tryz.f139 (by rw [show (maps ims).fm 34 = 139 from by kernel_rfl]; exact Tryz.func139) c34
theorem g35 : Here Tryz.prog (maps ims) im 35 a35 := Here.of Tryz.f71 (by rw [show (maps ims).fm 35 = 71 from by kernel_rfl]; exact Tryz.func71) c35
theorem g36 : Here Tryz.prog (maps ims) im 36 a36 := Here.of Tryz.f72 (by rw [show (maps ims).fm 36 = 72 from by kernel_rfl]; exact Tryz.func72) c36
theorem g46 : Here Tryz.prog (maps ims) im 46 a46 := Here.of Tryz.f93 (by rw [show (maps ims).fm 46 = 93 from by kernel_rfl]; exact Tryz.func93) c46
theorem g48 : Here Tryz.prog (maps ims) im 48 a48 := Here.of Tryz.f66 (by rw [show (maps ims).fm 48 = 66 from by kernel_rfl]; exact Tryz.func66) c48
theorem g53 : Here Tryz.prog (maps ims) im 53 a53 := Here.of Tryz.f69 (by rw [show (maps ims).fm 53 = 69 from by kernel_rfl]; exact Tryz.func69) c53
theorem g54 : Here Tryz.prog (maps ims) im 54 a54 := Here.of Tryz.f253 (by rw [show (maps ims).fm 54 = 253 from by kernel_rfl]; exact Tryz.func253) c54
theorem g55 : Here Tryz.prog (maps ims) im 55 a55 := Here.of Tryz.f201 (by rw [show (maps ims).fm 55 = 201 from by kernel_rfl]; exact Tryz.func201) c55
theorem g57 : Here Tryz.prog (maps ims) im 57 a57 := Here.of Tryz.f203 (by rw [show (maps ims).fm 57 = 203 from by kernel_rfl]; exact Tryz.func203) c57
theorem g60 : Here Tryz.prog (maps ims) im 60 a60 := Here.of Tryz.f130 (by rw [show (maps ims).fm 60 = 130 from by kernel_rfl]; exact Tryz.func130) c60
theorem g61 : Here Tryz.prog (maps ims) im 61 a61 := Here.of Tryz.f150 (by rw [show (maps ims).fm 61 = 150 from by kernel_rfl]; exact Tryz.func150) c61
theorem g62 : Here Tryz.prog (maps ims) im 62 a62 := Here.of Tryz.f148 (by rw [show (maps ims).fm 62 = 148 from by kernel_rfl]; exact Tryz.func148) c62
theorem g73 : Here Tryz.prog (maps ims) im 73 a73 := Here.of Tryz.f233 (by rw [show (maps ims).fm 73 = 233 from by kernel_rfl]; exact Tryz.func233) c73
theorem g74 : Here Tryz.prog (maps ims) im 74 a74 := Here.of Tryz.f234 (by rw [show (maps ims).fm 74 = 234 from by kernel_rfl]; exact Tryz.func234) c74
theorem g75 : Here Tryz.prog (maps ims) im 75 a75 := Here.of Tryz.f235 (by rw [show (maps ims).fm 75 = 235 from by kernel_rfl]; exact Tryz.func235) c75
theorem g76 : Here Tryz.prog (maps ims) im 76 a76 := Here.of Tryz.f236 (by rw [show (maps ims).fm 76 = 236 from by kernel_rfl]; exact Tryz.func236) c76
theorem g77 : Here Tryz.prog (maps ims) im 77 a77 := Here.of Tryz.f196 (by rw [show (maps ims).fm 77 = 196 from by kernel_rfl]; exact Tryz.func196) c77
theorem g78 : Here Tryz.prog (maps ims) im 78 a78 := Here.of Tryz.f197 (by rw [show (maps ims).fm 78 = 197 from by kernel_rfl]; exact Tryz.func197) c78
theorem g79 : Here Tryz.prog (maps ims) im 79 a79 := Here.of Tryz.f198 (by rw [show (maps ims).fm 79 = 198 from by kernel_rfl]; exact Tryz.func198) c79
theorem g80 : Here Tryz.prog (maps ims) im 80 a80 := Here.of Tryz.f199 (by rw [show (maps ims).fm 80 = 199 from by kernel_rfl]; exact Tryz.func199) c80
theorem g81 : Here Tryz.prog (maps ims) im 81 a81 := Here.of Tryz.f213 (by rw [show (maps ims).fm 81 = 213 from by kernel_rfl]; exact Tryz.func213) c81
theorem g82 : Here Tryz.prog (maps ims) im 82 a82 := Here.of Tryz.f144 (by rw [show (maps ims).fm 82 = 144 from by kernel_rfl]; exact Tryz.func144) c82
theorem g83 : Here Tryz.prog (maps ims) im 83 a83 := Here.of Tryz.f212 (by rw [show (maps ims).fm 83 = 212 from by kernel_rfl]; exact Tryz.func212) c83
theorem g93 : Here Tryz.prog (maps ims) im 93 a93 := Here.of Tryz.f252 (by rw [show (maps ims).fm 93 = 252 from by kernel_rfl]; exact Tryz.func252) c93
theorem g94 : Here Tryz.prog (maps ims) im 94 a94 := Here.of Tryz.f205 (by rw [show (maps ims).fm 94 = 205 from by kernel_rfl]; exact Tryz.func205) c94
theorem g132 : Here Tryz.prog (maps ims) im 132 a132 := Here.of Tryz.f27 (by rw [show (maps ims).fm 132 = 27 from by kernel_rfl]; exact Tryz.func27) c132
theorem g139 : Here Tryz.prog (maps ims) im 139 a139 := Here.of Tryz.f26 (by rw [show (maps ims).fm 139 = 26 from by kernel_rfl]; exact Tryz.func26) c139
theorem g143 : Here Tryz.prog (maps ims) im 143 a143 := Here.of Tryz.f67 (by rw [show (maps ims).fm 143 = 67 from by kernel_rfl]; exact Tryz.func67) c143
theorem g144 : Here Tryz.prog (maps ims) im 144 a144 := Here.of Tryz.f68 (by rw [show (maps ims).fm 144 = 68 from by kernel_rfl]; exact Tryz.func68) c144
theorem g147 : Here Tryz.prog (maps ims) im 147 a147 := Here.of Tryz.f65 (by rw [show (maps ims).fm 147 = 65 from by kernel_rfl]; exact Tryz.func65) c147
theorem g148 : Here Tryz.prog (maps ims) im 148 a148 := Here.of Tryz.f30 (by rw [show (maps ims).fm 148 = 30 from by kernel_rfl]; exact Tryz.func30) c148
theorem g152 : Here Tryz.prog (maps ims) im 152 a152 := Here.of Tryz.f131 (by rw [show (maps ims).fm 152 = 131 from by kernel_rfl]; exact Tryz.func131) c152
theorem g153 : Here Tryz.prog (maps ims) im 153 a153 := Here.of Tryz.f132 (by rw [show (maps ims).fm 153 = 132 from by kernel_rfl]; exact Tryz.func132) c153
theorem g154 : Here Tryz.prog (maps ims) im 154 a154 := Here.of Tryz.f29 (by rw [show (maps ims).fm 154 = 29 from by kernel_rfl]; exact Tryz.func29) c154
theorem g155 : Here Tryz.prog (maps ims) im 155 a155 := Here.of Tryz.f133 (by rw [show (maps ims).fm 155 = 133 from by kernel_rfl]; exact Tryz.func133) c155
theorem g156 : Here Tryz.prog (maps ims) im 156 a156 := Here.of Tryz.f134 (by rw [show (maps ims).fm 156 = 134 from by kernel_rfl]; exact Tryz.func134) c156
theorem g157 : Here Tryz.prog (maps ims) im 157 a157 := Here.of Tryz.f135 (by rw [show (maps ims).fm 157 = 135 from by kernel_rfl]; exact Tryz.func135) c157
theorem g158 : Here Tryz.prog (maps ims) im 158 a158 := Here.of Tryz.f136 (by rw [show (maps ims).fm 158 = 136 from by kernel_rfl]; exact Tryz.func136) c158
theorem g159 : Here Tryz.prog (maps ims) im 159 a159 := Here.of Tryz.f137 (by rw [show (maps ims).fm 159 = 137 from by kernel_rfl]; exact Tryz.func137) c159
theorem g160 : Here Tryz.prog (maps ims) im 160 a160 := Here.of Tryz.f138 (by rw [show (maps ims).fm 160 = 138 from by kernel_rfl]; exact Tryz.func138) c160
theorem g172 : Here Tryz.prog (maps ims) im 172 a172 := Here.of Tryz.f35 (by rw [show (maps ims).fm 172 = 35 from by kernel_rfl]; exact Tryz.func35) c172
theorem g173 : Here Tryz.prog (maps ims) im 173 a173 := Here.of Tryz.f200 (by rw [show (maps ims).fm 173 = 200 from by kernel_rfl]; exact Tryz.func200) c173
theorem g174 : Here Tryz.prog (maps ims) im 174 a174 := Here.of Tryz.f202 (by rw [show (maps ims).fm 174 = 202 from by kernel_rfl]; exact Tryz.func202) c174
theorem g175 : Here Tryz.prog (maps ims) im 175 a175 := Here.of Tryz.f70 (by rw [show (maps ims).fm 175 = 70 from by kernel_rfl]; exact Tryz.func70) c175
theorem g176 : Here Tryz.prog (maps ims) im 176 a176 := Here.of Tryz.f53 (by rw [show (maps ims).fm 176 = 53 from by kernel_rfl]; exact Tryz.func53) c176
theorem g181 : Here Tryz.prog (maps ims) im 181 a181 := Here.of Tryz.f111 (by rw [show (maps ims).fm 181 = 111 from by kernel_rfl]; exact Tryz.func111) c181
theorem g201 : Here Tryz.prog (maps ims) im 201 a201 := Here.of Tryz.f89 (by rw [show (maps ims).fm 201 = 89 from by kernel_rfl]; exact Tryz.func89) c201
theorem g206 : Here Tryz.prog (maps ims) im 206 a206 := Here.of Tryz.f36 (by rw [show (maps ims).fm 206 = 36 from by kernel_rfl]; exact Tryz.func36) c206
theorem g214 : Here Tryz.prog (maps ims) im 214 a214 := Here.of Tryz.f152 (by rw [show (maps ims).fm 214 = 152 from by kernel_rfl]; exact Tryz.func152) c214
theorem g216 : Here Tryz.prog (maps ims) im 216 a216 := Here.of Tryz.f153 (by rw [show (maps ims).fm 216 = 153 from by kernel_rfl]; exact Tryz.func153) c216
theorem g219 : Here Tryz.prog (maps ims) im 219 a219 := Here.of Tryz.f155 (by rw [show (maps ims).fm 219 = 155 from by kernel_rfl]; exact Tryz.func155) c219
theorem g222 : Here Tryz.prog (maps ims) im 222 a222 := Here.of Tryz.f81 (by rw [show (maps ims).fm 222 = 81 from by kernel_rfl]; exact Tryz.func81) c222
theorem g230 : Here Tryz.prog (maps ims) im 230 a230 := Here.of Tryz.f146 (by rw [show (maps ims).fm 230 = 146 from by kernel_rfl]; exact Tryz.func146) c230
theorem g231 : Here Tryz.prog (maps ims) im 231 a231 := Here.of Tryz.f147 (by rw [show (maps ims).fm 231 = 147 from by kernel_rfl]; exact Tryz.func147) c231
theorem g236 : Here Tryz.prog (maps ims) im 236 a236 := Here.of Tryz.f214 (by rw [show (maps ims).fm 236 = 214 from by kernel_rfl]; exact Tryz.func214) c236
theorem g237 : Here Tryz.prog (maps ims) im 237 a237 := Here.of Tryz.f113 (by rw [show (maps ims).fm 237 = 113 from by kernel_rfl]; exact Tryz.func113) c237
theorem g242 : Here Tryz.prog (maps ims) im 242 a242 := Here.of Tryz.f145 (by rw [show (maps ims).fm 242 = 145 from by kernel_rfl]; exact Tryz.func145) c242
theorem g250 : Here Tryz.prog (maps ims) im 250 a250 := Here.of Tryz.f238 (by rw [show (maps ims).fm 250 = 238 from by kernel_rfl]; exact Tryz.func238) c250
theorem g251 : Here Tryz.prog (maps ims) im 251 a251 := Here.of Tryz.f239 (by rw [show (maps ims).fm 251 = 239 from by kernel_rfl]; exact Tryz.func239) c251
theorem g252 : Here Tryz.prog (maps ims) im 252 a252 := Here.of Tryz.f240 (by rw [show (maps ims).fm 252 = 240 from by kernel_rfl]; exact Tryz.func240) c252
theorem g253 : Here Tryz.prog (maps ims) im 253 a253 := Here.of Tryz.f241 (by rw [show (maps ims).fm 253 = 241 from by kernel_rfl]; exact Tryz.func241) c253
theorem g254 : Here Tryz.prog (maps ims) im 254 a254 := Here.of Tryz.f242 (by rw [show (maps ims).fm 254 = 242 from by kernel_rfl]; exact Tryz.func242) c254
theorem g255 : Here Tryz.prog (maps ims) im 255 a255 := Here.of Tryz.f243 (by rw [show (maps ims).fm 255 = 243 from by kernel_rfl]; exact Tryz.func243) c255
theorem g256 : Here Tryz.prog (maps ims) im 256 a256 := Here.of Tryz.f154 (by rw [show (maps ims).fm 256 = 154 from by kernel_rfl]; exact Tryz.func154) c256
theorem g257 : Here Tryz.prog (maps ims) im 257 a257 := Here.of Tryz.f244 (by rw [show (maps ims).fm 257 = 244 from by kernel_rfl]; exact Tryz.func244) c257
theorem g258 : Here Tryz.prog (maps ims) im 258 a258 := Here.of Tryz.f245 (by rw [show (maps ims).fm 258 = 245 from by kernel_rfl]; exact Tryz.func245) c258
theorem g259 : Here Tryz.prog (maps ims) im 259 a259 := Here.of Tryz.f176 (by rw [show (maps ims).fm 259 = 176 from by kernel_rfl]; exact Tryz.func176) c259
theorem g260 : Here Tryz.prog (maps ims) im 260 a260 := Here.of Tryz.f177 (by rw [show (maps ims).fm 260 = 177 from by kernel_rfl]; exact Tryz.func177) c260
theorem g261 : Here Tryz.prog (maps ims) im 261 a261 := Here.of Tryz.f206 (by rw [show (maps ims).fm 261 = 206 from by kernel_rfl]; exact Tryz.func206) c261
theorem g262 : Here Tryz.prog (maps ims) im 262 a262 := Here.of Tryz.f207 (by rw [show (maps ims).fm 262 = 207 from by kernel_rfl]; exact Tryz.func207) c262
theorem g263 : Here Tryz.prog (maps ims) im 263 a263 := Here.of Tryz.f208 (by rw [show (maps ims).fm 263 = 208 from by kernel_rfl]; exact Tryz.func208) c263
theorem g264 : Here Tryz.prog (maps ims) im 264 a264 := Here.of Tryz.f209 (by rw [show (maps ims).fm 264 = 209 from by kernel_rfl]; exact Tryz.func209) c264
theorem g265 : Here Tryz.prog (maps ims) im 265 a265 := Here.of Tryz.f210 (by rw [show (maps ims).fm 265 = 210 from by kernel_rfl]; exact Tryz.func210) c265
theorem g266 : Here Tryz.prog (maps ims) im 266 a266 := Here.of Tryz.f211 (by rw [show (maps ims).fm 266 = 211 from by kernel_rfl]; exact Tryz.func211) c266
theorem g267 : Here Tryz.prog (maps ims) im 267 a267 := Here.of Tryz.f156 (by rw [show (maps ims).fm 267 = 156 from by kernel_rfl]; exact Tryz.func156) c267
theorem g268 : Here Tryz.prog (maps ims) im 268 a268 := Here.of Tryz.f179 (by rw [show (maps ims).fm 268 = 179 from by kernel_rfl]; exact Tryz.func179) c268
theorem g269 : Here Tryz.prog (maps ims) im 269 a269 := Here.of Tryz.f258 (by rw [show (maps ims).fm 269 = 258 from by kernel_rfl]; exact Tryz.func258) c269
theorem g270 : Here Tryz.prog (maps ims) im 270 a270 := Here.of Tryz.f223 (by rw [show (maps ims).fm 270 = 223 from by kernel_rfl]; exact Tryz.func223) c270
theorem g271 : Here Tryz.prog (maps ims) im 271 a271 := Here.of Tryz.f224 (by rw [show (maps ims).fm 271 = 224 from by kernel_rfl]; exact Tryz.func224) c271
theorem g272 : Here Tryz.prog (maps ims) im 272 a272 := Here.of Tryz.f259 (by rw [show (maps ims).fm 272 = 259 from by kernel_rfl]; exact Tryz.func259) c272
theorem g273 : Here Tryz.prog (maps ims) im 273 a273 := Here.of Tryz.f260 (by rw [show (maps ims).fm 273 = 260 from by kernel_rfl]; exact Tryz.func260) c273
theorem g274 : Here Tryz.prog (maps ims) im 274 a274 := Here.of Tryz.f163 (by rw [show (maps ims).fm 274 = 163 from by kernel_rfl]; exact Tryz.func163) c274
theorem g275 : Here Tryz.prog (maps ims) im 275 a275 := Here.of Tryz.f162 (by rw [show (maps ims).fm 275 = 162 from by kernel_rfl]; exact Tryz.func162) c275
theorem g276 : Here Tryz.prog (maps ims) im 276 a276 := Here.of Tryz.f272 (by rw [show (maps ims).fm 276 = 272 from by kernel_rfl]; exact Tryz.func272) c276
theorem f289 : (maps ims).fm 289 = 142 := by kernel_rfl
theorem g289 : Here Tryz.prog (maps ims) im 289 a289 := Here.prim rfl (prim_itoa (by rw [f289]; exact ⟨Tryz.f142, Tryz.func142, by kernel_rfl, by kernel_rfl⟩) (by rw [f289]; exact Tryz.strconv_Itoa_small))
theorem g353 : Here Tryz.prog (maps ims) im 353 a353 := Here.of Tryz.f6 (by rw [show (maps ims).fm 353 = 6 from by kernel_rfl]; exact Tryz.func6) c353
theorem g361 : Here Tryz.prog (maps ims) im 361 a361 := Here.of Tryz.f28 (by rw [show (maps ims).fm 361 = 28 from by kernel_rfl]; exact Tryz.func28) c361
theorem g362 : Here Tryz.prog (maps ims) im 362 a362 := Here.of Tryz.f31 (by rw [show (maps ims).fm 362 = 31 from by kernel_rfl]; exact Tryz.func31) c362
theorem g363 : Here Tryz.prog (maps ims) im 363 a363 := Here.of Tryz.f32 (by rw [show (maps ims).fm 363 = 32 from by kernel_rfl]; exact Tryz.func32) c363
theorem g364 : Here Tryz.prog (maps ims) im 364 a364 := Here.of Tryz.f33 (by rw [show (maps ims).fm 364 = 33 from by kernel_rfl]; exact Tryz.func33) c364
theorem g365 : Here Tryz.prog (maps ims) im 365 a365 := Here.of Tryz.f34 (by rw [show (maps ims).fm 365 = 34 from by kernel_rfl]; exact Tryz.func34) c365
theorem g368 : Here Tryz.prog (maps ims) im 368 a368 := Here.of Tryz.f23 (by rw [show (maps ims).fm 368 = 23 from by kernel_rfl]; exact Tryz.func23) c368
theorem g377 : Here Tryz.prog (maps ims) im 377 a377 := Here.of Tryz.f73 (by rw [show (maps ims).fm 377 = 73 from by kernel_rfl]; exact Tryz.func73) c377
theorem g378 : Here Tryz.prog (maps ims) im 378 a378 := Here.of Tryz.f74 (by rw [show (maps ims).fm 378 = 74 from by kernel_rfl]; exact Tryz.func74) c378
theorem g379 : Here Tryz.prog (maps ims) im 379 a379 := Here.of Tryz.f75 (by rw [show (maps ims).fm 379 = 75 from by kernel_rfl]; exact Tryz.func75) c379
theorem g380 : Here Tryz.prog (maps ims) im 380 a380 := Here.of Tryz.f76 (by rw [show (maps ims).fm 380 = 76 from by kernel_rfl]; exact Tryz.func76) c380
theorem g381 : Here Tryz.prog (maps ims) im 381 a381 := Here.of Tryz.f77 (by rw [show (maps ims).fm 381 = 77 from by kernel_rfl]; exact Tryz.func77) c381
theorem g382 : Here Tryz.prog (maps ims) im 382 a382 := Here.of Tryz.f78 (by rw [show (maps ims).fm 382 = 78 from by kernel_rfl]; exact Tryz.func78) c382
theorem g383 : Here Tryz.prog (maps ims) im 383 a383 := Here.of Tryz.f79 (by rw [show (maps ims).fm 383 = 79 from by kernel_rfl]; exact Tryz.func79) c383
theorem g384 : Here Tryz.prog (maps ims) im 384 a384 := Here.of Tryz.f80 (by rw [show (maps ims).fm 384 = 80 from by kernel_rfl]; exact Tryz.func80) c384
theorem g385 : Here Tryz.prog (maps ims) im 385 a385 := Here.of Tryz.f37 (by rw [show (maps ims).fm 385 = 37 from by kernel_rfl]; exact Tryz.func37) c385
theorem g395 : Here Tryz.prog (maps ims) im 395 a395 := Here.of Tryz.f140 (by rw [show (maps ims).fm 395 = 140 from by kernel_rfl]; exact Tryz.func140) c395
theorem g396 : Here Tryz.prog (maps ims) im 396 a396 := Here.of Tryz.f141 (by rw [show (maps ims).fm 396 = 141 from by kernel_rfl]; exact Tryz.func141) c396
theorem g397 : Here Tryz.prog (maps ims) im 397 a397 := Here.of Tryz.f82 (by rw [show (maps ims).fm 397 = 82 from by kernel_rfl]; exact Tryz.func82) c397
theorem g398 : Here Tryz.prog (maps ims) im 398 a398 := Here.of Tryz.f83 (by rw [show (maps ims).fm 398 = 83 from by kernel_rfl]; exact Tryz.func83) c398
theorem g399 : Here Tryz.prog (maps ims) im 399 a399 := Here.of Tryz.f84 (by rw [show (maps ims).fm 399 = 84 from by kernel_rfl]; exact Tryz.func84) c399
theorem g400 : Here Tryz.prog (maps ims) im 400 a400 := Here.of Tryz.f45 (by rw [show (maps ims).fm 400 = 45 from by kernel_rfl]; exact Tryz.func45) c400
theorem g401 : Here Tryz.prog (maps ims) im 401 a401 := Here.of Tryz.f85 (by rw [show (maps ims).fm 401 = 85 from by kernel_rfl]; exact Tryz.func85) c401
theorem g402 : Here Tryz.prog (maps ims) im 402 a402 := Here.of Tryz.f86 (by rw [show (maps ims).fm 402 = 86 from by kernel_rfl]; exact Tryz.func86) c402
theorem g403 : Here Tryz.prog (maps ims) im 403 a403 := Here.of Tryz.f87 (by rw [show (maps ims).fm 403 = 87 from by kernel_rfl]; exact Tryz.func87) c403
theorem g404 : Here Tryz.prog (maps ims) im 404 a404 := Here.of Tryz.f88 (by rw [show (maps ims).fm 404 = 88 from by kernel_rfl]; exact Tryz.func88) c404
theorem g405 : Here Tryz.prog (maps ims) im 405 a405 := Here.of Tryz.f90 (by rw [show (maps ims).fm 405 = 90 from by kernel_rfl]; exact Tryz.func90) c405
theorem g417 : Here Tryz.prog (maps ims) im 417 a417 := Here.of Tryz.f143 (by rw [show (maps ims).fm 417 = 143 from by kernel_rfl]; exact Tryz.func143) c417
theorem g418 : Here Tryz.prog (maps ims) im 418 a418 := Here.of Tryz.f149 (by rw [show (maps ims).fm 418 = 149 from by kernel_rfl]; exact Tryz.func149) c418
theorem g419 : Here Tryz.prog (maps ims) im 419 a419 := Here.of Tryz.f151 (by rw [show (maps ims).fm 419 = 151 from by kernel_rfl]; exact Tryz.func151) c419
theorem g439 : Here Tryz.prog (maps ims) im 439 a439 := Here.of Tryz.f3 (by rw [show (maps ims).fm 439 = 3 from by kernel_rfl]; exact Tryz.func3) c439
theorem g442 : Here Tryz.prog (maps ims) im 442 a442 := Here.of Tryz.f7 (by rw [show (maps ims).fm 442 = 7 from by kernel_rfl]; exact Tryz.func7) c442
theorem g443 : Here Tryz.prog (maps ims) im 443 a443 := Here.of Tryz.f8 (by rw [show (maps ims).fm 443 = 8 from by kernel_rfl]; exact Tryz.func8) c443
theorem g444 : Here Tryz.prog (maps ims) im 444 a444 := Here.of Tryz.f9 (by rw [show (maps ims).fm 444 = 9 from by kernel_rfl]; exact Tryz.func9) c444
theorem g445 : Here Tryz.prog (maps ims) im 445 a445 := Here.of Tryz.f10 (by rw [show (maps ims).fm 445 = 10 from by kernel_rfl]; exact Tryz.func10) c445
theorem g446 : Here Tryz.prog (maps ims) im 446 a446 := Here.of Tryz.f11 (by rw [show (maps ims).fm 446 = 11 from by kernel_rfl]; exact Tryz.func11) c446
theorem g459 : Here Tryz.prog (maps ims) im 459 a459 := Here.of Tryz.f38 (by rw [show (maps ims).fm 459 = 38 from by kernel_rfl]; exact Tryz.func38) c459
theorem g460 : Here Tryz.prog (maps ims) im 460 a460 := Here.of Tryz.f39 (by rw [show (maps ims).fm 460 = 39 from by kernel_rfl]; exact Tryz.func39) c460
theorem g461 : Here Tryz.prog (maps ims) im 461 a461 := Here.of Tryz.f40 (by rw [show (maps ims).fm 461 = 40 from by kernel_rfl]; exact Tryz.func40) c461
theorem g462 : Here Tryz.prog (maps ims) im 462 a462 := Here.of Tryz.f41 (by rw [show (maps ims).fm 462 = 41 from by kernel_rfl]; exact Tryz.func41) c462
theorem g469 : Here Tryz.prog (maps ims) im 469 a469 := Here.of Tryz.f49 (by rw [show (maps ims).fm 469 = 49 from by kernel_rfl]; exact Tryz.func49) c469
theorem g478 : Here Tryz.prog (maps ims) im 478 a478 := Here.of Tryz.f91 (by rw [show (maps ims).fm 478 = 91 from by kernel_rfl]; exact Tryz.func91) c478
theorem g479 : Here Tryz.prog (maps ims) im 479 a479 := Here.of Tryz.f92 (by rw [show (maps ims).fm 479 = 92 from by kernel_rfl]; exact Tryz.func92) c479
theorem nodup : ims.Nodup := by decide +kernel
theorem him : ∀ f x, im f = some x → (maps ims).fm x = f := him_of nodup
theorem mix : Tryz.prog.follows .mixedOrders = true := by kernel_rfl
theorem table : Table Tryz.prog (maps ims) im tab.get := by
  refine table_ok ?_
  unfold tab
  exact (.node g257 (.node g153 (.node g77 (.node g57 (.node g48 (.node g36 (.node g35 (.node g34 .leaf .leaf) .leaf) (.node g46 .leaf .leaf)) (.node g54 (.node g53 .leaf .leaf) (.node g55 .leaf .leaf))) (.node g73 (.node g61 (.node g60 .leaf .leaf) (.node g62 .leaf .leaf)) (.node g75 (.node g74 .leaf .leaf) (.node g76 .leaf .leaf)))) (.node g94 (.node g81 (.node g79 (.node g78 .leaf .leaf) (.node g80 .leaf .leaf)) (.node g83 (.node g82 .leaf .leaf) (.node g93 .leaf .leaf))) (.node g144 (.node g139 (.node g132 .leaf .leaf) (.node g143 .leaf .leaf)) (.node g148 (.node g147 .leaf .leaf) (.node g152 .leaf .leaf))))) (.node g214 (.node g172 (.node g157 (.node g155 (.node g154 .leaf .leaf) (.node g156 .leaf .leaf)) (.node g159 (.node g158 .leaf .leaf) (.node g160 .leaf .leaf))) (.node g176 (.node g174 (.node g173 .leaf .leaf) (.node g175 .leaf .leaf)) (.node g201 (.node g181 .leaf .leaf) (.node g206 .leaf .leaf)))) (.node g242 (.node g230 (.node g219 (.node g216 .leaf .leaf) (.node g222 .leaf .leaf)) (.node g236 (.node g231 .leaf .leaf) (.node g237 .leaf .leaf))) (.node g253 (.node g251 (.node g250 .leaf .leaf) (.node g252 .leaf .leaf)) (.node g255 (.node g254 .leaf .leaf) (.node g256 .leaf .leaf)))))) (.node g381 (.node g273 (.node g265 (.node g261 (.node g259 (.node g258 .leaf .leaf) (.node g260 .leaf .leaf)) (.node g263 (.node g262 .leaf .leaf) (.node g264 .leaf .leaf))) (.node g269 (.node g267 (.node g266 .leaf .leaf) (.node g268 .leaf .leaf)) (.node g271 (.node g270 .leaf .leaf) (.node g272 .leaf .leaf)))) (.node g363 (.node g289 (.node g275 (.node g274 .leaf .leaf) (.node g276 .leaf .leaf)) (.node g361 (.node g353 .leaf .leaf) (.node g362 .leaf .leaf))) (.node g377 (.node g365 (.node g364 .leaf .leaf) (.node g368 .leaf .leaf)) (.node g379 (.node g378 .leaf .leaf) (.node g380 .leaf .leaf))))) (.node g417 (.node g398 (.node g385 (.node g383 (.node g382 .leaf .leaf) (.node g384 .leaf .leaf)) (.node g396 (.node g395 .leaf .leaf) (.node g397 .leaf .leaf))) (.node g402 (.node g400 (.node g399 .leaf .leaf) (.node g401 .leaf .leaf)) (.node g404 (.node g403 .leaf .leaf) (.node g405 .leaf .leaf)))) (.node g446 (.node g442 (.node g419 (.node g418 .leaf .leaf) (.node g439 .leaf .leaf)) (.node g444 (.node g443 .leaf .leaf) (.node g445 .leaf .leaf))) (.node g462 (.node g460 (.node g459 .leaf .leaf) (.node g461 .leaf .leaf)) (.node g478 (.node g469 .leaf .leaf) (.node g479 .leaf .leaf)))))))

end Go.Proofs.YtoljmdhhhkbolaaGreatDoor
end
section
namespace M2
open Go Go.ChangeShapes Go.WideShapes Go.ChangeAt Go.RowKit

/-! ### Laws that look at nothing of their argument but whether one slice is there, and how long it is -/

def OneSl (a : AV) : Prop := a = .nils ∨ a = .sl0 ∨ ∃ e pos cap alt n, a = .sl 0 e pos cap false alt (List.replicate n .und)

def oneG (W : World) (p : Place) : G := { n := 1, ok := fun i => i = 0, ρ := fun _ => p, ν := fun _ => 0, μ := fun _ => .oth, w := W }

theorem oneG_sr (M : Maps) (W : World) (p : Place) : SR M (oneG W p) ⟨1, [], []⟩ :=
  { n := rfl, wf := ⟨by simp, fun p hp => by simp at hp, by simp, fun p hp => by simp at hp⟩, okn := fun i h => by have : i = 0 := h; subst this; exact Nat.one_pos,
    var := fun x o hx => by simp [look2_nil] at hx, inj := fun x y o o' hx => by simp [look2_nil] at hx,
    ids := fun i en e hx => by simp [look2_nil] at hx, idinj := fun i j a b hx => by simp [look2_nil] at hx }

/-- a slice, but for what stands in it -/
theorem oneSl_of {M : Maps} {W : World} {n K : Nat} {a : AV} {v : Value} (hv : VR M (argG W n K) a v) (ha : a = .nils ∨ a = .sl0 ∨ ∃ id e pos cap alt es, a = .sl id e pos cap false alt es) :
    ∃ a' p, OneSl a' ∧ VR M (oneG W p) a' v := by
  rcases ha with rfl | rfl | ⟨id, e, pos, cap, alt, es, rfl⟩
  · cases hv
    exact ⟨.nils, ⟨0, 0, 0⟩, .inl rfl, .nils⟩
  · cases hv with
    | sl0 b o sp => exact ⟨.sl0, ⟨0, 0, 0⟩, .inr (.inl rfl), .sl0 b o sp⟩
  · cases hv with
    | sl id e pos cap fl alt es b off ccap vs hid hcc hb hoff hlen hvv hsz hc hf =>
      refine ⟨.sl 0 e pos cap false alt (List.replicate es.length .und), (argG W n K).ρ id, .inr (.inr ⟨e, pos, cap, alt, es.length, rfl⟩), ?_⟩
      have := VR.sl (M := M) (g := oneG W ((argG W n K).ρ id)) 0 e pos cap false alt (List.replicate es.length .und) b off ccap vs rfl hcc hb hoff (by simpa using hlen)
        (fun i hi => by rw [List.getElem_replicate]; exact .und _) (fun i hi => hsz i (by simpa using hi)) (fun i j hi hj => hc i j (by simpa using hi) hj) ⟨hf.1, trivial⟩
      simpa using this

theorem law_run0 {P : Program} {M : Maps} {im : FuncId → Option Nat} {tbl : Nat → Option AFunc} (hmix : P.follows .mixedOrders = true) (him : ∀ f x, im f = some x → M.fm x = f) (ht : Table P M im tbl)
    {H : Type} {enc : TypeId × Value → H} {W : World} {base id tf : Nat} {t : TypeId} {fs : Array Field} (hu : P.underlying t = some (.struct fs)) (ha : argT P (tf + 1) t = true) {v : Value} {d : DataW H} {p : List MemPlace}
    (hval : Value.okWide P W .any base t v) (htr : DataW.Trod enc P W 0 (fun _ => true) true t v d p)
    {w j i : Nat} {fl : Field} {e : TypeId} (hw : P.cellsOf t = w) (hfl : fs[i]? = some fl) (hoff : fl.offset = j) (hjw : j < w) (hsl : P.underlying fl.type = some (.slice e)) (hc1 : P.cellsOf fl.type = 1) (htf : tf ≠ 0)
    (hrun : ∀ a, OneSl a → ∃ n t', callA tbl (ev tbl n) id [.agg ((List.replicate w AV.und).set j a)] ⟨1, [], []⟩ = .ok (.bool true) t') :
    Calls P (M.fm id) #[v] W fun e W' => e = .returned (.bool true) ∧ Below W.heap.size W W' := by
  obtain ⟨K, hK0, hK⟩ := size_bound W
  obtain ⟨fuel, htr⟩ := htr
  unfold Value.okWide at hval
  rw [hu] at hval
  obtain ⟨cs, rfl, hcs, -⟩ := hval
  obtain ⟨ascs, h1, h2, h3, -⟩ := trod_vr (M := M) hK0 hK fuel (tf + 1) t _ _ ha htr
  have hl : ascs.length = cs.size := by simpa [Value.cells] using h2
  unfold DA at h1
  rw [hu] at h1
  obtain ⟨ps, -, hps, hasl, hf⟩ := h1
  obtain ⟨hi, hfi⟩ := Array.getElem?_eq_some_iff.mp hfl
  have h4 := hf i hi (by omega)
  rw [hfi, hoff, hc1] at h4
  have hjl : j < ascs.length := by rw [hasl, hw]; exact hjw
  have hone : (ascs.drop j).take 1 = [ascs[j]] := by rw [List.drop_eq_getElem_cons hjl]; rfl
  rw [hone] at h4
  have hkind : ascs[j] = .nils ∨ ascs[j] = .sl0 ∨ ∃ id e pos cap alt es, ascs[j] = .sl id e pos cap false alt es := by
    cases tf with
    | zero => exact absurd rfl htf
    | succ tf =>
      unfold DA at h4
      rw [hsl] at h4
      rcases h4 with ⟨-, h⟩ | ⟨elems, spare, es, -, -, -, -, ⟨-, h⟩ | ⟨id, pos, h⟩⟩
      · injection h with h; exact .inl h
      · injection h with h; exact .inr (.inl h)
      · injection h with h; exact .inr (.inr ⟨_, _, _, _, _, _, h⟩)
  have h5 := h3 j (by simpa using hjl)
  obtain ⟨a', pl, ho, hv'⟩ := oneSl_of h5 hkind
  obtain ⟨n, t', hr⟩ := hrun a' ho
  refine link (g := oneG W pl) hmix him ht (fun _ _ => rfl) (oneG_sr M W pl) rfl (fun q hq => ?_) hr
  have hq0 : q = 0 := by simpa using hq
  subst hq0
  simp only [List.getElem_cons_zero]
  refine .agg _ cs (by simp [← hl, hasl, hw]) (fun q hq => ?_)
  by_cases e : j = q
  · subst e
    simp only [List.getElem_set_self]
    simpa [Value.cells, Array.getD_eq_getD_getElem?, List.getD_eq_getElem?_getD] using hv'
  · rw [List.getElem_set_ne e, List.getElem_replicate]
    exact .und _

end M2
end
section
namespace M2
open Go

/-! #### more fuel, the same answer; rules to cut a run in pieces -/

def CallLe (c1 c2 : CallF) : Prop := ∀ f ascs t, c1 f ascs t ≠ .fail → c2 f ascs t = c1 f ascs t
def EvLe (e1 e2 : Ev) : Prop := ∀ c F t, e1 c F t ≠ .fail → e2 c F t = e1 c F t

section
variable {c1 c2 : CallF} {e1 e2 : Ev} {tbl : Nat → Option AFunc}

theorem run_mono (h : CallLe c1 c2) (ao : AOp) (F : Fr) (t : T) (hne : ao.run c1 F t ≠ .fail) : ao.run c2 F t = ao.run c1 F t := by
  cases ao with
  | call f xs => exact h _ _ _ hne
  | calld f xs =>
    change opCalld f xs c2 F t = opCalld f xs c1 F t
    change opCalld f xs c1 F t ≠ .fail at hne
    unfold opCalld at *
    split
    · rename_i hp
      rw [hp] at hne
      exact h _ _ _ hne
    · rfl
  | _ => rfl

theorem runOps_mono (h : CallLe c1 c2) : ∀ (l : List AO) (F : Fr) (t : T), runOps l c1 F t ≠ .fail → runOps l c2 F t = runOps l c1 F t := by
  intro l
  induction l with
  | nil => intro F t _; rfl
  | cons o l ih =>
    intro F t hne
    change opsCons o l (fun call F t => runOps l call F t) c1 F t ≠ .fail at hne
    change opsCons o l (fun call F t => runOps l call F t) c2 F t = opsCons o l (fun call F t => runOps l call F t) c1 F t
    unfold opsCons at *
    split
    · rename_i hw
      rw [hw] at hne
      simp only at hne
      cases hr : o.op.run c1 F t with
      | fail => rw [hr] at hne; exact absurd rfl hne
      | ok v t1 =>
        rw [run_mono h o.op F t (by rw [hr]; simp), hr]
        rw [hr] at hne
        exact ih _ _ hne
    · rename_i hw
      rw [hw] at hne
      exact ih _ _ hne
    · rfl

theorem runD_mono (h : CallLe c1 c2) (ws : List AO) : ∀ (ks : List (DK × AO)) (F : Fr) (t : T) (l : Log), runD ks ws c1 F t l ≠ .fail → runD ks ws c2 F t l = runD ks ws c1 F t l := by
  intro ks
  induction ks with
  | nil => intro F t l hne; exact runOps_mono h ws F t hne
  | cons o ks ih =>
    intro F t l hne
    change dCons o ks (fun call F t l => runD ks ws call F t l) c1 F t l ≠ .fail at hne
    change dCons o ks (fun call F t l => runD ks ws call F t l) c2 F t l = dCons o ks (fun call F t l => runD ks ws call F t l) c1 F t l
    unfold dCons at *
    split
    · rename_i hw
      rw [hw] at hne
      simp only at hne
      split
      · rename_i l1 hl
        rw [hl] at hne
        simp only at hne
        cases hr : o.2.op.run c1 F (viewD o.1 t) with
        | fail => rw [hr] at hne; exact absurd rfl hne
        | ok v t1 =>
          rw [run_mono h o.2.op F _ (by rw [hr]; simp), hr]
          rw [hr] at hne
          simp only at hne ⊢
          split
          · rename_i t2 hm
            rw [hm] at hne
            exact ih _ _ _ hne
          · rfl
      · rfl
    · rename_i hw
      rw [hw] at hne
      exact ih _ _ _ hne
    · rfl

theorem stepX_mono (h : CallLe c1 c2) (q : Nat × Nat × Bool × AO) (F : Fr) (t : T) {k1 k2 : Fr → T → RR} (hk : ∀ F t, k1 F t ≠ .fail → k2 F t = k1 F t) (hne : stepX c1 q F t k1 ≠ .fail) : stepX c2 q F t k2 = stepX c1 q F t k1 := by
  unfold stepX at *
  split
  · rename_i hw
    rw [hw] at hne
    simp only at hne
    cases hr : q.2.2.2.op.run c1 F t with
    | fail => rw [hr] at hne; exact absurd rfl hne
    | ok v t1 =>
      rw [run_mono h q.2.2.2.op F t (by rw [hr]; simp), hr]
      rw [hr] at hne
      exact hk _ _ hne
  · rename_i hw
    rw [hw] at hne
    exact hk _ _ hne
  · rfl

theorem allX_ne {go : Nat × Nat × Bool × AO → RR} {r : RR} : ∀ {qs : List (Nat × Nat × Bool × AO)}, allX go r qs ≠ .fail → r ≠ .fail ∧ allX go r qs = r ∧ ∀ q ∈ qs, rrE r (go q) = true
  | [], h => ⟨h, rfl, fun q hq => by cases hq⟩
  | q :: qs, h => by
    unfold allX at h ⊢
    split at h
    · rename_i hb
      obtain ⟨h1, h2, h3⟩ := allX_ne h
      refine ⟨h1, h2, fun p hp => ?_⟩
      rcases List.mem_cons.mp hp with rfl | hp
      · exact hb
      · exact h3 p hp
    · exact absurd rfl h

theorem rrE_ne {r s : RR} (h : rrE r s = true) : s ≠ .fail := by
  intro e
  subst e
  cases r <;> cases h

theorem runX_mono (h : CallLe c1 c2) (os : List (Nat × Nat × Bool × AO)) (full : Nat) : ∀ (n dn : Nat) (F : Fr) (t : T), runX os full c1 n dn F t ≠ .fail → runX os full c2 n dn F t = runX os full c1 n dn F t := by
  intro n
  induction n with
  | zero => intro dn F t hne; exact absurd rfl hne
  | succ n ih =>
    intro dn F t hne
    unfold runX at hne ⊢
    split
    · rename_i q hq
      rw [hq] at hne
      exact stepX_mono h q F t (ih _) hne
    · rename_i hq
      rw [hq] at hne
      simp only at hne
      split
      · rfl
      · rename_i q qs hf
        rw [hf] at hne
        simp only at hne
        obtain ⟨h1, h2, h3⟩ := allX_ne hne
        rw [h2]
        have e1 := stepX_mono h q F t (ih _) h1
        rw [e1]
        have key : ∀ l : List (Nat × Nat × Bool × AO), (∀ p ∈ l, rrE (stepX c1 q F t (runX os full c1 n (Nat.lor dn (2 ^ q.1)))) (stepX c1 p F t (runX os full c1 n (Nat.lor dn (2 ^ p.1)))) = true) →
            allX (fun q => stepX c2 q F t (runX os full c2 n (Nat.lor dn (2 ^ q.1)))) (stepX c1 q F t (runX os full c1 n (Nat.lor dn (2 ^ q.1)))) l = stepX c1 q F t (runX os full c1 n (Nat.lor dn (2 ^ q.1))) := by
          intro l
          induction l with
          | nil => intro _; rfl
          | cons p l ihl =>
            intro hp
            have hb := hp p List.mem_cons_self
            unfold allX
            rw [stepX_mono h p F t (ih _) (rrE_ne hb), hb]
            exact ihl fun x hx => hp x (List.mem_cons_of_mem _ hx)
        exact key qs h3

theorem callA_le (h : EvLe e1 e2) : CallLe (callA tbl e1) (callA tbl e2) := by
  intro f xs t hne
  unfold callA at *
  split
  · rename_i fn hf
    rw [hf] at hne
    simp only at hne
    split
    · rename_i F hF
      rw [hF] at hne
      simp only at hne
      cases hr : e1 fn.body F t.enter with
      | fail => rw [hr] at hne; exact absurd rfl hne
      | _ => rw [h fn.body F t.enter (by rw [hr]; simp), hr]
    · rfl
  · rfl

end

theorem ev_le (tbl : Nat → Option AFunc) : ∀ n, EvLe (ev tbl n) (ev tbl (n + 1)) := by
  intro n
  induction n with
  | zero => intro c F t hne; exact absurd rfl hne
  | succ n ih =>
    intro c F t hne
    have hc := callA_le (tbl := tbl) ih
    cases c with
    | skip => rfl
    | reg ops => exact runOps_mono hc ops F t hne
    | regd rs ws => exact runD_mono hc ws rs F t [] hne
    | regx full os => exact runX_mono hc os full _ 0 F t hne
    | seq a b =>
      change (RR.rec (motive := fun _ => RR) .fail (ev tbl (n + 1) b) RR.exit RR.ret (ev tbl (n + 1) a F t)) = (RR.rec (motive := fun _ => RR) .fail (ev tbl n b) RR.exit RR.ret (ev tbl n a F t))
      change (RR.rec (motive := fun _ => RR) .fail (ev tbl n b) RR.exit RR.ret (ev tbl n a F t)) ≠ .fail at hne
      cases hr : ev tbl n a F t with
      | fail => rw [hr] at hne; exact absurd rfl hne
      | norm F1 t1 =>
        rw [ih a F t (by rw [hr]; simp), hr]
        rw [hr] at hne
        exact ih b F1 t1 hne
      | _ => rw [ih a F t (by rw [hr]; simp), hr]
    | cond c a b =>
      change cCond c a b (fun _ _ _ _ => .fail) (fun _ _ _ _ => .fail) tbl (ev tbl (n + 1)) F t = cCond c a b (fun _ _ _ _ => .fail) (fun _ _ _ _ => .fail) tbl (ev tbl n) F t
      change cCond c a b (fun _ _ _ _ => .fail) (fun _ _ _ _ => .fail) tbl (ev tbl n) F t ≠ .fail at hne
      unfold cCond at *
      split
      · rename_i x hx
        rw [hx] at hne
        cases x with
        | true => exact ih a F t hne
        | false => exact ih b F t hne
      · rfl
    | block id b =>
      change (RR.rec (motive := fun _ => RR) .fail RR.norm (fun i f t => Bool.rec (motive := fun _ => RR) (.exit i f t) (.norm f t) (Nat.beq i id)) RR.ret (ev tbl (n + 1) b F t)) =
        (RR.rec (motive := fun _ => RR) .fail RR.norm (fun i f t => Bool.rec (motive := fun _ => RR) (.exit i f t) (.norm f t) (Nat.beq i id)) RR.ret (ev tbl n b F t))
      change (RR.rec (motive := fun _ => RR) .fail RR.norm (fun i f t => Bool.rec (motive := fun _ => RR) (.exit i f t) (.norm f t) (Nat.beq i id)) RR.ret (ev tbl n b F t)) ≠ .fail at hne
      cases hr : ev tbl n b F t with
      | fail => rw [hr] at hne; exact absurd rfl hne
      | _ => rw [ih b F t (by rw [hr]; simp), hr]
    | loop b =>
      change (RR.rec (motive := fun _ => RR) .fail (ev tbl (n + 1) (.loop b)) RR.exit RR.ret (ev tbl (n + 1) b F t)) = (RR.rec (motive := fun _ => RR) .fail (ev tbl n (.loop b)) RR.exit RR.ret (ev tbl n b F t))
      change (RR.rec (motive := fun _ => RR) .fail (ev tbl n (.loop b)) RR.exit RR.ret (ev tbl n b F t)) ≠ .fail at hne
      cases hr : ev tbl n b F t with
      | fail => rw [hr] at hne; exact absurd rfl hne
      | norm F1 t1 =>
        rw [ih b F t (by rw [hr]; simp), hr]
        rw [hr] at hne
        exact ih (.loop b) F1 t1 hne
      | _ => rw [ih b F t (by rw [hr]; simp), hr]
    | exit id => rfl
    | ret => rfl

theorem ev_more {tbl : Nat → Option AFunc} {n m : Nat} (h : n ≤ m) {c : Cd} {F : Fr} {t : T} {r : RR} (hr : ev tbl n c F t = r) (hne : r ≠ .fail) : ev tbl m c F t = r := by
  induction m with
  | zero => have : n = 0 := by omega
            subst this; exact hr
  | succ m ih =>
    by_cases e : n = m + 1
    · subst e; exact hr
    · have := ih (by omega)
      rw [ev_le tbl m c F t (by rw [this]; exact hne), this]

theorem call_more {tbl : Nat → Option AFunc} {n m : Nat} (h : n ≤ m) {f : Nat} {xs : List AV} {t t' : T} {v : AV} (hr : callA tbl (ev tbl n) f xs t = .ok v t') : callA tbl (ev tbl m) f xs t = .ok v t' := by
  have hle : EvLe (ev tbl n) (ev tbl m) := fun c F t hne => ev_more h rfl hne
  rw [callA_le hle f xs t (by rw [hr]; simp), hr]

end M2
end
section
namespace M2
open Go

/-! ### A law that hands one row of texts to a function -/

def okR (r : OR) : Bool := match r with | .ok (.bool b) _ => b | _ => false
theorem okR_ok {r : OR} (h : okR r = true) : ∃ t, r = .ok (.bool true) t := by
  unfold okR at h
  split at h
  · subst h; exact ⟨_, rfl⟩
  · cases h

noncomputable def body2 (c1 c2 : CallF) (fn : AFunc) (l1 l2 : List AO) (F : Fr) (t : T) : OR :=
  RR.rec (motive := fun _ => OR) .fail (fun F t => RR.rec (motive := fun _ => OR) .fail (fun F t => afterBody fn F t) (fun _ _ _ => .fail) (fun F t => afterBody fn F t) (runOps l2 c2 F t)) (fun _ _ _ => .fail) (fun F t => afterBody fn F t) (runOps l1 c1 F t)

theorem runOps_norm (c : CallF) : ∀ (l : List AO) (F : Fr) (t : T), runOps l c F t = .fail ∨ ∃ F' t', runOps l c F t = .norm F' t' := by
  intro l
  induction l with
  | nil => intro F t; exact .inr ⟨F, t, rfl⟩
  | cons o l ih =>
    intro F t
    rw [show runOps (o :: l) c F t = opsCons o l (fun call F t => runOps l call F t) c F t from rfl]
    unfold opsCons
    split
    · split
      · exact ih _ _
      · exact .inl rfl
    · exact ih _ _
    · exact .inl rfl

theorem callA_eq {tbl : Nat → Option AFunc} {e : Ev} {id : Nat} {fn : AFunc} {args : List AV} {F : Fr} {t : T} (hf : tbl id = some fn) (ha : argsIn fn.params args .nil = some F) :
    callA tbl e id args t = RR.rec (motive := fun _ => OR) .fail (fun f t => afterBody fn f t) (fun _ _ _ => .fail) (fun f t => afterBody fn f t) (e fn.body F t.enter) := by
  unfold callA
  rw [hf]
  simp only
  rw [ha]
  simp only
  cases e fn.body F t.enter <;> rfl

theorem callA_body2 {tbl : Nat → Option AFunc} {N id : Nat} {fn : AFunc} {l1 l2 : List AO} {args : List AV} {F : Fr} {t : T} (hf : tbl id = some fn) (hb : fn.body = .seq (.reg l1) (.seq (.reg l2) .ret)) (ha : argsIn fn.params args .nil = some F) :
    callA tbl (ev tbl (N + 3)) id args t = body2 (callA tbl (ev tbl (N + 1))) (callA tbl (ev tbl N)) fn l1 l2 F t.enter := by
  rw [callA_eq hf ha, hb]
  generalize hc1 : callA tbl (ev tbl (N + 1)) = c1
  generalize hc2 : callA tbl (ev tbl N) = c2
  have e1 : ev tbl (N + 3) (.seq (.reg l1) (.seq (.reg l2) .ret)) F t.enter = RR.rec (motive := fun _ => RR) .fail (ev tbl (N + 2) (.seq (.reg l2) .ret)) RR.exit RR.ret (runOps l1 c1 F t.enter) := by rw [← hc1]; rfl
  have e2 : ∀ F t, ev tbl (N + 2) (.seq (.reg l2) .ret) F t = RR.rec (motive := fun _ => RR) .fail (ev tbl (N + 1) .ret) RR.exit RR.ret (runOps l2 c2 F t) := fun _ _ => by rw [← hc2]; rfl
  rw [e1]
  unfold body2
  rcases runOps_norm c1 l1 F t.enter with h | ⟨F', t', h⟩
  · rw [h]
  · rw [h]
    simp only
    rw [e2]
    rcases runOps_norm c2 l2 F' t' with k | ⟨F2, t2, k⟩
    · rw [k]
    · rw [k]
      rfl

end M2
end
section
namespace M2
open Go
open Classical

/-! ### A call that looks at nothing of the state: run it in an empty one -/

noncomputable def G.upd (g g' : G) : G := { n := g.n, ok := g.ok, ρ := g.ρ, ν := g.ν, μ := fun b => if b < g.w.heap.size then g.μ b else .oth, w := g'.w }
def allB (g : G) : Nat → Prop := fun b => b < g.w.heap.size
noncomputable def G.shutAll (g : G) : G := g.view g.n (fun _ => True) (allB g)

theorem le_upd {g g' : G} {n : Nat} {p : Nat → Prop} (h : (g.view n p (allB g)).Le g') : g.Le (g.upd g') where
  n := Nat.le_refl _
  ok _ hi := hi
  new _ hi := .inl hi
  ρ _ _ := rfl
  ν _ _ := rfl
  size := h.size
  lim _ k hb hk := ⟨k, (if_pos hb).trans hk, Nat.le_refl _, fun _ _ => cell?_of_heap (back_sealed h (fun _ hb => hb) hb).1⟩
  oth _ hb _ := ⟨if_pos hb, (back_sealed h (fun _ hb => hb) hb).1⟩
  os := h.os
  tape := h.tape
  output := h.output
  sz := h.sz

theorem sr_upd {M : Maps} {g g' : G} {t : T} (hS : SR M g t) {n : Nat} {p : Nat → Prop} (h : (g.view n p (allB g)).Le g') : SR M (g.upd g') t where
  n := hS.n
  wf := hS.wf
  okn := hS.okn
  var x o hx := by
    obtain ⟨h1, h2, h3⟩ := hS.var x o hx
    exact ⟨h1, (if_pos h3.lt).trans h2, h3.ext (le_upd h).ext (back_sealed h (fun _ hb => hb) h3.lt).1⟩
  inj := hS.inj
  ids i en e hx := by
    obtain ⟨h1, h2, c, ty, fz, h3, h4, h5⟩ := hS.ids i en e hx
    have hb : (g.ρ i).block < g.w.heap.size := (Array.getElem?_eq_some_iff.mp h3).1
    have he : (g.upd g').w.heap[(g.ρ i).block]? = g.w.heap[(g.ρ i).block]? := (back_sealed h (fun _ hb => hb) hb).1
    refine ⟨h1, (if_pos hb).trans h2, c, ty, fz, he.trans h3, fun off ho => ?_, h5⟩
    have := h4 off ho
    simp only [World.frozen?] at this ⊢
    show (match (g.upd g').w.heap[(g.ρ i).block]? with | some (.cells c elem (lo, hi)) => decide (lo ≤ off) && decide (off < hi) | x => false) = false
    rw [he]
    exact this
  idinj := hS.idinj

noncomputable def orc (f : Nat) (avs : List AV) (n : Nat) : CallF := fun f' args t => if f' = f ∧ args = avs ∧ t.n = n then .ok (.bool true) t else .fail
theorem orc_eq {f : Nat} {avs : List AV} {n : Nat} {t : T} (h : t.n = n) : orc f avs n f avs t = .ok (.bool true) t := if_pos ⟨rfl, rfl, h⟩

section
variable {P : Program} {M : Maps} {im : FuncId → Option Nat} {tbl : Nat → Option AFunc}

theorem orc_ok (hmix : P.follows .mixedOrders = true) (him : ∀ f x, im f = some x → M.fm x = f) (ht : Table P M im tbl) {k f n : Nat} {avs : List AV} {t' : T}
    (h : callA tbl (ev tbl k) f avs ⟨n, [], []⟩ = .ok (.bool true) t') : CallOK P M (orc f avs n) := by
  intro f' args t r t1 hr
  unfold orc at hr
  split at hr
  · rename_i hc
    obtain ⟨rfl, rfl, hn⟩ := hc
    cases hr
    obtain ⟨hgood, hs⟩ := call_sound hmix him ht k f' args _ _ _ h
    refine ⟨hgood, fun g cargs hS hsz hv => ?_⟩
    have hS0 : SR M g.shutAll ⟨n, [], []⟩ :=
      { n := hS.n.trans hn, wf := ⟨by simp, fun p hp => by simp at hp, by simp, fun p hp => by simp at hp⟩, okn := fun i hi => hn ▸ hS.okn i hi.1,
        var := fun x o hx => by simp [look2_nil] at hx, inj := fun x y o o' hx => by simp [look2_nil] at hx,
        ids := fun i en e hx => by simp [look2_nil] at hx, idinj := fun i j a b hx => by simp [look2_nil] at hx }
    have hext : g.Ext g.shutAll := by
      have h1 : g.Ext (g.sub fun _ => True) := ⟨fun i hi => ⟨hi, trivial⟩, fun _ _ => rfl, fun _ _ => rfl, fun _ _ h => h, fun _ _ _ _ _ => rfl, fun _ hb => ⟨hb, rfl⟩⟩
      have h2 := g.ext_view g.n (fun _ => True) (allB g)
      exact ⟨fun i hi => h2.ok i (h1.ok i hi), fun i hi => (h2.ρ i (h1.ok i hi)).trans (h1.ρ i hi), fun i hi => (h2.ν i (h1.ok i hi)).trans (h1.ν i hi), fun b m hf => h2.fixed b m (h1.fixed b m hf), fun _ _ _ _ _ => rfl, fun _ hb => ⟨hb, rfl⟩⟩
    refine (hs g.shutAll cargs hS0 hsz (fun i hi => (hv i hi).ext hext)).mono ?_
    rintro e w' ⟨v, g', rfl, rfl, hle, hvr, -⟩
    cases hvr
    exact ⟨_, g.upd g', rfl, rfl, le_upd hle, .bool true, sr_upd hS hle⟩
  · cases hr

/-! ### A body without loops, its calls answered by others -/

noncomputable def evC (call : CallF) (c : Cd) : Fr → T → RR :=
  Cd.rec (motive := fun _ => Fr → T → RR) (fun F t => .norm F t) (fun l F t => runOps l call F t) (fun _ _ _ _ => .fail) (fun _ _ _ _ => .fail)
    (fun _ _ iha ihb F t => RR.rec (motive := fun _ => RR) .fail ihb RR.exit RR.ret (iha F t)) (fun _ _ _ _ _ _ _ => .fail) (fun _ _ _ _ _ => .fail) (fun _ _ _ _ => .fail) (fun _ _ _ => .fail) (fun F t => .ret F t) c

noncomputable def outC (fn : AFunc) (r : RR) : OR := match r with | .norm f t => afterBody fn f t | .ret f t => afterBody fn f t | _ => .fail
noncomputable def callC (call : CallF) (fn : AFunc) (args : List AV) (t : T) : OR :=
  match argsIn fn.params args .nil with
  | some f => outC fn (evC call fn.body f t.enter)
  | none => .fail

theorem cmpR_drawn {d ntmps : Nat} {ops : Array Oper} {ac : Cd} (h : cmpR P im d ntmps ops = some ac) (call : CallF) (F : Fr) (t : T) : evC call ac F t = .fail := by
  have hd0 : ∀ h c, cmpD0 P im d ntmps h ops = some c → evC call c F t = .fail := by
    intro h c hc
    unfold cmpD0 at hc
    simp only [Option.bind_eq_bind, Option.bind_eq_some_iff] at hc
    obtain ⟨_, _, _, _, _, _, e⟩ := hc
    split at e
    · cases e; rfl
    · cases e
  have hd : ∀ c, cmpD P im d ntmps ops = some c → evC call c F t = .fail := by
    intro c hc
    unfold cmpD at hc
    split at hc
    · split at hc
      · rename_i c' hcc; cases hc; exact hd0 _ _ hcc
      · exact hd0 _ _ hc
    · split at hc
      · rename_i c' hcc; cases hc; exact hd0 _ _ hcc
      · exact hd0 _ _ hc
  have hx : ∀ c, cmpX P im d ntmps ops = some c → evC call c F t = .fail := by
    intro c hc
    unfold cmpX at hc
    simp only [Option.bind_eq_bind, Option.bind_eq_some_iff] at hc
    obtain ⟨_, _, e⟩ := hc
    split at e
    · cases e; rfl
    · cases e
  unfold cmpR at h
  split at h
  · split at h
    · rename_i c hcc; cases h; exact hx _ hcc
    · exact hd _ h
  · split at h
    · rename_i c hcc; cases h; exact hd _ hcc
    · exact hx _ h

theorem evC_sound (him : ∀ f x, im f = some x → M.fm x = f) {call : CallF} (hcall : CallOK P M call) : CodeOK P M im (evC call) := by
  intro d ntmps c
  induction c with
  | skip => intro ac hc g F t a Q hf hp; cases hc; exact wp_skip (hp g a (.refl g) hf)
  | region id ops draw =>
    intro ac hc g F t a Q hf hp
    simp only [cmpC] at hc
    split at hc
    · rw [cmpR_drawn hc] at hp
      exact hp.elim
    · rename_i hd
      rw [Option.map_eq_some_iff] at hc
      obtain ⟨al, hal, rfl⟩ := hc
      have : draw = false := by simpa using hd
      subst this
      exact wp_region_list (ops_sound him hcall ops Q ops.toList al hal g F t a hf hp)
  | seq x y ihx ihy =>
    intro ac hc g F t a Q hf hp
    simp only [cmpC, Option.bind_eq_bind, Option.bind_eq_some_iff] at hc
    obtain ⟨x', hx, y', hy, e⟩ := hc
    cases e
    have hp' : Post M g d ntmps Q (RR.rec (motive := fun _ => RR) .fail (evC call y') RR.exit RR.ret (evC call x' F t)) := hp
    refine wp_seq (ihx x' hx g F t a _ hf ?_)
    cases hr : evC call x' F t with
    | fail => rw [hr] at hp'; exact hp'
    | norm F1 t1 =>
      rw [hr] at hp'
      intro g' a' hle hf'
      exact ihy y' hy g' F1 t1 a' Q hf' (hp'.later hle)
    | exit id F1 t1 => rw [hr] at hp'; exact hp'
    | ret F1 t1 => rw [hr] at hp'; exact hp'
  | ret => intro ac hc g F t a Q hf hp; cases hc; exact wp_ret (hp g a (.refl g) hf)
  | cond c x y ihx ihy =>
    intro ac hc g F t a Q hf hp
    simp only [cmpC, Option.bind_eq_bind, Option.bind_eq_some_iff] at hc
    obtain ⟨c', hc', x', hx, y', hy, e⟩ := hc
    cases e
    exact hp.elim
  | block id b ih =>
    intro ac hc g F t a Q hf hp
    simp only [cmpC, Option.bind_eq_bind, Option.bind_eq_some_iff] at hc
    obtain ⟨b', hb, e⟩ := hc
    cases e
    exact hp.elim
  | loop b ih =>
    intro ac hc g F t a Q hf hp
    simp only [cmpC, Option.bind_eq_bind, Option.bind_eq_some_iff] at hc
    obtain ⟨b', hb, e⟩ := hc
    cases e
    exact hp.elim
  | exit id => intro ac hc g F t a Q hf hp; cases hc; exact hp.elim
  | _ => intro ac hc g F t a Q hf hp; simp [cmpC] at hc

theorem callC_sound (him : ∀ f x, im f = some x → M.fm x = f) (ht : Table P M im tbl) {call : CallF} (hcall : CallOK P M call) {f : Nat} {fn : AFunc} (hfn : tbl f = some fn) (hdp : fn.depth ≠ 77 := by decide) {args : List AV} {t t' : T} {r : AV}
    (hr : callC call fn args t = .ok r t') : Good P (M.fm f) ∧ ∀ g cargs, SR M g t → cargs.size = args.length → (∀ i (h : i < args.length), VR M g args[i] (cargs.getD i undef)) →
    Calls P (M.fm f) cargs g.w fun e w' => ∃ v g', e = .returned v ∧ g'.w = w' ∧ g.Le g' ∧ VR M g' r v ∧ SR M g' t' := by
  have hcode := evC_sound (P := P) (M := M) (im := im) him hcall
  unfold callC at hr
  obtain ⟨gf, hgf, hcf⟩ := ht.cmp hfn hdp
  unfold cmpF at hcf
  split at hcf
  · rename_i hcond
    obtain ⟨c1, c2, c3⟩ := hcond
    simp only [Option.bind_eq_bind, Option.bind_eq_some_iff] at hcf
    obtain ⟨c, hbody, b, hb, rs, hrs, e⟩ := hcf
    have hgood : Good P (M.fm f) := ⟨gf, hgf, by simpa using c3, by simp [hbody]⟩
    refine ⟨hgood, ?_⟩
    intro g cargs hS hsz hv
    have efn : fn = { depth := fn.depth, params := (List.range (gf.params.size + gf.nfree)).map (pth fn.depth), results := rs, keep := fn.keep, body := b } := by simpa using e.symm
    have eparams : fn.params = (List.range (gf.params.size + gf.nfree)).map (pth fn.depth) := by rw [efn]
    have ebody : fn.body = b := by rw [efn]
    have eres : fn.results = rs := by rw [efn]
    cases ha : argsIn fn.params args .nil with
    | none => rw [ha] at hr; cases hr
    | some F =>
      rw [ha] at hr
      simp only at hr
      have hnd : fn.params.Nodup := by
        rw [eparams]
        exact pth_nodup (by omega)
      obtain ⟨a1, a2⟩ := argsIn_ok _ _ _ _ ha hnd
      have hnp : gf.params.size + gf.nfree = args.length := by rw [← a1, eparams]; simp
      refine calls_of_wp hgf hbody ?_
      have hfits : Fits M g fn.depth gf.ntmps F t.enter { tmps := cargs ++ Array.replicate (gf.ntmps - cargs.size) undef, defers := [] } := by
        refine ⟨⟨by simp; omega, fun u hu => ?_⟩, hS.enter, by simp; omega, rfl⟩
        rw [a2, eparams, idx_pth (by omega) hu]
        by_cases hlt : u < gf.params.size + gf.nfree
        · rw [if_pos hlt]
          simp only
          have h1 := hv u (by omega)
          have e1 : args.getD u .und = args[u]'(by omega) := by simp [List.getD, show u < args.length by omega]
          rw [e1]
          have e2 : (cargs ++ Array.replicate (gf.ntmps - cargs.size) undef).getD u undef = cargs.getD u undef := by
            simp only [Array.getD_eq_getD_getElem?]
            rw [Array.getElem?_append_left (by omega)]
          show VR M g _ ((cargs ++ Array.replicate (gf.ntmps - cargs.size) undef).getD u undef)
          rw [e2]
          exact h1
        · rw [if_neg hlt]
          simp only [Fr.get_nil]
          exact .und _
      have hpost : ∀ R, (∀ F1 t1, (evC call fn.body F t.enter = .norm F1 t1 ∨ evC call fn.body F t.enter = .ret F1 t1) → ∀ g' a', g.Le g' → Fits M g' fn.depth gf.ntmps F1 t1 a' →
          bodyPost P gf R .normal a' g'.w) → c.wp P (bodyPost P gf R) { tmps := cargs ++ Array.replicate (gf.ntmps - cargs.size) undef, defers := [] } g.w := by
        intro R hR
        refine hcode fn.depth gf.ntmps c b hb g F t.enter _ _ hfits ?_
        rw [ebody] at hR hr
        cases hev : evC call b F t.enter with
        | fail => rw [hev] at hr; cases hr
        | norm F1 t1 => exact fun g' a' hle hf' => hR F1 t1 (.inl hev) g' a' hle hf'
        | exit id F1 t1 => rw [hev] at hr; cases hr
        | ret F1 t1 => exact fun g' a' hle hf' => hR F1 t1 (.inr hev) g' a' hle hf'
      refine hpost _ (fun F1 t1 hev g' a' hle hf' => ?_)
      have hafter : afterBody fn F1 t1 = .ok r t' := by
        rcases hev with hev | hev <;> (rw [hev] at hr; exact hr)
      unfold afterBody at hafter
      rw [eres] at hafter
      cases hrv : resultsOf F1 t1 rs with
      | none => rw [hrv] at hafter; cases hafter
      | some vs =>
        rw [hrv] at hafter
        cases hafter
        obtain ⟨ws, w1, w2, w3⟩ := results_ok hf' gf.results.toList rs hrs vs hrv
        refine ⟨hf'.d, if h : ws.toArray.size = 1 then ws.toArray[0] else .tuple ws.toArray, ?_, ?_⟩
        · show (results gf a'.tmps).run P g'.w = _
          rw [results_eq, Array.mapM_eq_mapM_toList]
          simp only [Sem.run_bind, Sem.run_map, w1, Result.andThen_ok, Sem.run_pure]
        · exact ⟨_, g', rfl, rfl, hle, packed_ok w2 w3, hf'.s.leave _ _⟩
  · contradiction

end

end M2
end
section
namespace M2
open Go Go.ChangeShapes Go.WideShapes Go.ChangeAt Go.RowKit

/-! ### A law's call, the calls in it answered by others -/

theorem link1 {P : Program} {M : Maps} {im : FuncId → Option Nat} {tbl : Nat → Option AFunc} (him : ∀ f x, im f = some x → M.fm x = f) (ht : Table P M im tbl)
    {call : CallF} (hcall : CallOK P M call) {id : Nat} {fn : AFunc} (hfn : tbl id = some fn) (hdp : fn.depth ≠ 77) {avs : List AV} {args : Array Value} {t t' : T} {g : G} (hoth : ∀ b, b < g.w.heap.size → g.μ b = .oth) (hS : SR M g t) (hsz : args.size = avs.length)
    (hv : ∀ i (h : i < avs.length), VR M g avs[i] (args.getD i undef)) (hrun : callC call fn avs t = .ok (.bool true) t') :
    Calls P (M.fm id) args g.w fun e w' => e = .returned (.bool true) ∧ Below g.w.heap.size g.w w' := by
  obtain ⟨-, h⟩ := callC_sound him ht hcall hfn hdp hrun
  refine (h g args hS hsz hv).mono ?_
  rintro e w' ⟨v, g', rfl, rfl, hle, hvr, -⟩
  cases hvr
  exact ⟨rfl, hle.os, hle.tape, hle.output, hle.size, fun k hk => (hle.oth k hk (by rw [hoth k hk]; rfl)).2⟩

theorem law_run1 {P : Program} {M : Maps} {im : FuncId → Option Nat} {tbl : Nat → Option AFunc} (him : ∀ f x, im f = some x → M.fm x = f) (ht : Table P M im tbl)
    {H : Type} {enc : TypeId × Value → H} {W : World} {base id tf : Nat} {t : TypeId} {fs : Array Field} (hu : P.underlying t = some (.struct fs)) (ha : argT P (tf + 1) t = true) {v : Value} {d : DataW H} {p : List MemPlace}
    (hval : Value.okWide P W .any base t v) (htr : DataW.Trod enc P W 0 (fun _ => true) true t v d p)
    {w j i : Nat} {fl : Field} {e : TypeId} (hw : P.cellsOf t = w) (hfl : fs[i]? = some fl) (hoff : fl.offset = j) (hjw : j < w) (hsl : P.underlying fl.type = some (.slice e)) (hc1 : P.cellsOf fl.type = 1) (htf : tf ≠ 0)
    {call : CallF} (hcall : CallOK P M call) {fn : AFunc} (hfn : tbl id = some fn) (hdp : fn.depth ≠ 77 := by decide) (hrun : ∀ a, OneSl a → ∃ t', callC call fn [.agg ((List.replicate w AV.und).set j a)] ⟨1, [], []⟩ = .ok (.bool true) t') :
    Calls P (M.fm id) #[v] W fun e W' => e = .returned (.bool true) ∧ Below W.heap.size W W' := by
  obtain ⟨K, hK0, hK⟩ := size_bound W
  obtain ⟨fuel, htr⟩ := htr
  unfold Value.okWide at hval
  rw [hu] at hval
  obtain ⟨cs, rfl, hcs, -⟩ := hval
  obtain ⟨ascs, h1, h2, h3, -⟩ := trod_vr (M := M) hK0 hK fuel (tf + 1) t _ _ ha htr
  have hl : ascs.length = cs.size := by simpa [Value.cells] using h2
  unfold DA at h1
  rw [hu] at h1
  obtain ⟨ps, -, hps, hasl, hf⟩ := h1
  obtain ⟨hi, hfi⟩ := Array.getElem?_eq_some_iff.mp hfl
  have h4 := hf i hi (by omega)
  rw [hfi, hoff, hc1] at h4
  have hjl : j < ascs.length := by rw [hasl, hw]; exact hjw
  have hone : (ascs.drop j).take 1 = [ascs[j]] := by rw [List.drop_eq_getElem_cons hjl]; rfl
  rw [hone] at h4
  have hkind : ascs[j] = .nils ∨ ascs[j] = .sl0 ∨ ∃ id e pos cap alt es, ascs[j] = .sl id e pos cap false alt es := by
    cases tf with
    | zero => exact absurd rfl htf
    | succ tf =>
      unfold DA at h4
      rw [hsl] at h4
      rcases h4 with ⟨-, h⟩ | ⟨elems, spare, es, -, -, -, -, ⟨-, h⟩ | ⟨id, pos, h⟩⟩
      · injection h with h; exact .inl h
      · injection h with h; exact .inr (.inl h)
      · injection h with h; exact .inr (.inr ⟨_, _, _, _, _, _, h⟩)
  have h5 := h3 j (by simpa using hjl)
  obtain ⟨a', pl, ho, hv'⟩ := oneSl_of h5 hkind
  obtain ⟨t', hr⟩ := hrun a' ho
  refine link1 (g := oneG W pl) him ht hcall hfn hdp (fun _ _ => rfl) (oneG_sr M W pl) rfl (fun q hq => ?_) hr
  have hq0 : q = 0 := by simpa using hq
  subst hq0
  simp only [List.getElem_cons_zero]
  refine .agg _ cs (by simp [← hl, hasl, hw]) (fun q hq => ?_)
  by_cases e : j = q
  · subst e
    simp only [List.getElem_set_self]
    simpa [Value.cells, Array.getD_eq_getD_getElem?, List.getD_eq_getElem?_getD] using hv'
  · rw [List.getElem_set_ne e, List.getElem_replicate]
    exact .und _

end M2
end
