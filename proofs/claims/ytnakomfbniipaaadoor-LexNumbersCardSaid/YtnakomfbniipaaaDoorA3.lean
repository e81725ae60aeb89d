/- General ground for the statement: an abstract machine that the program's code is shown to follow, and the contracts of the functions that the law reaches. Part 3. -/
import Derived.Test.YtnakomfbniipaaaDoorA2
import Derived.Lib.Join
import Derived.Lib.ItoaNum
import Derived.Lib.Fields
import Derived.Lib.SplitLaws
import Derived.Below
import Derived.Shelf.Strings.Builder1
import Derived.Shelf.Strings.Builder2
import Derived.Shelf.Strings.OnBuilder
import Derived.Shelf.Small.Strs
import Derived.Shelf.Strconv.Itoa0
import Derived.Shelf.Strconv.Itoa1
import Derived.Shelf.LaysM
import Derived.Shelf.Strconv.Itoa2
import Derived.Shelf.Strconv.Itoa3
import Derived.Shelf.Strconv.Clone
import Derived.Shelf.Strconv.SyntaxError
import Derived.Shelf.LaysC
import Derived.Shelf.Strconv.ToError
import Derived.Shelf.Strconv.RangeError
import Derived.Shelf.Strconv.ToErrorRange
import Derived.Shelf.Strings.Search1
import Derived.Shelf.Strings.Search2
import Derived.Shelf.Strings.Search3
import Derived.Shelf.Strings.Shaped
import Derived.Test.YtnakomfbniipaaaDoorProg
import Derived.KernelRfl
import Derived.Test.YtnakomfbniipaaaDoorChecked
import Derived.Lib.IndexBytes
set_option linter.unusedVariables false
set_option linter.unusedSimpArgs false
section
/- Compiled functions, printed by a program of mine. -/
namespace M2
open Go

noncomputable def a38 : AFunc :=
  ⟨5, [p5n0, p5n1], [(p5n4, none)], false, (.seq (.reg [⟨(some p5n4), none, (.mv (.c (.bool false)))⟩]) (.seq (.seq (.reg [⟨(some p5n6), none, (.mv (.t p5n0))⟩, ⟨(some p5n7), none, (.len false (.t p5n6))⟩, ⟨(some p5n8), none, (.mv (.t p5n1))⟩, ⟨(some p5n9), none, (.len false (.t p5n8))⟩, ⟨(some p5n10), none, (.bin .neq (.t p5n7) (.t p5n9))⟩]) (.cond (.t p5n10) (.seq (.reg [⟨(some p5n4), none, (.mv (.c (.bool false)))⟩]) .ret) .skip)) (.seq (.seq (.reg [⟨(some p5n5), none, (.mv (.c (.int .i64 (.ofNat 0))))⟩]) (.block 0 (.loop (.seq (.seq (.reg [⟨(some p5n11), none, (.mv (.t p5n5))⟩, ⟨(some p5n12), none, (.mv (.t p5n0))⟩, ⟨(some p5n13), none, (.len false (.t p5n12))⟩, ⟨(some p5n14), none, (.bin .lss (.t p5n11) (.t p5n13))⟩]) (.cond (.t p5n14) .skip (.exit 0))) (.seq (.block 1 (.seq (.regd [(.pure, ⟨(some p5n17), none, (.mv (.t p5n0))⟩), (.pure, ⟨(some p5n18), none, (.mv (.t p5n5))⟩), (.pure, ⟨(some p5n19), none, (.iaddr 4 (.t p5n17) (.t p5n18))⟩), (.load, ⟨(some p5n20), none, (.ldA 4 (.t p5n19))⟩), (.pure, ⟨(some p5n21), none, (.mv (.t p5n1))⟩), (.pure, ⟨(some p5n22), none, (.mv (.t p5n5))⟩), (.pure, ⟨(some p5n23), none, (.iaddr 4 (.t p5n21) (.t p5n22))⟩), (.load, ⟨(some p5n24), none, (.ldA 4 (.t p5n23))⟩)] [⟨(some p5n25), none, (.eqs (.st [(0, (1, (false, .int))), (1, (1, (false, .str))), (2, (1, (false, .int))), (3, (1, (false, .int)))]) true (.t p5n20) (.t p5n24))⟩]) (.cond (.t p5n25) (.seq (.reg [⟨(some p5n4), none, (.mv (.c (.bool false)))⟩]) .ret) .skip))) (.reg [⟨(some p5n15), none, (.mv (.t p5n5))⟩, ⟨(some p5n16), none, (.bin .add (.t p5n15) (.c (.int .i64 (.ofNat 1))))⟩, ⟨(some p5n5), none, (.mv (.t p5n16))⟩])))))) (.seq (.reg [⟨(some p5n4), none, (.mv (.c (.bool true)))⟩]) .ret))))⟩
noncomputable def a48 : AFunc :=
  ⟨7, [p7n0], [(p7n2, none), (p7n3, none), (p7n4, none)], false, (.seq (.reg [⟨(some p7n2), none, (.mv (.c .nils))⟩, ⟨(some p7n3), none, (.mv (.c (.int .i64 (.ofNat 0))))⟩, ⟨(some p7n4), none, (.mv (.c (.int .i64 (.ofNat 0))))⟩]) (.seq (.seq (.reg [⟨(some p7n5), none, (.mv (.c (.int .i64 (.ofNat 0))))⟩]) (.block 0 (.loop (.seq (.seq (.reg [⟨(some p7n10), none, (.mv (.t p7n5))⟩, ⟨(some p7n11), none, (.mv (.t p7n0))⟩, ⟨(some p7n12), none, (.len true (.t p7n11))⟩, ⟨(some p7n13), none, (.bin .lss (.t p7n10) (.t p7n12))⟩]) (.cond (.t p7n13) .skip (.exit 0))) (.seq (.block 1 (.seq (.reg [⟨(some p7n16), none, (.mv (.t p7n0))⟩, ⟨(some p7n17), none, (.mv (.t p7n5))⟩, ⟨(some p7n18), none, (.idxS (.t p7n16) (.t p7n17))⟩, ⟨(some p7n19), none, (.bin .eql (.t p7n18) (.c (.int .u8 (.ofNat 10))))⟩]) (.cond (.t p7n19) (.seq (.reg [⟨(some p7n2), none, (.mv (.c .nils))⟩, ⟨(some p7n3), none, (.mv (.c (.int .i64 (.ofNat 0))))⟩, ⟨(some p7n4), none, (.mv (.c (.int .i64 (.ofNat 3))))⟩]) .ret) .skip))) (.reg [⟨(some p7n14), none, (.mv (.t p7n5))⟩, ⟨(some p7n15), none, (.bin .add (.t p7n14) (.c (.int .i64 (.ofNat 1))))⟩, ⟨(some p7n5), none, (.mv (.t p7n15))⟩])))))) (.seq (.reg [⟨(some p7n6), none, (.mv (.c .nils))⟩]) (.seq (.seq (.reg [⟨(some p7n7), none, (.mv (.c (.int .i64 (.ofNat 0))))⟩]) (.block 2 (.loop (.seq (.seq (.reg [⟨(some p7n20), none, (.mv (.t p7n7))⟩, ⟨(some p7n21), none, (.mv (.t p7n0))⟩, ⟨(some p7n22), none, (.len true (.t p7n21))⟩, ⟨(some p7n23), none, (.bin .lss (.t p7n20) (.t p7n22))⟩, ⟨(some p7n24), none, (.mv (.t p7n23))⟩, ⟨(some p7n25), (some (p7n24, true)), (.mv (.t p7n0))⟩, ⟨(some p7n26), (some (p7n24, true)), (.mv (.t p7n7))⟩, ⟨(some p7n27), (some (p7n24, true)), (.idxS (.t p7n25) (.t p7n26))⟩, ⟨(some p7n28), (some (p7n24, true)), (.bin .neq (.t p7n27) (.c (.int .u8 (.ofNat 59))))⟩, ⟨(some p7n29), none, (.pick (.t p7n24) (.t p7n28) (.c (.bool false)))⟩]) (.cond (.t p7n29) .skip (.exit 2))) (.block 3 (.seq (.seq (.reg [⟨(some p7n30), none, (.mv (.t p7n0))⟩, ⟨(some p7n31), none, (.mv (.t p7n7))⟩, ⟨(some p7n32), none, (.idxS (.t p7n30) (.t p7n31))⟩, ⟨(some p7n33), none, (.bin .eql (.t p7n32) (.c (.int .u8 (.ofNat 32))))⟩, ⟨(some p7n34), none, (.mv (.t p7n33))⟩, ⟨(some p7n35), (some (p7n34, false)), (.mv (.t p7n0))⟩, ⟨(some p7n36), (some (p7n34, false)), (.mv (.t p7n7))⟩, ⟨(some p7n37), (some (p7n34, false)), (.idxS (.t p7n35) (.t p7n36))⟩, ⟨(some p7n38), (some (p7n34, false)), (.bin .eql (.t p7n37) (.c (.int .u8 (.ofNat 9))))⟩, ⟨(some p7n39), none, (.pick (.t p7n34) (.c (.bool true)) (.t p7n38))⟩]) (.cond (.t p7n39) (.seq (.reg [⟨(some p7n40), none, (.mv (.t p7n7))⟩, ⟨(some p7n41), none, (.bin .add (.t p7n40) (.c (.int .i64 (.ofNat 1))))⟩, ⟨(some p7n7), none, (.mv (.t p7n41))⟩]) (.exit 3)) .skip)) (.seq (.reg [⟨(some p7n43), none, (.mv (.t p7n0))⟩, ⟨(some p7n44), none, (.mv (.t p7n7))⟩, ⟨(some p7n45), none, (.slS (.t p7n43) (some (.t p7n44)) none)⟩, ⟨(some p7n46), none, (.call 60 [(.t p7n45)])⟩, ⟨(some p7n42), none, (.mv (.t p7n46))⟩, ⟨(some p7n47), none, (.ext (.t p7n42) 0)⟩, ⟨(some p7n48), none, (.ext (.t p7n42) 1)⟩, ⟨(some p7n8), none, (.alloc [(.int .i64 (.ofNat 0)), (.str []), (.int .i64 (.ofNat 0)), (.int .i64 (.ofNat 0))])⟩, ⟨none, none, (.st 4 (.t p7n8) (.t p7n47))⟩, ⟨(some p7n9), none, (.mv (.t p7n48))⟩]) (.seq (.seq (.reg [⟨(some p7n49), none, (.mv (.t p7n9))⟩, ⟨(some p7n50), none, (.bin .eql (.t p7n49) (.c (.int .i64 (.ofNat 0))))⟩]) (.cond (.t p7n50) (.seq (.reg [⟨(some p7n51), none, (.mv (.t p7n7))⟩, ⟨(some p7n2), none, (.mv (.c .nils))⟩, ⟨(some p7n3), none, (.mv (.t p7n51))⟩, ⟨(some p7n4), none, (.mv (.c (.int .i64 (.ofNat 3))))⟩]) .ret) .skip)) (.seq (.seq (.reg [⟨(some p7n52), none, (.mv (.t p7n6))⟩, ⟨(some p7n53), none, (.len false (.t p7n52))⟩, ⟨(some p7n54), none, (.bin .geq (.t p7n53) (.c (.int .i64 (.ofNat 40))))⟩]) (.cond (.t p7n54) (.seq (.reg [⟨(some p7n55), none, (.mv (.t p7n7))⟩, ⟨(some p7n2), none, (.mv (.c .nils))⟩, ⟨(some p7n3), none, (.mv (.t p7n55))⟩, ⟨(some p7n4), none, (.mv (.c (.int .i64 (.ofNat 2))))⟩]) .ret) .skip)) (.seq (.reg [⟨(some p7n56), none, (.mv (.t p7n7))⟩, ⟨(some p7n57), none, (.faddr 3 (.t p7n8))⟩, ⟨none, none, (.st 1 (.t p7n57) (.t p7n56))⟩]) (.seq (.reg [⟨(some p7n58), none, (.mv (.t p7n6))⟩, ⟨(some p7n59), none, (.ldA 4 (.t p7n8))⟩, ⟨(some p7n60), none, (.buildS 4 1 (.agg [(.int .i64 (.ofNat 0)), (.str []), (.int .i64 (.ofNat 0)), (.int .i64 (.ofNat 0))]) [(0, (.t p7n59))])⟩, ⟨(some p7n61), none, (.app 4 40 (.agg [(.int .i64 (.ofNat 0)), (.str []), (.int .i64 (.ofNat 0)), (.int .i64 (.ofNat 0))]) (.t p7n58) (.t p7n60))⟩, ⟨(some p7n6), none, (.mv (.t p7n61))⟩]) (.reg [⟨(some p7n62), none, (.mv (.t p7n7))⟩, ⟨(some p7n63), none, (.mv (.t p7n9))⟩, ⟨(some p7n64), none, (.bin .add (.t p7n62) (.t p7n63))⟩, ⟨(some p7n7), none, (.mv (.t p7n64))⟩])))))))))))) (.seq (.reg [⟨(some p7n65), none, (.mv (.t p7n6))⟩, ⟨(some p7n2), none, (.mv (.t p7n65))⟩, ⟨(some p7n3), none, (.mv (.c (.int .i64 (.ofNat 0))))⟩, ⟨(some p7n4), none, (.mv (.c (.int .i64 (.ofNat 0))))⟩]) .ret)))))⟩
noncomputable def a51 : AFunc :=
  ⟨4, [p4n0], [(p4n2, none)], false, (.seq (.reg [⟨(some p4n2), none, (.mv (.c (.bool false)))⟩]) (.seq (.reg [⟨(some p4n3), none, (.mv (.t p4n0))⟩, ⟨(some p4n4), none, (.len false (.t p4n3))⟩, ⟨(some p4n5), none, (.bin .leq (.t p4n4) (.c (.int .i64 (.ofNat 40))))⟩, ⟨(some p4n6), none, (.mv (.t p4n5))⟩, ⟨(some p4n7), (some (p4n6, true)), (.mv (.t p4n0))⟩, ⟨(some p4n8), (some (p4n6, true)), (.call 64 [(.t p4n7), (.c (.fn 65 [] []))])⟩, ⟨(some p4n9), (some (p4n6, true)), (.un .not (.t p4n8))⟩, ⟨(some p4n10), none, (.pick (.t p4n6) (.t p4n9) (.c (.bool false)))⟩, ⟨(some p4n2), none, (.mv (.t p4n10))⟩]) .ret))⟩
noncomputable def a60 : AFunc :=
  ⟨7, [p7n0], [(p7n2, (some (4, true))), (p7n3, none)], false, (.seq (.reg [⟨(some p7n2), none, (.alloc [(.int .i64 (.ofNat 0)), (.str []), (.int .i64 (.ofNat 0)), (.int .i64 (.ofNat 0))])⟩, ⟨(some p7n3), none, (.mv (.c (.int .i64 (.ofNat 0))))⟩]) (.seq (.reg [⟨(some p7n4), none, (.mv (.c (.int .i64 (.ofNat 0))))⟩]) (.seq (.reg [⟨(some p7n12), none, (.mv (.t p7n0))⟩, ⟨(some p7n13), none, (.idxS (.t p7n12) (.c (.int .i64 (.ofNat 0))))⟩, ⟨(some p7n5), none, (.mv (.t p7n13))⟩]) (.seq (.block 0 (.seq (.reg [⟨(some p7n15), none, (.mv (.t p7n5))⟩, ⟨(some p7n16), none, (.call 77 [(.t p7n15)])⟩, ⟨(some p7n14), none, (.mv (.t p7n16))⟩]) (.cond (.t p7n14) (.seq (.block 1 (.loop (.seq (.seq (.reg [⟨(some p7n17), none, (.mv (.t p7n4))⟩, ⟨(some p7n18), none, (.mv (.t p7n0))⟩, ⟨(some p7n19), none, (.len true (.t p7n18))⟩, ⟨(some p7n20), none, (.bin .lss (.t p7n17) (.t p7n19))⟩, ⟨(some p7n21), none, (.mv (.t p7n20))⟩, ⟨(some p7n22), (some (p7n21, true)), (.mv (.t p7n0))⟩, ⟨(some p7n23), (some (p7n21, true)), (.mv (.t p7n4))⟩, ⟨(some p7n24), (some (p7n21, true)), (.idxS (.t p7n22) (.t p7n23))⟩, ⟨(some p7n25), (some (p7n21, true)), (.call 77 [(.t p7n24)])⟩, ⟨(some p7n26), (some (p7n21, true)), (.mv (.t p7n25))⟩, ⟨(some p7n27), (some (p7n26, false)), (.mv (.t p7n0))⟩, ⟨(some p7n28), (some (p7n26, false)), (.mv (.t p7n4))⟩, ⟨(some p7n29), (some (p7n26, false)), (.idxS (.t p7n27) (.t p7n28))⟩, ⟨(some p7n30), (some (p7n26, false)), (.call 78 [(.t p7n29)])⟩, ⟨(some p7n31), (some (p7n21, true)), (.pick (.t p7n26) (.c (.bool true)) (.t p7n30))⟩, ⟨(some p7n32), none, (.pick (.t p7n21) (.t p7n31) (.c (.bool false)))⟩]) (.cond (.t p7n32) .skip (.exit 1))) (.block 2 (.reg [⟨(some p7n33), none, (.mv (.t p7n4))⟩, ⟨(some p7n34), none, (.bin .add (.t p7n33) (.c (.int .i64 (.ofNat 1))))⟩, ⟨(some p7n4), none, (.mv (.t p7n34))⟩]))))) (.seq (.seq (.reg [⟨(some p7n35), none, (.mv (.t p7n4))⟩, ⟨(some p7n36), none, (.bin .gtr (.t p7n35) (.c (.int .i64 (.ofNat 12))))⟩]) (.cond (.t p7n36) (.seq (.reg [⟨(some p7n37), none, (.build [(.int .i64 (.ofNat 0)), (.str []), (.int .i64 (.ofNat 0)), (.int .i64 (.ofNat 0))] [])⟩, ⟨none, none, (.st 4 (.t p7n2) (.t p7n37))⟩, ⟨(some p7n3), none, (.mv (.c (.int .i64 (.ofNat 0))))⟩]) .ret) .skip)) (.seq (.reg [⟨(some p7n38), none, (.mv (.t p7n0))⟩, ⟨(some p7n39), none, (.mv (.t p7n4))⟩, ⟨(some p7n40), none, (.slS (.t p7n38) none (some (.t p7n39)))⟩, ⟨(some p7n41), none, (.build [(.int .i64 (.ofNat 0)), (.str []), (.int .i64 (.ofNat 0)), (.int .i64 (.ofNat 0))] [(0, (1, (.c (.int .i64 (.ofNat 1))))), (1, (1, (.t p7n40)))])⟩, ⟨(some p7n42), none, (.mv (.t p7n4))⟩, ⟨none, none, (.st 4 (.t p7n2) (.t p7n41))⟩, ⟨(some p7n3), none, (.mv (.t p7n42))⟩]) .ret))) (.seq (.reg [⟨(some p7n44), none, (.mv (.t p7n5))⟩, ⟨(some p7n45), none, (.call 78 [(.t p7n44)])⟩, ⟨(some p7n43), none, (.mv (.t p7n45))⟩]) (.cond (.t p7n43) (.seq (.reg [⟨(some p7n6), none, (.mv (.c (.int .i64 (.ofNat 10))))⟩, ⟨(some p7n7), none, (.mv (.c (.int .i64 (.ofNat 0))))⟩]) (.seq (.seq (.reg [⟨(some p7n46), none, (.mv (.t p7n0))⟩, ⟨(some p7n47), none, (.len true (.t p7n46))⟩, ⟨(some p7n48), none, (.bin .gtr (.t p7n47) (.c (.int .i64 (.ofNat 1))))⟩, ⟨(some p7n49), none, (.mv (.t p7n48))⟩, ⟨(some p7n50), (some (p7n49, true)), (.mv (.t p7n0))⟩, ⟨(some p7n51), (some (p7n49, true)), (.slS (.t p7n50) none (some (.c (.int .i64 (.ofNat 2)))))⟩, ⟨(some p7n52), (some (p7n49, true)), (.bin .eql (.t p7n51) (.c (.str [48, 120])))⟩, ⟨(some p7n53), none, (.pick (.t p7n49) (.t p7n52) (.c (.bool false)))⟩]) (.cond (.t p7n53) (.reg [⟨(some p7n6), none, (.mv (.c (.int .i64 (.ofNat 16))))⟩, ⟨(some p7n7), none, (.mv (.c (.int .i64 (.ofNat 2))))⟩, ⟨(some p7n4), none, (.mv (.c (.int .i64 (.ofNat 2))))⟩]) .skip)) (.seq (.block 3 (.loop (.seq (.seq (.reg [⟨(some p7n54), none, (.mv (.t p7n4))⟩, ⟨(some p7n55), none, (.mv (.t p7n0))⟩, ⟨(some p7n56), none, (.len true (.t p7n55))⟩, ⟨(some p7n57), none, (.bin .lss (.t p7n54) (.t p7n56))⟩, ⟨(some p7n58), none, (.mv (.t p7n57))⟩, ⟨(some p7n59), (some (p7n58, true)), (.mv (.t p7n0))⟩, ⟨(some p7n60), (some (p7n58, true)), (.mv (.t p7n4))⟩, ⟨(some p7n61), (some (p7n58, true)), (.idxS (.t p7n59) (.t p7n60))⟩, ⟨(some p7n62), (some (p7n58, true)), (.call 78 [(.t p7n61)])⟩, ⟨(some p7n63), (some (p7n58, true)), (.mv (.t p7n62))⟩, ⟨(some p7n64), (some (p7n63, false)), (.mv (.t p7n6))⟩, ⟨(some p7n65), (some (p7n63, false)), (.bin .eql (.t p7n64) (.c (.int .i64 (.ofNat 16))))⟩, ⟨(some p7n66), (some (p7n63, false)), (.mv (.t p7n65))⟩, ⟨(some p7n67), (some (p7n66, true)), (.mv (.t p7n0))⟩, ⟨(some p7n68), (some (p7n66, true)), (.mv (.t p7n4))⟩, ⟨(some p7n69), (some (p7n66, true)), (.idxS (.t p7n67) (.t p7n68))⟩, ⟨(some p7n70), (some (p7n66, true)), (.call 79 [(.t p7n69)])⟩, ⟨(some p7n71), (some (p7n63, false)), (.pick (.t p7n66) (.t p7n70) (.c (.bool false)))⟩, ⟨(some p7n72), (some (p7n58, true)), (.pick (.t p7n63) (.c (.bool true)) (.t p7n71))⟩, ⟨(some p7n73), none, (.pick (.t p7n58) (.t p7n72) (.c (.bool false)))⟩]) (.cond (.t p7n73) .skip (.exit 3))) (.block 4 (.reg [⟨(some p7n74), none, (.mv (.t p7n4))⟩, ⟨(some p7n75), none, (.bin .add (.t p7n74) (.c (.int .i64 (.ofNat 1))))⟩, ⟨(some p7n4), none, (.mv (.t p7n75))⟩]))))) (.seq (.reg [⟨(some p7n77), none, (.mv (.t p7n0))⟩, ⟨(some p7n78), none, (.mv (.t p7n7))⟩, ⟨(some p7n79), none, (.mv (.t p7n4))⟩, ⟨(some p7n80), none, (.slS (.t p7n77) (some (.t p7n78)) (some (.t p7n79)))⟩, ⟨(some p7n81), none, (.mv (.t p7n6))⟩, ⟨(some p7n82), none, (.call 80 [(.t p7n80), (.t p7n81)])⟩, ⟨(some p7n76), none, (.mv (.t p7n82))⟩, ⟨(some p7n83), none, (.ext (.t p7n76) 0)⟩, ⟨(some p7n84), none, (.ext (.t p7n76) 1)⟩, ⟨(some p7n8), none, (.mv (.t p7n83))⟩, ⟨(some p7n9), none, (.mv (.t p7n84))⟩]) (.seq (.seq (.reg [⟨(some p7n85), none, (.mv (.t p7n9))⟩, ⟨(some p7n86), none, (.un .not (.t p7n85))⟩, ⟨(some p7n87), none, (.mv (.t p7n86))⟩, ⟨(some p7n88), (some (p7n87, false)), (.mv (.t p7n4))⟩, ⟨(some p7n89), (some (p7n87, false)), (.mv (.t p7n7))⟩, ⟨(some p7n90), (some (p7n87, false)), (.bin .eql (.t p7n88) (.t p7n89))⟩, ⟨(some p7n91), none, (.pick (.t p7n87) (.c (.bool true)) (.t p7n90))⟩]) (.cond (.t p7n91) (.seq (.reg [⟨(some p7n92), none, (.build [(.int .i64 (.ofNat 0)), (.str []), (.int .i64 (.ofNat 0)), (.int .i64 (.ofNat 0))] [])⟩, ⟨none, none, (.st 4 (.t p7n2) (.t p7n92))⟩, ⟨(some p7n3), none, (.mv (.c (.int .i64 (.ofNat 0))))⟩]) .ret) .skip)) (.seq (.reg [⟨(some p7n93), none, (.mv (.t p7n8))⟩, ⟨(some p7n94), none, (.build [(.int .i64 (.ofNat 0)), (.str []), (.int .i64 (.ofNat 0)), (.int .i64 (.ofNat 0))] [(0, (1, (.c (.int .i64 (.ofNat 2))))), (2, (1, (.t p7n93)))])⟩, ⟨(some p7n95), none, (.mv (.t p7n4))⟩, ⟨none, none, (.st 4 (.t p7n2) (.t p7n94))⟩, ⟨(some p7n3), none, (.mv (.t p7n95))⟩]) .ret)))))) .skip))))) (.seq (.seq (.reg [⟨(some p7n96), none, (.buildSo 1 8 (.int .u8 (.ofNat 0)) [(0, (.c (.int .u8 (.ofNat 44)))), (1, (.c (.int .u8 (.ofNat 58)))), (2, (.c (.int .u8 (.ofNat 43)))), (3, (.c (.int .u8 (.ofNat 45)))), (4, (.c (.int .u8 (.ofNat 42)))), (5, (.c (.int .u8 (.ofNat 40)))), (6, (.c (.int .u8 (.ofNat 41)))), (7, (.c (.int .u8 (.ofNat 64))))])⟩, ⟨(some p7n97), none, (.mark (.t p7n96))⟩, ⟨(some p7n98), none, (.len false (.t p7n97))⟩, ⟨(some p7n99), none, (.mv (.c (.int .i64 (.ofNat 0))))⟩]) (.block 5 (.loop (.seq (.reg [⟨(some p7n100), none, (.bin .lss (.t p7n99) (.t p7n98))⟩]) (.seq (.cond (.t p7n100) .skip (.exit 5)) (.seq (.block 6 (.seq (.reg [⟨(some p7n101), none, (.iaddr 1 (.t p7n97) (.t p7n99))⟩, ⟨(some p7n102), none, (.ld1 (.t p7n101))⟩, ⟨(some p7n11), none, (.mv (.t p7n102))⟩]) (.seq (.reg [⟨(some p7n103), none, (.mv (.t p7n11))⟩, ⟨(some p7n104), none, (.mv (.t p7n5))⟩, ⟨(some p7n105), none, (.bin .eql (.t p7n103) (.t p7n104))⟩]) (.cond (.t p7n105) (.seq (.reg [⟨(some p7n106), none, (.mv (.t p7n0))⟩, ⟨(some p7n107), none, (.slS (.t p7n106) none (some (.c (.int .i64 (.ofNat 1)))))⟩, ⟨(some p7n108), none, (.build [(.int .i64 (.ofNat 0)), (.str []), (.int .i64 (.ofNat 0)), (.int .i64 (.ofNat 0))] [(0, (1, (.c (.int .i64 (.ofNat 3))))), (1, (1, (.t p7n107)))])⟩, ⟨none, none, (.st 4 (.t p7n2) (.t p7n108))⟩, ⟨(some p7n3), none, (.mv (.c (.int .i64 (.ofNat 1))))⟩]) .ret) .skip)))) (.reg [⟨(some p7n109), none, (.bin .add (.t p7n99) (.c (.int .i64 (.ofNat 1))))⟩, ⟨(some p7n99), none, (.mv (.t p7n109))⟩]))))))) (.seq (.reg [⟨(some p7n110), none, (.build [(.int .i64 (.ofNat 0)), (.str []), (.int .i64 (.ofNat 0)), (.int .i64 (.ofNat 0))] [])⟩, ⟨none, none, (.st 4 (.t p7n2) (.t p7n110))⟩, ⟨(some p7n3), none, (.mv (.c (.int .i64 (.ofNat 0))))⟩]) .ret))))))⟩
noncomputable def a64 : AFunc :=
  ⟨4, [p4n0, p4n1], [(p4n4, none)], false, (.seq (.reg [⟨(some p4n4), none, (.mv (.c (.bool false)))⟩]) (.seq (.reg [⟨(some p4n5), none, (.mv (.t p4n0))⟩, ⟨(some p4n6), none, (.mv (.t p4n1))⟩, ⟨(some p4n7), none, (.call 84 [(.t p4n5), (.t p4n6)])⟩, ⟨(some p4n8), none, (.bin .geq (.t p4n7) (.c (.int .i64 (.ofNat 0))))⟩, ⟨(some p4n4), none, (.mv (.t p4n8))⟩]) .ret))⟩
noncomputable def a65 : AFunc :=
  ⟨3, [p3n0], [(p3n2, none)], false, (.seq (.reg [⟨(some p3n1), none, (.box (.t p3n0))⟩, ⟨(some p3n2), none, (.mv (.c (.bool false)))⟩]) (.seq (.reg [⟨(some p3n3), none, (.ldA 4 (.t p3n1))⟩, ⟨(some p3n4), none, (.call 66 [(.t p3n3)])⟩, ⟨(some p3n5), none, (.un .not (.t p3n4))⟩, ⟨(some p3n2), none, (.mv (.t p3n5))⟩]) .ret))⟩
noncomputable def a66 : AFunc :=
  ⟨7, [p7n0], [(p7n2, none)], false, (.seq (.reg [⟨(some p7n1), none, (.box (.t p7n0))⟩, ⟨(some p7n2), none, (.mv (.c (.bool false)))⟩]) (.seq (.seq (.reg [⟨(some p7n3), none, (.faddr 0 (.t p7n1))⟩, ⟨(some p7n4), none, (.ld1 (.t p7n3))⟩]) (.block 0 (.seq (.reg [⟨(some p7n6), none, (.bin .eql (.t p7n4) (.c (.int .i64 (.ofNat 1))))⟩, ⟨(some p7n5), none, (.mv (.t p7n6))⟩]) (.cond (.t p7n5) (.seq (.regd [(.pure, ⟨(some p7n7), none, (.faddr 2 (.t p7n1))⟩), (.load, ⟨(some p7n8), none, (.ld1 (.t p7n7))⟩), (.pure, ⟨(some p7n9), none, (.bin .eql (.t p7n8) (.c (.int .i64 (.ofNat 0))))⟩), (.pure, ⟨(some p7n10), none, (.mv (.t p7n9))⟩), (.pure, ⟨(some p7n11), (some (p7n10, true)), (.faddr 1 (.t p7n1))⟩), (.load, ⟨(some p7n12), (some (p7n10, true)), (.ld1 (.t p7n11))⟩), (.pure, ⟨(some p7n13), (some (p7n10, true)), (.bin .neq (.t p7n12) (.c (.str [])))⟩), (.pure, ⟨(some p7n14), none, (.pick (.t p7n10) (.t p7n13) (.c (.bool false)))⟩), (.pure, ⟨(some p7n15), none, (.mv (.t p7n14))⟩), (.pure, ⟨(some p7n16), (some (p7n15, true)), (.faddr 1 (.t p7n1))⟩), (.load, ⟨(some p7n17), (some (p7n15, true)), (.ld1 (.t p7n16))⟩), (.pure, ⟨(some p7n18), (some (p7n15, true)), (.len true (.t p7n17))⟩), (.pure, ⟨(some p7n19), (some (p7n15, true)), (.bin .leq (.t p7n18) (.c (.int .i64 (.ofNat 12))))⟩), (.pure, ⟨(some p7n20), none, (.pick (.t p7n15) (.t p7n19) (.c (.bool false)))⟩), (.pure, ⟨(some p7n21), none, (.mv (.t p7n20))⟩), (.pure, ⟨(some p7n22), (some (p7n21, true)), (.faddr 1 (.t p7n1))⟩), (.load, ⟨(some p7n23), (some (p7n21, true)), (.ld1 (.t p7n22))⟩), (.pure, ⟨(some p7n24), (some (p7n21, true)), (.idxS (.t p7n23) (.c (.int .i64 (.ofNat 0))))⟩), (.iso, ⟨(some p7n25), (some (p7n21, true)), (.call 85 [(.t p7n24)])⟩), (.pure, ⟨(some p7n26), none, (.pick (.t p7n21) (.t p7n25) (.c (.bool false)))⟩), (.pure, ⟨(some p7n27), none, (.mv (.t p7n26))⟩), (.pure, ⟨(some p7n28), (some (p7n27, true)), (.faddr 1 (.t p7n1))⟩), (.load, ⟨(some p7n29), (some (p7n27, true)), (.ld1 (.t p7n28))⟩), (.iso, ⟨(some p7n30), (some (p7n27, true)), (.call 86 [(.t p7n29), (.c (.fn 87 [] []))])⟩), (.pure, ⟨(some p7n31), (some (p7n27, true)), (.faddr 1 (.t p7n1))⟩), (.load, ⟨(some p7n32), (some (p7n27, true)), (.ld1 (.t p7n31))⟩), (.pure, ⟨(some p7n33), (some (p7n27, true)), (.len true (.t p7n32))⟩)] [⟨(some p7n34), (some (p7n27, true)), (.bin .eql (.t p7n30) (.t p7n33))⟩, ⟨(some p7n35), none, (.pick (.t p7n27) (.t p7n34) (.c (.bool false)))⟩, ⟨(some p7n2), none, (.mv (.t p7n35))⟩]) .ret) (.seq (.reg [⟨(some p7n37), none, (.bin .eql (.t p7n4) (.c (.int .i64 (.ofNat 2))))⟩, ⟨(some p7n36), none, (.mv (.t p7n37))⟩]) (.cond (.t p7n36) (.seq (.reg [⟨(some p7n38), none, (.faddr 1 (.t p7n1))⟩, ⟨(some p7n39), none, (.ld1 (.t p7n38))⟩, ⟨(some p7n40), none, (.bin .eql (.t p7n39) (.c (.str [])))⟩, ⟨(some p7n41), none, (.mv (.t p7n40))⟩, ⟨(some p7n42), (some (p7n41, true)), (.faddr 2 (.t p7n1))⟩, ⟨(some p7n43), (some (p7n41, true)), (.ld1 (.t p7n42))⟩, ⟨(some p7n44), (some (p7n41, true)), (.bin .geq (.t p7n43) (.c (.int .i64 (.ofNat 0))))⟩, ⟨(some p7n45), none, (.pick (.t p7n41) (.t p7n44) (.c (.bool false)))⟩, ⟨(some p7n46), none, (.mv (.t p7n45))⟩, ⟨(some p7n47), (some (p7n46, true)), (.faddr 2 (.t p7n1))⟩, ⟨(some p7n48), (some (p7n46, true)), (.ld1 (.t p7n47))⟩, ⟨(some p7n49), (some (p7n46, true)), (.bin .leq (.t p7n48) (.c (.int .i64 (.ofNat 2147483647))))⟩, ⟨(some p7n50), none, (.pick (.t p7n46) (.t p7n49) (.c (.bool false)))⟩, ⟨(some p7n2), none, (.mv (.t p7n50))⟩]) .ret) (.seq (.reg [⟨(some p7n52), none, (.bin .eql (.t p7n4) (.c (.int .i64 (.ofNat 3))))⟩, ⟨(some p7n51), none, (.mv (.t p7n52))⟩]) (.cond (.t p7n51) (.seq (.reg [⟨(some p7n53), none, (.faddr 2 (.t p7n1))⟩, ⟨(some p7n54), none, (.ld1 (.t p7n53))⟩, ⟨(some p7n55), none, (.bin .eql (.t p7n54) (.c (.int .i64 (.ofNat 0))))⟩, ⟨(some p7n56), none, (.mv (.t p7n55))⟩, ⟨(some p7n57), (some (p7n56, true)), (.faddr 1 (.t p7n1))⟩, ⟨(some p7n58), (some (p7n56, true)), (.ld1 (.t p7n57))⟩, ⟨(some p7n59), (some (p7n56, true)), (.len true (.t p7n58))⟩, ⟨(some p7n60), (some (p7n56, true)), (.bin .eql (.t p7n59) (.c (.int .i64 (.ofNat 1))))⟩, ⟨(some p7n61), none, (.pick (.t p7n56) (.t p7n60) (.c (.bool false)))⟩, ⟨(some p7n62), none, (.mv (.t p7n61))⟩, ⟨(some p7n63), (some (p7n62, true)), (.faddr 1 (.t p7n1))⟩, ⟨(some p7n64), (some (p7n62, true)), (.ld1 (.t p7n63))⟩, ⟨(some p7n65), (some (p7n62, true)), (.idxS (.t p7n64) (.c (.int .i64 (.ofNat 0))))⟩, ⟨(some p7n66), (some (p7n62, true)), (.call 88 [(.t p7n65)])⟩, ⟨(some p7n67), none, (.pick (.t p7n62) (.t p7n66) (.c (.bool false)))⟩, ⟨(some p7n2), none, (.mv (.t p7n67))⟩]) .ret) .skip)))))))) (.seq (.reg [⟨(some p7n2), none, (.mv (.c (.bool false)))⟩]) .ret)))⟩
noncomputable def a77 : AFunc :=
  ⟨5, [p5n0], [(p5n2, none)], false, (.seq (.reg [⟨(some p5n2), none, (.mv (.c (.bool false)))⟩]) (.seq (.reg [⟨(some p5n3), none, (.mv (.t p5n0))⟩, ⟨(some p5n4), none, (.bin .geq (.t p5n3) (.c (.int .u8 (.ofNat 97))))⟩, ⟨(some p5n5), none, (.mv (.t p5n4))⟩, ⟨(some p5n6), (some (p5n5, true)), (.mv (.t p5n0))⟩, ⟨(some p5n7), (some (p5n5, true)), (.bin .leq (.t p5n6) (.c (.int .u8 (.ofNat 122))))⟩, ⟨(some p5n8), none, (.pick (.t p5n5) (.t p5n7) (.c (.bool false)))⟩, ⟨(some p5n9), none, (.mv (.t p5n8))⟩, ⟨(some p5n10), (some (p5n9, false)), (.mv (.t p5n0))⟩, ⟨(some p5n11), (some (p5n9, false)), (.bin .eql (.t p5n10) (.c (.int .u8 (.ofNat 95))))⟩, ⟨(some p5n12), none, (.pick (.t p5n9) (.c (.bool true)) (.t p5n11))⟩, ⟨(some p5n13), none, (.mv (.t p5n12))⟩, ⟨(some p5n14), (some (p5n13, false)), (.mv (.t p5n0))⟩, ⟨(some p5n15), (some (p5n13, false)), (.bin .eql (.t p5n14) (.c (.int .u8 (.ofNat 46))))⟩, ⟨(some p5n16), none, (.pick (.t p5n13) (.c (.bool true)) (.t p5n15))⟩, ⟨(some p5n2), none, (.mv (.t p5n16))⟩]) .ret))⟩
noncomputable def a78 : AFunc :=
  ⟨4, [p4n0], [(p4n2, none)], false, (.seq (.reg [⟨(some p4n2), none, (.mv (.c (.bool false)))⟩]) (.seq (.reg [⟨(some p4n3), none, (.mv (.t p4n0))⟩, ⟨(some p4n4), none, (.bin .geq (.t p4n3) (.c (.int .u8 (.ofNat 48))))⟩, ⟨(some p4n5), none, (.mv (.t p4n4))⟩, ⟨(some p4n6), (some (p4n5, true)), (.mv (.t p4n0))⟩, ⟨(some p4n7), (some (p4n5, true)), (.bin .leq (.t p4n6) (.c (.int .u8 (.ofNat 57))))⟩, ⟨(some p4n8), none, (.pick (.t p4n5) (.t p4n7) (.c (.bool false)))⟩, ⟨(some p4n2), none, (.mv (.t p4n8))⟩]) .ret))⟩
noncomputable def a79 : AFunc :=
  ⟨4, [p4n0], [(p4n2, none)], false, (.seq (.reg [⟨(some p4n2), none, (.mv (.c (.bool false)))⟩]) (.seq (.reg [⟨(some p4n3), none, (.mv (.t p4n0))⟩, ⟨(some p4n4), none, (.call 78 [(.t p4n3)])⟩, ⟨(some p4n5), none, (.mv (.t p4n4))⟩, ⟨(some p4n6), (some (p4n5, false)), (.mv (.t p4n0))⟩, ⟨(some p4n7), (some (p4n5, false)), (.bin .geq (.t p4n6) (.c (.int .u8 (.ofNat 97))))⟩, ⟨(some p4n8), (some (p4n5, false)), (.mv (.t p4n7))⟩, ⟨(some p4n9), (some (p4n8, true)), (.mv (.t p4n0))⟩, ⟨(some p4n10), (some (p4n8, true)), (.bin .leq (.t p4n9) (.c (.int .u8 (.ofNat 102))))⟩, ⟨(some p4n11), (some (p4n5, false)), (.pick (.t p4n8) (.t p4n10) (.c (.bool false)))⟩, ⟨(some p4n12), none, (.pick (.t p4n5) (.c (.bool true)) (.t p4n11))⟩, ⟨(some p4n2), none, (.mv (.t p4n12))⟩]) .ret))⟩
noncomputable def a80 : AFunc :=
  ⟨6, [p6n0, p6n1], [(p6n4, none), (p6n5, none)], false, (.seq (.reg [⟨(some p6n4), none, (.mv (.c (.int .i64 (.ofNat 0))))⟩, ⟨(some p6n5), none, (.mv (.c (.bool false)))⟩]) (.seq (.reg [⟨(some p6n6), none, (.mv (.c (.int .i64 (.ofNat 0))))⟩]) (.seq (.seq (.reg [⟨(some p6n7), none, (.mv (.c (.int .i64 (.ofNat 0))))⟩]) (.block 0 (.loop (.seq (.seq (.reg [⟨(some p6n9), none, (.mv (.t p6n7))⟩, ⟨(some p6n10), none, (.mv (.t p6n0))⟩, ⟨(some p6n11), none, (.len true (.t p6n10))⟩, ⟨(some p6n12), none, (.bin .lss (.t p6n9) (.t p6n11))⟩]) (.cond (.t p6n12) .skip (.exit 0))) (.seq (.block 1 (.seq (.reg [⟨(some p6n15), none, (.mv (.t p6n0))⟩, ⟨(some p6n16), none, (.mv (.t p6n7))⟩, ⟨(some p6n17), none, (.idxS (.t p6n15) (.t p6n16))⟩, ⟨(some p6n18), none, (.bin .sub (.t p6n17) (.c (.int .u8 (.ofNat 48))))⟩, ⟨(some p6n19), none, (.cv (.int .i64) (.t p6n18))⟩, ⟨(some p6n8), none, (.mv (.t p6n19))⟩]) (.seq (.seq (.reg [⟨(some p6n20), none, (.mv (.t p6n0))⟩, ⟨(some p6n21), none, (.mv (.t p6n7))⟩, ⟨(some p6n22), none, (.idxS (.t p6n20) (.t p6n21))⟩, ⟨(some p6n23), none, (.call 78 [(.t p6n22)])⟩, ⟨(some p6n24), none, (.un .not (.t p6n23))⟩]) (.cond (.t p6n24) (.reg [⟨(some p6n25), none, (.mv (.t p6n0))⟩, ⟨(some p6n26), none, (.mv (.t p6n7))⟩, ⟨(some p6n27), none, (.idxS (.t p6n25) (.t p6n26))⟩, ⟨(some p6n28), none, (.bin .sub (.t p6n27) (.c (.int .u8 (.ofNat 97))))⟩, ⟨(some p6n29), none, (.cv (.int .i64) (.t p6n28))⟩, ⟨(some p6n30), none, (.bin .add (.t p6n29) (.c (.int .i64 (.ofNat 10))))⟩, ⟨(some p6n8), none, (.mv (.t p6n30))⟩]) .skip)) (.seq (.reg [⟨(some p6n31), none, (.mv (.t p6n6))⟩, ⟨(some p6n32), none, (.mv (.t p6n1))⟩, ⟨(some p6n33), none, (.bin .mul (.t p6n31) (.t p6n32))⟩, ⟨(some p6n34), none, (.mv (.t p6n8))⟩, ⟨(some p6n35), none, (.bin .add (.t p6n33) (.t p6n34))⟩, ⟨(some p6n6), none, (.mv (.t p6n35))⟩]) (.seq (.reg [⟨(some p6n36), none, (.mv (.t p6n6))⟩, ⟨(some p6n37), none, (.bin .geq (.t p6n36) (.c (.int .i64 (.ofNat 2147483648))))⟩]) (.cond (.t p6n37) (.seq (.reg [⟨(some p6n4), none, (.mv (.c (.int .i64 (.ofNat 0))))⟩, ⟨(some p6n5), none, (.mv (.c (.bool false)))⟩]) .ret) .skip)))))) (.reg [⟨(some p6n13), none, (.mv (.t p6n7))⟩, ⟨(some p6n14), none, (.bin .add (.t p6n13) (.c (.int .i64 (.ofNat 1))))⟩, ⟨(some p6n7), none, (.mv (.t p6n14))⟩])))))) (.seq (.reg [⟨(some p6n38), none, (.mv (.t p6n6))⟩, ⟨(some p6n4), none, (.mv (.t p6n38))⟩, ⟨(some p6n5), none, (.mv (.c (.bool true)))⟩]) .ret))))⟩
noncomputable def a84 : AFunc :=
  ⟨5, [p5n0, p5n1], [(p5n4, none)], false, (.seq (.reg [⟨(some p5n4), none, (.mv (.c (.int .i64 (.ofNat 0))))⟩]) (.seq (.seq (.reg [⟨(some p5n6), none, (.mv (.t p5n0))⟩, ⟨(some p5n7), none, (.len false (.t p5n6))⟩, ⟨(some p5n8), none, (.mv (.c (.int .i64 (.ofNat 0))))⟩]) (.block 0 (.loop (.seq (.reg [⟨(some p5n9), none, (.bin .lss (.t p5n8) (.t p5n7))⟩]) (.seq (.cond (.t p5n9) .skip (.exit 0)) (.seq (.block 1 (.seq (.reg [⟨(some p5n10), none, (.mv (.t p5n8))⟩, ⟨(some p5n5), none, (.mv (.t p5n10))⟩]) (.seq (.reg [⟨(some p5n11), none, (.mv (.t p5n1))⟩, ⟨(some p5n12), none, (.mv (.t p5n0))⟩, ⟨(some p5n13), none, (.mv (.t p5n5))⟩, ⟨(some p5n14), none, (.iaddr 4 (.t p5n12) (.t p5n13))⟩, ⟨(some p5n15), none, (.ldA 4 (.t p5n14))⟩, ⟨(some p5n16), none, (.calld (.t p5n11) [(.t p5n15)])⟩]) (.cond (.t p5n16) (.seq (.reg [⟨(some p5n17), none, (.mv (.t p5n5))⟩, ⟨(some p5n4), none, (.mv (.t p5n17))⟩]) .ret) .skip)))) (.reg [⟨(some p5n18), none, (.bin .add (.t p5n8) (.c (.int .i64 (.ofNat 1))))⟩, ⟨(some p5n8), none, (.mv (.t p5n18))⟩]))))))) (.seq (.reg [⟨(some p5n4), none, (.mv (.c (.int .i64 (.negSucc 0))))⟩]) .ret)))⟩
noncomputable def a85 : AFunc :=
  ⟨5, [p5n0], [(p5n2, none)], false, (.seq (.reg [⟨(some p5n2), none, (.mv (.c (.bool false)))⟩]) (.seq (.reg [⟨(some p5n3), none, (.mv (.t p5n0))⟩, ⟨(some p5n4), none, (.bin .eql (.t p5n3) (.c (.int .u8 (.ofNat 95))))⟩, ⟨(some p5n5), none, (.mv (.t p5n4))⟩, ⟨(some p5n6), (some (p5n5, false)), (.mv (.t p5n0))⟩, ⟨(some p5n7), (some (p5n5, false)), (.bin .eql (.t p5n6) (.c (.int .u8 (.ofNat 46))))⟩, ⟨(some p5n8), none, (.pick (.t p5n5) (.c (.bool true)) (.t p5n7))⟩, ⟨(some p5n9), none, (.mv (.t p5n8))⟩, ⟨(some p5n10), (some (p5n9, false)), (.mv (.t p5n0))⟩, ⟨(some p5n11), (some (p5n9, false)), (.bin .geq (.t p5n10) (.c (.int .u8 (.ofNat 97))))⟩, ⟨(some p5n12), (some (p5n9, false)), (.mv (.t p5n11))⟩, ⟨(some p5n13), (some (p5n12, true)), (.mv (.t p5n0))⟩, ⟨(some p5n14), (some (p5n12, true)), (.bin .leq (.t p5n13) (.c (.int .u8 (.ofNat 122))))⟩, ⟨(some p5n15), (some (p5n9, false)), (.pick (.t p5n12) (.t p5n14) (.c (.bool false)))⟩, ⟨(some p5n16), none, (.pick (.t p5n9) (.c (.bool true)) (.t p5n15))⟩, ⟨(some p5n2), none, (.mv (.t p5n16))⟩]) .ret))⟩
noncomputable def a86 : AFunc :=
  ⟨5, [p5n0, p5n1], [(p5n4, none)], false, (.seq (.reg [⟨(some p5n4), none, (.mv (.c (.int .i64 (.ofNat 0))))⟩]) (.seq (.reg [⟨(some p5n5), none, (.mv (.c (.int .i64 (.ofNat 0))))⟩]) (.seq (.block 0 (.loop (.seq (.seq (.reg [⟨(some p5n6), none, (.mv (.t p5n5))⟩, ⟨(some p5n7), none, (.mv (.t p5n0))⟩, ⟨(some p5n8), none, (.len true (.t p5n7))⟩, ⟨(some p5n9), none, (.bin .lss (.t p5n6) (.t p5n8))⟩, ⟨(some p5n10), none, (.mv (.t p5n9))⟩, ⟨(some p5n11), (some (p5n10, true)), (.mv (.t p5n1))⟩, ⟨(some p5n12), (some (p5n10, true)), (.mv (.t p5n0))⟩, ⟨(some p5n13), (some (p5n10, true)), (.mv (.t p5n5))⟩, ⟨(some p5n14), (some (p5n10, true)), (.idxS (.t p5n12) (.t p5n13))⟩, ⟨(some p5n15), (some (p5n10, true)), (.calld (.t p5n11) [(.t p5n14)])⟩, ⟨(some p5n16), none, (.pick (.t p5n10) (.t p5n15) (.c (.bool false)))⟩]) (.cond (.t p5n16) .skip (.exit 0))) (.block 1 (.reg [⟨(some p5n17), none, (.mv (.t p5n5))⟩, ⟨(some p5n18), none, (.bin .add (.t p5n17) (.c (.int .i64 (.ofNat 1))))⟩, ⟨(some p5n5), none, (.mv (.t p5n18))⟩]))))) (.seq (.reg [⟨(some p5n19), none, (.mv (.t p5n5))⟩, ⟨(some p5n4), none, (.mv (.t p5n19))⟩]) .ret))))⟩
noncomputable def a87 : AFunc :=
  ⟨4, [p4n0], [(p4n2, none)], false, (.seq (.reg [⟨(some p4n2), none, (.mv (.c (.bool false)))⟩]) (.seq (.reg [⟨(some p4n3), none, (.mv (.t p4n0))⟩, ⟨(some p4n4), none, (.call 85 [(.t p4n3)])⟩, ⟨(some p4n5), none, (.mv (.t p4n4))⟩, ⟨(some p4n6), (some (p4n5, false)), (.mv (.t p4n0))⟩, ⟨(some p4n7), (some (p4n5, false)), (.call 95 [(.t p4n6)])⟩, ⟨(some p4n8), none, (.pick (.t p4n5) (.c (.bool true)) (.t p4n7))⟩, ⟨(some p4n2), none, (.mv (.t p4n8))⟩]) .ret))⟩
noncomputable def a88 : AFunc :=
  ⟨3, [p3n0], [(p3n2, none)], false, (.seq (.reg [⟨(some p3n2), none, (.mv (.c (.bool false)))⟩]) (.seq (.reg [⟨(some p3n3), none, (.mv (.t p3n0))⟩, ⟨(some p3n4), none, (.call 96 [(.c (.str [44, 58, 43, 45, 42, 40, 41, 64])), (.t p3n3)])⟩, ⟨(some p3n5), none, (.bin .geq (.t p3n4) (.c (.int .i64 (.ofNat 0))))⟩, ⟨(some p3n2), none, (.mv (.t p3n5))⟩]) .ret))⟩
noncomputable def a95 : AFunc :=
  ⟨4, [p4n0], [(p4n2, none)], false, (.seq (.reg [⟨(some p4n2), none, (.mv (.c (.bool false)))⟩]) (.seq (.reg [⟨(some p4n3), none, (.mv (.t p4n0))⟩, ⟨(some p4n4), none, (.bin .geq (.t p4n3) (.c (.int .u8 (.ofNat 48))))⟩, ⟨(some p4n5), none, (.mv (.t p4n4))⟩, ⟨(some p4n6), (some (p4n5, true)), (.mv (.t p4n0))⟩, ⟨(some p4n7), (some (p4n5, true)), (.bin .leq (.t p4n6) (.c (.int .u8 (.ofNat 57))))⟩, ⟨(some p4n8), none, (.pick (.t p4n5) (.t p4n7) (.c (.bool false)))⟩, ⟨(some p4n2), none, (.mv (.t p4n8))⟩]) .ret))⟩
noncomputable def a96 : AFunc :=
  ⟨3, [p3n0, p3n1], [(p3n4, none)], false, (.seq (.reg [⟨(some p3n4), none, (.mv (.c (.int .i64 (.ofNat 0))))⟩]) (.seq (.reg [⟨(some p3n5), none, (.mv (.t p3n0))⟩, ⟨(some p3n6), none, (.mv (.t p3n1))⟩, ⟨(some p3n7), none, (.call 99 [(.t p3n5), (.t p3n6)])⟩, ⟨(some p3n4), none, (.mv (.t p3n7))⟩]) .ret))⟩
noncomputable def a99 : AFunc :=
  ⟨3, [p3n0, p3n1], [(p3n4, none)], false, (.seq (.reg [⟨(some p3n4), none, (.mv (.c (.int .i64 (.ofNat 0))))⟩]) (.seq (.reg [⟨(some p3n5), none, (.mv (.t p3n0))⟩, ⟨(some p3n6), none, (.mv (.t p3n1))⟩, ⟨(some p3n7), none, (.ixb (.t p3n5) (.t p3n6))⟩, ⟨(some p3n4), none, (.mv (.t p3n7))⟩]) .ret))⟩
noncomputable def a277 : AFunc :=
  ⟨4, [p4n0], [(p4n2, none)], false, (.seq (.reg [⟨(some p4n1), none, (.box (.t p4n0))⟩, ⟨(some p4n2), none, (.mv (.c (.bool false)))⟩]) (.seq (.reg [⟨(some p4n3), none, (.faddr 0 (.t p4n1))⟩, ⟨(some p4n4), none, (.ld1 (.t p4n3))⟩, ⟨(some p4n5), none, (.len false (.t p4n4))⟩, ⟨(some p4n6), none, (.bin .geq (.t p4n5) (.c (.int .i64 (.ofNat 0))))⟩, ⟨(some p4n7), none, (.mv (.t p4n6))⟩, ⟨(some p4n8), (some (p4n7, true)), (.buildS 1 24 (.str []) [(0, (.c (.str [48]))), (1, (.c (.str [48, 48]))), (2, (.c (.str [48, 48, 55]))), (3, (.c (.str [50, 49, 52, 55, 52, 56, 51, 54, 52, 55]))), (4, (.c (.str [50, 49, 52, 55, 52, 56, 51, 54, 52, 56]))), (5, (.c (.str [57, 57, 57, 57, 57, 57, 57, 57, 57, 57, 57, 57, 57, 57, 57, 57, 57, 57, 57, 57]))), (6, (.c (.str [48, 120]))), (7, (.c (.str [48, 120, 48]))), (8, (.c (.str [48, 120, 102, 102]))), (9, (.c (.str [48, 120, 70, 70]))), (10, (.c (.str [48, 120, 55, 102, 102, 102, 102, 102, 102, 102]))), (11, (.c (.str [48, 120, 56, 48, 48, 48, 48, 48, 48, 48]))), (12, (.c (.str [48, 120, 103]))), (13, (.c (.str [48, 120, 49, 103]))), (14, (.c (.str [49, 50, 97, 98]))), (15, (.c (.str [49, 32, 50]))), (16, (.c (.str [49, 44, 50]))), (17, (.c (.str [45, 53]))), (18, (.c (.str [48, 120, 45, 49]))), (19, (.c (.str [49, 46, 53]))), (20, (.c (.str [49, 95, 48]))), (21, (.c (.str [48, 88, 49]))), (22, (.c (.str [48, 48, 48, 48, 48, 48, 48, 48, 48, 48, 48, 48, 48, 48, 48, 48, 48, 48, 48, 48, 49]))), (23, (.c (.str [48, 120, 48, 48, 48, 48, 48, 48, 48, 48, 48, 48, 48, 48, 48, 48, 48, 48, 48, 48, 48, 49])))])⟩, ⟨(some p4n9), (some (p4n7, true)), (.call 279 [(.t p4n8)])⟩, ⟨(some p4n10), none, (.pick (.t p4n7) (.t p4n9) (.c (.bool false)))⟩, ⟨(some p4n2), none, (.mv (.t p4n10))⟩]) .ret))⟩
noncomputable def a279 : AFunc :=
  ⟨6, [p6n0], [(p6n2, none)], false, (.seq (.reg [⟨(some p6n2), none, (.mv (.c (.bool false)))⟩]) (.seq (.seq (.reg [⟨(some p6n3), none, (.mv (.c (.int .i64 (.ofNat 0))))⟩]) (.block 0 (.loop (.seq (.seq (.reg [⟨(some p6n10), none, (.mv (.t p6n3))⟩, ⟨(some p6n11), none, (.mv (.t p6n0))⟩, ⟨(some p6n12), none, (.len false (.t p6n11))⟩, ⟨(some p6n13), none, (.bin .lss (.t p6n10) (.t p6n12))⟩]) (.cond (.t p6n13) .skip (.exit 0))) (.seq (.block 1 (.seq (.reg [⟨(some p6n17), none, (.mv (.t p6n0))⟩, ⟨(some p6n18), none, (.mv (.t p6n3))⟩, ⟨(some p6n19), none, (.iaddr 1 (.t p6n17) (.t p6n18))⟩, ⟨(some p6n20), none, (.ld1 (.t p6n19))⟩, ⟨(some p6n21), none, (.call 280 [(.t p6n20)])⟩, ⟨(some p6n16), none, (.mv (.t p6n21))⟩, ⟨(some p6n22), none, (.ext (.t p6n16) 0)⟩, ⟨(some p6n23), none, (.ext (.t p6n16) 1)⟩, ⟨(some p6n24), none, (.ext (.t p6n16) 2)⟩, ⟨(some p6n4), none, (.mv (.t p6n22))⟩, ⟨(some p6n5), none, (.mv (.t p6n23))⟩, ⟨(some p6n6), none, (.mv (.t p6n24))⟩]) (.seq (.reg [⟨(some p6n26), none, (.mv (.t p6n0))⟩, ⟨(some p6n27), none, (.mv (.t p6n3))⟩, ⟨(some p6n28), none, (.iaddr 1 (.t p6n26) (.t p6n27))⟩, ⟨(some p6n29), none, (.ld1 (.t p6n28))⟩, ⟨(some p6n30), none, (.call 48 [(.t p6n29)])⟩, ⟨(some p6n25), none, (.mv (.t p6n30))⟩, ⟨(some p6n31), none, (.ext (.t p6n25) 0)⟩, ⟨(some p6n32), none, (.ext (.t p6n25) 1)⟩, ⟨(some p6n33), none, (.ext (.t p6n25) 2)⟩, ⟨(some p6n7), none, (.mv (.t p6n31))⟩, ⟨(some p6n8), none, (.mv (.t p6n32))⟩, ⟨(some p6n9), none, (.mv (.t p6n33))⟩]) (.seq (.reg [⟨(some p6n34), none, (.mv (.t p6n6))⟩, ⟨(some p6n35), none, (.call 281 [(.t p6n34)])⟩, ⟨(some p6n36), none, (.mv (.t p6n9))⟩, ⟨(some p6n37), none, (.bin .neq (.t p6n35) (.t p6n36))⟩, ⟨(some p6n38), none, (.mv (.t p6n37))⟩, ⟨(some p6n39), (some (p6n38, false)), (.mv (.t p6n5))⟩, ⟨(some p6n40), (some (p6n38, false)), (.mv (.t p6n8))⟩, ⟨(some p6n41), (some (p6n38, false)), (.bin .neq (.t p6n39) (.t p6n40))⟩, ⟨(some p6n42), none, (.pick (.t p6n38) (.c (.bool true)) (.t p6n41))⟩, ⟨(some p6n43), none, (.mv (.t p6n42))⟩, ⟨(some p6n44), (some (p6n43, false)), (.mv (.t p6n4))⟩, ⟨(some p6n45), (some (p6n43, false)), (.mv (.t p6n7))⟩, ⟨(some p6n46), (some (p6n43, false)), (.call 38 [(.t p6n44), (.t p6n45)])⟩, ⟨(some p6n47), (some (p6n43, false)), (.un .not (.t p6n46))⟩, ⟨(some p6n48), none, (.pick (.t p6n43) (.c (.bool true)) (.t p6n47))⟩]) (.cond (.t p6n48) (.seq (.reg [⟨(some p6n2), none, (.mv (.c (.bool false)))⟩]) .ret) .skip))))) (.reg [⟨(some p6n14), none, (.mv (.t p6n3))⟩, ⟨(some p6n15), none, (.bin .add (.t p6n14) (.c (.int .i64 (.ofNat 1))))⟩, ⟨(some p6n3), none, (.mv (.t p6n15))⟩])))))) (.seq (.reg [⟨(some p6n49), none, (.call 282 [])⟩, ⟨(some p6n2), none, (.mv (.t p6n49))⟩]) .ret)))⟩
noncomputable def a280 : AFunc :=
  ⟨6, [p6n0], [(p6n2, none), (p6n3, none), (p6n4, none)], false, (.seq (.reg [⟨(some p6n2), none, (.mv (.c .nils))⟩, ⟨(some p6n3), none, (.mv (.c (.int .i64 (.ofNat 0))))⟩, ⟨(some p6n4), none, (.mv (.c (.int .i64 (.ofNat 0))))⟩]) (.seq (.seq (.reg [⟨(some p6n7), none, (.mv (.t p6n0))⟩, ⟨(some p6n8), none, (.call 283 [(.t p6n7), (.c (.str [10]))])⟩]) (.cond (.t p6n8) (.seq (.reg [⟨(some p6n2), none, (.mv (.c .nils))⟩, ⟨(some p6n3), none, (.mv (.c (.int .i64 (.ofNat 0))))⟩, ⟨(some p6n4), none, (.mv (.c (.int .i64 (.ofNat 3))))⟩]) .ret) .skip)) (.block 0 (.loop (.block 1 (.seq (.reg [⟨(some p6n9), none, (.mv (.t p6n3))⟩, ⟨(some p6n10), none, (.mv (.t p6n0))⟩, ⟨(some p6n11), none, (.mv (.t p6n3))⟩, ⟨(some p6n12), none, (.slS (.t p6n10) (some (.t p6n11)) none)⟩, ⟨(some p6n13), none, (.call 86 [(.t p6n12), (.c (.fn 284 [] []))])⟩, ⟨(some p6n14), none, (.bin .add (.t p6n9) (.t p6n13))⟩, ⟨(some p6n3), none, (.mv (.t p6n14))⟩]) (.seq (.seq (.reg [⟨(some p6n15), none, (.mv (.t p6n3))⟩, ⟨(some p6n16), none, (.mv (.t p6n0))⟩, ⟨(some p6n17), none, (.len true (.t p6n16))⟩, ⟨(some p6n18), none, (.bin .eql (.t p6n15) (.t p6n17))⟩, ⟨(some p6n19), none, (.mv (.t p6n18))⟩, ⟨(some p6n20), (some (p6n19, false)), (.mv (.t p6n0))⟩, ⟨(some p6n21), (some (p6n19, false)), (.mv (.t p6n3))⟩, ⟨(some p6n22), (some (p6n19, false)), (.idxS (.t p6n20) (.t p6n21))⟩, ⟨(some p6n23), (some (p6n19, false)), (.bin .eql (.t p6n22) (.c (.int .u8 (.ofNat 59))))⟩, ⟨(some p6n24), none, (.pick (.t p6n19) (.c (.bool true)) (.t p6n23))⟩]) (.cond (.t p6n24) (.seq (.reg [⟨(some p6n25), none, (.mv (.t p6n2))⟩, ⟨(some p6n2), none, (.mv (.t p6n25))⟩, ⟨(some p6n3), none, (.mv (.c (.int .i64 (.ofNat 0))))⟩, ⟨(some p6n4), none, (.mv (.c (.int .i64 (.ofNat 0))))⟩]) .ret) .skip)) (.seq (.reg [⟨(some p6n27), none, (.mv (.t p6n0))⟩, ⟨(some p6n28), none, (.mv (.t p6n3))⟩, ⟨(some p6n29), none, (.slS (.t p6n27) (some (.t p6n28)) none)⟩, ⟨(some p6n30), none, (.call 285 [(.t p6n29)])⟩, ⟨(some p6n26), none, (.mv (.t p6n30))⟩, ⟨(some p6n31), none, (.ext (.t p6n26) 0)⟩, ⟨(some p6n32), none, (.ext (.t p6n26) 1)⟩, ⟨(some p6n5), none, (.alloc [(.int .i64 (.ofNat 0)), (.str []), (.int .i64 (.ofNat 0)), (.int .i64 (.ofNat 0))])⟩, ⟨none, none, (.st 4 (.t p6n5) (.t p6n31))⟩, ⟨(some p6n6), none, (.mv (.t p6n32))⟩]) (.seq (.block 2 (.seq (.reg [⟨(some p6n34), none, (.mv (.t p6n6))⟩, ⟨(some p6n35), none, (.bin .gtr (.t p6n34) (.c (.int .i64 (.ofNat 0))))⟩, ⟨(some p6n36), none, (.mv (.t p6n35))⟩, ⟨(some p6n37), (some (p6n36, true)), (.mv (.t p6n2))⟩, ⟨(some p6n38), (some (p6n36, true)), (.len false (.t p6n37))⟩, ⟨(some p6n39), (some (p6n36, true)), (.bin .eql (.t p6n38) (.c (.int .i64 (.ofNat 40))))⟩, ⟨(some p6n40), none, (.pick (.t p6n36) (.t p6n39) (.c (.bool false)))⟩, ⟨(some p6n33), none, (.mv (.t p6n40))⟩]) (.cond (.t p6n33) (.seq (.reg [⟨(some p6n41), none, (.mv (.t p6n3))⟩, ⟨(some p6n2), none, (.mv (.c .nils))⟩, ⟨(some p6n3), none, (.mv (.t p6n41))⟩, ⟨(some p6n4), none, (.mv (.c (.int .i64 (.ofNat 2))))⟩]) .ret) (.seq (.reg [⟨(some p6n43), none, (.mv (.t p6n6))⟩, ⟨(some p6n44), none, (.bin .eql (.t p6n43) (.c (.int .i64 (.ofNat 0))))⟩, ⟨(some p6n42), none, (.mv (.t p6n44))⟩]) (.cond (.t p6n42) (.seq (.reg [⟨(some p6n45), none, (.mv (.t p6n3))⟩, ⟨(some p6n2), none, (.mv (.c .nils))⟩, ⟨(some p6n3), none, (.mv (.t p6n45))⟩, ⟨(some p6n4), none, (.mv (.c (.int .i64 (.ofNat 3))))⟩]) .ret) .skip))))) (.seq (.reg [⟨(some p6n46), none, (.mv (.t p6n3))⟩, ⟨(some p6n47), none, (.faddr 3 (.t p6n5))⟩, ⟨none, none, (.st 1 (.t p6n47) (.t p6n46))⟩]) (.seq (.reg [⟨(some p6n48), none, (.mv (.t p6n2))⟩, ⟨(some p6n49), none, (.ldA 4 (.t p6n5))⟩, ⟨(some p6n50), none, (.buildS 4 1 (.agg [(.int .i64 (.ofNat 0)), (.str []), (.int .i64 (.ofNat 0)), (.int .i64 (.ofNat 0))]) [(0, (.t p6n49))])⟩, ⟨(some p6n51), none, (.app 4 40 (.agg [(.int .i64 (.ofNat 0)), (.str []), (.int .i64 (.ofNat 0)), (.int .i64 (.ofNat 0))]) (.t p6n48) (.t p6n50))⟩, ⟨(some p6n2), none, (.mv (.t p6n51))⟩]) (.reg [⟨(some p6n52), none, (.mv (.t p6n3))⟩, ⟨(some p6n53), none, (.mv (.t p6n6))⟩, ⟨(some p6n54), none, (.bin .add (.t p6n52) (.t p6n53))⟩, ⟨(some p6n3), none, (.mv (.t p6n54))⟩]))))))))))))⟩
noncomputable def a281 : AFunc :=
  ⟨3, [p3n0], [(p3n2, none)], false, (.seq (.reg [⟨(some p3n2), none, (.mv (.c (.int .i64 (.ofNat 0))))⟩]) (.seq (.reg [⟨(some p3n3), none, (.mv (.t p3n0))⟩, ⟨(some p3n2), none, (.mv (.t p3n3))⟩]) .ret))⟩
noncomputable def a282 : AFunc :=
  ⟨6, [], [(p6n0, none)], false, (.seq (.reg [⟨(some p6n0), none, (.mv (.c (.bool false)))⟩]) (.seq (.reg [⟨(some p6n7), none, (.call 280 [(.c (.str [97, 58, 32, 108, 105, 32, 114, 49, 44, 32, 48, 120, 49, 48, 32, 59, 32, 115, 111]))])⟩, ⟨(some p6n6), none, (.mv (.t p6n7))⟩, ⟨(some p6n8), none, (.ext (.t p6n6) 0)⟩, ⟨(some p6n9), none, (.ext (.t p6n6) 1)⟩, ⟨(some p6n10), none, (.ext (.t p6n6) 2)⟩, ⟨(some p6n1), none, (.mv (.t p6n8))⟩, ⟨(some p6n2), none, (.mv (.t p6n9))⟩, ⟨(some p6n3), none, (.mv (.t p6n10))⟩]) (.seq (.reg [⟨(some p6n12), none, (.mv (.t p6n1))⟩, ⟨(some p6n13), none, (.call 286 [(.t p6n12)])⟩, ⟨(some p6n11), none, (.mv (.t p6n13))⟩, ⟨(some p6n14), none, (.ext (.t p6n11) 0)⟩, ⟨(some p6n15), none, (.ext (.t p6n11) 1)⟩, ⟨(some p6n4), none, (.mv (.t p6n14))⟩, ⟨(some p6n5), none, (.mv (.t p6n15))⟩]) (.seq (.reg [⟨(some p6n16), none, (.mv (.t p6n3))⟩, ⟨(some p6n17), none, (.call 281 [(.t p6n16)])⟩, ⟨(some p6n18), none, (.bin .eql (.t p6n17) (.c (.int .i64 (.ofNat 0))))⟩, ⟨(some p6n19), none, (.mv (.t p6n18))⟩, ⟨(some p6n20), (some (p6n19, true)), (.mv (.t p6n5))⟩, ⟨(some p6n21), (some (p6n19, true)), (.call 281 [(.t p6n20)])⟩, ⟨(some p6n22), (some (p6n19, true)), (.bin .eql (.t p6n21) (.c (.int .i64 (.ofNat 0))))⟩, ⟨(some p6n23), none, (.pick (.t p6n19) (.t p6n22) (.c (.bool false)))⟩, ⟨(some p6n24), none, (.mv (.t p6n23))⟩, ⟨(some p6n25), (some (p6n24, true)), (.mv (.t p6n1))⟩, ⟨(some p6n26), (some (p6n24, true)), (.len false (.t p6n25))⟩, ⟨(some p6n27), (some (p6n24, true)), (.bin .eql (.t p6n26) (.c (.int .i64 (.ofNat 6))))⟩, ⟨(some p6n28), none, (.pick (.t p6n24) (.t p6n27) (.c (.bool false)))⟩, ⟨(some p6n29), none, (.mv (.t p6n28))⟩, ⟨(some p6n30), (some (p6n29, true)), (.mv (.t p6n4))⟩, ⟨(some p6n31), (some (p6n29, true)), (.bin .eql (.t p6n30) (.c (.str [97, 32, 58, 32, 108, 105, 32, 114, 49, 32, 44, 32, 49, 54])))⟩, ⟨(some p6n32), none, (.pick (.t p6n29) (.t p6n31) (.c (.bool false)))⟩, ⟨(some p6n0), none, (.mv (.t p6n32))⟩]) .ret))))⟩
noncomputable def a283 : AFunc :=
  ⟨4, [p4n0, p4n1], [(p4n4, none)], false, (.seq (.reg [⟨(some p4n4), none, (.mv (.c (.bool false)))⟩]) (.seq (.reg [⟨(some p4n5), none, (.mv (.t p4n0))⟩, ⟨(some p4n6), none, (.mv (.t p4n1))⟩, ⟨(some p4n7), none, (.call 287 [(.t p4n5), (.t p4n6)])⟩, ⟨(some p4n8), none, (.bin .geq (.t p4n7) (.c (.int .i64 (.ofNat 0))))⟩, ⟨(some p4n4), none, (.mv (.t p4n8))⟩]) .ret))⟩
noncomputable def a284 : AFunc :=
  ⟨4, [p4n0], [(p4n2, none)], false, (.seq (.reg [⟨(some p4n2), none, (.mv (.c (.bool false)))⟩]) (.seq (.reg [⟨(some p4n3), none, (.mv (.t p4n0))⟩, ⟨(some p4n4), none, (.bin .eql (.t p4n3) (.c (.int .u8 (.ofNat 32))))⟩, ⟨(some p4n5), none, (.mv (.t p4n4))⟩, ⟨(some p4n6), (some (p4n5, false)), (.mv (.t p4n0))⟩, ⟨(some p4n7), (some (p4n5, false)), (.bin .eql (.t p4n6) (.c (.int .u8 (.ofNat 9))))⟩, ⟨(some p4n8), none, (.pick (.t p4n5) (.c (.bool true)) (.t p4n7))⟩, ⟨(some p4n2), none, (.mv (.t p4n8))⟩]) .ret))⟩
noncomputable def a285 : AFunc :=
  ⟨6, [p6n0], [(p6n2, (some (4, true))), (p6n3, none)], false, (.seq (.reg [⟨(some p6n2), none, (.alloc [(.int .i64 (.ofNat 0)), (.str []), (.int .i64 (.ofNat 0)), (.int .i64 (.ofNat 0))])⟩, ⟨(some p6n3), none, (.mv (.c (.int .i64 (.ofNat 0))))⟩]) (.seq (.seq (.reg [⟨(some p6n8), none, (.mv (.t p6n0))⟩, ⟨(some p6n9), none, (.idxS (.t p6n8) (.c (.int .i64 (.ofNat 0))))⟩, ⟨(some p6n4), none, (.mv (.t p6n9))⟩]) (.block 0 (.seq (.reg [⟨(some p6n11), none, (.mv (.t p6n4))⟩, ⟨(some p6n12), none, (.call 85 [(.t p6n11)])⟩, ⟨(some p6n10), none, (.mv (.t p6n12))⟩]) (.cond (.t p6n10) (.seq (.reg [⟨(some p6n13), none, (.mv (.t p6n0))⟩, ⟨(some p6n14), none, (.call 86 [(.t p6n13), (.c (.fn 87 [] []))])⟩, ⟨(some p6n5), none, (.mv (.t p6n14))⟩]) (.seq (.seq (.reg [⟨(some p6n15), none, (.mv (.t p6n5))⟩, ⟨(some p6n16), none, (.bin .gtr (.t p6n15) (.c (.int .i64 (.ofNat 12))))⟩]) (.cond (.t p6n16) (.seq (.reg [⟨(some p6n17), none, (.ldA 4 (.t p6n2))⟩, ⟨none, none, (.st 4 (.t p6n2) (.t p6n17))⟩, ⟨(some p6n3), none, (.mv (.c (.int .i64 (.ofNat 0))))⟩]) .ret) .skip)) (.seq (.reg [⟨(some p6n18), none, (.mv (.t p6n0))⟩, ⟨(some p6n19), none, (.mv (.t p6n5))⟩, ⟨(some p6n20), none, (.slS (.t p6n18) none (some (.t p6n19)))⟩, ⟨(some p6n21), none, (.build [(.int .i64 (.ofNat 0)), (.str []), (.int .i64 (.ofNat 0)), (.int .i64 (.ofNat 0))] [(0, (1, (.c (.int .i64 (.ofNat 1))))), (1, (1, (.t p6n20)))])⟩, ⟨(some p6n22), none, (.mv (.t p6n5))⟩, ⟨none, none, (.st 4 (.t p6n2) (.t p6n21))⟩, ⟨(some p6n3), none, (.mv (.t p6n22))⟩]) .ret))) (.seq (.reg [⟨(some p6n24), none, (.mv (.t p6n4))⟩, ⟨(some p6n25), none, (.call 95 [(.t p6n24)])⟩, ⟨(some p6n23), none, (.mv (.t p6n25))⟩]) (.cond (.t p6n23) (.seq (.reg [⟨(some p6n27), none, (.mv (.t p6n0))⟩, ⟨(some p6n28), none, (.call 288 [(.t p6n27)])⟩, ⟨(some p6n26), none, (.mv (.t p6n28))⟩, ⟨(some p6n29), none, (.ext (.t p6n26) 0)⟩, ⟨(some p6n30), none, (.ext (.t p6n26) 1)⟩, ⟨(some p6n6), none, (.mv (.t p6n29))⟩, ⟨(some p6n7), none, (.mv (.t p6n30))⟩]) (.seq (.reg [⟨(some p6n31), none, (.mv (.t p6n6))⟩, ⟨(some p6n32), none, (.build [(.int .i64 (.ofNat 0)), (.str []), (.int .i64 (.ofNat 0)), (.int .i64 (.ofNat 0))] [(0, (1, (.c (.int .i64 (.ofNat 2))))), (2, (1, (.t p6n31)))])⟩, ⟨(some p6n33), none, (.mv (.t p6n7))⟩, ⟨none, none, (.st 4 (.t p6n2) (.t p6n32))⟩, ⟨(some p6n3), none, (.mv (.t p6n33))⟩]) .ret)) (.seq (.reg [⟨(some p6n35), none, (.mv (.t p6n4))⟩, ⟨(some p6n36), none, (.call 88 [(.t p6n35)])⟩, ⟨(some p6n34), none, (.mv (.t p6n36))⟩]) (.cond (.t p6n34) (.seq (.reg [⟨(some p6n37), none, (.mv (.t p6n0))⟩, ⟨(some p6n38), none, (.slS (.t p6n37) none (some (.c (.int .i64 (.ofNat 1)))))⟩, ⟨(some p6n39), none, (.build [(.int .i64 (.ofNat 0)), (.str []), (.int .i64 (.ofNat 0)), (.int .i64 (.ofNat 0))] [(0, (1, (.c (.int .i64 (.ofNat 3))))), (1, (1, (.t p6n38)))])⟩, ⟨none, none, (.st 4 (.t p6n2) (.t p6n39))⟩, ⟨(some p6n3), none, (.mv (.c (.int .i64 (.ofNat 1))))⟩]) .ret) .skip)))))))) (.seq (.reg [⟨(some p6n40), none, (.ldA 4 (.t p6n2))⟩, ⟨none, none, (.st 4 (.t p6n2) (.t p6n40))⟩, ⟨(some p6n3), none, (.mv (.c (.int .i64 (.ofNat 0))))⟩]) .ret)))⟩
noncomputable def a286 : AFunc :=
  ⟨5, [p5n0], [(p5n2, none), (p5n3, none)], false, (.seq (.reg [⟨(some p5n2), none, (.mv (.c (.str [])))⟩, ⟨(some p5n3), none, (.mv (.c (.int .i64 (.ofNat 0))))⟩]) (.seq (.seq (.reg [⟨(some p5n7), none, (.mv (.t p5n0))⟩, ⟨(some p5n8), none, (.call 51 [(.t p5n7)])⟩, ⟨(some p5n9), none, (.un .not (.t p5n8))⟩]) (.cond (.t p5n9) (.seq (.reg [⟨(some p5n2), none, (.mv (.c (.str [])))⟩, ⟨(some p5n3), none, (.mv (.c (.int .i64 (.ofNat 1))))⟩]) .ret) .skip)) (.seq (.reg [⟨(some p5n4), none, (.mv (.c .nils))⟩]) (.seq (.seq (.reg [⟨(some p5n10), none, (.mv (.t p5n0))⟩, ⟨(some p5n11), none, (.len false (.t p5n10))⟩, ⟨(some p5n12), none, (.mv (.c (.int .i64 (.ofNat 0))))⟩]) (.block 0 (.loop (.seq (.reg [⟨(some p5n13), none, (.bin .lss (.t p5n12) (.t p5n11))⟩]) (.seq (.cond (.t p5n13) .skip (.exit 0)) (.seq (.block 1 (.seq (.reg [⟨(some p5n14), none, (.iaddr 4 (.t p5n10) (.t p5n12))⟩, ⟨(some p5n15), none, (.ldA 4 (.t p5n14))⟩, ⟨(some p5n6), none, (.alloc [(.int .i64 (.ofNat 0)), (.str []), (.int .i64 (.ofNat 0)), (.int .i64 (.ofNat 0))])⟩, ⟨none, none, (.st 4 (.t p5n6) (.t p5n15))⟩]) (.seq (.seq (.reg [⟨(some p5n16), none, (.faddr 0 (.t p5n6))⟩, ⟨(some p5n17), none, (.ld1 (.t p5n16))⟩, ⟨(some p5n18), none, (.bin .eql (.t p5n17) (.c (.int .i64 (.ofNat 2))))⟩]) (.cond (.t p5n18) (.reg [⟨(some p5n19), none, (.faddr 2 (.t p5n6))⟩, ⟨(some p5n20), none, (.ld1 (.t p5n19))⟩, ⟨(some p5n21), none, (.call 289 [(.t p5n20)])⟩, ⟨(some p5n22), none, (.faddr 1 (.t p5n6))⟩, ⟨none, none, (.st 1 (.t p5n22) (.t p5n21))⟩]) .skip)) (.reg [⟨(some p5n23), none, (.mv (.t p5n4))⟩, ⟨(some p5n24), none, (.faddr 1 (.t p5n6))⟩, ⟨(some p5n25), none, (.ld1 (.t p5n24))⟩, ⟨(some p5n26), none, (.buildS 1 1 (.str []) [(0, (.t p5n25))])⟩, ⟨(some p5n27), none, (.app 1 16 (.str []) (.t p5n23) (.t p5n26))⟩, ⟨(some p5n4), none, (.mv (.t p5n27))⟩])))) (.reg [⟨(some p5n28), none, (.bin .add (.t p5n12) (.c (.int .i64 (.ofNat 1))))⟩, ⟨(some p5n12), none, (.mv (.t p5n28))⟩]))))))) (.seq (.reg [⟨(some p5n29), none, (.mv (.t p5n4))⟩, ⟨(some p5n30), none, (.call 290 [(.t p5n29), (.c (.str [32]))])⟩, ⟨(some p5n2), none, (.mv (.t p5n30))⟩, ⟨(some p5n3), none, (.mv (.c (.int .i64 (.ofNat 0))))⟩]) .ret)))))⟩
noncomputable def a287 : AFunc :=
  ⟨3, [p3n0, p3n1], [(p3n4, none)], false, (.seq (.reg [⟨(some p3n4), none, (.mv (.c (.int .i64 (.ofNat 0))))⟩]) (.seq (.reg [⟨(some p3n5), none, (.mv (.t p3n0))⟩, ⟨(some p3n6), none, (.mv (.t p3n1))⟩, ⟨(some p3n7), none, (.call 291 [(.t p3n5), (.t p3n6)])⟩, ⟨(some p3n4), none, (.mv (.t p3n7))⟩]) .ret))⟩
noncomputable def a288 : AFunc :=
  ⟨6, [p6n0], [(p6n2, none), (p6n3, none)], false, (.seq (.reg [⟨(some p6n2), none, (.mv (.c (.int .i64 (.ofNat 0))))⟩, ⟨(some p6n3), none, (.mv (.c (.int .i64 (.ofNat 0))))⟩]) (.seq (.reg [⟨(some p6n4), none, (.mv (.c (.int .i64 (.ofNat 10))))⟩, ⟨(some p6n5), none, (.mv (.c (.int .i64 (.ofNat 0))))⟩]) (.seq (.reg [⟨(some p6n8), none, (.mv (.t p6n0))⟩, ⟨(some p6n9), none, (.call 86 [(.t p6n8), (.c (.fn 95 [] []))])⟩, ⟨(some p6n3), none, (.mv (.t p6n9))⟩]) (.seq (.seq (.reg [⟨(some p6n10), none, (.mv (.t p6n0))⟩, ⟨(some p6n11), none, (.call 292 [(.t p6n10), (.c (.str [48, 120]))])⟩]) (.cond (.t p6n11) (.seq (.reg [⟨(some p6n4), none, (.mv (.c (.int .i64 (.ofNat 16))))⟩, ⟨(some p6n5), none, (.mv (.c (.int .i64 (.ofNat 2))))⟩]) (.reg [⟨(some p6n12), none, (.mv (.t p6n0))⟩, ⟨(some p6n13), none, (.slS (.t p6n12) (some (.c (.int .i64 (.ofNat 2)))) none)⟩, ⟨(some p6n14), none, (.call 86 [(.t p6n13), (.c (.fn 293 [] []))])⟩, ⟨(some p6n15), none, (.bin .add (.c (.int .i64 (.ofNat 2))) (.t p6n14))⟩, ⟨(some p6n3), none, (.mv (.t p6n15))⟩])) .skip)) (.seq (.reg [⟨(some p6n17), none, (.mv (.t p6n0))⟩, ⟨(some p6n18), none, (.mv (.t p6n5))⟩, ⟨(some p6n19), none, (.mv (.t p6n3))⟩, ⟨(some p6n20), none, (.slS (.t p6n17) (some (.t p6n18)) (some (.t p6n19)))⟩, ⟨(some p6n21), none, (.mv (.t p6n4))⟩, ⟨(some p6n22), none, (.call 294 [(.t p6n20), (.t p6n21), (.c (.int .i64 (.ofNat 64)))])⟩, ⟨(some p6n16), none, (.mv (.t p6n22))⟩, ⟨(some p6n23), none, (.ext (.t p6n16) 0)⟩, ⟨(some p6n24), none, (.ext (.t p6n16) 1)⟩, ⟨(some p6n6), none, (.mv (.t p6n23))⟩, ⟨(some p6n7), none, (.mv (.t p6n24))⟩]) (.seq (.seq (.reg [⟨(some p6n25), none, (.mv (.t p6n7))⟩, ⟨(some p6n26), none, (.eqk .iface true (.t p6n25) (.c .nili))⟩, ⟨(some p6n27), none, (.mv (.t p6n26))⟩, ⟨(some p6n28), (some (p6n27, false)), (.mv (.t p6n6))⟩, ⟨(some p6n29), (some (p6n27, false)), (.bin .gtr (.t p6n28) (.c (.int .i64 (.ofNat 2147483647))))⟩, ⟨(some p6n30), none, (.pick (.t p6n27) (.c (.bool true)) (.t p6n29))⟩]) (.cond (.t p6n30) (.seq (.reg [⟨(some p6n2), none, (.mv (.c (.int .i64 (.ofNat 0))))⟩, ⟨(some p6n3), none, (.mv (.c (.int .i64 (.ofNat 0))))⟩]) .ret) .skip)) (.seq (.reg [⟨(some p6n31), none, (.mv (.t p6n6))⟩, ⟨(some p6n32), none, (.mv (.t p6n3))⟩, ⟨(some p6n2), none, (.mv (.t p6n31))⟩, ⟨(some p6n3), none, (.mv (.t p6n32))⟩]) .ret)))))))⟩
noncomputable def a289 : AFunc :=
  ⟨77, [p3n0], [(p3n1, none)], false, (.reg [⟨(some p3n1), none, (.mem (.prim 1) [(.t p3n0)])⟩])⟩
noncomputable def a290 : AFunc :=
  ⟨77, [p3n0, p3n1], [(p3n2, none)], false, (.reg [⟨(some p3n2), none, (.mem (.prim 0) [(.t p3n0), (.t p3n1)])⟩])⟩
noncomputable def a291 : AFunc :=
  ⟨8, [p8n0, p8n1], [(p8n4, none)], false, (.seq (.reg [⟨(some p8n4), none, (.mv (.c (.int .i64 (.ofNat 0))))⟩]) (.seq (.reg [⟨(some p8n14), none, (.mv (.t p8n1))⟩, ⟨(some p8n15), none, (.len true (.t p8n14))⟩, ⟨(some p8n5), none, (.mv (.t p8n15))⟩]) (.seq (.block 0 (.seq (.reg [⟨(some p8n17), none, (.mv (.t p8n5))⟩, ⟨(some p8n18), none, (.bin .eql (.t p8n17) (.c (.int .i64 (.ofNat 0))))⟩, ⟨(some p8n19), none, (.mv (.t p8n18))⟩, ⟨(some p8n20), (some (p8n19, false)), (.mv (.t p8n1))⟩, ⟨(some p8n21), (some (p8n19, false)), (.mv (.t p8n0))⟩, ⟨(some p8n22), (some (p8n19, false)), (.bin .eql (.t p8n20) (.t p8n21))⟩, ⟨(some p8n23), none, (.pick (.t p8n19) (.c (.bool true)) (.t p8n22))⟩, ⟨(some p8n16), none, (.mv (.t p8n23))⟩]) (.cond (.t p8n16) (.seq (.reg [⟨(some p8n4), none, (.mv (.c (.int .i64 (.ofNat 0))))⟩]) .ret) (.seq (.reg [⟨(some p8n25), none, (.mv (.t p8n5))⟩, ⟨(some p8n26), none, (.bin .eql (.t p8n25) (.c (.int .i64 (.ofNat 1))))⟩, ⟨(some p8n24), none, (.mv (.t p8n26))⟩]) (.cond (.t p8n24) (.seq (.reg [⟨(some p8n27), none, (.mv (.t p8n0))⟩, ⟨(some p8n28), none, (.mv (.t p8n1))⟩, ⟨(some p8n29), none, (.idxS (.t p8n28) (.c (.int .i64 (.ofNat 0))))⟩, ⟨(some p8n30), none, (.call 99 [(.t p8n27), (.t p8n29)])⟩, ⟨(some p8n4), none, (.mv (.t p8n30))⟩]) .ret) (.seq (.reg [⟨(some p8n32), none, (.mv (.t p8n5))⟩, ⟨(some p8n33), none, (.mv (.t p8n0))⟩, ⟨(some p8n34), none, (.len true (.t p8n33))⟩, ⟨(some p8n35), none, (.bin .geq (.t p8n32) (.t p8n34))⟩, ⟨(some p8n31), none, (.mv (.t p8n35))⟩]) (.cond (.t p8n31) (.seq (.reg [⟨(some p8n4), none, (.mv (.c (.int .i64 (.negSucc 0))))⟩]) .ret) (.seq (.reg [⟨(some p8n37), none, (.mv (.t p8n5))⟩, ⟨(some p8n38), none, (.mem .mlen [])⟩, ⟨(some p8n39), none, (.bin .leq (.t p8n37) (.t p8n38))⟩, ⟨(some p8n40), none, (.mv (.t p8n39))⟩, ⟨(some p8n41), (some (p8n40, true)), (.mv (.t p8n0))⟩, ⟨(some p8n42), (some (p8n40, true)), (.len true (.t p8n41))⟩, ⟨(some p8n43), (some (p8n40, true)), (.bin .leq (.t p8n42) (.c (.int .i64 (.ofNat 64))))⟩, ⟨(some p8n44), none, (.pick (.t p8n40) (.t p8n43) (.c (.bool false)))⟩, ⟨(some p8n36), none, (.mv (.t p8n44))⟩]) (.cond (.t p8n36) (.seq (.reg [⟨(some p8n45), none, (.mv (.t p8n0))⟩, ⟨(some p8n46), none, (.mv (.t p8n1))⟩, ⟨(some p8n47), none, (.call 299 [(.t p8n45), (.t p8n46)])⟩, ⟨(some p8n4), none, (.mv (.t p8n47))⟩]) .ret) .skip))))))))) (.seq (.reg [⟨(some p8n48), none, (.mv (.t p8n1))⟩, ⟨(some p8n49), none, (.idxS (.t p8n48) (.c (.int .i64 (.ofNat 0))))⟩, ⟨(some p8n6), none, (.mv (.t p8n49))⟩]) (.seq (.reg [⟨(some p8n50), none, (.mv (.t p8n1))⟩, ⟨(some p8n51), none, (.idxS (.t p8n50) (.c (.int .i64 (.ofNat 1))))⟩, ⟨(some p8n7), none, (.mv (.t p8n51))⟩]) (.seq (.reg [⟨(some p8n8), none, (.mv (.c (.int .i64 (.ofNat 0))))⟩]) (.seq (.reg [⟨(some p8n52), none, (.mv (.t p8n0))⟩, ⟨(some p8n53), none, (.len true (.t p8n52))⟩, ⟨(some p8n54), none, (.mv (.t p8n5))⟩, ⟨(some p8n55), none, (.bin .sub (.t p8n53) (.t p8n54))⟩, ⟨(some p8n56), none, (.bin .add (.t p8n55) (.c (.int .i64 (.ofNat 1))))⟩, ⟨(some p8n9), none, (.mv (.t p8n56))⟩]) (.seq (.reg [⟨(some p8n10), none, (.mv (.c (.int .i64 (.ofNat 0))))⟩]) (.seq (.block 1 (.loop (.seq (.seq (.reg [⟨(some p8n57), none, (.mv (.t p8n8))⟩, ⟨(some p8n58), none, (.mv (.t p8n9))⟩, ⟨(some p8n59), none, (.bin .lss (.t p8n57) (.t p8n58))⟩]) (.cond (.t p8n59) .skip (.exit 1))) (.block 2 (.seq (.seq (.reg [⟨(some p8n60), none, (.mv (.t p8n0))⟩, ⟨(some p8n61), none, (.mv (.t p8n8))⟩, ⟨(some p8n62), none, (.idxS (.t p8n60) (.t p8n61))⟩, ⟨(some p8n63), none, (.mv (.t p8n6))⟩, ⟨(some p8n64), none, (.bin .neq (.t p8n62) (.t p8n63))⟩]) (.cond (.t p8n64) (.seq (.reg [⟨(some p8n65), none, (.mv (.t p8n0))⟩, ⟨(some p8n66), none, (.mv (.t p8n8))⟩, ⟨(some p8n67), none, (.bin .add (.t p8n66) (.c (.int .i64 (.ofNat 1))))⟩, ⟨(some p8n68), none, (.mv (.t p8n9))⟩, ⟨(some p8n69), none, (.slS (.t p8n65) (some (.t p8n67)) (some (.t p8n68)))⟩, ⟨(some p8n70), none, (.mv (.t p8n6))⟩, ⟨(some p8n71), none, (.call 99 [(.t p8n69), (.t p8n70)])⟩, ⟨(some p8n11), none, (.mv (.t p8n71))⟩]) (.seq (.seq (.reg [⟨(some p8n72), none, (.mv (.t p8n11))⟩, ⟨(some p8n73), none, (.bin .lss (.t p8n72) (.c (.int .i64 (.ofNat 0))))⟩]) (.cond (.t p8n73) (.seq (.reg [⟨(some p8n4), none, (.mv (.c (.int .i64 (.negSucc 0))))⟩]) .ret) .skip)) (.reg [⟨(some p8n74), none, (.mv (.t p8n8))⟩, ⟨(some p8n75), none, (.mv (.t p8n11))⟩, ⟨(some p8n76), none, (.bin .add (.t p8n75) (.c (.int .i64 (.ofNat 1))))⟩, ⟨(some p8n77), none, (.bin .add (.t p8n74) (.t p8n76))⟩, ⟨(some p8n8), none, (.mv (.t p8n77))⟩]))) .skip)) (.seq (.seq (.reg [⟨(some p8n78), none, (.mv (.t p8n0))⟩, ⟨(some p8n79), none, (.mv (.t p8n8))⟩, ⟨(some p8n80), none, (.bin .add (.t p8n79) (.c (.int .i64 (.ofNat 1))))⟩, ⟨(some p8n81), none, (.idxS (.t p8n78) (.t p8n80))⟩, ⟨(some p8n82), none, (.mv (.t p8n7))⟩, ⟨(some p8n83), none, (.bin .eql (.t p8n81) (.t p8n82))⟩, ⟨(some p8n84), none, (.mv (.t p8n83))⟩, ⟨(some p8n85), (some (p8n84, true)), (.mv (.t p8n0))⟩, ⟨(some p8n86), (some (p8n84, true)), (.mv (.t p8n8))⟩, ⟨(some p8n87), (some (p8n84, true)), (.mv (.t p8n8))⟩, ⟨(some p8n88), (some (p8n84, true)), (.mv (.t p8n5))⟩, ⟨(some p8n89), (some (p8n84, true)), (.bin .add (.t p8n87) (.t p8n88))⟩, ⟨(some p8n90), (some (p8n84, true)), (.slS (.t p8n85) (some (.t p8n86)) (some (.t p8n89)))⟩, ⟨(some p8n91), (some (p8n84, true)), (.mv (.t p8n1))⟩, ⟨(some p8n92), (some (p8n84, true)), (.bin .eql (.t p8n90) (.t p8n91))⟩, ⟨(some p8n93), none, (.pick (.t p8n84) (.t p8n92) (.c (.bool false)))⟩]) (.cond (.t p8n93) (.seq (.reg [⟨(some p8n94), none, (.mv (.t p8n8))⟩, ⟨(some p8n4), none, (.mv (.t p8n94))⟩]) .ret) .skip)) (.seq (.reg [⟨(some p8n95), none, (.mv (.t p8n8))⟩, ⟨(some p8n96), none, (.bin .add (.t p8n95) (.c (.int .i64 (.ofNat 1))))⟩, ⟨(some p8n8), none, (.mv (.t p8n96))⟩]) (.seq (.reg [⟨(some p8n97), none, (.mv (.t p8n10))⟩, ⟨(some p8n98), none, (.bin .add (.t p8n97) (.c (.int .i64 (.ofNat 1))))⟩, ⟨(some p8n10), none, (.mv (.t p8n98))⟩]) (.seq (.reg [⟨(some p8n99), none, (.mv (.t p8n5))⟩, ⟨(some p8n100), none, (.mem .mlen [])⟩, ⟨(some p8n101), none, (.bin .leq (.t p8n99) (.t p8n100))⟩, ⟨(some p8n102), none, (.mv (.t p8n101))⟩, ⟨(some p8n103), (some (p8n102, true)), (.mv (.t p8n10))⟩, ⟨(some p8n104), (some (p8n102, true)), (.mv (.t p8n8))⟩, ⟨(some p8n105), (some (p8n102, true)), (.call 300 [(.t p8n104)])⟩, ⟨(some p8n106), (some (p8n102, true)), (.bin .gtr (.t p8n103) (.t p8n105))⟩, ⟨(some p8n107), none, (.pick (.t p8n102) (.t p8n106) (.c (.bool false)))⟩]) (.cond (.t p8n107) (.seq (.reg [⟨(some p8n108), none, (.mv (.t p8n0))⟩, ⟨(some p8n109), none, (.mv (.t p8n8))⟩, ⟨(some p8n110), none, (.slS (.t p8n108) (some (.t p8n109)) none)⟩, ⟨(some p8n111), none, (.mv (.t p8n1))⟩, ⟨(some p8n112), none, (.call 299 [(.t p8n110), (.t p8n111)])⟩, ⟨(some p8n12), none, (.mv (.t p8n112))⟩]) (.seq (.seq (.reg [⟨(some p8n113), none, (.mv (.t p8n12))⟩, ⟨(some p8n114), none, (.bin .geq (.t p8n113) (.c (.int .i64 (.ofNat 0))))⟩]) (.cond (.t p8n114) (.seq (.reg [⟨(some p8n115), none, (.mv (.t p8n12))⟩, ⟨(some p8n116), none, (.mv (.t p8n8))⟩, ⟨(some p8n117), none, (.bin .add (.t p8n115) (.t p8n116))⟩, ⟨(some p8n4), none, (.mv (.t p8n117))⟩]) .ret) .skip)) (.seq (.reg [⟨(some p8n4), none, (.mv (.c (.int .i64 (.negSucc 0))))⟩]) .ret))) (.seq (.reg [⟨(some p8n118), none, (.mv (.t p8n5))⟩, ⟨(some p8n119), none, (.mem .mlen [])⟩, ⟨(some p8n120), none, (.bin .gtr (.t p8n118) (.t p8n119))⟩, ⟨(some p8n121), none, (.mv (.t p8n120))⟩, ⟨(some p8n122), (some (p8n121, true)), (.mv (.t p8n10))⟩, ⟨(some p8n123), (some (p8n121, true)), (.mv (.t p8n8))⟩, ⟨(some p8n124), (some (p8n121, true)), (.bin .shr (.t p8n123) (.c (.int .u64 (.ofNat 4))))⟩, ⟨(some p8n125), (some (p8n121, true)), (.bin .add (.c (.int .i64 (.ofNat 4))) (.t p8n124))⟩, ⟨(some p8n126), (some (p8n121, true)), (.bin .geq (.t p8n122) (.t p8n125))⟩, ⟨(some p8n127), none, (.pick (.t p8n121) (.t p8n126) (.c (.bool false)))⟩, ⟨(some p8n128), none, (.mv (.t p8n127))⟩, ⟨(some p8n129), (some (p8n128, true)), (.mv (.t p8n8))⟩, ⟨(some p8n130), (some (p8n128, true)), (.mv (.t p8n9))⟩, ⟨(some p8n131), (some (p8n128, true)), (.bin .lss (.t p8n129) (.t p8n130))⟩, ⟨(some p8n132), none, (.pick (.t p8n128) (.t p8n131) (.c (.bool false)))⟩]) (.cond (.t p8n132) (.seq (.reg [⟨(some p8n133), none, (.mv (.t p8n0))⟩, ⟨(some p8n134), none, (.mv (.t p8n8))⟩, ⟨(some p8n135), none, (.slS (.t p8n133) (some (.t p8n134)) none)⟩, ⟨(some p8n136), none, (.mv (.t p8n1))⟩, ⟨(some p8n137), none, (.call 301 [(.t p8n135), (.t p8n136)])⟩, ⟨(some p8n13), none, (.mv (.t p8n137))⟩]) (.seq (.seq (.reg [⟨(some p8n138), none, (.mv (.t p8n13))⟩, ⟨(some p8n139), none, (.bin .lss (.t p8n138) (.c (.int .i64 (.ofNat 0))))⟩]) (.cond (.t p8n139) (.seq (.reg [⟨(some p8n4), none, (.mv (.c (.int .i64 (.negSucc 0))))⟩]) .ret) .skip)) (.seq (.reg [⟨(some p8n140), none, (.mv (.t p8n8))⟩, ⟨(some p8n141), none, (.mv (.t p8n13))⟩, ⟨(some p8n142), none, (.bin .add (.t p8n140) (.t p8n141))⟩, ⟨(some p8n4), none, (.mv (.t p8n142))⟩]) .ret))) .skip)))))))))))) (.seq (.reg [⟨(some p8n4), none, (.mv (.c (.int .i64 (.negSucc 0))))⟩]) .ret))))))))))⟩
noncomputable def a292 : AFunc :=
  ⟨3, [p3n0, p3n1], [(p3n4, none)], false, (.seq (.reg [⟨(some p3n4), none, (.mv (.c (.bool false)))⟩]) (.seq (.reg [⟨(some p3n5), none, (.mv (.t p3n0))⟩, ⟨(some p3n6), none, (.mv (.t p3n1))⟩, ⟨(some p3n7), none, (.call 302 [(.t p3n5), (.t p3n6)])⟩, ⟨(some p3n4), none, (.mv (.t p3n7))⟩]) .ret))⟩
noncomputable def a293 : AFunc :=
  ⟨4, [p4n0], [(p4n2, none)], false, (.seq (.reg [⟨(some p4n2), none, (.mv (.c (.bool false)))⟩]) (.seq (.reg [⟨(some p4n3), none, (.mv (.t p4n0))⟩, ⟨(some p4n4), none, (.call 95 [(.t p4n3)])⟩, ⟨(some p4n5), none, (.mv (.t p4n4))⟩, ⟨(some p4n6), (some (p4n5, false)), (.mv (.t p4n0))⟩, ⟨(some p4n7), (some (p4n5, false)), (.bin .geq (.t p4n6) (.c (.int .u8 (.ofNat 97))))⟩, ⟨(some p4n8), (some (p4n5, false)), (.mv (.t p4n7))⟩, ⟨(some p4n9), (some (p4n8, true)), (.mv (.t p4n0))⟩, ⟨(some p4n10), (some (p4n8, true)), (.bin .leq (.t p4n9) (.c (.int .u8 (.ofNat 102))))⟩, ⟨(some p4n11), (some (p4n5, false)), (.pick (.t p4n8) (.t p4n10) (.c (.bool false)))⟩, ⟨(some p4n12), none, (.pick (.t p4n5) (.c (.bool true)) (.t p4n11))⟩, ⟨(some p4n2), none, (.mv (.t p4n12))⟩]) .ret))⟩
noncomputable def a294 : AFunc :=
  ⟨5, [p5n0, p5n1, p5n2], [(p5n6, none), (p5n7, none)], false, (.seq (.reg [⟨(some p5n6), none, (.mv (.c (.int .i64 (.ofNat 0))))⟩, ⟨(some p5n7), none, (.mv (.c .nili))⟩]) (.seq (.reg [⟨(some p5n10), none, (.mv (.t p5n0))⟩, ⟨(some p5n11), none, (.mv (.t p5n1))⟩, ⟨(some p5n12), none, (.mv (.t p5n2))⟩, ⟨(some p5n13), none, (.call 303 [(.t p5n10), (.t p5n11), (.t p5n12)])⟩, ⟨(some p5n9), none, (.mv (.t p5n13))⟩, ⟨(some p5n14), none, (.ext (.t p5n9) 0)⟩, ⟨(some p5n15), none, (.ext (.t p5n9) 1)⟩, ⟨(some p5n8), none, (.mv (.t p5n14))⟩, ⟨(some p5n7), none, (.mv (.t p5n15))⟩]) (.seq (.seq (.reg [⟨(some p5n16), none, (.mv (.t p5n7))⟩, ⟨(some p5n17), none, (.eqk .iface true (.t p5n16) (.c .nili))⟩]) (.cond (.t p5n17) (.seq (.reg [⟨(some p5n18), none, (.mv (.t p5n8))⟩, ⟨(some p5n19), none, (.mv (.t p5n0))⟩, ⟨(some p5n20), none, (.mv (.t p5n1))⟩, ⟨(some p5n21), none, (.mv (.t p5n2))⟩, ⟨(some p5n22), none, (.mv (.t p5n7))⟩, ⟨(some p5n23), none, (.call 304 [(.c (.str [80, 97, 114, 115, 101, 73, 110, 116])), (.t p5n19), (.t p5n20), (.t p5n21), (.t p5n22)])⟩, ⟨(some p5n6), none, (.mv (.t p5n18))⟩, ⟨(some p5n7), none, (.mv (.t p5n23))⟩]) .ret) .skip)) (.seq (.reg [⟨(some p5n24), none, (.mv (.t p5n8))⟩, ⟨(some p5n6), none, (.mv (.t p5n24))⟩, ⟨(some p5n7), none, (.mv (.c .nili))⟩]) .ret))))⟩
noncomputable def a300 : AFunc :=
  ⟨3, [p3n0], [(p3n2, none)], false, (.seq (.reg [⟨(some p3n2), none, (.mv (.c (.int .i64 (.ofNat 0))))⟩]) (.seq (.reg [⟨(some p3n3), none, (.mv (.t p3n0))⟩, ⟨(some p3n4), none, (.bin .add (.t p3n3) (.c (.int .i64 (.ofNat 16))))⟩, ⟨(some p3n5), none, (.bin .quo (.t p3n4) (.c (.int .i64 (.ofNat 8))))⟩, ⟨(some p3n2), none, (.mv (.t p3n5))⟩]) .ret))⟩
noncomputable def a301 : AFunc :=
  ⟨7, [p7n0, p7n1], [(p7n4, none)], false, (.seq (.reg [⟨(some p7n4), none, (.mv (.c (.int .i64 (.ofNat 0))))⟩]) (.seq (.reg [⟨(some p7n12), none, (.mv (.t p7n1))⟩, ⟨(some p7n13), none, (.call 308 [(.t p7n12)])⟩, ⟨(some p7n11), none, (.mv (.t p7n13))⟩, ⟨(some p7n14), none, (.ext (.t p7n11) 0)⟩, ⟨(some p7n15), none, (.ext (.t p7n11) 1)⟩, ⟨(some p7n5), none, (.mv (.t p7n14))⟩, ⟨(some p7n6), none, (.mv (.t p7n15))⟩]) (.seq (.reg [⟨(some p7n16), none, (.mv (.t p7n1))⟩, ⟨(some p7n17), none, (.len true (.t p7n16))⟩, ⟨(some p7n7), none, (.mv (.t p7n17))⟩]) (.seq (.reg [⟨(some p7n8), none, (.mv (.c (.int .u32 (.ofNat 0))))⟩]) (.seq (.seq (.reg [⟨(some p7n9), none, (.mv (.c (.int .i64 (.ofNat 0))))⟩]) (.block 0 (.loop (.seq (.seq (.reg [⟨(some p7n18), none, (.mv (.t p7n9))⟩, ⟨(some p7n19), none, (.mv (.t p7n7))⟩, ⟨(some p7n20), none, (.bin .lss (.t p7n18) (.t p7n19))⟩]) (.cond (.t p7n20) .skip (.exit 0))) (.seq (.block 1 (.reg [⟨(some p7n23), none, (.mv (.t p7n8))⟩, ⟨(some p7n24), none, (.bin .mul (.t p7n23) (.c (.int .u32 (.ofNat 16777619))))⟩, ⟨(some p7n25), none, (.mv (.t p7n0))⟩, ⟨(some p7n26), none, (.mv (.t p7n9))⟩, ⟨(some p7n27), none, (.idxS (.t p7n25) (.t p7n26))⟩, ⟨(some p7n28), none, (.cv (.int .u32) (.t p7n27))⟩, ⟨(some p7n29), none, (.bin .add (.t p7n24) (.t p7n28))⟩, ⟨(some p7n8), none, (.mv (.t p7n29))⟩])) (.reg [⟨(some p7n21), none, (.mv (.t p7n9))⟩, ⟨(some p7n22), none, (.bin .add (.t p7n21) (.c (.int .i64 (.ofNat 1))))⟩, ⟨(some p7n9), none, (.mv (.t p7n22))⟩])))))) (.seq (.seq (.reg [⟨(some p7n30), none, (.mv (.t p7n8))⟩, ⟨(some p7n31), none, (.mv (.t p7n5))⟩, ⟨(some p7n32), none, (.bin .eql (.t p7n30) (.t p7n31))⟩, ⟨(some p7n33), none, (.mv (.t p7n32))⟩, ⟨(some p7n34), (some (p7n33, true)), (.mv (.t p7n0))⟩, ⟨(some p7n35), (some (p7n33, true)), (.mv (.t p7n7))⟩, ⟨(some p7n36), (some (p7n33, true)), (.slS (.t p7n34) none (some (.t p7n35)))⟩, ⟨(some p7n37), (some (p7n33, true)), (.mv (.t p7n1))⟩, ⟨(some p7n38), (some (p7n33, true)), (.bin .eql (.t p7n36) (.t p7n37))⟩, ⟨(some p7n39), none, (.pick (.t p7n33) (.t p7n38) (.c (.bool false)))⟩]) (.cond (.t p7n39) (.seq (.reg [⟨(some p7n4), none, (.mv (.c (.int .i64 (.ofNat 0))))⟩]) .ret) .skip)) (.seq (.seq (.reg [⟨(some p7n40), none, (.mv (.t p7n7))⟩, ⟨(some p7n10), none, (.mv (.t p7n40))⟩]) (.block 2 (.loop (.seq (.seq (.reg [⟨(some p7n41), none, (.mv (.t p7n10))⟩, ⟨(some p7n42), none, (.mv (.t p7n0))⟩, ⟨(some p7n43), none, (.len true (.t p7n42))⟩, ⟨(some p7n44), none, (.bin .lss (.t p7n41) (.t p7n43))⟩]) (.cond (.t p7n44) .skip (.exit 2))) (.block 3 (.seq (.reg [⟨(some p7n45), none, (.mv (.t p7n8))⟩, ⟨(some p7n46), none, (.bin .mul (.t p7n45) (.c (.int .u32 (.ofNat 16777619))))⟩, ⟨(some p7n8), none, (.mv (.t p7n46))⟩]) (.seq (.reg [⟨(some p7n47), none, (.mv (.t p7n8))⟩, ⟨(some p7n48), none, (.mv (.t p7n0))⟩, ⟨(some p7n49), none, (.mv (.t p7n10))⟩, ⟨(some p7n50), none, (.idxS (.t p7n48) (.t p7n49))⟩, ⟨(some p7n51), none, (.cv (.int .u32) (.t p7n50))⟩, ⟨(some p7n52), none, (.bin .add (.t p7n47) (.t p7n51))⟩, ⟨(some p7n8), none, (.mv (.t p7n52))⟩]) (.seq (.reg [⟨(some p7n53), none, (.mv (.t p7n8))⟩, ⟨(some p7n54), none, (.mv (.t p7n6))⟩, ⟨(some p7n55), none, (.mv (.t p7n0))⟩, ⟨(some p7n56), none, (.mv (.t p7n10))⟩, ⟨(some p7n57), none, (.mv (.t p7n7))⟩, ⟨(some p7n58), none, (.bin .sub (.t p7n56) (.t p7n57))⟩, ⟨(some p7n59), none, (.idxS (.t p7n55) (.t p7n58))⟩, ⟨(some p7n60), none, (.cv (.int .u32) (.t p7n59))⟩, ⟨(some p7n61), none, (.bin .mul (.t p7n54) (.t p7n60))⟩, ⟨(some p7n62), none, (.bin .sub (.t p7n53) (.t p7n61))⟩, ⟨(some p7n8), none, (.mv (.t p7n62))⟩]) (.seq (.reg [⟨(some p7n63), none, (.mv (.t p7n10))⟩, ⟨(some p7n64), none, (.bin .add (.t p7n63) (.c (.int .i64 (.ofNat 1))))⟩, ⟨(some p7n10), none, (.mv (.t p7n64))⟩]) (.seq (.reg [⟨(some p7n65), none, (.mv (.t p7n8))⟩, ⟨(some p7n66), none, (.mv (.t p7n5))⟩, ⟨(some p7n67), none, (.bin .eql (.t p7n65) (.t p7n66))⟩, ⟨(some p7n68), none, (.mv (.t p7n67))⟩, ⟨(some p7n69), (some (p7n68, true)), (.mv (.t p7n0))⟩, ⟨(some p7n70), (some (p7n68, true)), (.mv (.t p7n10))⟩, ⟨(some p7n71), (some (p7n68, true)), (.mv (.t p7n7))⟩, ⟨(some p7n72), (some (p7n68, true)), (.bin .sub (.t p7n70) (.t p7n71))⟩, ⟨(some p7n73), (some (p7n68, true)), (.mv (.t p7n10))⟩, ⟨(some p7n74), (some (p7n68, true)), (.slS (.t p7n69) (some (.t p7n72)) (some (.t p7n73)))⟩, ⟨(some p7n75), (some (p7n68, true)), (.mv (.t p7n1))⟩, ⟨(some p7n76), (some (p7n68, true)), (.bin .eql (.t p7n74) (.t p7n75))⟩, ⟨(some p7n77), none, (.pick (.t p7n68) (.t p7n76) (.c (.bool false)))⟩]) (.cond (.t p7n77) (.seq (.reg [⟨(some p7n78), none, (.mv (.t p7n10))⟩, ⟨(some p7n79), none, (.mv (.t p7n7))⟩, ⟨(some p7n80), none, (.bin .sub (.t p7n78) (.t p7n79))⟩, ⟨(some p7n4), none, (.mv (.t p7n80))⟩]) .ret) .skip))))))))))) (.seq (.reg [⟨(some p7n4), none, (.mv (.c (.int .i64 (.negSucc 0))))⟩]) .ret))))))))⟩
noncomputable def a302 : AFunc :=
  ⟨5, [p5n0, p5n1], [(p5n4, none)], false, (.seq (.reg [⟨(some p5n4), none, (.mv (.c (.bool false)))⟩]) (.seq (.reg [⟨(some p5n5), none, (.mv (.t p5n0))⟩, ⟨(some p5n6), none, (.len true (.t p5n5))⟩, ⟨(some p5n7), none, (.mv (.t p5n1))⟩, ⟨(some p5n8), none, (.len true (.t p5n7))⟩, ⟨(some p5n9), none, (.bin .geq (.t p5n6) (.t p5n8))⟩, ⟨(some p5n10), none, (.mv (.t p5n9))⟩, ⟨(some p5n11), (some (p5n10, true)), (.mv (.t p5n0))⟩, ⟨(some p5n12), (some (p5n10, true)), (.mv (.t p5n1))⟩, ⟨(some p5n13), (some (p5n10, true)), (.len true (.t p5n12))⟩, ⟨(some p5n14), (some (p5n10, true)), (.slS (.t p5n11) none (some (.t p5n13)))⟩, ⟨(some p5n15), (some (p5n10, true)), (.mv (.t p5n1))⟩, ⟨(some p5n16), (some (p5n10, true)), (.bin .eql (.t p5n14) (.t p5n15))⟩, ⟨(some p5n17), none, (.pick (.t p5n10) (.t p5n16) (.c (.bool false)))⟩, ⟨(some p5n4), none, (.mv (.t p5n17))⟩]) .ret))⟩
noncomputable def a303 : AFunc :=
  ⟨7, [p7n0, p7n1, p7n2], [(p7n6, none), (p7n7, none)], false, (.seq (.reg [⟨(some p7n6), none, (.mv (.c (.int .i64 (.ofNat 0))))⟩, ⟨(some p7n7), none, (.mv (.c .nili))⟩]) (.seq (.seq (.reg [⟨(some p7n12), none, (.mv (.t p7n0))⟩, ⟨(some p7n13), none, (.bin .eql (.t p7n12) (.c (.str [])))⟩]) (.cond (.t p7n13) (.seq (.reg [⟨(some p7n14), none, (.mem (.mki 78) [(.c (.int .i64 (.ofNat 2)))])⟩, ⟨(some p7n6), none, (.mv (.c (.int .i64 (.ofNat 0))))⟩, ⟨(some p7n7), none, (.mv (.t p7n14))⟩]) .ret) .skip)) (.seq (.reg [⟨(some p7n8), none, (.mv (.c (.bool false)))⟩]) (.seq (.seq (.reg [⟨(some p7n15), none, (.mv (.t p7n0))⟩, ⟨(some p7n16), none, (.idxS (.t p7n15) (.c (.int .i64 (.ofNat 0))))⟩]) (.block 0 (.seq (.reg [⟨(some p7n18), none, (.bin .eql (.t p7n16) (.c (.int .u8 (.ofNat 43))))⟩, ⟨(some p7n17), none, (.mv (.t p7n18))⟩]) (.cond (.t p7n17) (.reg [⟨(some p7n19), none, (.mv (.t p7n0))⟩, ⟨(some p7n20), none, (.slS (.t p7n19) (some (.c (.int .i64 (.ofNat 1)))) none)⟩, ⟨(some p7n0), none, (.mv (.t p7n20))⟩]) (.seq (.reg [⟨(some p7n22), none, (.bin .eql (.t p7n16) (.c (.int .u8 (.ofNat 45))))⟩, ⟨(some p7n21), none, (.mv (.t p7n22))⟩]) (.cond (.t p7n21) (.seq (.reg [⟨(some p7n23), none, (.mv (.t p7n0))⟩, ⟨(some p7n24), none, (.slS (.t p7n23) (some (.c (.int .i64 (.ofNat 1)))) none)⟩, ⟨(some p7n0), none, (.mv (.t p7n24))⟩]) (.reg [⟨(some p7n8), none, (.mv (.c (.bool true)))⟩])) .skip)))))) (.seq (.reg [⟨(some p7n9), none, (.mv (.c (.int .u64 (.ofNat 0))))⟩]) (.seq (.reg [⟨(some p7n26), none, (.mv (.t p7n0))⟩, ⟨(some p7n27), none, (.mv (.t p7n1))⟩, ⟨(some p7n28), none, (.mv (.t p7n2))⟩, ⟨(some p7n29), none, (.call 309 [(.t p7n26), (.t p7n27), (.t p7n28)])⟩, ⟨(some p7n25), none, (.mv (.t p7n29))⟩, ⟨(some p7n30), none, (.ext (.t p7n25) 0)⟩, ⟨(some p7n31), none, (.ext (.t p7n25) 1)⟩, ⟨(some p7n9), none, (.mv (.t p7n30))⟩, ⟨(some p7n7), none, (.mv (.t p7n31))⟩]) (.seq (.seq (.reg [⟨(some p7n32), none, (.mv (.t p7n7))⟩, ⟨(some p7n33), none, (.eqk .iface true (.t p7n32) (.c .nili))⟩, ⟨(some p7n34), none, (.mv (.t p7n33))⟩, ⟨(some p7n35), (some (p7n34, true)), (.mv (.t p7n7))⟩, ⟨(some p7n36), (some (p7n34, true)), (.mem (.mki 78) [(.c (.int .i64 (.ofNat 1)))])⟩, ⟨(some p7n37), (some (p7n34, true)), (.mem (.eqi true [2, 3, 5, 6, 12, 21, 29, 70, 75, 78, 79, 116, 117, 119, 120]) [(.t p7n35), (.t p7n36)])⟩, ⟨(some p7n38), none, (.pick (.t p7n34) (.t p7n37) (.c (.bool false)))⟩]) (.cond (.t p7n38) (.seq (.reg [⟨(some p7n39), none, (.mv (.t p7n7))⟩, ⟨(some p7n6), none, (.mv (.c (.int .i64 (.ofNat 0))))⟩, ⟨(some p7n7), none, (.mv (.t p7n39))⟩]) .ret) .skip)) (.seq (.seq (.reg [⟨(some p7n40), none, (.mv (.t p7n2))⟩, ⟨(some p7n41), none, (.bin .eql (.t p7n40) (.c (.int .i64 (.ofNat 0))))⟩]) (.cond (.t p7n41) (.reg [⟨(some p7n2), none, (.mv (.c (.int .i64 (.ofNat 64))))⟩]) .skip)) (.seq (.reg [⟨(some p7n42), none, (.mv (.t p7n2))⟩, ⟨(some p7n43), none, (.bin .sub (.t p7n42) (.c (.int .i64 (.ofNat 1))))⟩, ⟨(some p7n44), none, (.cv (.int .u64) (.t p7n43))⟩, ⟨(some p7n45), none, (.bin .shl (.c (.int .u64 (.ofNat 1))) (.t p7n44))⟩, ⟨(some p7n10), none, (.mv (.t p7n45))⟩]) (.seq (.seq (.reg [⟨(some p7n46), none, (.mv (.t p7n8))⟩, ⟨(some p7n47), none, (.un .not (.t p7n46))⟩, ⟨(some p7n48), none, (.mv (.t p7n47))⟩, ⟨(some p7n49), (some (p7n48, true)), (.mv (.t p7n9))⟩, ⟨(some p7n50), (some (p7n48, true)), (.mv (.t p7n10))⟩, ⟨(some p7n51), (some (p7n48, true)), (.bin .geq (.t p7n49) (.t p7n50))⟩, ⟨(some p7n52), none, (.pick (.t p7n48) (.t p7n51) (.c (.bool false)))⟩]) (.cond (.t p7n52) (.seq (.reg [⟨(some p7n53), none, (.mv (.t p7n10))⟩, ⟨(some p7n54), none, (.bin .sub (.t p7n53) (.c (.int .u64 (.ofNat 1))))⟩, ⟨(some p7n55), none, (.cv (.int .i64) (.t p7n54))⟩, ⟨(some p7n56), none, (.mem (.mki 78) [(.c (.int .i64 (.ofNat 1)))])⟩, ⟨(some p7n6), none, (.mv (.t p7n55))⟩, ⟨(some p7n7), none, (.mv (.t p7n56))⟩]) .ret) .skip)) (.seq (.seq (.reg [⟨(some p7n57), none, (.mv (.t p7n8))⟩, ⟨(some p7n58), none, (.mv (.t p7n57))⟩, ⟨(some p7n59), (some (p7n58, true)), (.mv (.t p7n9))⟩, ⟨(some p7n60), (some (p7n58, true)), (.mv (.t p7n10))⟩, ⟨(some p7n61), (some (p7n58, true)), (.bin .gtr (.t p7n59) (.t p7n60))⟩, ⟨(some p7n62), none, (.pick (.t p7n58) (.t p7n61) (.c (.bool false)))⟩]) (.cond (.t p7n62) (.seq (.reg [⟨(some p7n63), none, (.mv (.t p7n10))⟩, ⟨(some p7n64), none, (.cv (.int .i64) (.t p7n63))⟩, ⟨(some p7n65), none, (.un .neg (.t p7n64))⟩, ⟨(some p7n66), none, (.mem (.mki 78) [(.c (.int .i64 (.ofNat 1)))])⟩, ⟨(some p7n6), none, (.mv (.t p7n65))⟩, ⟨(some p7n7), none, (.mv (.t p7n66))⟩]) .ret) .skip)) (.seq (.reg [⟨(some p7n67), none, (.mv (.t p7n9))⟩, ⟨(some p7n68), none, (.cv (.int .i64) (.t p7n67))⟩, ⟨(some p7n11), none, (.mv (.t p7n68))⟩]) (.seq (.seq (.reg [⟨(some p7n69), none, (.mv (.t p7n8))⟩]) (.cond (.t p7n69) (.reg [⟨(some p7n70), none, (.mv (.t p7n11))⟩, ⟨(some p7n71), none, (.un .neg (.t p7n70))⟩, ⟨(some p7n11), none, (.mv (.t p7n71))⟩]) .skip)) (.seq (.reg [⟨(some p7n72), none, (.mv (.t p7n11))⟩, ⟨(some p7n6), none, (.mv (.t p7n72))⟩, ⟨(some p7n7), none, (.mv (.c .nili))⟩]) .ret))))))))))))))⟩
noncomputable def a304 : AFunc :=
  ⟨77, [p3n0, p3n1, p3n2, p3n3, p3n4], [(p3n5, none)], false, (.reg [⟨(some p3n5), none, (.mem (.terr 78 82) [(.t p3n0), (.t p3n1), (.t p3n2), (.t p3n3), (.t p3n4)])⟩])⟩
noncomputable def a308 : AFunc :=
  ⟨6, [p6n0], [(p6n2, none), (p6n3, none)], false, (.seq (.reg [⟨(some p6n2), none, (.mv (.c (.int .u32 (.ofNat 0))))⟩, ⟨(some p6n3), none, (.mv (.c (.int .u32 (.ofNat 0))))⟩]) (.seq (.reg [⟨(some p6n4), none, (.mv (.c (.int .u32 (.ofNat 0))))⟩]) (.seq (.seq (.reg [⟨(some p6n5), none, (.mv (.c (.int .i64 (.ofNat 0))))⟩]) (.block 0 (.loop (.seq (.seq (.reg [⟨(some p6n9), none, (.mv (.t p6n5))⟩, ⟨(some p6n10), none, (.mv (.t p6n0))⟩, ⟨(some p6n11), none, (.len true (.t p6n10))⟩, ⟨(some p6n12), none, (.bin .lss (.t p6n9) (.t p6n11))⟩]) (.cond (.t p6n12) .skip (.exit 0))) (.seq (.block 1 (.reg [⟨(some p6n15), none, (.mv (.t p6n4))⟩, ⟨(some p6n16), none, (.bin .mul (.t p6n15) (.c (.int .u32 (.ofNat 16777619))))⟩, ⟨(some p6n17), none, (.mv (.t p6n0))⟩, ⟨(some p6n18), none, (.mv (.t p6n5))⟩, ⟨(some p6n19), none, (.idxS (.t p6n17) (.t p6n18))⟩, ⟨(some p6n20), none, (.cv (.int .u32) (.t p6n19))⟩, ⟨(some p6n21), none, (.bin .add (.t p6n16) (.t p6n20))⟩, ⟨(some p6n4), none, (.mv (.t p6n21))⟩])) (.reg [⟨(some p6n13), none, (.mv (.t p6n5))⟩, ⟨(some p6n14), none, (.bin .add (.t p6n13) (.c (.int .i64 (.ofNat 1))))⟩, ⟨(some p6n5), none, (.mv (.t p6n14))⟩])))))) (.seq (.reg [⟨(some p6n6), none, (.mv (.c (.int .u32 (.ofNat 1))))⟩, ⟨(some p6n7), none, (.mv (.c (.int .u32 (.ofNat 16777619))))⟩]) (.seq (.seq (.reg [⟨(some p6n22), none, (.mv (.t p6n0))⟩, ⟨(some p6n23), none, (.len true (.t p6n22))⟩, ⟨(some p6n8), none, (.mv (.t p6n23))⟩]) (.block 2 (.loop (.seq (.seq (.reg [⟨(some p6n24), none, (.mv (.t p6n8))⟩, ⟨(some p6n25), none, (.bin .gtr (.t p6n24) (.c (.int .i64 (.ofNat 0))))⟩]) (.cond (.t p6n25) .skip (.exit 2))) (.seq (.block 3 (.seq (.seq (.reg [⟨(some p6n28), none, (.mv (.t p6n8))⟩, ⟨(some p6n29), none, (.bin .and (.t p6n28) (.c (.int .i64 (.ofNat 1))))⟩, ⟨(some p6n30), none, (.bin .neq (.t p6n29) (.c (.int .i64 (.ofNat 0))))⟩]) (.cond (.t p6n30) (.reg [⟨(some p6n31), none, (.mv (.t p6n6))⟩, ⟨(some p6n32), none, (.mv (.t p6n7))⟩, ⟨(some p6n33), none, (.bin .mul (.t p6n31) (.t p6n32))⟩, ⟨(some p6n6), none, (.mv (.t p6n33))⟩]) .skip)) (.reg [⟨(some p6n34), none, (.mv (.t p6n7))⟩, ⟨(some p6n35), none, (.mv (.t p6n7))⟩, ⟨(some p6n36), none, (.bin .mul (.t p6n34) (.t p6n35))⟩, ⟨(some p6n7), none, (.mv (.t p6n36))⟩]))) (.reg [⟨(some p6n26), none, (.mv (.t p6n8))⟩, ⟨(some p6n27), none, (.bin .shr (.t p6n26) (.c (.int .u64 (.ofNat 1))))⟩, ⟨(some p6n8), none, (.mv (.t p6n27))⟩])))))) (.seq (.reg [⟨(some p6n37), none, (.mv (.t p6n4))⟩, ⟨(some p6n38), none, (.mv (.t p6n6))⟩, ⟨(some p6n2), none, (.mv (.t p6n37))⟩, ⟨(some p6n3), none, (.mv (.t p6n38))⟩]) .ret))))))⟩
noncomputable def a309 : AFunc :=
  ⟨8, [p8n0, p8n1, p8n2], [(p8n6, none), (p8n7, none)], false, (.seq (.reg [⟨(some p8n6), none, (.mv (.c (.int .u64 (.ofNat 0))))⟩, ⟨(some p8n7), none, (.mv (.c .nili))⟩]) (.seq (.seq (.reg [⟨(some p8n18), none, (.mv (.t p8n0))⟩, ⟨(some p8n19), none, (.bin .eql (.t p8n18) (.c (.str [])))⟩]) (.cond (.t p8n19) (.seq (.reg [⟨(some p8n20), none, (.mem (.mki 78) [(.c (.int .i64 (.ofNat 2)))])⟩, ⟨(some p8n6), none, (.mv (.c (.int .u64 (.ofNat 0))))⟩, ⟨(some p8n7), none, (.mv (.t p8n20))⟩]) .ret) .skip)) (.seq (.reg [⟨(some p8n21), none, (.mv (.t p8n1))⟩, ⟨(some p8n22), none, (.bin .eql (.t p8n21) (.c (.int .i64 (.ofNat 0))))⟩, ⟨(some p8n8), none, (.mv (.t p8n22))⟩]) (.seq (.reg [⟨(some p8n23), none, (.mv (.t p8n0))⟩, ⟨(some p8n9), none, (.mv (.t p8n23))⟩]) (.seq (.block 0 (.seq (.reg [⟨(some p8n26), none, (.mv (.t p8n1))⟩, ⟨(some p8n27), none, (.bin .leq (.c (.int .i64 (.ofNat 2))) (.t p8n26))⟩, ⟨(some p8n28), none, (.mv (.t p8n27))⟩, ⟨(some p8n29), (some (p8n28, true)), (.mv (.t p8n1))⟩, ⟨(some p8n30), (some (p8n28, true)), (.bin .leq (.t p8n29) (.c (.int .i64 (.ofNat 36))))⟩, ⟨(some p8n31), none, (.pick (.t p8n28) (.t p8n30) (.c (.bool false)))⟩, ⟨(some p8n25), none, (.mv (.t p8n31))⟩]) (.cond (.t p8n25) .skip (.seq (.reg [⟨(some p8n33), none, (.mv (.t p8n1))⟩, ⟨(some p8n34), none, (.bin .eql (.t p8n33) (.c (.int .i64 (.ofNat 0))))⟩, ⟨(some p8n32), none, (.mv (.t p8n34))⟩]) (.cond (.t p8n32) (.seq (.reg [⟨(some p8n1), none, (.mv (.c (.int .i64 (.ofNat 10))))⟩]) (.seq (.reg [⟨(some p8n35), none, (.mv (.t p8n0))⟩, ⟨(some p8n36), none, (.idxS (.t p8n35) (.c (.int .i64 (.ofNat 0))))⟩, ⟨(some p8n37), none, (.bin .eql (.t p8n36) (.c (.int .u8 (.ofNat 48))))⟩]) (.cond (.t p8n37) (.block 1 (.seq (.reg [⟨(some p8n41), none, (.mv (.t p8n0))⟩, ⟨(some p8n42), none, (.len true (.t p8n41))⟩, ⟨(some p8n43), none, (.bin .geq (.t p8n42) (.c (.int .i64 (.ofNat 3))))⟩, ⟨(some p8n44), none, (.mv (.t p8n43))⟩, ⟨(some p8n45), (some (p8n44, true)), (.mv (.t p8n0))⟩, ⟨(some p8n46), (some (p8n44, true)), (.idxS (.t p8n45) (.c (.int .i64 (.ofNat 1))))⟩, ⟨(some p8n47), (some (p8n44, true)), (.call 320 [(.t p8n46)])⟩, ⟨(some p8n48), (some (p8n44, true)), (.bin .eql (.t p8n47) (.c (.int .u8 (.ofNat 98))))⟩, ⟨(some p8n49), none, (.pick (.t p8n44) (.t p8n48) (.c (.bool false)))⟩, ⟨(some p8n40), none, (.mv (.t p8n49))⟩]) (.cond (.t p8n40) (.seq (.reg [⟨(some p8n1), none, (.mv (.c (.int .i64 (.ofNat 2))))⟩]) (.reg [⟨(some p8n50), none, (.mv (.t p8n0))⟩, ⟨(some p8n51), none, (.slS (.t p8n50) (some (.c (.int .i64 (.ofNat 2)))) none)⟩, ⟨(some p8n0), none, (.mv (.t p8n51))⟩])) (.seq (.reg [⟨(some p8n53), none, (.mv (.t p8n0))⟩, ⟨(some p8n54), none, (.len true (.t p8n53))⟩, ⟨(some p8n55), none, (.bin .geq (.t p8n54) (.c (.int .i64 (.ofNat 3))))⟩, ⟨(some p8n56), none, (.mv (.t p8n55))⟩, ⟨(some p8n57), (some (p8n56, true)), (.mv (.t p8n0))⟩, ⟨(some p8n58), (some (p8n56, true)), (.idxS (.t p8n57) (.c (.int .i64 (.ofNat 1))))⟩, ⟨(some p8n59), (some (p8n56, true)), (.call 320 [(.t p8n58)])⟩, ⟨(some p8n60), (some (p8n56, true)), (.bin .eql (.t p8n59) (.c (.int .u8 (.ofNat 111))))⟩, ⟨(some p8n61), none, (.pick (.t p8n56) (.t p8n60) (.c (.bool false)))⟩, ⟨(some p8n52), none, (.mv (.t p8n61))⟩]) (.cond (.t p8n52) (.seq (.reg [⟨(some p8n1), none, (.mv (.c (.int .i64 (.ofNat 8))))⟩]) (.reg [⟨(some p8n62), none, (.mv (.t p8n0))⟩, ⟨(some p8n63), none, (.slS (.t p8n62) (some (.c (.int .i64 (.ofNat 2)))) none)⟩, ⟨(some p8n0), none, (.mv (.t p8n63))⟩])) (.seq (.reg [⟨(some p8n65), none, (.mv (.t p8n0))⟩, ⟨(some p8n66), none, (.len true (.t p8n65))⟩, ⟨(some p8n67), none, (.bin .geq (.t p8n66) (.c (.int .i64 (.ofNat 3))))⟩, ⟨(some p8n68), none, (.mv (.t p8n67))⟩, ⟨(some p8n69), (some (p8n68, true)), (.mv (.t p8n0))⟩, ⟨(some p8n70), (some (p8n68, true)), (.idxS (.t p8n69) (.c (.int .i64 (.ofNat 1))))⟩, ⟨(some p8n71), (some (p8n68, true)), (.call 320 [(.t p8n70)])⟩, ⟨(some p8n72), (some (p8n68, true)), (.bin .eql (.t p8n71) (.c (.int .u8 (.ofNat 120))))⟩, ⟨(some p8n73), none, (.pick (.t p8n68) (.t p8n72) (.c (.bool false)))⟩, ⟨(some p8n64), none, (.mv (.t p8n73))⟩]) (.cond (.t p8n64) (.seq (.reg [⟨(some p8n1), none, (.mv (.c (.int .i64 (.ofNat 16))))⟩]) (.reg [⟨(some p8n74), none, (.mv (.t p8n0))⟩, ⟨(some p8n75), none, (.slS (.t p8n74) (some (.c (.int .i64 (.ofNat 2)))) none)⟩, ⟨(some p8n0), none, (.mv (.t p8n75))⟩])) (.seq (.reg [⟨(some p8n1), none, (.mv (.c (.int .i64 (.ofNat 8))))⟩]) (.reg [⟨(some p8n38), none, (.mv (.t p8n0))⟩, ⟨(some p8n39), none, (.slS (.t p8n38) (some (.c (.int .i64 (.ofNat 1)))) none)⟩, ⟨(some p8n0), none, (.mv (.t p8n39))⟩]))))))))) .skip))) (.seq (.reg [⟨(some p8n24), none, (.mem (.mki 78) [(.c (.int .i64 (.ofNat 3)))])⟩, ⟨(some p8n6), none, (.mv (.c (.int .u64 (.ofNat 0))))⟩, ⟨(some p8n7), none, (.mv (.t p8n24))⟩]) .ret)))))) (.seq (.seq (.reg [⟨(some p8n76), none, (.mv (.t p8n2))⟩, ⟨(some p8n77), none, (.bin .eql (.t p8n76) (.c (.int .i64 (.ofNat 0))))⟩]) (.cond (.t p8n77) (.reg [⟨(some p8n2), none, (.mv (.c (.int .i64 (.ofNat 64))))⟩]) (.seq (.reg [⟨(some p8n78), none, (.mv (.t p8n2))⟩, ⟨(some p8n79), none, (.bin .lss (.t p8n78) (.c (.int .i64 (.ofNat 0))))⟩, ⟨(some p8n80), none, (.mv (.t p8n79))⟩, ⟨(some p8n81), (some (p8n80, false)), (.mv (.t p8n2))⟩, ⟨(some p8n82), (some (p8n80, false)), (.bin .gtr (.t p8n81) (.c (.int .i64 (.ofNat 64))))⟩, ⟨(some p8n83), none, (.pick (.t p8n80) (.c (.bool true)) (.t p8n82))⟩]) (.cond (.t p8n83) (.seq (.reg [⟨(some p8n84), none, (.mem (.mki 78) [(.c (.int .i64 (.ofNat 4)))])⟩, ⟨(some p8n6), none, (.mv (.c (.int .u64 (.ofNat 0))))⟩, ⟨(some p8n7), none, (.mv (.t p8n84))⟩]) .ret) .skip)))) (.seq (.reg [⟨(some p8n10), none, (.mv (.c (.int .u64 (.ofNat 0))))⟩]) (.seq (.seq (.reg [⟨(some p8n85), none, (.mv (.t p8n1))⟩]) (.block 2 (.seq (.reg [⟨(some p8n91), none, (.bin .eql (.t p8n85) (.c (.int .i64 (.ofNat 10))))⟩, ⟨(some p8n90), none, (.mv (.t p8n91))⟩]) (.cond (.t p8n90) (.reg [⟨(some p8n10), none, (.mv (.c (.int .u64 (.ofNat 1844674407370955162))))⟩]) (.seq (.reg [⟨(some p8n93), none, (.bin .eql (.t p8n85) (.c (.int .i64 (.ofNat 16))))⟩, ⟨(some p8n92), none, (.mv (.t p8n93))⟩]) (.cond (.t p8n92) (.reg [⟨(some p8n10), none, (.mv (.c (.int .u64 (.ofNat 1152921504606846976))))⟩]) (.reg [⟨(some p8n86), none, (.mv (.t p8n1))⟩, ⟨(some p8n87), none, (.cv (.int .u64) (.t p8n86))⟩, ⟨(some p8n88), none, (.bin .quo (.c (.int .u64 (.ofNat 18446744073709551615))) (.t p8n87))⟩, ⟨(some p8n89), none, (.bin .add (.t p8n88) (.c (.int .u64 (.ofNat 1))))⟩, ⟨(some p8n10), none, (.mv (.t p8n89))⟩]))))))) (.seq (.reg [⟨(some p8n94), none, (.mv (.t p8n2))⟩, ⟨(some p8n95), none, (.cv (.int .u64) (.t p8n94))⟩, ⟨(some p8n96), none, (.bin .shl (.c (.int .u64 (.ofNat 1))) (.t p8n95))⟩, ⟨(some p8n97), none, (.bin .sub (.t p8n96) (.c (.int .u64 (.ofNat 1))))⟩, ⟨(some p8n11), none, (.mv (.t p8n97))⟩]) (.seq (.reg [⟨(some p8n12), none, (.mv (.c (.bool false)))⟩]) (.seq (.reg [⟨(some p8n13), none, (.mv (.c (.int .u64 (.ofNat 0))))⟩]) (.seq (.seq (.reg [⟨(some p8n98), none, (.mv (.t p8n0))⟩, ⟨(some p8n99), none, (.mem .s2b [(.t p8n98)])⟩, ⟨(some p8n100), none, (.len false (.t p8n99))⟩, ⟨(some p8n101), none, (.mv (.c (.int .i64 (.ofNat 0))))⟩]) (.block 3 (.loop (.seq (.reg [⟨(some p8n102), none, (.bin .lss (.t p8n101) (.t p8n100))⟩]) (.seq (.cond (.t p8n102) .skip (.exit 3)) (.seq (.block 4 (.seq (.reg [⟨(some p8n103), none, (.iaddr 1 (.t p8n99) (.t p8n101))⟩, ⟨(some p8n104), none, (.ld1 (.t p8n103))⟩, ⟨(some p8n15), none, (.mv (.t p8n104))⟩]) (.seq (.reg [⟨(some p8n16), none, (.mv (.c (.int .u8 (.ofNat 0))))⟩]) (.seq (.block 5 (.seq (.reg [⟨(some p8n107), none, (.mv (.t p8n15))⟩, ⟨(some p8n108), none, (.bin .eql (.t p8n107) (.c (.int .u8 (.ofNat 95))))⟩, ⟨(some p8n109), none, (.mv (.t p8n108))⟩, ⟨(some p8n110), (some (p8n109, true)), (.mv (.t p8n8))⟩, ⟨(some p8n111), none, (.pick (.t p8n109) (.t p8n110) (.c (.bool false)))⟩, ⟨(some p8n106), none, (.mv (.t p8n111))⟩]) (.cond (.t p8n106) (.seq (.reg [⟨(some p8n12), none, (.mv (.c (.bool true)))⟩]) (.exit 4)) (.seq (.reg [⟨(some p8n113), none, (.mv (.t p8n15))⟩, ⟨(some p8n114), none, (.bin .leq (.c (.int .u8 (.ofNat 48))) (.t p8n113))⟩, ⟨(some p8n115), none, (.mv (.t p8n114))⟩, ⟨(some p8n116), (some (p8n115, true)), (.mv (.t p8n15))⟩, ⟨(some p8n117), (some (p8n115, true)), (.bin .leq (.t p8n116) (.c (.int .u8 (.ofNat 57))))⟩, ⟨(some p8n118), none, (.pick (.t p8n115) (.t p8n117) (.c (.bool false)))⟩, ⟨(some p8n112), none, (.mv (.t p8n118))⟩]) (.cond (.t p8n112) (.reg [⟨(some p8n119), none, (.mv (.t p8n15))⟩, ⟨(some p8n120), none, (.bin .sub (.t p8n119) (.c (.int .u8 (.ofNat 48))))⟩, ⟨(some p8n16), none, (.mv (.t p8n120))⟩]) (.seq (.reg [⟨(some p8n122), none, (.mv (.t p8n15))⟩, ⟨(some p8n123), none, (.call 320 [(.t p8n122)])⟩, ⟨(some p8n124), none, (.bin .leq (.c (.int .u8 (.ofNat 97))) (.t p8n123))⟩, ⟨(some p8n125), none, (.mv (.t p8n124))⟩, ⟨(some p8n126), (some (p8n125, true)), (.mv (.t p8n15))⟩, ⟨(some p8n127), (some (p8n125, true)), (.call 320 [(.t p8n126)])⟩, ⟨(some p8n128), (some (p8n125, true)), (.bin .leq (.t p8n127) (.c (.int .u8 (.ofNat 122))))⟩, ⟨(some p8n129), none, (.pick (.t p8n125) (.t p8n128) (.c (.bool false)))⟩, ⟨(some p8n121), none, (.mv (.t p8n129))⟩]) (.cond (.t p8n121) (.reg [⟨(some p8n130), none, (.mv (.t p8n15))⟩, ⟨(some p8n131), none, (.call 320 [(.t p8n130)])⟩, ⟨(some p8n132), none, (.bin .sub (.t p8n131) (.c (.int .u8 (.ofNat 97))))⟩, ⟨(some p8n133), none, (.bin .add (.t p8n132) (.c (.int .u8 (.ofNat 10))))⟩, ⟨(some p8n16), none, (.mv (.t p8n133))⟩]) (.seq (.reg [⟨(some p8n105), none, (.mem (.mki 78) [(.c (.int .i64 (.ofNat 2)))])⟩, ⟨(some p8n6), none, (.mv (.c (.int .u64 (.ofNat 0))))⟩, ⟨(some p8n7), none, (.mv (.t p8n105))⟩]) .ret)))))))) (.seq (.seq (.reg [⟨(some p8n134), none, (.mv (.t p8n16))⟩, ⟨(some p8n135), none, (.mv (.t p8n1))⟩, ⟨(some p8n136), none, (.cv (.int .u8) (.t p8n135))⟩, ⟨(some p8n137), none, (.bin .geq (.t p8n134) (.t p8n136))⟩]) (.cond (.t p8n137) (.seq (.reg [⟨(some p8n138), none, (.mem (.mki 78) [(.c (.int .i64 (.ofNat 2)))])⟩, ⟨(some p8n6), none, (.mv (.c (.int .u64 (.ofNat 0))))⟩, ⟨(some p8n7), none, (.mv (.t p8n138))⟩]) .ret) .skip)) (.seq (.seq (.reg [⟨(some p8n139), none, (.mv (.t p8n13))⟩, ⟨(some p8n140), none, (.mv (.t p8n10))⟩, ⟨(some p8n141), none, (.bin .geq (.t p8n139) (.t p8n140))⟩]) (.cond (.t p8n141) (.seq (.reg [⟨(some p8n142), none, (.mv (.t p8n11))⟩, ⟨(some p8n143), none, (.mem (.mki 78) [(.c (.int .i64 (.ofNat 1)))])⟩, ⟨(some p8n6), none, (.mv (.t p8n142))⟩, ⟨(some p8n7), none, (.mv (.t p8n143))⟩]) .ret) .skip)) (.seq (.reg [⟨(some p8n144), none, (.mv (.t p8n13))⟩, ⟨(some p8n145), none, (.mv (.t p8n1))⟩, ⟨(some p8n146), none, (.cv (.int .u64) (.t p8n145))⟩, ⟨(some p8n147), none, (.bin .mul (.t p8n144) (.t p8n146))⟩, ⟨(some p8n13), none, (.mv (.t p8n147))⟩]) (.seq (.reg [⟨(some p8n148), none, (.mv (.t p8n13))⟩, ⟨(some p8n149), none, (.mv (.t p8n16))⟩, ⟨(some p8n150), none, (.cv (.int .u64) (.t p8n149))⟩, ⟨(some p8n151), none, (.bin .add (.t p8n148) (.t p8n150))⟩, ⟨(some p8n17), none, (.mv (.t p8n151))⟩]) (.seq (.seq (.reg [⟨(some p8n152), none, (.mv (.t p8n17))⟩, ⟨(some p8n153), none, (.mv (.t p8n13))⟩, ⟨(some p8n154), none, (.bin .lss (.t p8n152) (.t p8n153))⟩, ⟨(some p8n155), none, (.mv (.t p8n154))⟩, ⟨(some p8n156), (some (p8n155, false)), (.mv (.t p8n17))⟩, ⟨(some p8n157), (some (p8n155, false)), (.mv (.t p8n11))⟩, ⟨(some p8n158), (some (p8n155, false)), (.bin .gtr (.t p8n156) (.t p8n157))⟩, ⟨(some p8n159), none, (.pick (.t p8n155) (.c (.bool true)) (.t p8n158))⟩]) (.cond (.t p8n159) (.seq (.reg [⟨(some p8n160), none, (.mv (.t p8n11))⟩, ⟨(some p8n161), none, (.mem (.mki 78) [(.c (.int .i64 (.ofNat 1)))])⟩, ⟨(some p8n6), none, (.mv (.t p8n160))⟩, ⟨(some p8n7), none, (.mv (.t p8n161))⟩]) .ret) .skip)) (.reg [⟨(some p8n162), none, (.mv (.t p8n17))⟩, ⟨(some p8n13), none, (.mv (.t p8n162))⟩])))))))))) (.reg [⟨(some p8n163), none, (.bin .add (.t p8n101) (.c (.int .i64 (.ofNat 1))))⟩, ⟨(some p8n101), none, (.mv (.t p8n163))⟩]))))))) (.seq (.seq (.reg [⟨(some p8n164), none, (.mv (.t p8n12))⟩, ⟨(some p8n165), none, (.mv (.t p8n164))⟩, ⟨(some p8n166), (some (p8n165, true)), (.mv (.t p8n9))⟩, ⟨(some p8n167), (some (p8n165, true)), (.call 321 [(.t p8n166)])⟩, ⟨(some p8n168), (some (p8n165, true)), (.un .not (.t p8n167))⟩, ⟨(some p8n169), none, (.pick (.t p8n165) (.t p8n168) (.c (.bool false)))⟩]) (.cond (.t p8n169) (.seq (.reg [⟨(some p8n170), none, (.mem (.mki 78) [(.c (.int .i64 (.ofNat 2)))])⟩, ⟨(some p8n6), none, (.mv (.c (.int .u64 (.ofNat 0))))⟩, ⟨(some p8n7), none, (.mv (.t p8n170))⟩]) .ret) .skip)) (.seq (.reg [⟨(some p8n171), none, (.mv (.t p8n13))⟩, ⟨(some p8n6), none, (.mv (.t p8n171))⟩, ⟨(some p8n7), none, (.mv (.c .nili))⟩]) .ret))))))))))))))⟩
noncomputable def a320 : AFunc :=
  ⟨3, [p3n0], [(p3n2, none)], false, (.seq (.reg [⟨(some p3n2), none, (.mv (.c (.int .u8 (.ofNat 0))))⟩]) (.seq (.reg [⟨(some p3n3), none, (.mv (.t p3n0))⟩, ⟨(some p3n4), none, (.bin .or (.t p3n3) (.c (.int .u8 (.ofNat 32))))⟩, ⟨(some p3n2), none, (.mv (.t p3n4))⟩]) .ret))⟩
noncomputable def a321 : AFunc :=
  ⟨7, [p7n0], [(p7n2, none)], false, (.seq (.reg [⟨(some p7n2), none, (.mv (.c (.bool false)))⟩]) (.seq (.reg [⟨(some p7n3), none, (.mv (.c (.int .i32 (.ofNat 94))))⟩]) (.seq (.reg [⟨(some p7n4), none, (.mv (.c (.int .i64 (.ofNat 0))))⟩]) (.seq (.seq (.reg [⟨(some p7n6), none, (.mv (.t p7n0))⟩, ⟨(some p7n7), none, (.len true (.t p7n6))⟩, ⟨(some p7n8), none, (.bin .geq (.t p7n7) (.c (.int .i64 (.ofNat 1))))⟩, ⟨(some p7n9), none, (.mv (.t p7n8))⟩, ⟨(some p7n10), (some (p7n9, true)), (.mv (.t p7n0))⟩, ⟨(some p7n11), (some (p7n9, true)), (.idxS (.t p7n10) (.c (.int .i64 (.ofNat 0))))⟩, ⟨(some p7n12), (some (p7n9, true)), (.bin .eql (.t p7n11) (.c (.int .u8 (.ofNat 45))))⟩, ⟨(some p7n13), (some (p7n9, true)), (.mv (.t p7n12))⟩, ⟨(some p7n14), (some (p7n13, false)), (.mv (.t p7n0))⟩, ⟨(some p7n15), (some (p7n13, false)), (.idxS (.t p7n14) (.c (.int .i64 (.ofNat 0))))⟩, ⟨(some p7n16), (some (p7n13, false)), (.bin .eql (.t p7n15) (.c (.int .u8 (.ofNat 43))))⟩, ⟨(some p7n17), (some (p7n9, true)), (.pick (.t p7n13) (.c (.bool true)) (.t p7n16))⟩, ⟨(some p7n18), none, (.pick (.t p7n9) (.t p7n17) (.c (.bool false)))⟩]) (.cond (.t p7n18) (.reg [⟨(some p7n19), none, (.mv (.t p7n0))⟩, ⟨(some p7n20), none, (.slS (.t p7n19) (some (.c (.int .i64 (.ofNat 1)))) none)⟩, ⟨(some p7n0), none, (.mv (.t p7n20))⟩]) .skip)) (.seq (.reg [⟨(some p7n5), none, (.mv (.c (.bool false)))⟩]) (.seq (.seq (.reg [⟨(some p7n21), none, (.mv (.t p7n0))⟩, ⟨(some p7n22), none, (.len true (.t p7n21))⟩, ⟨(some p7n23), none, (.bin .geq (.t p7n22) (.c (.int .i64 (.ofNat 2))))⟩, ⟨(some p7n24), none, (.mv (.t p7n23))⟩, ⟨(some p7n25), (some (p7n24, true)), (.mv (.t p7n0))⟩, ⟨(some p7n26), (some (p7n24, true)), (.idxS (.t p7n25) (.c (.int .i64 (.ofNat 0))))⟩, ⟨(some p7n27), (some (p7n24, true)), (.bin .eql (.t p7n26) (.c (.int .u8 (.ofNat 48))))⟩, ⟨(some p7n28), none, (.pick (.t p7n24) (.t p7n27) (.c (.bool false)))⟩, ⟨(some p7n29), none, (.mv (.t p7n28))⟩, ⟨(some p7n30), (some (p7n29, true)), (.mv (.t p7n0))⟩, ⟨(some p7n31), (some (p7n29, true)), (.idxS (.t p7n30) (.c (.int .i64 (.ofNat 1))))⟩, ⟨(some p7n32), (some (p7n29, true)), (.call 320 [(.t p7n31)])⟩, ⟨(some p7n33), (some (p7n29, true)), (.bin .eql (.t p7n32) (.c (.int .u8 (.ofNat 98))))⟩, ⟨(some p7n34), (some (p7n29, true)), (.mv (.t p7n33))⟩, ⟨(some p7n35), (some (p7n34, false)), (.mv (.t p7n0))⟩, ⟨(some p7n36), (some (p7n34, false)), (.idxS (.t p7n35) (.c (.int .i64 (.ofNat 1))))⟩, ⟨(some p7n37), (some (p7n34, false)), (.call 320 [(.t p7n36)])⟩, ⟨(some p7n38), (some (p7n34, false)), (.bin .eql (.t p7n37) (.c (.int .u8 (.ofNat 111))))⟩, ⟨(some p7n39), (some (p7n29, true)), (.pick (.t p7n34) (.c (.bool true)) (.t p7n38))⟩, ⟨(some p7n40), (some (p7n29, true)), (.mv (.t p7n39))⟩, ⟨(some p7n41), (some (p7n40, false)), (.mv (.t p7n0))⟩, ⟨(some p7n42), (some (p7n40, false)), (.idxS (.t p7n41) (.c (.int .i64 (.ofNat 1))))⟩, ⟨(some p7n43), (some (p7n40, false)), (.call 320 [(.t p7n42)])⟩, ⟨(some p7n44), (some (p7n40, false)), (.bin .eql (.t p7n43) (.c (.int .u8 (.ofNat 120))))⟩, ⟨(some p7n45), (some (p7n29, true)), (.pick (.t p7n40) (.c (.bool true)) (.t p7n44))⟩, ⟨(some p7n46), none, (.pick (.t p7n29) (.t p7n45) (.c (.bool false)))⟩]) (.cond (.t p7n46) (.seq (.reg [⟨(some p7n4), none, (.mv (.c (.int .i64 (.ofNat 2))))⟩]) (.seq (.reg [⟨(some p7n3), none, (.mv (.c (.int .i32 (.ofNat 48))))⟩]) (.reg [⟨(some p7n47), none, (.mv (.t p7n0))⟩, ⟨(some p7n48), none, (.idxS (.t p7n47) (.c (.int .i64 (.ofNat 1))))⟩, ⟨(some p7n49), none, (.call 320 [(.t p7n48)])⟩, ⟨(some p7n50), none, (.bin .eql (.t p7n49) (.c (.int .u8 (.ofNat 120))))⟩, ⟨(some p7n5), none, (.mv (.t p7n50))⟩]))) .skip)) (.seq (.block 0 (.loop (.seq (.seq (.reg [⟨(some p7n51), none, (.mv (.t p7n4))⟩, ⟨(some p7n52), none, (.mv (.t p7n0))⟩, ⟨(some p7n53), none, (.len true (.t p7n52))⟩, ⟨(some p7n54), none, (.bin .lss (.t p7n51) (.t p7n53))⟩]) (.cond (.t p7n54) .skip (.exit 0))) (.seq (.block 1 (.seq (.seq (.reg [⟨(some p7n57), none, (.mv (.t p7n0))⟩, ⟨(some p7n58), none, (.mv (.t p7n4))⟩, ⟨(some p7n59), none, (.idxS (.t p7n57) (.t p7n58))⟩, ⟨(some p7n60), none, (.bin .leq (.c (.int .u8 (.ofNat 48))) (.t p7n59))⟩, ⟨(some p7n61), none, (.mv (.t p7n60))⟩, ⟨(some p7n62), (some (p7n61, true)), (.mv (.t p7n0))⟩, ⟨(some p7n63), (some (p7n61, true)), (.mv (.t p7n4))⟩, ⟨(some p7n64), (some (p7n61, true)), (.idxS (.t p7n62) (.t p7n63))⟩, ⟨(some p7n65), (some (p7n61, true)), (.bin .leq (.t p7n64) (.c (.int .u8 (.ofNat 57))))⟩, ⟨(some p7n66), none, (.pick (.t p7n61) (.t p7n65) (.c (.bool false)))⟩, ⟨(some p7n67), none, (.mv (.t p7n66))⟩, ⟨(some p7n68), (some (p7n67, false)), (.mv (.t p7n5))⟩, ⟨(some p7n69), (some (p7n67, false)), (.mv (.t p7n68))⟩, ⟨(some p7n70), (some (p7n69, true)), (.mv (.t p7n0))⟩, ⟨(some p7n71), (some (p7n69, true)), (.mv (.t p7n4))⟩, ⟨(some p7n72), (some (p7n69, true)), (.idxS (.t p7n70) (.t p7n71))⟩, ⟨(some p7n73), (some (p7n69, true)), (.call 320 [(.t p7n72)])⟩, ⟨(some p7n74), (some (p7n69, true)), (.bin .leq (.c (.int .u8 (.ofNat 97))) (.t p7n73))⟩, ⟨(some p7n75), (some (p7n67, false)), (.pick (.t p7n69) (.t p7n74) (.c (.bool false)))⟩, ⟨(some p7n76), (some (p7n67, false)), (.mv (.t p7n75))⟩, ⟨(some p7n77), (some (p7n76, true)), (.mv (.t p7n0))⟩, ⟨(some p7n78), (some (p7n76, true)), (.mv (.t p7n4))⟩, ⟨(some p7n79), (some (p7n76, true)), (.idxS (.t p7n77) (.t p7n78))⟩, ⟨(some p7n80), (some (p7n76, true)), (.call 320 [(.t p7n79)])⟩, ⟨(some p7n81), (some (p7n76, true)), (.bin .leq (.t p7n80) (.c (.int .u8 (.ofNat 102))))⟩, ⟨(some p7n82), (some (p7n67, false)), (.pick (.t p7n76) (.t p7n81) (.c (.bool false)))⟩, ⟨(some p7n83), none, (.pick (.t p7n67) (.c (.bool true)) (.t p7n82))⟩]) (.cond (.t p7n83) (.seq (.reg [⟨(some p7n3), none, (.mv (.c (.int .i32 (.ofNat 48))))⟩]) (.exit 1)) .skip)) (.seq (.seq (.reg [⟨(some p7n84), none, (.mv (.t p7n0))⟩, ⟨(some p7n85), none, (.mv (.t p7n4))⟩, ⟨(some p7n86), none, (.idxS (.t p7n84) (.t p7n85))⟩, ⟨(some p7n87), none, (.bin .eql (.t p7n86) (.c (.int .u8 (.ofNat 95))))⟩]) (.cond (.t p7n87) (.seq (.seq (.reg [⟨(some p7n88), none, (.mv (.t p7n3))⟩, ⟨(some p7n89), none, (.bin .neq (.t p7n88) (.c (.int .i32 (.ofNat 48))))⟩]) (.cond (.t p7n89) (.seq (.reg [⟨(some p7n2), none, (.mv (.c (.bool false)))⟩]) .ret) .skip)) (.seq (.reg [⟨(some p7n3), none, (.mv (.c (.int .i32 (.ofNat 95))))⟩]) (.exit 1))) .skip)) (.seq (.seq (.reg [⟨(some p7n90), none, (.mv (.t p7n3))⟩, ⟨(some p7n91), none, (.bin .eql (.t p7n90) (.c (.int .i32 (.ofNat 95))))⟩]) (.cond (.t p7n91) (.seq (.reg [⟨(some p7n2), none, (.mv (.c (.bool false)))⟩]) .ret) .skip)) (.reg [⟨(some p7n3), none, (.mv (.c (.int .i32 (.ofNat 33))))⟩]))))) (.reg [⟨(some p7n55), none, (.mv (.t p7n4))⟩, ⟨(some p7n56), none, (.bin .add (.t p7n55) (.c (.int .i64 (.ofNat 1))))⟩, ⟨(some p7n4), none, (.mv (.t p7n56))⟩]))))) (.seq (.reg [⟨(some p7n92), none, (.mv (.t p7n3))⟩, ⟨(some p7n93), none, (.bin .neq (.t p7n92) (.c (.int .i32 (.ofNat 95))))⟩, ⟨(some p7n2), none, (.mv (.t p7n93))⟩]) .ret))))))))⟩

end M2
end
section
namespace M2
open Go

noncomputable def tab : Tr := (.node 281 a281 (.node 84 a84 (.node 65 a65 (.node 51 a51 (.node 48 a48 (.node 38 a38 .leaf .leaf) .leaf) (.node 64 a64 (.node 60 a60 .leaf .leaf) .leaf)) (.node 78 a78 (.node 77 a77 (.node 66 a66 .leaf .leaf) .leaf) (.node 80 a80 (.node 79 a79 .leaf .leaf) .leaf))) (.node 96 a96 (.node 87 a87 (.node 86 a86 (.node 85 a85 .leaf .leaf) .leaf) (.node 95 a95 (.node 88 a88 .leaf .leaf) .leaf)) (.node 279 a279 (.node 277 a277 (.node 99 a99 .leaf .leaf) .leaf) (.node 280 a280 .leaf .leaf)))) (.node 293 a293 (.node 287 a287 (.node 284 a284 (.node 283 a283 (.node 282 a282 .leaf .leaf) .leaf) (.node 286 a286 (.node 285 a285 .leaf .leaf) .leaf)) (.node 290 a290 (.node 289 a289 (.node 288 a288 .leaf .leaf) .leaf) (.node 292 a292 (.node 291 a291 .leaf .leaf) .leaf))) (.node 304 a304 (.node 301 a301 (.node 300 a300 (.node 294 a294 .leaf .leaf) .leaf) (.node 303 a303 (.node 302 a302 .leaf .leaf) .leaf)) (.node 320 a320 (.node 309 a309 (.node 308 a308 .leaf .leaf) .leaf) (.node 321 a321 .leaf .leaf)))))

end M2
end
section
namespace M2
open Go Go.RowKit

/-! ### Functions of the library whose contracts are known -/

def primJoin : AFunc := ⟨77, [pth 3 0, pth 3 1], [(pth 3 2, none)], false, .reg [⟨some (pth 3 2), none, .mem (.prim 0) [.t (pth 3 0), .t (pth 3 1)]⟩]⟩
def primItoa : AFunc := ⟨77, [pth 3 0], [(pth 3 1, none)], false, .reg [⟨some (pth 3 1), none, .mem (.prim 1) [.t (pth 3 0)]⟩]⟩

def primFields : AFunc := ⟨77, [pth 3 0], [(pth 3 1, none)], false, .reg [⟨some (pth 3 1), none, .mem .flds [.t (pth 3 0)]⟩]⟩

def primSplit : AFunc := ⟨77, [pth 3 0, pth 3 1, pth 3 2, pth 3 3], [(pth 3 4, none)], false, .reg [⟨some (pth 3 4), none, .mem .splt [.t (pth 3 0), .t (pth 3 1), .t (pth 3 2), .t (pth 3 3)]⟩]⟩

def primJoinm : AFunc := ⟨77, [pth 3 0, pth 3 1], [(pth 3 2, none)], false, .reg [⟨some (pth 3 2), none, .mem .joinm [.t (pth 3 0), .t (pth 3 1)]⟩]⟩

theorem ev_reg (tbl : Nat → Option AFunc) (n : Nat) (l : List AO) (F : Fr) (t : T) : ev tbl (n + 1) (.reg l) F t = runOps l (callA tbl (ev tbl n)) F t := rfl
theorem runOps_one (op : AOp) (p : Bits) (call : CallF) (F : Fr) (t : T) : runOps [⟨some p, none, op⟩] call F t = (match op.run call F t with | .ok v t => .norm (F.put p v) t | .fail => .fail) := rfl

theorem prim2 {tbl : Nat → Option AFunc} {n i k : Nat} {args : List AV} {t t' : T} {r : AV} {fn : AFunc} (hfn : fn = ⟨77, [pth 3 0, pth 3 1], [(pth 3 2, none)], false, .reg [⟨some (pth 3 2), none, .mem (.prim k) [.t (pth 3 0), .t (pth 3 1)]⟩]⟩)
    (hi : tbl i = some fn) (h : callA tbl (ev tbl n) i args t = .ok r t') : ∃ x y, args = [x, y] ∧ primA k [x, y] = some r ∧ t' = t.enter.leave false r := by
  unfold callA at h
  rw [hi] at h
  subst hfn
  simp only at h
  match args, h with
  | [x, y], h =>
    refine ⟨x, y, rfl, ?_⟩
    simp only [argsIn] at h
    cases n with
    | zero => cases h
    | succ n =>
      rw [ev_reg, runOps_one] at h
      have e : AOp.run (.mem (.prim k) [.t (pth 3 0), .t (pth 3 1)]) (callA tbl (ev tbl n)) ((Fr.nil.put (pth 3 0) x).put (pth 3 1) y) t.enter = (match primA k [x, y] with | some v => .ok v t.enter | none => .fail) := by
        show memStep (.prim k) [((Fr.nil.put (pth 3 0) x).put (pth 3 1) y).get (pth 3 0), ((Fr.nil.put (pth 3 0) x).put (pth 3 1) y).get (pth 3 1)] t.enter = _
        rw [Fr.get_put, Fr.get_put, Fr.get_put, if_pos rfl, if_pos rfl, if_neg (by decide)]
        rfl
      rw [e] at h
      cases hp : primA k [x, y] with
      | none => rw [hp] at h; cases h
      | some v =>
        rw [hp] at h
        simp only [afterBody, resultsOf, resultOf, packed] at h
        rw [Fr.get_put, if_pos rfl] at h
        cases h
        exact ⟨rfl, rfl⟩
  | [], h => simp [argsIn] at h
  | [_], h => simp [argsIn] at h
  | _ :: _ :: _ :: _, h => simp [argsIn] at h

theorem prim1 {tbl : Nat → Option AFunc} {n i k : Nat} {args : List AV} {t t' : T} {r : AV} {fn : AFunc} (hfn : fn = ⟨77, [pth 3 0], [(pth 3 1, none)], false, .reg [⟨some (pth 3 1), none, .mem (.prim k) [.t (pth 3 0)]⟩]⟩)
    (hi : tbl i = some fn) (h : callA tbl (ev tbl n) i args t = .ok r t') : ∃ x, args = [x] ∧ primA k [x] = some r ∧ t' = t.enter.leave false r := by
  unfold callA at h
  rw [hi] at h
  subst hfn
  simp only at h
  match args, h with
  | [x], h =>
    refine ⟨x, rfl, ?_⟩
    simp only [argsIn] at h
    cases n with
    | zero => cases h
    | succ n =>
      rw [ev_reg, runOps_one] at h
      have e : AOp.run (.mem (.prim k) [.t (pth 3 0)]) (callA tbl (ev tbl n)) (Fr.nil.put (pth 3 0) x) t.enter = (match primA k [x] with | some v => .ok v t.enter | none => .fail) := by
        show memStep (.prim k) [(Fr.nil.put (pth 3 0) x).get (pth 3 0)] t.enter = _
        rw [Fr.get_put, if_pos rfl]
        rfl
      rw [e] at h
      cases hp : primA k [x] with
      | none => rw [hp] at h; cases h
      | some v =>
        rw [hp] at h
        simp only [afterBody, resultsOf, resultOf, packed] at h
        rw [Fr.get_put, if_pos rfl] at h
        cases h
        exact ⟨rfl, rfl⟩
  | [], h => simp [argsIn] at h
  | _ :: _ :: _, h => simp [argsIn] at h

section
variable {P : Program} {M : Maps}

/-- a world in which what was there stands -/
def G.grown (g : G) (w : World) : G := { g with w := w }
theorem le_grown {g : G} {w : World} (h : Below g.w.heap.size g.w w) : g.Le (g.grown w) where
  n := Nat.le_refl _
  ok _ h := h
  new _ h := .inl h
  ρ _ _ := rfl
  ν _ _ := rfl
  size := h.size
  lim b k hb hk := ⟨k, hk, Nat.le_refl _, fun _ _ => cell?_of_heap (h.block b hb)⟩
  oth b hb _ := ⟨rfl, h.block b hb⟩
  os := h.os
  tape := h.tape
  output := h.output
  sz b hb := csize_of_heap (h.block b hb)
theorem sr_grown {g : G} {w : World} {t : T} (h : Below g.w.heap.size g.w w) (hS : SR M g t) : SR M (g.grown w) t where
  n := hS.n
  wf := hS.wf
  okn := hS.okn
  var x o hx := by
    obtain ⟨a, b, c⟩ := hS.var x o hx
    refine ⟨a, b, c.mono (le_grown h) (h.block _ ?_)⟩
    cases c with
    | cells cs b c ty fz hh hz hl hv => exact (getElem?_some_iff.mp hh).1
    | map es b ms clock hh hl hk hv => exact (getElem?_some_iff.mp hh).1
  inj := hS.inj
  ids i en e hi := by
    obtain ⟨a, b, c, ty, fz, c1, c2, c3⟩ := hS.ids i en e hi
    have hb := h.block _ (getElem?_some_iff.mp c1).1
    exact ⟨a, b, c, ty, fz, hb.trans c1, fun off ho => by rw [← c2 off ho]; exact frozen_of_heap hb, c3⟩
  idinj := hS.idinj
  kept := hS.kept.mono (le_grown h)

theorem joinA_eq (sep : List UInt8) (l : List (List UInt8)) : joinA sep l = Lib.join l sep := by
  induction l with
  | nil => rfl
  | cons x l ih =>
    cases l with
    | nil => rw [Lib.join_one]; rfl
    | cons y l =>
      rw [Lib.join_cons]
      show x ++ (sep ++ joinA sep (y :: l)) = _
      rw [ih, Lib.join_cons]
      simp [Lib.joinTail]

theorem strsA_ok : ∀ (es : List AV) (l : List (List UInt8)), strsA es = some l → es = l.map AV.str := by
  intro es
  induction es with
  | nil => intro l h; cases h; rfl
  | cons x es ih =>
    intro l h
    cases x with
    | str s =>
      simp only [strsA] at h
      cases hs : strsA es with
      | none => rw [hs] at h; cases h
      | some r => rw [hs] at h; cases h; rw [ih r hs]; rfl
    | _ => cases h

theorem prim_join {i : Nat} (hgood : Good P (M.fm i))
    (h0 : ∀ (a : Option Addr) (c : Nat) (sep : ByteArray) (w : World), Calls P (M.fm i) #[.slice a 0 c, .string sep] w fun e w' => e = .returned (.string ⟨#[]⟩) ∧ w' = w)
    (h1 : ∀ (bk o c : Nat) (xs : List ByteArray) (sep : ByteArray) (w : World), (∀ (j : Nat) x, xs[j]? = some x → w.cell? ⟨bk, o + j, none⟩ = some (.string x)) → bk < w.heap.size → xs.length ≤ 140737488355328 → xs.length ≤ c →
      (Lib.join (xs.map (·.data.toList)) sep.data.toList).length ≤ 140737488355328 →
      Calls P (M.fm i) #[.slice (some ⟨bk, o, none⟩) xs.length c, .string sep] w fun e w' => e = .returned (.string ⟨(Lib.join (xs.map (·.data.toList)) sep.data.toList).toArray⟩) ∧ Below w.heap.size w w') : PrimAt P M i primJoin := by
  intro tbl n args t r t' hi hr
  obtain ⟨x, y, rfl, hp, rfl⟩ := prim2 rfl hi hr
  refine ⟨hgood, fun g cargs hS hsz hv => ?_⟩
  have hsz2 : cargs.size = 2 := by simpa using hsz
  have vx := hv 0 (by simp)
  have vy := hv 1 (by simp)
  obtain ⟨cx, cy, rfl⟩ : ∃ cx cy, cargs = #[cx, cy] := ⟨cargs[0], cargs[1], by
    apply Array.ext
    · simp [hsz2]
    · intro j h1 h2
      match j, h2 with
      | 0, _ => rfl
      | 1, _ => rfl⟩
  simp only [List.getElem_cons_zero, List.getElem_cons_succ] at vx vy
  have vx : VR M g x cx := vx
  have vy : VR M g y cy := vy
  have none_case : ∀ a c (sep : List UInt8), cx = .slice a 0 c → y = .str sep → r = .str [] → Calls P (M.fm i) #[cx, cy] g.w fun e w' => ∃ v g', e = .returned v ∧ g'.w = w' ∧ g.Le g' ∧ VR M g' r v ∧ SR M g' (t.enter.leave false r) := by
    intro a c sep e1 e2 e3
    subst e1 e2 e3
    cases vy
    refine (h0 a c _ g.w).mono ?_
    rintro e w' ⟨rfl, rfl⟩
    exact ⟨_, g, rfl, rfl, .refl g, .str [], hS.enter.leave _ _⟩
  unfold primA at hp
  split at hp
  · rename_i s e0 e1
    cases e1
    cases hp
    cases vx
    exact none_case _ _ _ rfl rfl rfl
  · rename_i s e0 e1
    cases e1
    cases hp
    cases vx
    exact none_case _ _ _ rfl rfl rfl
  · rename_i id e pos cap fl alt es sep e0 e1
    cases e1
    cases hl : strsA es with
    | none => rw [hl] at hp; cases hp
    | some l =>
      rw [hl] at hp
      simp only at hp
      split at hp
      · rename_i hb
        cases hp
        simp only [Bool.and_eq_true] at hb
        have b1 := Nat.eq_of_beq_eq_true hb.1.1
        have b2 := Nat.le_of_ble_eq_true hb.1.2
        have b3 := Nat.le_of_ble_eq_true hb.2
        subst b1
        have hes := strsA_ok es l hl
        cases vy
        cases vx with
        | sl id e pos cap fl alt es b o ccap vs hid hcc hb' ho hlen hv' hsz' hc hf =>
          have hlen2 : es.length = l.length := by rw [hes]; simp
          have hvs : ∀ j (hj : j < l.length), vs j = .string ⟨l[j].toArray⟩ := by
            intro j hj
            have h := hv' j (by omega)
            have e5 : es[j]'(by omega) = .str l[j] := by simp [hes]
            rw [e5] at h
            generalize vs j = vj at h
            cases h
            rfl
          have hcall := h1 b o ccap (l.map fun s => ⟨s.toArray⟩) ⟨sep.toArray⟩ g.w (by
            intro j x hx
            rw [List.getElem?_map] at hx
            rw [Option.map_eq_some_iff] at hx
            obtain ⟨s, hs, rfl⟩ := hx
            obtain ⟨hj, rfl⟩ := List.getElem?_eq_some_iff.mp hs
            have h := hc j 0 (by omega) (by omega)
            rw [Nat.mul_one, Nat.add_zero, hvs j hj] at h
            exact h) hf.1 (by simp; omega) (by simp; omega) (by
            rw [List.map_map]
            have : (l.map ((fun (x : ByteArray) => x.data.toList) ∘ fun s => (⟨s.toArray⟩ : ByteArray))) = l := by simp [Function.comp_def]
            rw [this, show (⟨sep.toArray⟩ : ByteArray).data.toList = sep by simp, ← joinA_eq]
            omega)
          rw [List.length_map, ← hlen2] at hcall
          refine hcall.mono ?_
          rintro e w' ⟨rfl, hw⟩
          refine ⟨_, g.grown w', rfl, rfl, le_grown hw, ?_, (sr_grown hw hS).enter.leave _ _⟩
          have : (l.map (fun s => (⟨s.toArray⟩ : ByteArray))).map (fun x => x.data.toList) = l := by simp [Function.comp_def]
          rw [this, show (⟨sep.toArray⟩ : ByteArray).data.toList = sep by simp, joinA_eq]
          exact .str _
      · cases hp
  · rename_i e0 e1
    cases e1
  · cases hp

theorem smallA_eq : ∀ n, n < 100 → smallA n = Lib.decDigits n := by
  intro n hn
  unfold Lib.decDigits
  by_cases h : n < 10
  · rw [dif_pos h]
    have : Nat.blt n 10 = true := Nat.ble_eq_true_of_le h
    simp [smallA, this]
  · rw [dif_neg h]
    unfold Lib.decDigits
    have h2 : n / 10 < 10 := by omega
    rw [dif_pos h2]
    have : Nat.blt n 10 = false := by
      cases hc : Nat.blt n 10 with
      | false => rfl
      | true => exact absurd (Nat.le_of_ble_eq_true hc) h
    simp [smallA, this]

theorem prim_itoa {i : Nat} (hgood : Good P (M.fm i))
    (h0 : ∀ (n : Nat) (_ : n < 100) (w : World), Calls P (M.fm i) #[.int .i64 n] w fun e w' => e = .returned (.string ⟨(Lib.decDigits n).toArray⟩) ∧ w' = w) : PrimAt P M i primItoa := by
  intro tbl n args t r t' hi hr
  obtain ⟨x, rfl, hp, rfl⟩ := prim1 rfl hi hr
  refine ⟨hgood, fun g cargs hS hsz hv => ?_⟩
  have hsz1 : cargs.size = 1 := by simpa using hsz
  have vx := hv 0 (by simp)
  obtain ⟨cx, rfl⟩ : ∃ cx, cargs = #[cx] := ⟨cargs[0], by
    apply Array.ext
    · simp [hsz1]
    · intro j h1 h2
      match j, h2 with
      | 0, _ => rfl⟩
  simp only [List.getElem_cons_zero] at vx
  have vx : VR M g x cx := vx
  unfold primA at hp
  split at hp
  · rename_i e0 e1; cases e1
  · rename_i e0 e1; cases e1
  · rename_i e0 e1; cases e1
  · rename_i k m e0 e1
    cases e1
    split at hp
    · rename_i hb
      cases hp
      simp only [Bool.and_eq_true] at hb
      have hk : k = .i64 := by simpa using hb.1
      have hm : m < 100 := Nat.le_of_ble_eq_true hb.2
      subst hk
      cases vx
      refine (h0 m hm g.w).mono ?_
      rintro e w' ⟨rfl, rfl⟩
      refine ⟨_, g, rfl, rfl, .refl g, ?_, hS.enter.leave _ _⟩
      rw [← smallA_eq m hm]
      exact .str _
    · cases hp
  · cases hp

def primTerr (t1 t2 : Nat) : AFunc := ⟨77, [pth 3 0, pth 3 1, pth 3 2, pth 3 3, pth 3 4], [(pth 3 5, none)], false, .reg [⟨some (pth 3 5), none, .mem (.terr t1 t2) [.t (pth 3 0), .t (pth 3 1), .t (pth 3 2), .t (pth 3 3), .t (pth 3 4)]⟩]⟩

theorem prim5 {tbl : Nat → Option AFunc} {n i t1 t2 : Nat} {args : List AV} {t t' : T} {r : AV} (hi : tbl i = some (primTerr t1 t2)) (h : callA tbl (ev tbl n) i args t = .ok r t') :
    args.length = 5 ∧ memTerr t1 t2 args t.enter = .ok r t.enter ∧ t' = t.enter.leave false r := by
  unfold callA at h
  rw [hi] at h
  simp only [primTerr] at h
  match args, h with
  | [x0, x1, x2, x3, x4], h =>
    refine ⟨rfl, ?_⟩
    simp only [argsIn] at h
    cases n with
    | zero => cases h
    | succ n =>
      rw [ev_reg, runOps_one] at h
      have e : AOp.run (.mem (.terr t1 t2) [.t (pth 3 0), .t (pth 3 1), .t (pth 3 2), .t (pth 3 3), .t (pth 3 4)]) (callA tbl (ev tbl n)) (((((Fr.nil.put (pth 3 0) x0).put (pth 3 1) x1).put (pth 3 2) x2).put (pth 3 3) x3).put (pth 3 4) x4) t.enter = memTerr t1 t2 [x0, x1, x2, x3, x4] t.enter := by
        generalize hF : ((((Fr.nil.put (pth 3 0) x0).put (pth 3 1) x1).put (pth 3 2) x2).put (pth 3 3) x3).put (pth 3 4) x4 = F
        have g0 : F.get (pth 3 0) = x0 := by rw [← hF]; rfl
        have g1 : F.get (pth 3 1) = x1 := by rw [← hF]; rfl
        have g2 : F.get (pth 3 2) = x2 := by rw [← hF]; rfl
        have g3 : F.get (pth 3 3) = x3 := by rw [← hF]; rfl
        have g4 : F.get (pth 3 4) = x4 := by rw [← hF]; rfl
        show memStep (.terr t1 t2) [F.get (pth 3 0), F.get (pth 3 1), F.get (pth 3 2), F.get (pth 3 3), F.get (pth 3 4)] t.enter = _
        rw [g0, g1, g2, g3, g4]
        rfl
      rw [e] at h
      cases hp : memTerr t1 t2 [x0, x1, x2, x3, x4] t.enter with
      | fail => rw [hp] at h; cases h
      | ok v u =>
        rw [hp] at h
        have hu : u = t.enter := by
          unfold memTerr at hp
          split at hp
          · split at hp
            · cases hp; rfl
            · cases hp
          · cases hp
        subst hu
        simp only [afterBody, resultsOf, resultOf, packed] at h
        rw [Fr.get_put, if_pos rfl] at h
        cases h
        exact ⟨rfl, rfl⟩
  | [], h => simp [argsIn] at h
  | [_], h => simp [argsIn] at h
  | [_, _], h => simp [argsIn] at h
  | [_, _, _], h => simp [argsIn] at h
  | [_, _, _, _], h => simp [argsIn] at h
  | _ :: _ :: _ :: _ :: _ :: _ :: _, h => simp [argsIn] at h

theorem prim_terr {i : Nat} (hgood : Good P (M.fm i)) {t1 t2 gs gr : Nat} {es er : Value} (hs : M.kb gs 0 = some es) (hr : M.kb gr 0 = some er)
    (h2 : ∀ (fn s : ByteArray) (base bits : Int) (w : World), s.size ≤ 281474976710656 → w.cell? ⟨gs, 0, none⟩ = some es →
      Calls P (M.fm i) #[.string fn, .string s, .int .i64 base, .int .i64 bits, .iface t1 (.int .i64 2)] w fun e w' => ∃ N, e = .returned (.iface t2 (.pointer (some ⟨N, 0, none⟩))) ∧ Below w.heap.size w w')
    (h1 : ∀ (fn s : ByteArray) (base bits : Int) (w : World), s.size ≤ 281474976710656 → w.cell? ⟨gr, 0, none⟩ = some er →
      Calls P (M.fm i) #[.string fn, .string s, .int .i64 base, .int .i64 bits, .iface t1 (.int .i64 1)] w fun e w' => ∃ N, e = .returned (.iface t2 (.pointer (some ⟨N, 0, none⟩))) ∧ Below w.heap.size w w') :
    PrimAt P M i (primTerr t1 t2) := by
  intro tbl n args t r t' hi hrun
  obtain ⟨hlen, hp, rfl⟩ := prim5 hi hrun
  refine ⟨hgood, fun g cargs hS hsz hv => ?_⟩
  unfold memTerr at hp
  split at hp
  · rename_i fn s base bits a e
    split at hp
    · rename_i hc
      simp only [Bool.and_eq_true, Bool.or_eq_true] at hc
      have ha := Nat.eq_of_beq_eq_true hc.1
      have hl := Nat.le_of_ble_eq_true hc.2.2
      cases hp
      subst ha
      have hsz5 : cargs.size = 5 := by simpa using hsz
      have v0 := hv 0 (by simp)
      have v1 := hv 1 (by simp)
      have v2 := hv 2 (by simp)
      have v3 := hv 3 (by simp)
      have v4 := hv 4 (by simp)
      obtain ⟨c0, c1, c2, c3, c4, rfl⟩ : ∃ c0 c1 c2 c3 c4, cargs = #[c0, c1, c2, c3, c4] := ⟨cargs[0], cargs[1], cargs[2], cargs[3], cargs[4], by
        apply Array.ext
        · simp [hsz5]
        · intro j h1 h2
          match j, h2 with
          | 0, _ => rfl
          | 1, _ => rfl
          | 2, _ => rfl
          | 3, _ => rfl
          | 4, _ => rfl⟩
      have v0 : VR M g (.str fn) c0 := v0
      have v1 : VR M g (.str s) c1 := v1
      have v2 : VR M g (.int .i64 base) c2 := v2
      have v3 : VR M g (.int .i64 bits) c3 := v3
      have v4 : VR M g (.ifc a (.int .i64 (Int.ofNat e))) c4 := v4
      cases v0; cases v1; cases v2; cases v3
      cases v4 with
      | ifc _ _ cv hcv =>
      cases hcv
      have fin : ∀ N w', Below g.w.heap.size g.w w' → ∃ v g', Ending.returned (.iface t2 (.pointer (some ⟨N, 0, none⟩))) = .returned v ∧ g'.w = w' ∧ g.Le g' ∧ VR M g' (.ifc t2 .und) v ∧ SR M g' (t.enter.leave false (.ifc t2 .und)) := fun N w' hw =>
        ⟨_, g.grown w', rfl, rfl, le_grown hw, .ifc _ _ _ (.und _), (sr_grown hw hS).enter.leave _ _⟩
      rcases hc.2.1 with he | he
      · obtain rfl := Nat.eq_of_beq_eq_true he
        refine (h1 _ _ base bits g.w (by simpa [ByteArray.size] using hl) (hS.kept gr 0 _ hr).2.2).mono ?_
        rintro e w' ⟨N, rfl, hw⟩
        exact fin N w' hw
      · obtain rfl := Nat.eq_of_beq_eq_true he
        refine (h2 _ _ base bits g.w (by simpa [ByteArray.size] using hl) (hS.kept gs 0 _ hs).2.2).mono ?_
        rintro e w' ⟨N, rfl, hw⟩
        exact fin N w' hw
    · cases hp
  · cases hp

theorem spA_eq (b : UInt8) : spA b = Lib.isSp b := by
  have h : ∀ n : Fin 256, spA (UInt8.ofNat n.val) = Lib.isSp (UInt8.ofNat n.val) := by decide +kernel
  have := h ⟨b.toNat, b.toNat_lt⟩
  simpa using this

theorem fldGo_eq : ∀ (s cur : List UInt8), fldGo cur s = Lib.fieldsGo cur s
  | [], cur => by cases cur <;> rfl
  | b :: l, cur => by
    unfold fldGo Lib.fieldsGo
    rw [spA_eq]
    cases Lib.isSp b with
    | true => cases cur <;> simp [fldGo_eq l []]
    | false => simp [fldGo_eq l (cur ++ [b])]

theorem primf {tbl : Nat → Option AFunc} {n i : Nat} {args : List AV} {t t' : T} {r : AV} (hi : tbl i = some primFields) (h : callA tbl (ev tbl n) i args t = .ok r t') :
    ∃ x v u, args = [x] ∧ memFlds x t.enter = .ok v u ∧ r = v ∧ t' = u.leave false v := by
  unfold callA at h
  rw [hi] at h
  simp only [primFields] at h
  match args, h with
  | [x], h =>
    simp only [argsIn] at h
    cases n with
    | zero => cases h
    | succ n =>
      rw [ev_reg, runOps_one] at h
      have e : AOp.run (.mem .flds [.t (pth 3 0)]) (callA tbl (ev tbl n)) (Fr.nil.put (pth 3 0) x) t.enter = memFlds x t.enter := by
        show memStep .flds [(Fr.nil.put (pth 3 0) x).get (pth 3 0)] t.enter = _
        rw [Fr.get_put, if_pos rfl]
        rfl
      rw [e] at h
      cases hp : memFlds x t.enter with
      | fail => rw [hp] at h; cases h
      | ok v u =>
        rw [hp] at h
        simp only [afterBody, resultsOf, resultOf, packed] at h
        rw [Fr.get_put, if_pos rfl] at h
        cases h
        exact ⟨x, r, u, rfl, hp, rfl, rfl⟩
  | [], h => simp [argsIn] at h
  | _ :: _ :: _, h => simp [argsIn] at h

theorem prim_fields {i : Nat} (hgood : Good P (M.fm i)) {gb : Nat} {e : TypeId} (hk : ∀ c : Nat, c < 256 → M.kb gb c = some (.int .u8 (if Lib.isSp (UInt8.ofNat c) then 1 else 0)))
    (h0 : ∀ (s : ByteArray) (w : World), s.size < 4294967281 → (∀ (j : Nat) b, s.data.toList[j]? = some b → b.toNat < 128) → (∀ c : Nat, c < 256 → w.cell? ⟨gb, c, none⟩ = some (.int .u8 (if Lib.isSp (UInt8.ofNat c) then 1 else 0))) →
      Calls P (M.fm i) #[.string s] w fun ex w' => ex = .returned (.slice (some ⟨w.heap.size, 0, none⟩) (Lib.fields s.data.toList).length (Lib.fields s.data.toList).length) ∧
        w' = w.alloc (.cells ((Lib.fields s.data.toList).map fun l => Value.string ⟨l.toArray⟩).toArray e)) : PrimAt P M i primFields := by
  intro tbl n args t r t' hi hr
  obtain ⟨x, v, u, rfl, hp, rfl, rfl⟩ := primf hi hr
  refine ⟨hgood, fun g cargs hS hsz hv => ?_⟩
  have hsz1 : cargs.size = 1 := by simpa using hsz
  have vx := hv 0 (by simp)
  obtain ⟨cx, rfl⟩ : ∃ cx, cargs = #[cx] := ⟨cargs[0], by
    apply Array.ext
    · simp [hsz1]
    · intro j h1 h2
      match j, h2 with
      | 0, _ => rfl⟩
  simp only [List.getElem_cons_zero] at vx
  have vx : VR M g x cx := vx
  unfold memFlds at hp
  split at hp
  · rename_i s _
    split at hp
    · rename_i hcond
      cases hp
      simp only [Bool.and_eq_true] at hcond
      obtain ⟨⟨c1, c2⟩, -⟩ := hcond
      have c2 : s.length < 1000000 := Nat.le_of_ble_eq_true c2
      cases vx
      have hE : fldGo [] s = Lib.fields s := fldGo_eq s []
      rw [hE]
      have hS1 := hS.enter
      have hcall := h0 ⟨s.toArray⟩ g.w (by simp [ByteArray.size]; omega) (fun j b hb => by
          have hm := List.mem_of_getElem? hb
          have := List.all_eq_true.mp c1 b (by simpa using hm)
          exact Nat.le_of_ble_eq_true this)
        (fun c hc => (hS.kept gb c _ (hk c hc)).2.2)
      refine hcall.mono ?_
      rintro ex w' ⟨rfl, rfl⟩
      simp only []
      generalize hL : Lib.fields s = L
      have hrow : EsR M g 1 (L.map AV.str) (L.map fun l => Value.string ⟨l.toArray⟩).toArray := by
        refine ⟨by simp, fun i => .string ⟨(L.getD i []).toArray⟩, fun i hi => ?_, fun i hi => rfl, fun i j hi hj => ?_⟩
        · have hi' : i < L.length := by simpa using hi
          have e0 : (L.map AV.str)[i] = .str (L.getD i []) := by simp [List.getD, hi']
          rw [e0]
          exact .str _
        · have hi' : i < L.length := by simpa using hi
          have : j = 0 := by omega
          subst this
          simp [Value.cells, List.getD, hi']
      have hsl := EsR.slice hS.hok hrow e L.length 0 L.length true (by simp) (by simp)
      have hnew := hS1.newI (L.map fun l => Value.string ⟨l.toArray⟩).toArray e (L.length * 1) 1 0 (by simp)
      have e2 : (L.map AV.str).length * 1 = L.length * 1 := by simp
      rw [e2, show g.n = t.n from hS.n] at hsl
      have e3 : (L.map AV.str).length = L.length := by simp
      rw [e3] at hsl
      refine ⟨_, g.addRow (L.map fun l => Value.string ⟨l.toArray⟩).toArray e (L.length * 1) 0, rfl, ?_, g.le_addRow hS.hok _ _ _ _, ?_, hnew.leave _ _⟩
      · simp [G.addRow]
      · exact hsl
    · cases hp
  · cases hp

theorem cutGo_eq (c : UInt8) : ∀ (s cur : List UInt8), ∃ x r, Lib.splitK [c] 0 (Lib.count s [c]) s = x :: r ∧ cutGo c.toNat cur s = (cur ++ x) :: r
  | [], cur => ⟨[], [], by simp [Lib.count, Lib.countFrom, Lib.index, Lib.splitK], by simp [cutGo]⟩
  | b :: l, cur => by
    by_cases e : b = c
    · subst e
      obtain ⟨x, r, h1, h2⟩ := cutGo_eq b l []
      refine ⟨[], x :: r, ?_, ?_⟩
      · rw [Lib.count_cons_eq, Nat.add_comm]
        have hi : Lib.index (b :: l) [b] = 0 := by simp [Lib.index]
        unfold Lib.splitK
        rw [hi]
        simp [h1]
      · unfold cutGo
        rw [beq_true rfl]
        simp only [List.append_nil]
        rw [h2]
        simp
    · have en : ¬ b.toNat = c.toNat := fun q => e (UInt8.toNat_inj.mp q)
      obtain ⟨x, r, h1, h2⟩ := cutGo_eq c l (cur ++ [b])
      refine ⟨b :: x, r, ?_, ?_⟩
      · rw [Lib.count_cons_ne b c l e]
        have hp : List.isPrefixOf [c] (b :: l) = false := by
          simp only [List.isPrefixOf, Bool.and_true]
          exact beq_eq_false_iff_ne.mpr (fun q => e q.symm)
        cases hk : Lib.count l [c] with
        | zero =>
          rw [hk] at h1
          unfold Lib.splitK at h1 ⊢
          simp only [List.cons.injEq] at h1
          rw [← h1.1, ← h1.2]
        | succ k =>
          rw [hk] at h1
          have hne : ¬ Lib.index l [c] = -1 := fun q => by rw [Lib.count_miss q] at hk; cases hk
          have hge := Lib.index_ge l [c]
          unfold Lib.splitK at h1 ⊢
          have hb : (Lib.index l [c] == -1) = false := beq_eq_false_iff_ne.mpr hne
          have hi : Lib.index (b :: l) [c] = Lib.index l [c] + 1 := by
            rw [Lib.index, hp, hb]; rfl
          have hb2 : (Lib.index l [c] + 1 == -1) = false := beq_eq_false_iff_ne.mpr (by omega)
          rw [hb] at h1
          rw [hi, hb2]
          simp only [Bool.false_eq_true, if_false, List.cons.injEq, Nat.add_zero, List.length_cons, List.length_nil, Nat.zero_add] at h1 ⊢
          have ht : (Lib.index l [c] + 1).toNat = (Lib.index l [c]).toNat + 1 := by omega
          rw [ht]
          refine ⟨?_, ?_⟩
          · rw [List.take_succ_cons, h1.1]
          · rw [List.drop_succ_cons]; exact h1.2
      · unfold cutGo
        rw [beq_false en]
        simp only
        rw [h2]
        simp

theorem prim4 {tbl : Nat → Option AFunc} {n i : Nat} {args : List AV} {t t' : T} {r : AV} (hi : tbl i = some primSplit) (h : callA tbl (ev tbl n) i args t = .ok r t') :
    ∃ x y z q v u, args = [x, y, z, q] ∧ memSplt x y z q t.enter = .ok v u ∧ r = v ∧ t' = u.leave false v := by
  unfold callA at h
  rw [hi] at h
  simp only [primSplit] at h
  match args, h with
  | [x, y, z, q], h =>
    simp only [argsIn] at h
    cases n with
    | zero => cases h
    | succ n =>
      rw [ev_reg, runOps_one] at h
      have e : AOp.run (.mem .splt [.t (pth 3 0), .t (pth 3 1), .t (pth 3 2), .t (pth 3 3)]) (callA tbl (ev tbl n)) ((((Fr.nil.put (pth 3 0) x).put (pth 3 1) y).put (pth 3 2) z).put (pth 3 3) q) t.enter = memSplt x y z q t.enter := by
        show memStep .splt [((((Fr.nil.put (pth 3 0) x).put (pth 3 1) y).put (pth 3 2) z).put (pth 3 3) q).get (pth 3 0), ((((Fr.nil.put (pth 3 0) x).put (pth 3 1) y).put (pth 3 2) z).put (pth 3 3) q).get (pth 3 1), ((((Fr.nil.put (pth 3 0) x).put (pth 3 1) y).put (pth 3 2) z).put (pth 3 3) q).get (pth 3 2), ((((Fr.nil.put (pth 3 0) x).put (pth 3 1) y).put (pth 3 2) z).put (pth 3 3) q).get (pth 3 3)] t.enter = _
        have e1 : ¬ pth 3 3 = pth 3 0 := by decide
        have e2 : ¬ pth 3 3 = pth 3 1 := by decide
        have e3 : ¬ pth 3 3 = pth 3 2 := by decide
        have e4 : ¬ pth 3 2 = pth 3 0 := by decide
        have e5 : ¬ pth 3 2 = pth 3 1 := by decide
        have e6 : ¬ pth 3 1 = pth 3 0 := by decide
        simp only [Fr.get_put, if_true, if_neg e1, if_neg e2, if_neg e3, if_neg e4, if_neg e5, if_neg e6]
        rfl
      rw [e] at h
      cases hp : memSplt x y z q t.enter with
      | fail => rw [hp] at h; cases h
      | ok v u =>
        rw [hp] at h
        simp only [afterBody, resultsOf, resultOf, packed] at h
        rw [Fr.get_put, if_pos rfl] at h
        cases h
        exact ⟨x, y, z, q, r, u, rfl, hp, rfl, rfl⟩
  | [], h => simp [argsIn] at h
  | [_], h => simp [argsIn] at h
  | [_, _], h => simp [argsIn] at h
  | [_, _, _], h => simp [argsIn] at h
  | _ :: _ :: _ :: _ :: _ :: _, h => simp [argsIn] at h

/-- a row of texts, made -/
theorem strs_row {g : G} {t : T} (hS : SR M g t) (L : List (List UInt8)) (e : TypeId) :
    g.Le (g.addRow (L.map fun l => Value.string ⟨l.toArray⟩).toArray e (L.length * 1) 0) ∧
    VR M (g.addRow (L.map fun l => Value.string ⟨l.toArray⟩).toArray e (L.length * 1) 0) (.sl t.n 1 0 L.length true 0 (L.map AV.str)) (.slice (some ⟨g.w.heap.size, 0, none⟩) L.length L.length) ∧
    ∀ v, SR M (g.addRow (L.map fun l => Value.string ⟨l.toArray⟩).toArray e (L.length * 1) 0) ((t.enter.newI (L.length * 1) 1).leave false v) := by
  have hrow : EsR M g 1 (L.map AV.str) (L.map fun l => Value.string ⟨l.toArray⟩).toArray := by
    refine ⟨by simp, fun i => .string ⟨(L.getD i []).toArray⟩, fun i hi => ?_, fun i hi => rfl, fun i j hi hj => ?_⟩
    · have hi' : i < L.length := by simpa using hi
      have e0 : (L.map AV.str)[i] = .str (L.getD i []) := by simp [List.getD, hi']
      rw [e0]
      exact .str _
    · have hi' : i < L.length := by simpa using hi
      have : j = 0 := by omega
      subst this
      simp [Value.cells, List.getD, hi']
  have hsl := EsR.slice hS.hok hrow e L.length 0 L.length true (by simp) (by simp)
  have hnew := hS.enter.newI (L.map fun l => Value.string ⟨l.toArray⟩).toArray e (L.length * 1) 1 0 (by simp)
  have e2 : (L.map AV.str).length * 1 = L.length * 1 := by simp
  rw [e2, show g.n = t.n from hS.n] at hsl
  have e3 : (L.map AV.str).length = L.length := by simp
  rw [e3] at hsl
  exact ⟨g.le_addRow hS.hok _ _ _ _, hsl, fun v => hnew.leave _ _⟩

theorem prim_split {i : Nat} (hgood : Good P (M.fm i)) {e : TypeId}
    (h0 : ∀ (s : ByteArray) (c : UInt8) (N : Nat) (w : World), s.size < 4294967281 → (N : Int) = min ((Lib.countB s ⟨#[c]⟩ : Int) + 1) ((s.size : Int) + 1) →
      Calls P (M.fm i) #[.string s, .string ⟨#[c]⟩, .int .i64 0, .int .i64 (-1)] w fun ex w' => ex = .returned (.slice (some ⟨w.heap.size, 0, none⟩) (Lib.splitB ⟨#[c]⟩ 0 (N - 1) s).length N) ∧
        w' = w.alloc (.cells (Lib.cellsOf (Lib.splitB ⟨#[c]⟩ 0 (N - 1) s) N) e)) : PrimAt P M i primSplit := by
  intro tbl n args t r t' hi hr
  obtain ⟨x, y, z, q, v, u, rfl, hp, rfl, rfl⟩ := prim4 hi hr
  refine ⟨hgood, fun g cargs hS hsz hv => ?_⟩
  have hsz4 : cargs.size = 4 := by simpa using hsz
  have v0 := hv 0 (by simp)
  have v1 := hv 1 (by simp)
  have v2 := hv 2 (by simp)
  have v3 := hv 3 (by simp)
  obtain ⟨a, b, c, d, rfl⟩ : ∃ a b c d, cargs = #[a, b, c, d] := ⟨cargs[0], cargs[1], cargs[2], cargs[3], by
    apply Array.ext
    · simp [hsz4]
    · intro j h1 h2
      match j, h2 with
      | 0, _ => rfl
      | 1, _ => rfl
      | 2, _ => rfl
      | 3, _ => rfl⟩
  have v0 : VR M g x a := v0
  have v1 : VR M g y b := v1
  have v2 : VR M g z c := v2
  have v3 : VR M g q d := v3
  unfold memSplt at hp
  split at hp
  · rename_i s ch _ _ _ _
    split at hp
    · rename_i hcond
      cases hp
      have c2 : s.length < 1000000000 := Nat.le_of_ble_eq_true hcond
      cases v0
      cases v1
      cases v2
      cases v3
      have hcl := Lib.countB_le ⟨#[ch]⟩ (by simp [ByteArray.size]) _ ⟨s.toArray⟩ (Nat.le_refl _)
      have hcall := h0 ⟨s.toArray⟩ ch (Lib.countB ⟨s.toArray⟩ ⟨#[ch]⟩ + 1) g.w (by simp [ByteArray.size]; omega) (by omega)
      rw [Nat.add_sub_cancel] at hcall
      have hlen := Lib.splitB_all ⟨#[ch]⟩ (by simp [ByteArray.size]) 0 _ ⟨s.toArray⟩ rfl
      obtain ⟨x0, r0, k1, k2⟩ := cutGo_eq ch s []
      have hL : (Lib.splitB ⟨#[ch]⟩ 0 (Lib.countB ⟨s.toArray⟩ ⟨#[ch]⟩) ⟨s.toArray⟩).map (fun x => x.data.toList) = cutGo ch.toNat [] s := by
        rw [Lib.splitB_data, k2, List.nil_append, ← k1]
      have hL2 : (Lib.splitB ⟨#[ch]⟩ 0 (Lib.countB ⟨s.toArray⟩ ⟨#[ch]⟩) ⟨s.toArray⟩) = (cutGo ch.toNat [] s).map fun l => (⟨l.toArray⟩ : ByteArray) := by
        rw [← hL, List.map_map]
        simp [Function.comp_def]
      rw [← hlen, Lib.cellsOf_full, hL2, List.length_map, List.map_map] at hcall
      obtain ⟨q1, q2, q3⟩ := strs_row (M := M) hS (cutGo ch.toNat [] s) e
      refine hcall.mono ?_
      rintro ex w' ⟨rfl, rfl⟩
      exact ⟨_, _, rfl, by simp [G.addRow, Function.comp_def], q1, q2, q3 _⟩
    · cases hp
  · cases hp

def w_cell (w : World) (b o : Nat) : Option Value := w.cell? ⟨b, o, none⟩

theorem primj {tbl : Nat → Option AFunc} {n i : Nat} {args : List AV} {t t' : T} {r : AV} (hi : tbl i = some primJoinm) (h : callA tbl (ev tbl n) i args t = .ok r t') :
    ∃ x y v u, args = [x, y] ∧ memJoin x y t.enter = .ok v u ∧ r = v ∧ t' = u.leave false v := by
  unfold callA at h
  rw [hi] at h
  simp only [primJoinm] at h
  match args, h with
  | [x, y], h =>
    simp only [argsIn] at h
    cases n with
    | zero => cases h
    | succ n =>
      rw [ev_reg, runOps_one] at h
      have e : AOp.run (.mem .joinm [.t (pth 3 0), .t (pth 3 1)]) (callA tbl (ev tbl n)) ((Fr.nil.put (pth 3 0) x).put (pth 3 1) y) t.enter = memJoin x y t.enter := by
        show memStep .joinm [((Fr.nil.put (pth 3 0) x).put (pth 3 1) y).get (pth 3 0), ((Fr.nil.put (pth 3 0) x).put (pth 3 1) y).get (pth 3 1)] t.enter = _
        rw [Fr.get_put, Fr.get_put, Fr.get_put, if_pos rfl, if_pos rfl, if_neg (by decide)]
        rfl
      rw [e] at h
      cases hp : memJoin x y t.enter with
      | fail => rw [hp] at h; cases h
      | ok v u =>
        rw [hp] at h
        simp only [afterBody, resultsOf, resultOf, packed] at h
        rw [Fr.get_put, if_pos rfl] at h
        cases h
        exact ⟨x, y, r, u, rfl, hp, rfl, rfl⟩
  | [], h => simp [argsIn] at h
  | [_], h => simp [argsIn] at h
  | _ :: _ :: _ :: _, h => simp [argsIn] at h

theorem join_old {i : Nat} (hgood : Good P (M.fm i))
    (h0 : ∀ (a : Option Addr) (c : Nat) (sep : ByteArray) (w : World), Calls P (M.fm i) #[.slice a 0 c, .string sep] w fun e w' => e = .returned (.string ⟨#[]⟩) ∧ w' = w)
    (h1 : ∀ (bk o c : Nat) (xs : List ByteArray) (sep : ByteArray) (w : World), (∀ (j : Nat) x, xs[j]? = some x → w.cell? ⟨bk, o + j, none⟩ = some (.string x)) → bk < w.heap.size → xs.length ≤ 140737488355328 → xs.length ≤ c →
      (Lib.join (xs.map (·.data.toList)) sep.data.toList).length ≤ 140737488355328 →
      Calls P (M.fm i) #[.slice (some ⟨bk, o, none⟩) xs.length c, .string sep] w fun e w' => e = .returned (.string ⟨(Lib.join (xs.map (·.data.toList)) sep.data.toList).toArray⟩) ∧ Below w.heap.size w w')
    {x y r : AV} {t : T} (hp : primA 0 [x, y] = some r) {g : G} {cargs : Array Value} (hS : SR M g t) (hsz : cargs.size = 2) (hv : ∀ j (h : j < [x, y].length), VR M g [x, y][j] (cargs.getD j undef)) :
    Calls P (M.fm i) cargs g.w fun e w' => ∃ v g', e = .returned v ∧ g'.w = w' ∧ g.Le g' ∧ VR M g' r v ∧ SR M g' (t.enter.leave false r) := by
  have hP : PrimAt P M i primJoin := prim_join hgood h0 h1
  have hc : callA (fun _ => some primJoin) (ev (fun _ => some primJoin) 1) i [x, y] t = .ok r (t.enter.leave false r) := by
    unfold callA
    simp only [primJoin, argsIn]
    rw [ev_reg, runOps_one]
    have e : AOp.run (.mem (.prim 0) [.t (pth 3 0), .t (pth 3 1)]) (callA (fun _ => some primJoin) (ev (fun _ => some primJoin) 0)) ((Fr.nil.put (pth 3 0) x).put (pth 3 1) y) t.enter = (match primA 0 [x, y] with | some v => .ok v t.enter | none => .fail) := by
      show memStep (.prim 0) [((Fr.nil.put (pth 3 0) x).put (pth 3 1) y).get (pth 3 0), ((Fr.nil.put (pth 3 0) x).put (pth 3 1) y).get (pth 3 1)] t.enter = _
      rw [Fr.get_put, Fr.get_put, Fr.get_put, if_pos rfl, if_pos rfl, if_neg (by decide)]
      rfl
    simp only [primJoin] at e
    rw [e, hp]
    simp only [afterBody, resultsOf, resultOf, packed]
    rw [Fr.get_put, if_pos rfl]
  exact (hP (fun _ => some primJoin) 1 [x, y] t r _ rfl hc).2 g cargs hS (by simpa using hsz) hv

theorem prim_joinm {i : Nat} (hgood : Good P (M.fm i))
    (h0 : ∀ (a : Option Addr) (c : Nat) (sep : ByteArray) (w : World), Calls P (M.fm i) #[.slice a 0 c, .string sep] w fun e w' => e = .returned (.string ⟨#[]⟩) ∧ w' = w)
    (h1 : ∀ (bk o c : Nat) (xs : List ByteArray) (sep : ByteArray) (w : World), (∀ (j : Nat) x, xs[j]? = some x → w.cell? ⟨bk, o + j, none⟩ = some (.string x)) → bk < w.heap.size → xs.length ≤ 140737488355328 → xs.length ≤ c →
      (Lib.join (xs.map (·.data.toList)) sep.data.toList).length ≤ 140737488355328 →
      Calls P (M.fm i) #[.slice (some ⟨bk, o, none⟩) xs.length c, .string sep] w fun e w' => e = .returned (.string ⟨(Lib.join (xs.map (·.data.toList)) sep.data.toList).toArray⟩) ∧ Below w.heap.size w w') : PrimAt P M i primJoinm := by
  intro tbl n args t r t' hi hr
  obtain ⟨x, y, v, u, rfl, hp, rfl, rfl⟩ := primj hi hr
  refine ⟨hgood, fun g cargs hS hsz hv => ?_⟩
  have hsz2 : cargs.size = 2 := by simpa using hsz
  unfold memJoin at hp
  split at hp
  · rename_i yy e pos len cap
    split at hp
    · rename_i cs sp hlk
      split at hp
      · rename_i l hl
        split at hp
        · rename_i hb
          cases hp
          simp only [Bool.and_eq_true] at hb
          obtain ⟨⟨⟨⟨b1, b2⟩, b3⟩, b4⟩, b5⟩ := hb
          have b1 := Nat.eq_of_beq_eq_true b1
          have b2 := Nat.eq_of_beq_eq_true b2
          have b4 := Nat.le_of_ble_eq_true b4
          have b5 := Nat.le_of_ble_eq_true b5
          subst b1
          have hes := strsA_ok _ l hl
          have vx := hv 0 (by simp)
          have vy := hv 1 (by simp)
          obtain ⟨cx, cy, rfl⟩ : ∃ cx cy, cargs = #[cx, cy] := ⟨cargs[0], cargs[1], by
            apply Array.ext
            · simp [hsz2]
            · intro j h1 h2
              match j, h2 with
              | 0, _ => rfl
              | 1, _ => rfl⟩
          have vx : VR M g (.ms yy 1 pos len cap) cx := vx
          have vy : VR M g (.str sp) cy := vy
          obtain ⟨k1, k2, k3⟩ := hS.enter.var yy _ hlk
          cases vy
          generalize hbv : g.ν yy = b at *
          cases vx with
          | ms x e pos len cap ccap hxn hlen hcc hb2 hz =>
            cases k3 with
            | cells cs b c ty fz hh hzz hlc hvv =>
              have hall : ∀ j (hj : j < l.length), w_cell g.w b (pos + j) = some (.string ⟨l[j].toArray⟩) := by
                intro j hj
                have hj2 : pos + j < cs.length := by
                  have h3 := congrArg List.length hes
                  simp only [List.length_take, List.length_drop, List.length_map] at h3
                  omega
                have h4 := hvv (pos + j) hj2
                have h5 : ((cs.drop pos).take len)[j]? = some (.str l[j]) := by rw [hes]; simp [hj]
                rw [List.getElem?_take, if_pos (by omega), List.getElem?_drop, List.getElem?_eq_getElem hj2] at h5
                rw [Option.some.inj h5] at h4
                unfold w_cell
                rw [cells_cell hh (by omega)]
                generalize c.getD (pos + j) undef = vj at h4
                cases h4
                rfl
              have hcall := h1 b pos ccap (l.map fun s => ⟨s.toArray⟩) ⟨sp.toArray⟩ g.w (by
                intro j x hx
                rw [List.getElem?_map, Option.map_eq_some_iff] at hx
                obtain ⟨s, hs, rfl⟩ := hx
                obtain ⟨hj, rfl⟩ := List.getElem?_eq_some_iff.mp hs
                exact hall j hj) (by rw [← hbv]; rw [hbv]; exact (getElem?_some_iff.mp hh).1) (by simp; omega) (by simp; omega) (by
                rw [List.map_map]
                have : (l.map ((fun (x : ByteArray) => x.data.toList) ∘ fun s => (⟨s.toArray⟩ : ByteArray))) = l := by simp [Function.comp_def]
                rw [this, show (⟨sp.toArray⟩ : ByteArray).data.toList = sp by simp, ← joinA_eq]
                omega)
              rw [List.length_map, b2, ← hbv] at hcall
              refine hcall.mono ?_
              rintro e w' ⟨rfl, hw⟩
              refine ⟨_, g.grown w', rfl, rfl, le_grown hw, ?_, (sr_grown hw hS).enter.leave _ _⟩
              have : (l.map (fun s => (⟨s.toArray⟩ : ByteArray))).map (fun x => x.data.toList) = l := by simp [Function.comp_def]
              rw [this, show (⟨sp.toArray⟩ : ByteArray).data.toList = sp by simp, joinA_eq]
              exact .str _
        · cases hp
      · cases hp
    · cases hp
  · split at hp
    · rename_i v0 hv0
      cases hp
      exact join_old hgood h0 h1 hv0 hS hsz2 hv
    · cases hp

theorem Here.prim {im : FuncId → Option Nat} {i : Nat} {a : AFunc} (hd : a.depth = 77) (h : PrimAt P M i a) : Here P M im i a := .inr (.inl ⟨hd, h⟩)

end

end M2
end
section
/-
  DERIVED: THE SHELF's CONTRACTS AT THIS DUMP, IN PLAIN WORDS (tools/lay-plain.mjs out of 'TrydShelf.lean', which tools/lay-shelf.mjs wrote): THE SAME DECLARATIONS UNDER THE SAME NAMES: 'import', 'namespace', 'open', 'def', 'theorem' AND NOTHING ELSE: no command of the shelf's: FOR A HAND-IN. Each laying: the table of numbers ('.._ren') and one theorem, a field a fact of the dump's own or the kernel's comparison; each contract: ONE APPLICATION.
-/
namespace Go.Proofs
open Go.Shelf
def Tryd.lays156_ren : Go.Shelf.Ren := ⟨fun | 156 => 28 | 165 => 38 | 166 => 39 | 169 => 40 | 240 => 50 | 241 => 51 | 276 => 63 | 277 => 64 | n => n, fun | 31 => 22 | 9 => 9 | 3 => 3 | 4 => 4 | 0 => 0 | 20 => 20 | 72 => 64 | 76 => 66 | 70 => 62 | 37 => 51 | 75 => 56 | 127 => 74 | 164 => 90 | 5 => 5 | 80 => 68 | n => n, fun | n => n⟩
theorem Tryd.lays156 : Go.Proofs.Lays.n156 Tryd.prog Tryd.lays156_ren := {
  mixed := by kernel_rfl
  f156 := Tryd.func28.trans (congrArg some (by kernel_rfl))
  f165 := Tryd.func38.trans (congrArg some (by kernel_rfl))
  f166 := Tryd.func39.trans (congrArg some (by kernel_rfl))
  f169 := Tryd.func40.trans (congrArg some (by kernel_rfl))
  f240 := Tryd.func50.trans (congrArg some (by kernel_rfl))
  f241 := Tryd.func51.trans (congrArg some (by kernel_rfl))
  f276 := Tryd.func63.trans (congrArg some (by kernel_rfl))
  f277 := Tryd.func64.trans (congrArg some (by kernel_rfl))
  t0 := Tryd.underlying0
  a0 := Tryd.isAgg0
  z0 := Tryd.sizeOf0
  v0 := Tryd.zeroValue0
  t3 := Tryd.underlying3
  a3 := Tryd.isAgg3
  z3 := Tryd.sizeOf3
  v3 := Tryd.zeroValue3
  t4 := Tryd.underlying4
  a4 := Tryd.isAgg4
  z4 := Tryd.sizeOf4
  v4 := Tryd.zeroValue4
  t9 := Tryd.underlying9
  a9 := Tryd.isAgg9
  z9 := Tryd.sizeOf9
  v9 := Tryd.zeroValue9
  t20 := Tryd.underlying20
  a20 := Tryd.isAgg20
  z20 := Tryd.sizeOf20
  v20 := Tryd.zeroValue20
  t31 := Tryd.underlying22
  a31 := Tryd.isAgg22
  z31 := Tryd.sizeOf22
  v31 := Tryd.zeroValue22
  t37 := Tryd.underlying51
  a37 := Tryd.isAgg51
  z37 := Tryd.sizeOf51
  v37 := Tryd.zeroValue51
  t70 := Tryd.underlying62
  a70 := Tryd.isAgg62
  z70 := Tryd.sizeOf62
  v70 := Tryd.zeroValue62
  t72 := Tryd.underlying64
  a72 := Tryd.isAgg64
  z72 := Tryd.sizeOf64
  v72 := Tryd.zeroValue64
  t75 := Tryd.underlying56
  a75 := Tryd.isAgg56
  z75 := Tryd.sizeOf56
  v75 := Tryd.zeroValue56
  t76 := Tryd.underlying66
  a76 := Tryd.isAgg66
  z76 := Tryd.sizeOf66
  v76 := Tryd.zeroValue66
  t127 := Tryd.underlying74
  a127 := Tryd.isAgg74
  z127 := Tryd.sizeOf74
  v127 := Tryd.zeroValue74
  t164 := Tryd.underlying90
  a164 := Tryd.isAgg90
  z164 := Tryd.sizeOf90
  v164 := Tryd.zeroValue90 }
theorem Tryd.Builder_Extra_156 : Builder.Extra Tryd.prog Tryd.lays156_ren := {
  sizeBuilder := by kernel_rfl
  liesBuilder := by kernel_rfl
  t5 := Tryd.underlying5
  a5 := Tryd.isAgg5
  z5 := Tryd.sizeOf5
  v5 := Tryd.zeroValue5
  infoByte := by kernel_rfl
  cellsByte := by kernel_rfl
  sizeByte := by kernel_rfl
  neB5 := by decide }
open Go.RowKit in
/-- No element: the empty string; the world is as it was. (Whatever the slice's address and capacity: a nil slice too.) (LAID: no walk: one application.) -/
theorem Tryd.strings_Join_none (a : Option Addr) (c : Nat) (sep : ByteArray) (w : World) :
    Calls Tryd.prog 28 #[.slice a 0 c, .string sep] w fun e w' => e = .returned (.string ⟨#[]⟩) ∧ w' = w := Any.strings_Join_none Tryd.lays156 Tryd.Builder_Extra_156 a c sep w
open Go.RowKit in
/-- strings.Join: "Join concatenates the elements of its first argument to create a single string. The separator string sep is placed between elements in the resulting string.": HOWEVER MANY ELEMENTS. Below the heap's end the world is as it was. (LAID: no walk: one application.) -/
theorem Tryd.strings_Join (bk o c : Nat) (xs : List ByteArray) (sep : ByteArray) (w : World) (hcells : ∀ (j : Nat) x, xs[j]? = some x → w.cell? ⟨bk, o + j, none⟩ = some (.string x)) (hbk : bk < w.heap.size) (hN : xs.length ≤ 140737488355328) (hcap : xs.length ≤ c) (hlen : (Lib.join (xs.map (·.data.toList)) sep.data.toList).length ≤ 140737488355328) :
    Calls Tryd.prog 28 #[.slice (some ⟨bk, o, none⟩) xs.length c, .string sep] w fun e w' => e = .returned (.string ⟨(Lib.join (xs.map (·.data.toList)) sep.data.toList).toArray⟩) ∧ Below w.heap.size w w' := Any.strings_Join Tryd.lays156 Tryd.Builder_Extra_156 bk o c xs sep w hcells hbk hN hcap hlen
def Tryd.lays171_ren : Go.Shelf.Ren := ⟨fun | 171 => 27 | 243 => 37 | 246 => 49 | 283 => 59 | 284 => 60 | 285 => 61 | 286 => 62 | 129 => 70 | 317 => 69 | 318 => 71 | 319 => 72 | 320 => 73 | 337 => 74 | 338 => 75 | n => n, fun | 3 => 3 | 9 => 9 | 2 => 2 | 4 => 4 | 171 => 85 | 0 => 0 | 53 => 79 | 37 => 51 | 5 => 5 | 173 => 88 | 212 => 100 | 51 => 75 | 20 => 20 | 213 => 101 | 46 => 70 | 232 => 108 | 233 => 109 | n => n, fun | 17 => 3 | 18 => 4 | 19 => 5 | n => n⟩
theorem Tryd.lays171 : Go.Proofs.Lays.n171 Tryd.prog Tryd.lays171_ren := {
  mixed := by kernel_rfl
  f129 := Tryd.func70.trans (congrArg some (by kernel_rfl))
  f171 := Tryd.func27.trans (congrArg some (by kernel_rfl))
  f243 := Tryd.func37.trans (congrArg some (by kernel_rfl))
  f246 := Tryd.func49.trans (congrArg some (by kernel_rfl))
  f283 := Tryd.func59.trans (congrArg some (by kernel_rfl))
  f284 := Tryd.func60.trans (congrArg some (by kernel_rfl))
  f285 := Tryd.func61.trans (congrArg some (by kernel_rfl))
  f286 := Tryd.func62.trans (congrArg some (by kernel_rfl))
  f317 := Tryd.func69.trans (congrArg some (by kernel_rfl))
  f318 := Tryd.func71.trans (congrArg some (by kernel_rfl))
  f319 := Tryd.func72.trans (congrArg some (by kernel_rfl))
  f320 := Tryd.func73.trans (congrArg some (by kernel_rfl))
  f337 := Tryd.func74.trans (congrArg some (by kernel_rfl))
  f338 := Tryd.func75.trans (congrArg some (by kernel_rfl))
  t0 := Tryd.underlying0
  a0 := Tryd.isAgg0
  z0 := Tryd.sizeOf0
  v0 := Tryd.zeroValue0
  t2 := Tryd.underlying2
  a2 := Tryd.isAgg2
  z2 := Tryd.sizeOf2
  v2 := Tryd.zeroValue2
  t3 := Tryd.underlying3
  a3 := Tryd.isAgg3
  z3 := Tryd.sizeOf3
  v3 := Tryd.zeroValue3
  t4 := Tryd.underlying4
  a4 := Tryd.isAgg4
  z4 := Tryd.sizeOf4
  v4 := Tryd.zeroValue4
  t5 := Tryd.underlying5
  a5 := Tryd.isAgg5
  z5 := Tryd.sizeOf5
  v5 := Tryd.zeroValue5
  t9 := Tryd.underlying9
  a9 := Tryd.isAgg9
  z9 := Tryd.sizeOf9
  v9 := Tryd.zeroValue9
  t20 := Tryd.underlying20
  a20 := Tryd.isAgg20
  z20 := Tryd.sizeOf20
  v20 := Tryd.zeroValue20
  t37 := Tryd.underlying51
  a37 := Tryd.isAgg51
  z37 := Tryd.sizeOf51
  v37 := Tryd.zeroValue51
  t46 := Tryd.underlying70
  a46 := Tryd.isAgg70
  z46 := Tryd.sizeOf70
  v46 := Tryd.zeroValue70
  t51 := Tryd.underlying75
  a51 := Tryd.isAgg75
  z51 := Tryd.sizeOf75
  v51 := Tryd.zeroValue75
  t53 := Tryd.underlying79
  a53 := Tryd.isAgg79
  z53 := Tryd.sizeOf79
  v53 := Tryd.zeroValue79
  t171 := Tryd.underlying85
  a171 := Tryd.isAgg85
  z171 := Tryd.sizeOf85
  v171 := Tryd.zeroValue85
  t173 := Tryd.underlying88
  a173 := Tryd.isAgg88
  z173 := Tryd.sizeOf88
  v173 := Tryd.zeroValue88
  t212 := Tryd.underlying100
  a212 := Tryd.isAgg100
  z212 := Tryd.sizeOf100
  v212 := Tryd.zeroValue100
  t213 := Tryd.underlying101
  a213 := Tryd.isAgg101
  z213 := Tryd.sizeOf101
  t232 := Tryd.underlying108
  a232 := Tryd.isAgg108
  z232 := Tryd.sizeOf108
  v232 := Tryd.zeroValue108
  t233 := Tryd.underlying109
  a233 := Tryd.isAgg109
  z233 := Tryd.sizeOf109
  v233 := Tryd.zeroValue109
  g17 := by kernel_rfl
  g18 := by kernel_rfl
  g19 := by kernel_rfl }
open Go.RowKit Go.Sort Go.Lib in
/-- THE ROAD WITHOUT THE TABLE: 0 <= i < 100: NO PREMISE ON THE WORLD, AND THE WORLD IS AS IT WAS: a row that keeps its argument in that range need list no table ('laid = []'). (LAID: no walk: one application.) -/
theorem Tryd.strconv_Itoa_small (i : Nat) (hi : i < 100) (w : World) :
    Calls Tryd.prog 27 #[.int .i64 i] w fun e w' => e = .returned (.string ⟨(Lib.decDigits i).toArray⟩) ∧ w' = w := Any.strconv_Itoa_small Tryd.lays171 i hi w
def Tryd.laysC245_ren : Go.Shelf.Ren := ⟨fun | 245 => 47 | 279 => 55 | 280 => 56 | 281 => 57 | 282 => 58 | 316 => 67 | 171 => 27 | 205 => 68 | 243 => 37 | 246 => 49 | 283 => 59 | 284 => 60 | 285 => 61 | 286 => 62 | 129 => 70 | 317 => 69 | 318 => 71 | 319 => 72 | 320 => 73 | 337 => 74 | 338 => 75 | n => n, fun | 9 => 9 | 3 => 3 | 75 => 56 | 167 => 78 | 4 => 4 | 168 => 82 | 210 => 97 | 37 => 51 | 0 => 0 | 127 => 74 | 145 => 106 | 143 => 104 | 2 => 2 | 171 => 85 | 53 => 79 | 5 => 5 | 173 => 88 | 212 => 100 | 51 => 75 | 20 => 20 | 213 => 101 | 46 => 70 | 232 => 108 | 233 => 109 | 80 => 68 | n => n, fun | 15 => 1 | 16 => 2 | 17 => 3 | 18 => 4 | 19 => 5 | n => n⟩
theorem Tryd.laysC245 : Go.Proofs.LaysC.n245 Tryd.prog Tryd.laysC245_ren := {
  mixed := by kernel_rfl
  f129 := Tryd.func70.trans (congrArg some (by kernel_rfl))
  f171 := Tryd.func27.trans (congrArg some (by kernel_rfl))
  f205 := Tryd.func68.trans (congrArg some (by kernel_rfl))
  f243 := Tryd.func37.trans (congrArg some (by kernel_rfl))
  f245 := Tryd.func47.trans (congrArg some (by kernel_rfl))
  f246 := Tryd.func49.trans (congrArg some (by kernel_rfl))
  f279 := Tryd.func55.trans (congrArg some (by kernel_rfl))
  f280 := Tryd.func56.trans (congrArg some (by kernel_rfl))
  f281 := Tryd.func57.trans (congrArg some (by kernel_rfl))
  f282 := Tryd.func58.trans (congrArg some (by kernel_rfl))
  f283 := Tryd.func59.trans (congrArg some (by kernel_rfl))
  f284 := Tryd.func60.trans (congrArg some (by kernel_rfl))
  f285 := Tryd.func61.trans (congrArg some (by kernel_rfl))
  f286 := Tryd.func62.trans (congrArg some (by kernel_rfl))
  f316 := Tryd.func67.trans (congrArg some (by kernel_rfl))
  f317 := Tryd.func69.trans (congrArg some (by kernel_rfl))
  f318 := Tryd.func71.trans (congrArg some (by kernel_rfl))
  f319 := Tryd.func72.trans (congrArg some (by kernel_rfl))
  f320 := Tryd.func73.trans (congrArg some (by kernel_rfl))
  f337 := Tryd.func74.trans (congrArg some (by kernel_rfl))
  f338 := Tryd.func75.trans (congrArg some (by kernel_rfl))
  t0 := Tryd.underlying0
  a0 := Tryd.isAgg0
  z0 := Tryd.sizeOf0
  v0 := Tryd.zeroValue0
  t2 := Tryd.underlying2
  a2 := Tryd.isAgg2
  z2 := Tryd.sizeOf2
  v2 := Tryd.zeroValue2
  t3 := Tryd.underlying3
  a3 := Tryd.isAgg3
  z3 := Tryd.sizeOf3
  v3 := Tryd.zeroValue3
  t4 := Tryd.underlying4
  a4 := Tryd.isAgg4
  z4 := Tryd.sizeOf4
  v4 := Tryd.zeroValue4
  t5 := Tryd.underlying5
  a5 := Tryd.isAgg5
  z5 := Tryd.sizeOf5
  v5 := Tryd.zeroValue5
  t9 := Tryd.underlying9
  a9 := Tryd.isAgg9
  z9 := Tryd.sizeOf9
  v9 := Tryd.zeroValue9
  t20 := Tryd.underlying20
  a20 := Tryd.isAgg20
  z20 := Tryd.sizeOf20
  v20 := Tryd.zeroValue20
  t37 := Tryd.underlying51
  a37 := Tryd.isAgg51
  z37 := Tryd.sizeOf51
  v37 := Tryd.zeroValue51
  t46 := Tryd.underlying70
  a46 := Tryd.isAgg70
  z46 := Tryd.sizeOf70
  v46 := Tryd.zeroValue70
  t51 := Tryd.underlying75
  a51 := Tryd.isAgg75
  z51 := Tryd.sizeOf75
  v51 := Tryd.zeroValue75
  t53 := Tryd.underlying79
  a53 := Tryd.isAgg79
  z53 := Tryd.sizeOf79
  v53 := Tryd.zeroValue79
  t75 := Tryd.underlying56
  a75 := Tryd.isAgg56
  z75 := Tryd.sizeOf56
  v75 := Tryd.zeroValue56
  t127 := Tryd.underlying74
  a127 := Tryd.isAgg74
  z127 := Tryd.sizeOf74
  v127 := Tryd.zeroValue74
  t143 := Tryd.underlying104
  a143 := Tryd.isAgg104
  z143 := Tryd.sizeOf104
  v143 := Tryd.zeroValue104
  t145 := Tryd.underlying106
  a145 := Tryd.isAgg106
  z145 := Tryd.sizeOf106
  v145 := Tryd.zeroValue106
  t167 := Tryd.underlying78
  a167 := Tryd.isAgg78
  z167 := Tryd.sizeOf78
  v167 := Tryd.zeroValue78
  t168 := Tryd.underlying82
  a168 := Tryd.isAgg82
  z168 := Tryd.sizeOf82
  v168 := Tryd.zeroValue82
  t171 := Tryd.underlying85
  a171 := Tryd.isAgg85
  z171 := Tryd.sizeOf85
  v171 := Tryd.zeroValue85
  t173 := Tryd.underlying88
  a173 := Tryd.isAgg88
  z173 := Tryd.sizeOf88
  v173 := Tryd.zeroValue88
  t210 := Tryd.underlying97
  a210 := Tryd.isAgg97
  z210 := Tryd.sizeOf97
  v210 := Tryd.zeroValue97
  t212 := Tryd.underlying100
  a212 := Tryd.isAgg100
  z212 := Tryd.sizeOf100
  v212 := Tryd.zeroValue100
  t213 := Tryd.underlying101
  a213 := Tryd.isAgg101
  z213 := Tryd.sizeOf101
  t232 := Tryd.underlying108
  a232 := Tryd.isAgg108
  z232 := Tryd.sizeOf108
  v232 := Tryd.zeroValue108
  t233 := Tryd.underlying109
  a233 := Tryd.isAgg109
  z233 := Tryd.sizeOf109
  v233 := Tryd.zeroValue109
  g15 := by kernel_rfl
  g16 := by kernel_rfl
  g17 := by kernel_rfl
  g18 := by kernel_rfl
  g19 := by kernel_rfl
  t80 := Tryd.underlying68
  a80 := Tryd.isAgg68
  z80 := Tryd.sizeOf68
  v80 := Tryd.zeroValue68
  i0 := by kernel_rfl
  i2 := by kernel_rfl
  i3 := by kernel_rfl
  i4 := by kernel_rfl
  i5 := by kernel_rfl
  i9 := by kernel_rfl
  i20 := by kernel_rfl
  i37 := by kernel_rfl
  i46 := by kernel_rfl
  i51 := by kernel_rfl
  i53 := by kernel_rfl
  i75 := by kernel_rfl
  i80 := by kernel_rfl
  i127 := by kernel_rfl
  i143 := by kernel_rfl
  i145 := by kernel_rfl
  i167 := by kernel_rfl
  i168 := by kernel_rfl
  i171 := by kernel_rfl
  i173 := by kernel_rfl
  i210 := by kernel_rfl
  i212 := by kernel_rfl
  i232 := by kernel_rfl
  i233 := by kernel_rfl
  m15 := by kernel_rfl
  m16 := by kernel_rfl
  m17 := by kernel_rfl
  m18 := by kernel_rfl
  m19 := by kernel_rfl
  c0 := by kernel_rfl
  c2 := by kernel_rfl
  c3 := by kernel_rfl
  c4 := by kernel_rfl
  c5 := by kernel_rfl
  c9 := by kernel_rfl
  c20 := by kernel_rfl
  c37 := by kernel_rfl
  c46 := by kernel_rfl
  c51 := by kernel_rfl
  c53 := by kernel_rfl
  c75 := by kernel_rfl
  c80 := by kernel_rfl
  c127 := by kernel_rfl
  c143 := by kernel_rfl
  c145 := by kernel_rfl
  c167 := by kernel_rfl
  c168 := by kernel_rfl
  c171 := by kernel_rfl
  c173 := by kernel_rfl
  c210 := by kernel_rfl
  c212 := by kernel_rfl
  c213 := by kernel_rfl
  c232 := by kernel_rfl
  c233 := by kernel_rfl }
open Go.RowKit in
/-- strconv.toError, at the inner package's ErrSyntax: 'syntaxError(fn, s)' as an error: A *NumError IN A NEW BLOCK. (LAID: no walk: one application.) -/
theorem Tryd.strconv_toError_syntax (fn s : ByteArray) (base bits : Int) (ev : Value) (w : World) (hlim : s.size ≤ 281474976710656) (hv : w.cell? ⟨1, 0, none⟩ = some ev) (hev : ev = .nilIface ∨ ∃ te pe, ev = .iface te pe) :
    Calls Tryd.prog 47 #[.string fn, .string s, .int .i64 base, .int .i64 bits, .iface 78 (.int .i64 2)] w fun e w' => ∃ N, e = .returned (.iface 82 (.pointer (some ⟨N, 0, none⟩))) ∧ w.heap.size ≤ N ∧ w'.heap[N]? = some (.cells #[.string fn, .string s, ev] 97 (0, 0)) ∧ Below w.heap.size w w' := Any.strconv_toError_syntax Tryd.laysC245 fn s base bits ev w hlim hv hev
end Go.Proofs
end
section
namespace Go.Proofs.YtnakomfbniipaaaDoor
open Go M2

def ims : List Nat := [0, 1, 2, 277, 279, 280, 48, 281, 38, 282, 283, 86, 284, 285, 60, 286, 287, 85, 87, 95, 288, 88, 77, 78, 79, 80, 51, 289, 290, 291, 292, 293, 294, 96, 64, 65, 66, 295, 296, 297, 298, 99, 299, 300, 301, 302, 303, 304, 84, 305, 306, 307, 101, 308, 309, 310, 311, 312, 313, 314, 315, 316, 317, 318, 319, 320, 321, 322, 323, 324, 260, 325, 326, 327, 328, 329, 102, 103, 104, 105, 106, 107, 108, 109, 110, 111, 112, 113, 114, 115, 116, 330, 331, 332, 333, 117, 334, 335, 336, 337, 338, 339, 340, 341]
def im (f : Nat) : Option Nat := ims[f]?
/-- the two errors of the library's stay -/
def kb (es er : Value) (b o : Nat) : Option Value := if b = 1 ∧ o = 0 then some es else if b = 2 ∧ o = 0 then some er else none
def mp (es er : Value) : Maps := mapsK ims (kb es er)
def IfV (v : Value) : Prop := v = .nilIface ∨ ∃ te pe, v = .iface te pe

end Go.Proofs.YtnakomfbniipaaaDoor
end
section
/- The functions of the program compile to those. -/
namespace Go.Proofs.YtnakomfbniipaaaDoor
open Go M2

theorem c38 : cmpF Tryd.prog im 5 false Tryd.f8 = some a38 := by kernel_rfl
theorem c48 : cmpF Tryd.prog im 7 false Tryd.f6 = some a48 := by kernel_rfl
theorem c51 : cmpF Tryd.prog im 4 false Tryd.f26 = some a51 := by kernel_rfl
theorem c60 : cmpF Tryd.prog im 7 false Tryd.f14 = some a60 := by kernel_rfl
theorem c64 : cmpF Tryd.prog im 4 false Tryd.f34 = some a64 := by kernel_rfl
theorem c65 : cmpF Tryd.prog im 3 false Tryd.f35 = some a65 := by kernel_rfl
theorem c66 : cmpF Tryd.prog im 7 false Tryd.f36 = some a66 := by kernel_rfl
theorem c77 : cmpF Tryd.prog im 5 false Tryd.f22 = some a77 := by kernel_rfl
theorem c78 : cmpF Tryd.prog im 4 false Tryd.f23 = some a78 := by kernel_rfl
theorem c79 : cmpF Tryd.prog im 4 false Tryd.f24 = some a79 := by kernel_rfl
theorem c80 : cmpF Tryd.prog im 6 false Tryd.f25 = some a80 := by kernel_rfl
theorem c84 : cmpF Tryd.prog im 5 false Tryd.f48 = some a84 := by kernel_rfl
theorem c85 : cmpF Tryd.prog im 5 false Tryd.f17 = some a85 := by kernel_rfl
theorem c86 : cmpF Tryd.prog im 5 false Tryd.f11 = some a86 := by kernel_rfl
theorem c87 : cmpF Tryd.prog im 4 false Tryd.f18 = some a87 := by kernel_rfl
theorem c88 : cmpF Tryd.prog im 3 false Tryd.f21 = some a88 := by kernel_rfl
theorem c95 : cmpF Tryd.prog im 4 false Tryd.f19 = some a95 := by kernel_rfl
theorem c96 : cmpF Tryd.prog im 3 false Tryd.f33 = some a96 := by kernel_rfl
theorem c99 : cmpF Tryd.prog im 3 false Tryd.f41 = some a99 := by kernel_rfl
theorem c277 : cmpF Tryd.prog im 4 false Tryd.f3 = some a277 := by kernel_rfl
theorem c279 : cmpF Tryd.prog im 6 false Tryd.f4 = some a279 := by kernel_rfl
theorem c280 : cmpF Tryd.prog im 6 false Tryd.f5 = some a280 := by kernel_rfl
theorem c281 : cmpF Tryd.prog im 3 false Tryd.f7 = some a281 := by kernel_rfl
theorem c282 : cmpF Tryd.prog im 6 false Tryd.f9 = some a282 := by kernel_rfl
theorem c283 : cmpF Tryd.prog im 4 false Tryd.f10 = some a283 := by kernel_rfl
theorem c284 : cmpF Tryd.prog im 4 false Tryd.f12 = some a284 := by kernel_rfl
theorem c285 : cmpF Tryd.prog im 6 false Tryd.f13 = some a285 := by kernel_rfl
theorem c286 : cmpF Tryd.prog im 5 false Tryd.f15 = some a286 := by kernel_rfl
theorem c287 : cmpF Tryd.prog im 3 false Tryd.f16 = some a287 := by kernel_rfl
theorem c288 : cmpF Tryd.prog im 6 false Tryd.f20 = some a288 := by kernel_rfl
theorem c291 : cmpF Tryd.prog im 8 false Tryd.f29 = some a291 := by kernel_rfl
theorem c292 : cmpF Tryd.prog im 3 false Tryd.f30 = some a292 := by kernel_rfl
theorem c293 : cmpF Tryd.prog im 4 false Tryd.f31 = some a293 := by kernel_rfl
theorem c294 : cmpF Tryd.prog im 5 false Tryd.f32 = some a294 := by kernel_rfl
theorem c300 : cmpF Tryd.prog im 3 false Tryd.f43 = some a300 := by kernel_rfl
theorem c301 : cmpF Tryd.prog im 7 false Tryd.f44 = some a301 := by kernel_rfl
theorem c302 : cmpF Tryd.prog im 5 false Tryd.f45 = some a302 := by kernel_rfl
theorem c303 : cmpF Tryd.prog im 7 false Tryd.f46 = some a303 := by kernel_rfl
theorem c308 : cmpF Tryd.prog im 6 false Tryd.f53 = some a308 := by kernel_rfl
theorem c309 : cmpF Tryd.prog im 8 false Tryd.f54 = some a309 := by kernel_rfl
theorem c320 : cmpF Tryd.prog im 3 false Tryd.f65 = some a320 := by kernel_rfl
theorem c321 : cmpF Tryd.prog im 7 false Tryd.f66 = some a321 := by kernel_rfl

end Go.Proofs.YtnakomfbniipaaaDoor
end
section
/- The table of the compiled functions stands for the program. -/
namespace Go.Proofs.YtnakomfbniipaaaDoor
open Go M2

section
variable {es er : Value}
theorem g38 : Here Tryd.prog (mp es er) im 38 a38 := Here.of Tryd.f8  (by rw [show (mp es er).fm 38 = 8 from show (maps ims).fm 38 = 8 from by kernel_rfl]; exact Tryd.func8) c38
theorem g48 : Here Tryd.prog (mp es er) im 48 a48 := Here.of Tryd.f6  (by rw [show (mp es er).fm 48 = 6 from show (maps ims).fm 48 = 6 from by kernel_rfl]; exact Tryd.func6) c48
theorem g51 : Here Tryd.prog (mp es er) im 51 a51 := Here.of Tryd.f26  (by rw [show (mp es er).fm 51 = 26 from show (maps ims).fm 51 = 26 from by kernel_rfl]; exact Tryd.func26) c51
theorem g60 : Here Tryd.prog (mp es er) im 60 a60 := Here.of Tryd.f14  (by rw [show (mp es er).fm 60 = 14 from show (maps ims).fm 60 = 14 from by kernel_rfl]; exact Tryd.func14) c60
theorem g64 : Here Tryd.prog (mp es er) im 64 a64 := Here.of Tryd.f34  (by rw [show (mp es er).fm 64 = 34 from show (maps ims).fm 64 = 34 from by kernel_rfl]; exact Tryd.func34) c64
theorem g65 : Here Tryd.prog (mp es er) im 65 a65 := Here.of Tryd.f35  (by rw [show (mp es er).fm 65 = 35 from show (maps ims).fm 65 = 35 from by kernel_rfl]; exact Tryd.func35) c65
theorem g66 : Here Tryd.prog (mp es er) im 66 a66 := Here.of Tryd.f36  (by rw [show (mp es er).fm 66 = 36 from show (maps ims).fm 66 = 36 from by kernel_rfl]; exact Tryd.func36) c66
theorem g77 : Here Tryd.prog (mp es er) im 77 a77 := Here.of Tryd.f22  (by rw [show (mp es er).fm 77 = 22 from show (maps ims).fm 77 = 22 from by kernel_rfl]; exact Tryd.func22) c77
theorem g78 : Here Tryd.prog (mp es er) im 78 a78 := Here.of Tryd.f23  (by rw [show (mp es er).fm 78 = 23 from show (maps ims).fm 78 = 23 from by kernel_rfl]; exact Tryd.func23) c78
theorem g79 : Here Tryd.prog (mp es er) im 79 a79 := Here.of Tryd.f24  (by rw [show (mp es er).fm 79 = 24 from show (maps ims).fm 79 = 24 from by kernel_rfl]; exact Tryd.func24) c79
theorem g80 : Here Tryd.prog (mp es er) im 80 a80 := Here.of Tryd.f25  (by rw [show (mp es er).fm 80 = 25 from show (maps ims).fm 80 = 25 from by kernel_rfl]; exact Tryd.func25) c80
theorem g84 : Here Tryd.prog (mp es er) im 84 a84 := Here.of Tryd.f48  (by rw [show (mp es er).fm 84 = 48 from show (maps ims).fm 84 = 48 from by kernel_rfl]; exact Tryd.func48) c84
theorem g85 : Here Tryd.prog (mp es er) im 85 a85 := Here.of Tryd.f17  (by rw [show (mp es er).fm 85 = 17 from show (maps ims).fm 85 = 17 from by kernel_rfl]; exact Tryd.func17) c85
theorem g86 : Here Tryd.prog (mp es er) im 86 a86 := Here.of Tryd.f11  (by rw [show (mp es er).fm 86 = 11 from show (maps ims).fm 86 = 11 from by kernel_rfl]; exact Tryd.func11) c86
theorem g87 : Here Tryd.prog (mp es er) im 87 a87 := Here.of Tryd.f18  (by rw [show (mp es er).fm 87 = 18 from show (maps ims).fm 87 = 18 from by kernel_rfl]; exact Tryd.func18) c87
theorem g88 : Here Tryd.prog (mp es er) im 88 a88 := Here.of Tryd.f21  (by rw [show (mp es er).fm 88 = 21 from show (maps ims).fm 88 = 21 from by kernel_rfl]; exact Tryd.func21) c88
theorem g95 : Here Tryd.prog (mp es er) im 95 a95 := Here.of Tryd.f19  (by rw [show (mp es er).fm 95 = 19 from show (maps ims).fm 95 = 19 from by kernel_rfl]; exact Tryd.func19) c95
theorem g96 : Here Tryd.prog (mp es er) im 96 a96 := Here.of Tryd.f33  (by rw [show (mp es er).fm 96 = 33 from show (maps ims).fm 96 = 33 from by kernel_rfl]; exact Tryd.func33) c96
theorem g99 : Here Tryd.prog (mp es er) im 99 a99 := Here.of Tryd.f41  (by rw [show (mp es er).fm 99 = 41 from show (maps ims).fm 99 = 41 from by kernel_rfl]; exact Tryd.func41) c99
theorem g277 : Here Tryd.prog (mp es er) im 277 a277 := Here.of Tryd.f3  (by rw [show (mp es er).fm 277 = 3 from show (maps ims).fm 277 = 3 from by kernel_rfl]; exact Tryd.func3) c277
theorem g279 : Here Tryd.prog (mp es er) im 279 a279 := Here.of Tryd.f4  (by rw [show (mp es er).fm 279 = 4 from show (maps ims).fm 279 = 4 from by kernel_rfl]; exact Tryd.func4) c279
theorem g280 : Here Tryd.prog (mp es er) im 280 a280 := Here.of Tryd.f5  (by rw [show (mp es er).fm 280 = 5 from show (maps ims).fm 280 = 5 from by kernel_rfl]; exact Tryd.func5) c280
theorem g281 : Here Tryd.prog (mp es er) im 281 a281 := Here.of Tryd.f7  (by rw [show (mp es er).fm 281 = 7 from show (maps ims).fm 281 = 7 from by kernel_rfl]; exact Tryd.func7) c281
theorem g282 : Here Tryd.prog (mp es er) im 282 a282 := Here.of Tryd.f9  (by rw [show (mp es er).fm 282 = 9 from show (maps ims).fm 282 = 9 from by kernel_rfl]; exact Tryd.func9) c282
theorem g283 : Here Tryd.prog (mp es er) im 283 a283 := Here.of Tryd.f10  (by rw [show (mp es er).fm 283 = 10 from show (maps ims).fm 283 = 10 from by kernel_rfl]; exact Tryd.func10) c283
theorem g284 : Here Tryd.prog (mp es er) im 284 a284 := Here.of Tryd.f12  (by rw [show (mp es er).fm 284 = 12 from show (maps ims).fm 284 = 12 from by kernel_rfl]; exact Tryd.func12) c284
theorem g285 : Here Tryd.prog (mp es er) im 285 a285 := Here.of Tryd.f13  (by rw [show (mp es er).fm 285 = 13 from show (maps ims).fm 285 = 13 from by kernel_rfl]; exact Tryd.func13) c285
theorem g286 : Here Tryd.prog (mp es er) im 286 a286 := Here.of Tryd.f15  (by rw [show (mp es er).fm 286 = 15 from show (maps ims).fm 286 = 15 from by kernel_rfl]; exact Tryd.func15) c286
theorem g287 : Here Tryd.prog (mp es er) im 287 a287 := Here.of Tryd.f16  (by rw [show (mp es er).fm 287 = 16 from show (maps ims).fm 287 = 16 from by kernel_rfl]; exact Tryd.func16) c287
theorem g288 : Here Tryd.prog (mp es er) im 288 a288 := Here.of Tryd.f20  (by rw [show (mp es er).fm 288 = 20 from show (maps ims).fm 288 = 20 from by kernel_rfl]; exact Tryd.func20) c288
theorem f289 : (mp es er).fm 289 = 27 := show (maps ims).fm 289 = 27 from by kernel_rfl
theorem g289 : Here Tryd.prog (mp es er) im 289 a289 := Here.prim rfl (prim_itoa (by rw [f289]; exact ⟨Tryd.f27, Tryd.func27, by kernel_rfl, by kernel_rfl⟩) (by rw [f289]; exact Tryd.strconv_Itoa_small))
theorem f290 : (mp es er).fm 290 = 28 := show (maps ims).fm 290 = 28 from by kernel_rfl
theorem g290 : Here Tryd.prog (mp es er) im 290 a290 := Here.prim rfl (prim_join (by rw [f290]; exact ⟨Tryd.f28, Tryd.func28, by kernel_rfl, by kernel_rfl⟩) (by rw [f290]; exact Tryd.strings_Join_none) (by rw [f290]; exact Tryd.strings_Join))
theorem g291 : Here Tryd.prog (mp es er) im 291 a291 := Here.of Tryd.f29  (by rw [show (mp es er).fm 291 = 29 from show (maps ims).fm 291 = 29 from by kernel_rfl]; exact Tryd.func29) c291
theorem g292 : Here Tryd.prog (mp es er) im 292 a292 := Here.of Tryd.f30  (by rw [show (mp es er).fm 292 = 30 from show (maps ims).fm 292 = 30 from by kernel_rfl]; exact Tryd.func30) c292
theorem g293 : Here Tryd.prog (mp es er) im 293 a293 := Here.of Tryd.f31  (by rw [show (mp es er).fm 293 = 31 from show (maps ims).fm 293 = 31 from by kernel_rfl]; exact Tryd.func31) c293
theorem g294 : Here Tryd.prog (mp es er) im 294 a294 := Here.of Tryd.f32  (by rw [show (mp es er).fm 294 = 32 from show (maps ims).fm 294 = 32 from by kernel_rfl]; exact Tryd.func32) c294
theorem g300 : Here Tryd.prog (mp es er) im 300 a300 := Here.of Tryd.f43  (by rw [show (mp es er).fm 300 = 43 from show (maps ims).fm 300 = 43 from by kernel_rfl]; exact Tryd.func43) c300
theorem g301 : Here Tryd.prog (mp es er) im 301 a301 := Here.of Tryd.f44  (by rw [show (mp es er).fm 301 = 44 from show (maps ims).fm 301 = 44 from by kernel_rfl]; exact Tryd.func44) c301
theorem g302 : Here Tryd.prog (mp es er) im 302 a302 := Here.of Tryd.f45  (by rw [show (mp es er).fm 302 = 45 from show (maps ims).fm 302 = 45 from by kernel_rfl]; exact Tryd.func45) c302
theorem g303 : Here Tryd.prog (mp es er) im 303 a303 := Here.of Tryd.f46  (by rw [show (mp es er).fm 303 = 46 from show (maps ims).fm 303 = 46 from by kernel_rfl]; exact Tryd.func46) c303
theorem f304 : (mp es er).fm 304 = 47 := show (maps ims).fm 304 = 47 from by kernel_rfl
theorem g304 (hes : IfV es) (her : IfV er) : Here Tryd.prog (mp es er) im 304 a304 := Here.prim rfl (prim_terr (by rw [f304]; exact ⟨Tryd.f47, Tryd.func47, by kernel_rfl, by kernel_rfl⟩) (gs := 1) (gr := 2) (es := es) (er := er) (by show kb es er 1 0 = some es; unfold kb; rw [if_pos ⟨rfl, rfl⟩]) (by show kb es er 2 0 = some er; unfold kb; rw [if_neg (by decide), if_pos (by decide)])
  (fun fn s b c w h1 h2 => by rw [f304]; exact (Any.strconv_toError_syntax Tryd.laysC245 fn s b c es w h1 h2 hes).mono fun e w' ⟨N, h3, _, _, h4⟩ => ⟨N, h3, h4⟩)
  (fun fn s b c w h1 h2 => by rw [f304]; exact (Any.strconv_toError_range Tryd.laysC245 fn s b c er w h1 h2 her).mono fun e w' ⟨N, h3, _, _, h4⟩ => ⟨N, h3, h4⟩))
theorem g308 : Here Tryd.prog (mp es er) im 308 a308 := Here.of Tryd.f53  (by rw [show (mp es er).fm 308 = 53 from show (maps ims).fm 308 = 53 from by kernel_rfl]; exact Tryd.func53) c308
theorem g309 : Here Tryd.prog (mp es er) im 309 a309 := Here.of Tryd.f54  (by rw [show (mp es er).fm 309 = 54 from show (maps ims).fm 309 = 54 from by kernel_rfl]; exact Tryd.func54) c309
theorem g320 : Here Tryd.prog (mp es er) im 320 a320 := Here.of Tryd.f65  (by rw [show (mp es er).fm 320 = 65 from show (maps ims).fm 320 = 65 from by kernel_rfl]; exact Tryd.func65) c320
theorem g321 : Here Tryd.prog (mp es er) im 321 a321 := Here.of Tryd.f66  (by rw [show (mp es er).fm 321 = 66 from show (maps ims).fm 321 = 66 from by kernel_rfl]; exact Tryd.func66) c321
theorem nodup : ims.Nodup := by decide +kernel
theorem him : ∀ f x, im f = some x → (mp es er).fm x = f := him_of nodup
theorem mix : Tryd.prog.follows .mixedOrders = true := by kernel_rfl
theorem table (hes : IfV es) (her : IfV er) : Table Tryd.prog (mp es er) im tab.get := by
  refine table_ok ?_
  unfold tab
  exact (.node g281 (.node g84 (.node g65 (.node g51 (.node g48 (.node g38 .leaf .leaf) .leaf) (.node g64 (.node g60 .leaf .leaf) .leaf)) (.node g78 (.node g77 (.node g66 .leaf .leaf) .leaf) (.node g80 (.node g79 .leaf .leaf) .leaf))) (.node g96 (.node g87 (.node g86 (.node g85 .leaf .leaf) .leaf) (.node g95 (.node g88 .leaf .leaf) .leaf)) (.node g279 (.node g277 (.node g99 .leaf .leaf) .leaf) (.node g280 .leaf .leaf)))) (.node g293 (.node g287 (.node g284 (.node g283 (.node g282 .leaf .leaf) .leaf) (.node g286 (.node g285 .leaf .leaf) .leaf)) (.node g290 (.node g289 (.node g288 .leaf .leaf) .leaf) (.node g292 (.node g291 .leaf .leaf) .leaf))) (.node (g304 hes her) (.node g301 (.node g300 (.node g294 .leaf .leaf) .leaf) (.node g303 (.node g302 .leaf .leaf) .leaf)) (.node g320 (.node g309 (.node g308 .leaf .leaf) .leaf) (.node g321 .leaf .leaf)))))
end

end Go.Proofs.YtnakomfbniipaaaDoor
end
section
namespace M2
open Go Go.ChangeShapes Go.WideShapes Go.ChangeAt Go.RowKit

/-! ### Laws that look at nothing of their argument but whether one slice is there, and how long it is -/

def OneSl (a : AV) : Prop := a = .nils ∨ a = .sl0 ∨ ∃ e pos cap alt n, a = .sl 0 e pos cap false alt (List.replicate n .und)

def oneG (W : World) (p : Place) : G := { n := 1, ok := fun i => i = 0, ρ := fun _ => p, ν := fun _ => 0, μ := fun _ => .oth, w := W }

theorem oneG_sr (M : Maps) (W : World) (p : Place) (hk : ∀ b o v, M.kb b o = some v → W.cell? ⟨b, o, none⟩ = some v) : SR M (oneG W p) ⟨1, [], []⟩ :=
  { n := rfl, wf := ⟨by simp, fun p hp => by simp at hp, by simp, fun p hp => by simp at hp⟩, okn := fun i h => by have : i = 0 := h; subst this; exact Nat.one_pos,
    var := fun x o hx => by simp [look2_nil] at hx, inj := fun x y o o' hx => by simp [look2_nil] at hx,
    ids := fun i en e hx => by simp [look2_nil] at hx, idinj := fun i j a b hx => by simp [look2_nil] at hx,
    kept := fun b o v hb => ⟨World.block_lt_of_cell? _ _ (hk b o v hb), rfl, hk b o v hb⟩ }

/-- a slice, but for what stands in it -/
theorem oneSl_of {M : Maps} {W : World} {n K : Nat} {a : AV} {v : Value} (hv : VR M (argG W n K) a v) (ha : a = .nils ∨ a = .sl0 ∨ ∃ id e pos cap alt es, a = .sl id e pos cap false alt es) :
    ∃ a' p, OneSl a' ∧ VR M (oneG W p) a' v := by
  rcases ha with rfl | rfl | ⟨id, e, pos, cap, alt, es, rfl⟩
  · cases hv
    exact ⟨.nils, ⟨0, 0, 0⟩, .inl rfl, .nils⟩
  · cases hv with
    | sl0 b o sp => exact ⟨.sl0, ⟨0, 0, 0⟩, .inr (.inl rfl), .sl0 b o sp⟩
  · cases hv with
    | sl id e pos cap fl alt es b off ccap vs hid hcc hb hoff hlen hvv hsz hc hf =>
      refine ⟨.sl 0 e pos cap false alt (List.replicate es.length .und), (argG W n K).ρ id, .inr (.inr ⟨e, pos, cap, alt, es.length, rfl⟩), ?_⟩
      have := VR.sl (M := M) (g := oneG W ((argG W n K).ρ id)) 0 e pos cap false alt (List.replicate es.length .und) b off ccap vs rfl hcc hb hoff (by simpa using hlen)
        (fun i hi => by rw [List.getElem_replicate]; exact .und _) (fun i hi => hsz i (by simpa using hi)) (fun i j hi hj => hc i j (by simpa using hi) hj) ⟨hf.1, trivial⟩
      simpa using this

theorem law_run0 {P : Program} {M : Maps} {im : FuncId → Option Nat} {tbl : Nat → Option AFunc} (hmix : P.follows .mixedOrders = true) (him : ∀ f x, im f = some x → M.fm x = f) (ht : Table P M im tbl)
    {H : Type} {enc : TypeId × Value → H} {W : World} {base id tf : Nat} {t : TypeId} {fs : Array Field} (hu : P.underlying t = some (.struct fs)) (ha : argT P (tf + 1) t = true) {v : Value} {d : DataW H} {p : List MemPlace}
    (hval : Value.okWide P W .any base t v) (htr : DataW.Trod enc P W 0 (fun _ => true) true t v d p)
    {w j i : Nat} {fl : Field} {e : TypeId} (hw : P.cellsOf t = w) (hfl : fs[i]? = some fl) (hoff : fl.offset = j) (hjw : j < w) (hsl : P.underlying fl.type = some (.slice e)) (hc1 : P.cellsOf fl.type = 1) (htf : tf ≠ 0)
    (hrun : ∀ a, OneSl a → ∃ n t', callA tbl (ev tbl n) id [.agg ((List.replicate w AV.und).set j a)] ⟨1, [], []⟩ = .ok (.bool true) t') (hkb : ∀ b o v, M.kb b o = some v → W.cell? ⟨b, o, none⟩ = some v := by exact fun _ _ _ h => nomatch (show (none : Option Value) = some _ from h)) :
    Calls P (M.fm id) #[v] W fun e W' => e = .returned (.bool true) ∧ Below W.heap.size W W' := by
  obtain ⟨K, hK0, hK⟩ := size_bound W
  obtain ⟨fuel, htr⟩ := htr
  unfold Value.okWide at hval
  rw [hu] at hval
  obtain ⟨cs, rfl, hcs, -⟩ := hval
  obtain ⟨ascs, h1, h2, h3, -⟩ := trod_vr (M := M) hK0 hK fuel (tf + 1) t _ _ ha htr
  have hl : ascs.length = cs.size := by simpa [Value.cells] using h2
  unfold DA at h1
  rw [hu] at h1
  obtain ⟨ps, -, hps, hasl, hf⟩ := h1
  obtain ⟨hi, hfi⟩ := Array.getElem?_eq_some_iff.mp hfl
  have h4 := hf i hi (by omega)
  rw [hfi, hoff, hc1] at h4
  have hjl : j < ascs.length := by rw [hasl, hw]; exact hjw
  have hone : (ascs.drop j).take 1 = [ascs[j]] := by rw [List.drop_eq_getElem_cons hjl]; rfl
  rw [hone] at h4
  have hkind : ascs[j] = .nils ∨ ascs[j] = .sl0 ∨ ∃ id e pos cap alt es, ascs[j] = .sl id e pos cap false alt es := by
    cases tf with
    | zero => exact absurd rfl htf
    | succ tf =>
      unfold DA at h4
      rw [hsl] at h4
      rcases h4 with ⟨-, h⟩ | ⟨elems, spare, es, -, -, -, -, ⟨-, h⟩ | ⟨id, pos, h⟩⟩
      · injection h with h; exact .inl h
      · injection h with h; exact .inr (.inl h)
      · injection h with h; exact .inr (.inr ⟨_, _, _, _, _, _, h⟩)
  have h5 := h3 j (by simpa using hjl)
  obtain ⟨a', pl, ho, hv'⟩ := oneSl_of h5 hkind
  obtain ⟨n, t', hr⟩ := hrun a' ho
  refine link (g := oneG W pl) hmix him ht (fun _ _ => rfl) (oneG_sr M W pl hkb) rfl (fun q hq => ?_) hr
  have hq0 : q = 0 := by simpa using hq
  subst hq0
  simp only [List.getElem_cons_zero]
  refine .agg _ cs (by simp [← hl, hasl, hw]) (fun q hq => ?_)
  by_cases e : j = q
  · subst e
    simp only [List.getElem_set_self]
    simpa [Value.cells, Array.getD_eq_getD_getElem?, List.getD_eq_getElem?_getD] using hv'
  · rw [List.getElem_set_ne e, List.getElem_replicate]
    exact .und _

end M2
end
section
namespace M2
open Go

/-! #### more fuel, the same answer; rules to cut a run in pieces -/

def CallLe (c1 c2 : CallF) : Prop := ∀ f ascs t, c1 f ascs t ≠ .fail → c2 f ascs t = c1 f ascs t
def EvLe (e1 e2 : Ev) : Prop := ∀ c F t, e1 c F t ≠ .fail → e2 c F t = e1 c F t

section
variable {c1 c2 : CallF} {e1 e2 : Ev} {tbl : Nat → Option AFunc}

theorem run_mono (h : CallLe c1 c2) (ao : AOp) (F : Fr) (t : T) (hne : ao.run c1 F t ≠ .fail) : ao.run c2 F t = ao.run c1 F t := by
  cases ao with
  | call f xs => exact h _ _ _ hne
  | calld f xs =>
    change opCalld f xs c2 F t = opCalld f xs c1 F t
    change opCalld f xs c1 F t ≠ .fail at hne
    unfold opCalld at *
    split
    · rename_i hp
      rw [hp] at hne
      exact h _ _ _ hne
    · rfl
  | _ => rfl

theorem runOps_mono (h : CallLe c1 c2) : ∀ (l : List AO) (F : Fr) (t : T), runOps l c1 F t ≠ .fail → runOps l c2 F t = runOps l c1 F t := by
  intro l
  induction l with
  | nil => intro F t _; rfl
  | cons o l ih =>
    intro F t hne
    change opsCons o l (fun call F t => runOps l call F t) c1 F t ≠ .fail at hne
    change opsCons o l (fun call F t => runOps l call F t) c2 F t = opsCons o l (fun call F t => runOps l call F t) c1 F t
    unfold opsCons at *
    split
    · rename_i hw
      rw [hw] at hne
      simp only at hne
      cases hr : o.op.run c1 F t with
      | fail => rw [hr] at hne; exact absurd rfl hne
      | ok v t1 =>
        rw [run_mono h o.op F t (by rw [hr]; simp), hr]
        rw [hr] at hne
        exact ih _ _ hne
    · rename_i hw
      rw [hw] at hne
      exact ih _ _ hne
    · rfl

theorem runD_mono (h : CallLe c1 c2) (ws : List AO) : ∀ (ks : List (DK × AO)) (F : Fr) (t : T) (l : Log), runD ks ws c1 F t l ≠ .fail → runD ks ws c2 F t l = runD ks ws c1 F t l := by
  intro ks
  induction ks with
  | nil => intro F t l hne; exact runOps_mono h ws F t hne
  | cons o ks ih =>
    intro F t l hne
    change dCons o ks (fun call F t l => runD ks ws call F t l) c1 F t l ≠ .fail at hne
    change dCons o ks (fun call F t l => runD ks ws call F t l) c2 F t l = dCons o ks (fun call F t l => runD ks ws call F t l) c1 F t l
    unfold dCons at *
    split
    · rename_i hw
      rw [hw] at hne
      simp only at hne
      split
      · rename_i l1 hl
        rw [hl] at hne
        simp only at hne
        cases hr : o.2.op.run c1 F (viewD o.1 t) with
        | fail => rw [hr] at hne; exact absurd rfl hne
        | ok v t1 =>
          rw [run_mono h o.2.op F _ (by rw [hr]; simp), hr]
          rw [hr] at hne
          simp only at hne ⊢
          split
          · rename_i t2 hm
            rw [hm] at hne
            exact ih _ _ _ hne
          · rfl
      · rfl
    · rename_i hw
      rw [hw] at hne
      exact ih _ _ _ hne
    · rfl

theorem stepI_mono (h : CallLe c1 c2) (q : Nat × Nat × Bool × AO) (F : Fr) (t : T) {r : Fr × T} (hr : stepI c1 q F t = some r) : stepI c2 q F t = some r := by
  unfold stepI at *
  split at hr
  · rename_i hw
    cases hq : q.2.2.2.op.run c1 F t with
    | fail => rw [hq] at hr; cases hr
    | ok v t1 =>
      rw [run_mono h q.2.2.2.op F t (by rw [hq]; simp), hq]
      rw [hq] at hr
      exact hr
  · exact hr
  · cases hr

theorem succI_mono (h : CallLe c1 c2) (p : Pl) : ∀ (qs : List (Nat × Nat × Bool × AO)) (acc l : List Pl), succI c1 p qs acc = some l → succI c2 p qs acc = some l
  | [], _, _, hl => hl
  | q :: qs, acc, l, hl => by
    unfold succI at hl ⊢
    split at hl
    · rename_i r hr
      rw [stepI_mono h q _ _ hr]
      simp only
      split at hl
      · rename_i acc' ha
        exact succI_mono h p qs acc' l hl
      · cases hl
    · cases hl

theorem layI_mono (h : CallLe c1 c2) (os : List (Nat × Nat × Bool × AO)) : ∀ (l acc l2 : List Pl), layI os c1 l acc = some l2 → layI os c2 l acc = some l2
  | [], _, _, hl => hl
  | p :: l, acc, l2, hl => by
    unfold layI at hl ⊢
    split at hl
    · cases hl
    · split at hl
      · rename_i acc' ha
        rw [succI_mono h p _ _ _ ha]
        exact layI_mono h os l acc' l2 hl
      · cases hl

theorem runI_mono (h : CallLe c1 c2) (os : List (Nat × Nat × Bool × AO)) (full : Nat) : ∀ (n : Nat) (l : List Pl), runI os full c1 n l ≠ .fail → runI os full c2 n l = runI os full c1 n l := by
  intro n
  induction n with
  | zero => intro l hne; rfl
  | succ n ih =>
    intro l hne
    unfold runI at hne ⊢
    split at hne
    · rename_i l' hl
      rw [layI_mono h os _ _ _ hl]
      exact ih l' hne
    · exact absurd rfl hne

theorem callA_le (h : EvLe e1 e2) : CallLe (callA tbl e1) (callA tbl e2) := by
  intro f xs t hne
  unfold callA at *
  split
  · rename_i fn hf
    rw [hf] at hne
    simp only at hne
    split
    · rename_i F hF
      rw [hF] at hne
      simp only at hne
      cases hr : e1 fn.body F t.enter with
      | fail => rw [hr] at hne; exact absurd rfl hne
      | _ => rw [h fn.body F t.enter (by rw [hr]; simp), hr]
    · rfl
  · rfl

end

theorem ev_le (tbl : Nat → Option AFunc) : ∀ n, EvLe (ev tbl n) (ev tbl (n + 1)) := by
  intro n
  induction n with
  | zero => intro c F t hne; exact absurd rfl hne
  | succ n ih =>
    intro c F t hne
    have hc := callA_le (tbl := tbl) ih
    cases c with
    | skip => rfl
    | reg ops => exact runOps_mono hc ops F t hne
    | regd rs ws => exact runD_mono hc ws rs F t [] hne
    | regx full os => exact runI_mono hc os full _ _ hne
    | seq a b =>
      change (RR.rec (motive := fun _ => RR) .fail (ev tbl (n + 1) b) RR.exit RR.ret (ev tbl (n + 1) a F t)) = (RR.rec (motive := fun _ => RR) .fail (ev tbl n b) RR.exit RR.ret (ev tbl n a F t))
      change (RR.rec (motive := fun _ => RR) .fail (ev tbl n b) RR.exit RR.ret (ev tbl n a F t)) ≠ .fail at hne
      cases hr : ev tbl n a F t with
      | fail => rw [hr] at hne; exact absurd rfl hne
      | norm F1 t1 =>
        rw [ih a F t (by rw [hr]; simp), hr]
        rw [hr] at hne
        exact ih b F1 t1 hne
      | _ => rw [ih a F t (by rw [hr]; simp), hr]
    | cond c a b =>
      change cCond c a b (fun _ _ _ _ => .fail) (fun _ _ _ _ => .fail) tbl (ev tbl (n + 1)) F t = cCond c a b (fun _ _ _ _ => .fail) (fun _ _ _ _ => .fail) tbl (ev tbl n) F t
      change cCond c a b (fun _ _ _ _ => .fail) (fun _ _ _ _ => .fail) tbl (ev tbl n) F t ≠ .fail at hne
      unfold cCond at *
      split
      · rename_i x hx
        rw [hx] at hne
        cases x with
        | true => exact ih a F t hne
        | false => exact ih b F t hne
      · rfl
    | block id b =>
      change (RR.rec (motive := fun _ => RR) .fail RR.norm (fun i f t => Bool.rec (motive := fun _ => RR) (.exit i f t) (.norm f t) (Nat.beq i id)) RR.ret (ev tbl (n + 1) b F t)) =
        (RR.rec (motive := fun _ => RR) .fail RR.norm (fun i f t => Bool.rec (motive := fun _ => RR) (.exit i f t) (.norm f t) (Nat.beq i id)) RR.ret (ev tbl n b F t))
      change (RR.rec (motive := fun _ => RR) .fail RR.norm (fun i f t => Bool.rec (motive := fun _ => RR) (.exit i f t) (.norm f t) (Nat.beq i id)) RR.ret (ev tbl n b F t)) ≠ .fail at hne
      cases hr : ev tbl n b F t with
      | fail => rw [hr] at hne; exact absurd rfl hne
      | _ => rw [ih b F t (by rw [hr]; simp), hr]
    | loop b =>
      change (RR.rec (motive := fun _ => RR) .fail (ev tbl (n + 1) (.loop b)) RR.exit RR.ret (ev tbl (n + 1) b F t)) = (RR.rec (motive := fun _ => RR) .fail (ev tbl n (.loop b)) RR.exit RR.ret (ev tbl n b F t))
      change (RR.rec (motive := fun _ => RR) .fail (ev tbl n (.loop b)) RR.exit RR.ret (ev tbl n b F t)) ≠ .fail at hne
      cases hr : ev tbl n b F t with
      | fail => rw [hr] at hne; exact absurd rfl hne
      | norm F1 t1 =>
        rw [ih b F t (by rw [hr]; simp), hr]
        rw [hr] at hne
        exact ih (.loop b) F1 t1 hne
      | _ => rw [ih b F t (by rw [hr]; simp), hr]
    | exit id => rfl
    | ret => rfl

theorem ev_more {tbl : Nat → Option AFunc} {n m : Nat} (h : n ≤ m) {c : Cd} {F : Fr} {t : T} {r : RR} (hr : ev tbl n c F t = r) (hne : r ≠ .fail) : ev tbl m c F t = r := by
  induction m with
  | zero => have : n = 0 := by omega
            subst this; exact hr
  | succ m ih =>
    by_cases e : n = m + 1
    · subst e; exact hr
    · have := ih (by omega)
      rw [ev_le tbl m c F t (by rw [this]; exact hne), this]

theorem call_more {tbl : Nat → Option AFunc} {n m : Nat} (h : n ≤ m) {f : Nat} {xs : List AV} {t t' : T} {v : AV} (hr : callA tbl (ev tbl n) f xs t = .ok v t') : callA tbl (ev tbl m) f xs t = .ok v t' := by
  have hle : EvLe (ev tbl n) (ev tbl m) := fun c F t hne => ev_more h rfl hne
  rw [callA_le hle f xs t (by rw [hr]; simp), hr]

end M2
end
section
namespace M2
open Go

/-! ### A law that hands one row of texts to a function -/

def okR (r : OR) : Bool := match r with | .ok (.bool b) _ => b | _ => false
theorem okR_ok {r : OR} (h : okR r = true) : ∃ t, r = .ok (.bool true) t := by
  unfold okR at h
  split at h
  · subst h; exact ⟨_, rfl⟩
  · cases h

noncomputable def body2 (c1 c2 : CallF) (fn : AFunc) (l1 l2 : List AO) (F : Fr) (t : T) : OR :=
  RR.rec (motive := fun _ => OR) .fail (fun F t => RR.rec (motive := fun _ => OR) .fail (fun F t => afterBody fn F t) (fun _ _ _ => .fail) (fun F t => afterBody fn F t) (runOps l2 c2 F t)) (fun _ _ _ => .fail) (fun F t => afterBody fn F t) (runOps l1 c1 F t)

theorem runOps_norm (c : CallF) : ∀ (l : List AO) (F : Fr) (t : T), runOps l c F t = .fail ∨ ∃ F' t', runOps l c F t = .norm F' t' := by
  intro l
  induction l with
  | nil => intro F t; exact .inr ⟨F, t, rfl⟩
  | cons o l ih =>
    intro F t
    rw [show runOps (o :: l) c F t = opsCons o l (fun call F t => runOps l call F t) c F t from rfl]
    unfold opsCons
    split
    · split
      · exact ih _ _
      · exact .inl rfl
    · exact ih _ _
    · exact .inl rfl

theorem callA_eq {tbl : Nat → Option AFunc} {e : Ev} {id : Nat} {fn : AFunc} {args : List AV} {F : Fr} {t : T} (hf : tbl id = some fn) (ha : argsIn fn.params args .nil = some F) :
    callA tbl e id args t = RR.rec (motive := fun _ => OR) .fail (fun f t => afterBody fn f t) (fun _ _ _ => .fail) (fun f t => afterBody fn f t) (e fn.body F t.enter) := by
  unfold callA
  rw [hf]
  simp only
  rw [ha]
  simp only
  cases e fn.body F t.enter <;> rfl

theorem callA_body2 {tbl : Nat → Option AFunc} {N id : Nat} {fn : AFunc} {l1 l2 : List AO} {args : List AV} {F : Fr} {t : T} (hf : tbl id = some fn) (hb : fn.body = .seq (.reg l1) (.seq (.reg l2) .ret)) (ha : argsIn fn.params args .nil = some F) :
    callA tbl (ev tbl (N + 3)) id args t = body2 (callA tbl (ev tbl (N + 1))) (callA tbl (ev tbl N)) fn l1 l2 F t.enter := by
  rw [callA_eq hf ha, hb]
  generalize hc1 : callA tbl (ev tbl (N + 1)) = c1
  generalize hc2 : callA tbl (ev tbl N) = c2
  have e1 : ev tbl (N + 3) (.seq (.reg l1) (.seq (.reg l2) .ret)) F t.enter = RR.rec (motive := fun _ => RR) .fail (ev tbl (N + 2) (.seq (.reg l2) .ret)) RR.exit RR.ret (runOps l1 c1 F t.enter) := by rw [← hc1]; rfl
  have e2 : ∀ F t, ev tbl (N + 2) (.seq (.reg l2) .ret) F t = RR.rec (motive := fun _ => RR) .fail (ev tbl (N + 1) .ret) RR.exit RR.ret (runOps l2 c2 F t) := fun _ _ => by rw [← hc2]; rfl
  rw [e1]
  unfold body2
  rcases runOps_norm c1 l1 F t.enter with h | ⟨F', t', h⟩
  · rw [h]
  · rw [h]
    simp only
    rw [e2]
    rcases runOps_norm c2 l2 F' t' with k | ⟨F2, t2, k⟩
    · rw [k]
    · rw [k]
      rfl

end M2
end
section
namespace M2
open Go
open Classical

/-! ### A call that looks at nothing of the state: run it in an empty one -/

noncomputable def G.upd (g g' : G) : G := { n := g.n, ok := g.ok, ρ := g.ρ, ν := g.ν, μ := fun b => if b < g.w.heap.size then g.μ b else .oth, w := g'.w }
def allB (g : G) : Nat → Prop := fun b => b < g.w.heap.size
noncomputable def G.shutAll (g : G) : G := g.view g.n (fun _ => True) (allB g)

theorem le_upd {g g' : G} {n : Nat} {p : Nat → Prop} (h : (g.view n p (allB g)).Le g') : g.Le (g.upd g') where
  n := Nat.le_refl _
  ok _ hi := hi
  new _ hi := .inl hi
  ρ _ _ := rfl
  ν _ _ := rfl
  size := h.size
  lim _ k hb hk := ⟨k, (if_pos hb).trans hk, Nat.le_refl _, fun _ _ => cell?_of_heap (back_sealed h (fun _ hb => hb) hb).1⟩
  oth _ hb _ := ⟨if_pos hb, (back_sealed h (fun _ hb => hb) hb).1⟩
  os := h.os
  tape := h.tape
  output := h.output
  sz := h.sz

theorem sr_upd {M : Maps} {g g' : G} {t : T} (hS : SR M g t) {n : Nat} {p : Nat → Prop} (h : (g.view n p (allB g)).Le g') : SR M (g.upd g') t where
  n := hS.n
  wf := hS.wf
  okn := hS.okn
  var x o hx := by
    obtain ⟨h1, h2, h3⟩ := hS.var x o hx
    exact ⟨h1, (if_pos h3.lt).trans h2, h3.ext (le_upd h).ext (back_sealed h (fun _ hb => hb) h3.lt).1⟩
  inj := hS.inj
  ids i en e hx := by
    obtain ⟨h1, h2, c, ty, fz, h3, h4, h5⟩ := hS.ids i en e hx
    have hb : (g.ρ i).block < g.w.heap.size := (Array.getElem?_eq_some_iff.mp h3).1
    have he : (g.upd g').w.heap[(g.ρ i).block]? = g.w.heap[(g.ρ i).block]? := (back_sealed h (fun _ hb => hb) hb).1
    refine ⟨h1, (if_pos hb).trans h2, c, ty, fz, he.trans h3, fun off ho => ?_, h5⟩
    have := h4 off ho
    simp only [World.frozen?] at this ⊢
    show (match (g.upd g').w.heap[(g.ρ i).block]? with | some (.cells c elem (lo, hi)) => decide (lo ≤ off) && decide (off < hi) | x => false) = false
    rw [he]
    exact this
  idinj := hS.idinj
  kept := hS.kept.mono (le_upd h)

noncomputable def orc (f : Nat) (avs : List AV) (n : Nat) : CallF := fun f' args t => if f' = f ∧ args = avs ∧ t.n = n then .ok (.bool true) t else .fail
theorem orc_eq {f : Nat} {avs : List AV} {n : Nat} {t : T} (h : t.n = n) : orc f avs n f avs t = .ok (.bool true) t := if_pos ⟨rfl, rfl, h⟩

section
variable {P : Program} {M : Maps} {im : FuncId → Option Nat} {tbl : Nat → Option AFunc}

theorem orc_ok (hmix : P.follows .mixedOrders = true) (him : ∀ f x, im f = some x → M.fm x = f) (ht : Table P M im tbl) {k f n : Nat} {avs : List AV} {t' : T}
    (h : callA tbl (ev tbl k) f avs ⟨n, [], []⟩ = .ok (.bool true) t') : CallOK P M (orc f avs n) := by
  intro f' args t r t1 hr
  unfold orc at hr
  split at hr
  · rename_i hc
    obtain ⟨rfl, rfl, hn⟩ := hc
    cases hr
    obtain ⟨hgood, hs⟩ := call_sound hmix him ht k f' args _ _ _ h
    refine ⟨hgood, fun g cargs hS hsz hv => ?_⟩
    have hS0 : SR M g.shutAll ⟨n, [], []⟩ :=
      { n := hS.n.trans hn, wf := ⟨by simp, fun p hp => by simp at hp, by simp, fun p hp => by simp at hp⟩, okn := fun i hi => hn ▸ hS.okn i hi.1,
        var := fun x o hx => by simp [look2_nil] at hx, inj := fun x y o o' hx => by simp [look2_nil] at hx,
        ids := fun i en e hx => by simp [look2_nil] at hx, idinj := fun i j a b hx => by simp [look2_nil] at hx,
        kept := hS.kept.view _ _ _ }
    have hext : g.Ext g.shutAll := by
      have h1 : g.Ext (g.sub fun _ => True) := ⟨fun i hi => ⟨hi, trivial⟩, fun _ _ => rfl, fun _ _ => rfl, fun _ _ h => h, fun _ _ _ _ _ => rfl, fun _ hb => ⟨hb, rfl⟩⟩
      have h2 := g.ext_view g.n (fun _ => True) (allB g)
      exact ⟨fun i hi => h2.ok i (h1.ok i hi), fun i hi => (h2.ρ i (h1.ok i hi)).trans (h1.ρ i hi), fun i hi => (h2.ν i (h1.ok i hi)).trans (h1.ν i hi), fun b m hf => h2.fixed b m (h1.fixed b m hf), fun _ _ _ _ _ => rfl, fun _ hb => ⟨hb, rfl⟩⟩
    refine (hs g.shutAll cargs hS0 hsz (fun i hi => (hv i hi).ext hext)).mono ?_
    rintro e w' ⟨v, g', rfl, rfl, hle, hvr, -⟩
    cases hvr
    exact ⟨_, g.upd g', rfl, rfl, le_upd hle, .bool true, sr_upd hS hle⟩
  · cases hr

/-! ### A body without loops, its calls answered by others -/

noncomputable def evC (call : CallF) (c : Cd) : Fr → T → RR :=
  Cd.rec (motive := fun _ => Fr → T → RR) (fun F t => .norm F t) (fun l F t => runOps l call F t) (fun _ _ _ _ => .fail) (fun _ _ _ _ => .fail)
    (fun _ _ iha ihb F t => RR.rec (motive := fun _ => RR) .fail ihb RR.exit RR.ret (iha F t)) (fun _ _ _ _ _ _ _ => .fail) (fun _ _ _ _ _ => .fail) (fun _ _ _ _ => .fail) (fun _ _ _ => .fail) (fun F t => .ret F t) c

noncomputable def outC (fn : AFunc) (r : RR) : OR := match r with | .norm f t => afterBody fn f t | .ret f t => afterBody fn f t | _ => .fail
noncomputable def callC (call : CallF) (fn : AFunc) (args : List AV) (t : T) : OR :=
  match argsIn fn.params args .nil with
  | some f => outC fn (evC call fn.body f t.enter)
  | none => .fail

theorem cmpR_drawn {d ntmps : Nat} {ops : Array Oper} {ac : Cd} (h : cmpR P im d ntmps ops = some ac) (call : CallF) (F : Fr) (t : T) : evC call ac F t = .fail := by
  have hd0 : ∀ h c, cmpD0 P im d ntmps h ops = some c → evC call c F t = .fail := by
    intro h c hc
    unfold cmpD0 at hc
    simp only [Option.bind_eq_bind, Option.bind_eq_some_iff] at hc
    obtain ⟨_, _, _, _, _, _, e⟩ := hc
    split at e
    · cases e; rfl
    · cases e
  have hd : ∀ c, cmpD P im d ntmps ops = some c → evC call c F t = .fail := by
    intro c hc
    unfold cmpD at hc
    split at hc
    · split at hc
      · rename_i c' hcc; cases hc; exact hd0 _ _ hcc
      · exact hd0 _ _ hc
    · split at hc
      · rename_i c' hcc; cases hc; exact hd0 _ _ hcc
      · exact hd0 _ _ hc
  have hx : ∀ c, cmpX P im d ntmps ops = some c → evC call c F t = .fail := by
    intro c hc
    unfold cmpX at hc
    simp only [Option.bind_eq_bind, Option.bind_eq_some_iff] at hc
    obtain ⟨_, _, e⟩ := hc
    split at e
    · cases e; rfl
    · cases e
  unfold cmpR at h
  split at h
  · split at h
    · rename_i c hcc; cases h; exact hx _ hcc
    · exact hd _ h
  · split at h
    · rename_i c hcc; cases h; exact hd _ hcc
    · exact hx _ h

theorem evC_sound (him : ∀ f x, im f = some x → M.fm x = f) {call : CallF} (hcall : CallOK P M call) : CodeOK P M im (evC call) := by
  intro d ntmps c
  induction c with
  | skip => intro ac hc g F t a Q hf hp; cases hc; exact wp_skip (hp g a (.refl g) hf)
  | region id ops draw =>
    intro ac hc g F t a Q hf hp
    simp only [cmpC] at hc
    split at hc
    · rw [cmpR_drawn hc] at hp
      exact hp.elim
    · rename_i hd
      rw [Option.map_eq_some_iff] at hc
      obtain ⟨al, hal, rfl⟩ := hc
      have : draw = false := by simpa using hd
      subst this
      exact wp_region_list (ops_sound him hcall ops Q ops.toList al hal g F t a hf hp)
  | seq x y ihx ihy =>
    intro ac hc g F t a Q hf hp
    simp only [cmpC, Option.bind_eq_bind, Option.bind_eq_some_iff] at hc
    obtain ⟨x', hx, y', hy, e⟩ := hc
    cases e
    have hp' : Post M g d ntmps Q (RR.rec (motive := fun _ => RR) .fail (evC call y') RR.exit RR.ret (evC call x' F t)) := hp
    refine wp_seq (ihx x' hx g F t a _ hf ?_)
    cases hr : evC call x' F t with
    | fail => rw [hr] at hp'; exact hp'
    | norm F1 t1 =>
      rw [hr] at hp'
      intro g' a' hle hf'
      exact ihy y' hy g' F1 t1 a' Q hf' (hp'.later hle)
    | exit id F1 t1 => rw [hr] at hp'; exact hp'
    | ret F1 t1 => rw [hr] at hp'; exact hp'
  | ret => intro ac hc g F t a Q hf hp; cases hc; exact wp_ret (hp g a (.refl g) hf)
  | cond c x y ihx ihy =>
    intro ac hc g F t a Q hf hp
    simp only [cmpC, Option.bind_eq_bind, Option.bind_eq_some_iff] at hc
    obtain ⟨c', hc', x', hx, y', hy, e⟩ := hc
    cases e
    exact hp.elim
  | block id b ih =>
    intro ac hc g F t a Q hf hp
    simp only [cmpC, Option.bind_eq_bind, Option.bind_eq_some_iff] at hc
    obtain ⟨b', hb, e⟩ := hc
    cases e
    exact hp.elim
  | loop b ih =>
    intro ac hc g F t a Q hf hp
    simp only [cmpC, Option.bind_eq_bind, Option.bind_eq_some_iff] at hc
    obtain ⟨b', hb, e⟩ := hc
    cases e
    exact hp.elim
  | exit id => intro ac hc g F t a Q hf hp; cases hc; exact hp.elim
  | _ => intro ac hc g F t a Q hf hp; simp [cmpC] at hc

theorem callC_sound (him : ∀ f x, im f = some x → M.fm x = f) (ht : Table P M im tbl) {call : CallF} (hcall : CallOK P M call) {f : Nat} {fn : AFunc} (hfn : tbl f = some fn) (hdp : fn.depth < 50 := by decide) {args : List AV} {t t' : T} {r : AV}
    (hr : callC call fn args t = .ok r t') : Good P (M.fm f) ∧ ∀ g cargs, SR M g t → cargs.size = args.length → (∀ i (h : i < args.length), VR M g args[i] (cargs.getD i undef)) →
    Calls P (M.fm f) cargs g.w fun e w' => ∃ v g', e = .returned v ∧ g'.w = w' ∧ g.Le g' ∧ VR M g' r v ∧ SR M g' t' := by
  have hcode := evC_sound (P := P) (M := M) (im := im) him hcall
  unfold callC at hr
  obtain ⟨gf, hgf, hcf⟩ := ht.cmp hfn hdp
  unfold cmpF at hcf
  split at hcf
  · rename_i hcond
    obtain ⟨c1, c2, c3⟩ := hcond
    simp only [Option.bind_eq_bind, Option.bind_eq_some_iff] at hcf
    obtain ⟨c, hbody, b, hb, rs, hrs, e⟩ := hcf
    have hgood : Good P (M.fm f) := ⟨gf, hgf, by simpa using c3, by simp [hbody]⟩
    refine ⟨hgood, ?_⟩
    intro g cargs hS hsz hv
    have efn : fn = { depth := fn.depth, params := (List.range (gf.params.size + gf.nfree)).map (pth fn.depth), results := rs, keep := fn.keep, body := b } := by simpa using e.symm
    have eparams : fn.params = (List.range (gf.params.size + gf.nfree)).map (pth fn.depth) := by rw [efn]
    have ebody : fn.body = b := by rw [efn]
    have eres : fn.results = rs := by rw [efn]
    cases ha : argsIn fn.params args .nil with
    | none => rw [ha] at hr; cases hr
    | some F =>
      rw [ha] at hr
      simp only at hr
      have hnd : fn.params.Nodup := by
        rw [eparams]
        exact pth_nodup (by omega)
      obtain ⟨a1, a2⟩ := argsIn_ok _ _ _ _ ha hnd
      have hnp : gf.params.size + gf.nfree = args.length := by rw [← a1, eparams]; simp
      refine calls_of_wp hgf hbody ?_
      have hfits : Fits M g fn.depth gf.ntmps F t.enter { tmps := cargs ++ Array.replicate (gf.ntmps - cargs.size) undef, defers := [] } := by
        refine ⟨⟨by simp; omega, fun u hu => ?_⟩, hS.enter, by simp; omega, rfl⟩
        rw [a2, eparams, idx_pth (by omega) hu]
        by_cases hlt : u < gf.params.size + gf.nfree
        · rw [if_pos hlt]
          simp only
          have h1 := hv u (by omega)
          have e1 : args.getD u .und = args[u]'(by omega) := by simp [List.getD, show u < args.length by omega]
          rw [e1]
          have e2 : (cargs ++ Array.replicate (gf.ntmps - cargs.size) undef).getD u undef = cargs.getD u undef := by
            simp only [Array.getD_eq_getD_getElem?]
            rw [Array.getElem?_append_left (by omega)]
          show VR M g _ ((cargs ++ Array.replicate (gf.ntmps - cargs.size) undef).getD u undef)
          rw [e2]
          exact h1
        · rw [if_neg hlt]
          simp only [Fr.get_nil]
          exact .und _
      have hpost : ∀ R, (∀ F1 t1, (evC call fn.body F t.enter = .norm F1 t1 ∨ evC call fn.body F t.enter = .ret F1 t1) → ∀ g' a', g.Le g' → Fits M g' fn.depth gf.ntmps F1 t1 a' →
          bodyPost P gf R .normal a' g'.w) → c.wp P (bodyPost P gf R) { tmps := cargs ++ Array.replicate (gf.ntmps - cargs.size) undef, defers := [] } g.w := by
        intro R hR
        refine hcode fn.depth gf.ntmps c b hb g F t.enter _ _ hfits ?_
        rw [ebody] at hR hr
        cases hev : evC call b F t.enter with
        | fail => rw [hev] at hr; cases hr
        | norm F1 t1 => exact fun g' a' hle hf' => hR F1 t1 (.inl hev) g' a' hle hf'
        | exit id F1 t1 => rw [hev] at hr; cases hr
        | ret F1 t1 => exact fun g' a' hle hf' => hR F1 t1 (.inr hev) g' a' hle hf'
      refine hpost _ (fun F1 t1 hev g' a' hle hf' => ?_)
      have hafter : afterBody fn F1 t1 = .ok r t' := by
        rcases hev with hev | hev <;> (rw [hev] at hr; exact hr)
      unfold afterBody at hafter
      rw [eres] at hafter
      cases hrv : resultsOf F1 t1 rs with
      | none => rw [hrv] at hafter; cases hafter
      | some vs =>
        rw [hrv] at hafter
        cases hafter
        obtain ⟨ws, w1, w2, w3⟩ := results_ok hf' gf.results.toList rs hrs vs hrv
        refine ⟨hf'.d, if h : ws.toArray.size = 1 then ws.toArray[0] else .tuple ws.toArray, ?_, ?_⟩
        · show (results gf a'.tmps).run P g'.w = _
          rw [results_eq, Array.mapM_eq_mapM_toList]
          simp only [Sem.run_bind, Sem.run_map, w1, Result.andThen_ok, Sem.run_pure]
        · exact ⟨_, g', rfl, rfl, hle, packed_ok w2 w3, hf'.s.leave _ _⟩
  · contradiction

end

end M2
end
section
namespace M2
open Go Go.ChangeShapes Go.WideShapes Go.ChangeAt Go.RowKit

/-! ### A law's call, the calls in it answered by others -/

theorem link1 {P : Program} {M : Maps} {im : FuncId → Option Nat} {tbl : Nat → Option AFunc} (him : ∀ f x, im f = some x → M.fm x = f) (ht : Table P M im tbl)
    {call : CallF} (hcall : CallOK P M call) {id : Nat} {fn : AFunc} (hfn : tbl id = some fn) (hdp : fn.depth < 50) {avs : List AV} {args : Array Value} {t t' : T} {g : G} (hoth : ∀ b, b < g.w.heap.size → g.μ b = .oth) (hS : SR M g t) (hsz : args.size = avs.length)
    (hv : ∀ i (h : i < avs.length), VR M g avs[i] (args.getD i undef)) (hrun : callC call fn avs t = .ok (.bool true) t') :
    Calls P (M.fm id) args g.w fun e w' => e = .returned (.bool true) ∧ Below g.w.heap.size g.w w' := by
  obtain ⟨-, h⟩ := callC_sound him ht hcall hfn hdp hrun
  refine (h g args hS hsz hv).mono ?_
  rintro e w' ⟨v, g', rfl, rfl, hle, hvr, -⟩
  cases hvr
  exact ⟨rfl, hle.os, hle.tape, hle.output, hle.size, fun k hk => (hle.oth k hk (by rw [hoth k hk]; rfl)).2⟩

theorem law_run1 {P : Program} {M : Maps} {im : FuncId → Option Nat} {tbl : Nat → Option AFunc} (him : ∀ f x, im f = some x → M.fm x = f) (ht : Table P M im tbl)
    {H : Type} {enc : TypeId × Value → H} {W : World} {base id tf : Nat} {t : TypeId} {fs : Array Field} (hu : P.underlying t = some (.struct fs)) (ha : argT P (tf + 1) t = true) {v : Value} {d : DataW H} {p : List MemPlace}
    (hval : Value.okWide P W .any base t v) (htr : DataW.Trod enc P W 0 (fun _ => true) true t v d p)
    {w j i : Nat} {fl : Field} {e : TypeId} (hw : P.cellsOf t = w) (hfl : fs[i]? = some fl) (hoff : fl.offset = j) (hjw : j < w) (hsl : P.underlying fl.type = some (.slice e)) (hc1 : P.cellsOf fl.type = 1) (htf : tf ≠ 0)
    {call : CallF} (hcall : CallOK P M call) {fn : AFunc} (hfn : tbl id = some fn) (hdp : fn.depth < 50 := by decide) (hrun : ∀ a, OneSl a → ∃ t', callC call fn [.agg ((List.replicate w AV.und).set j a)] ⟨1, [], []⟩ = .ok (.bool true) t') (hkb : ∀ b o v, M.kb b o = some v → W.cell? ⟨b, o, none⟩ = some v := by exact fun _ _ _ h => nomatch (show (none : Option Value) = some _ from h)) :
    Calls P (M.fm id) #[v] W fun e W' => e = .returned (.bool true) ∧ Below W.heap.size W W' := by
  obtain ⟨K, hK0, hK⟩ := size_bound W
  obtain ⟨fuel, htr⟩ := htr
  unfold Value.okWide at hval
  rw [hu] at hval
  obtain ⟨cs, rfl, hcs, -⟩ := hval
  obtain ⟨ascs, h1, h2, h3, -⟩ := trod_vr (M := M) hK0 hK fuel (tf + 1) t _ _ ha htr
  have hl : ascs.length = cs.size := by simpa [Value.cells] using h2
  unfold DA at h1
  rw [hu] at h1
  obtain ⟨ps, -, hps, hasl, hf⟩ := h1
  obtain ⟨hi, hfi⟩ := Array.getElem?_eq_some_iff.mp hfl
  have h4 := hf i hi (by omega)
  rw [hfi, hoff, hc1] at h4
  have hjl : j < ascs.length := by rw [hasl, hw]; exact hjw
  have hone : (ascs.drop j).take 1 = [ascs[j]] := by rw [List.drop_eq_getElem_cons hjl]; rfl
  rw [hone] at h4
  have hkind : ascs[j] = .nils ∨ ascs[j] = .sl0 ∨ ∃ id e pos cap alt es, ascs[j] = .sl id e pos cap false alt es := by
    cases tf with
    | zero => exact absurd rfl htf
    | succ tf =>
      unfold DA at h4
      rw [hsl] at h4
      rcases h4 with ⟨-, h⟩ | ⟨elems, spare, es, -, -, -, -, ⟨-, h⟩ | ⟨id, pos, h⟩⟩
      · injection h with h; exact .inl h
      · injection h with h; exact .inr (.inl h)
      · injection h with h; exact .inr (.inr ⟨_, _, _, _, _, _, h⟩)
  have h5 := h3 j (by simpa using hjl)
  obtain ⟨a', pl, ho, hv'⟩ := oneSl_of h5 hkind
  obtain ⟨t', hr⟩ := hrun a' ho
  refine link1 (g := oneG W pl) him ht hcall hfn hdp (fun _ _ => rfl) (oneG_sr M W pl hkb) rfl (fun q hq => ?_) hr
  have hq0 : q = 0 := by simpa using hq
  subst hq0
  simp only [List.getElem_cons_zero]
  refine .agg _ cs (by simp [← hl, hasl, hw]) (fun q hq => ?_)
  by_cases e : j = q
  · subst e
    simp only [List.getElem_set_self]
    simpa [Value.cells, Array.getD_eq_getD_getElem?, List.getD_eq_getElem?_getD] using hv'
  · rw [List.getElem_set_ne e, List.getElem_replicate]
    exact .und _

end M2
end
section
namespace M2
open Go
open Classical

/-! ### A loop over a row of texts, round by round: each round run by itself, in an empty state -/

noncomputable def G.low (g : G) : G := g.view 3 (fun i => i < 3) (allB g)

/-- a value that no world matters to -/
def Free (M : Maps) (a : AV) : Prop := ∀ g g' v, VR M g a v → VR M g' a v
theorem free_str (M : Maps) (s : List UInt8) : Free M (.str s) := by
  intro g g' v h
  cases h
  exact .str s

theorem sl_move {M : Maps} {g g' : G} {id e pos cap alt : Nat} {fl : Bool} {es : List AV} {v : Value} (hpl : ∀ x ∈ es, Free M x) (hok : g'.ok id) (hρ : g'.ρ id = g.ρ id)
    (hfx : ∀ m, g.fixed (g.ρ id).block m → g'.fixed (g.ρ id).block m) (hw : g'.w = g.w) (h : VR M g (.sl id e pos cap fl alt es) v) : VR M g' (.sl id e pos cap fl alt es) v := by
  cases h with
  | sl id e pos cap fl alt es b o ccap vs hid hcc hb ho hlen hv hs hc hf =>
    subst hb
    exact .sl id e pos cap fl alt es _ o ccap vs hok (by rw [hρ]; exact hcc) (by rw [hρ]) (by rw [hρ]; exact ho) hlen (fun i hi => hpl _ (List.getElem_mem hi) g g' _ (hv i hi)) hs
      (fun i j hi hj => by rw [hw]; exact hc i j hi hj) (hfx _ hf)

theorem sl_known {M : Maps} {g : G} {id e pos cap alt : Nat} {fl : Bool} {es : List AV} {v : Value} (h : VR M g (.sl id e pos cap fl alt es) v) : g.ok id ∧ (g.ρ id).block < g.w.heap.size := by
  cases h with
  | sl id e pos cap fl alt es b o ccap vs hid hcc hb ho hlen hv hs hc hf => exact ⟨hid, hb ▸ hf.1⟩

theorem sl_low {M : Maps} {g : G} {id e pos cap alt : Nat} {fl : Bool} {es : List AV} {v : Value} (hpl : ∀ x ∈ es, Free M x) (hid : id < 3) (h : VR M g (.sl id e pos cap fl alt es) v) :
    VR M g.low (.sl id e pos cap fl alt es) v := by
  refine sl_move (g := g) (g' := g.low) hpl ⟨(sl_known h).1, hid⟩ rfl (fun m hf => ⟨hf.1, ?_⟩) rfl h
  show Own.fix m (if allB g (g.ρ id).block then (g.μ (g.ρ id).block).frz else g.μ (g.ρ id).block)
  rw [if_pos (show allB g (g.ρ id).block from hf.1)]
  exact (seal_fix _ _).mpr hf.2

theorem sl_upd {M : Maps} {g g' : G} {id e pos cap alt : Nat} {fl : Bool} {es : List AV} {v v0 : Value} (hpl : ∀ x ∈ es, Free M x) (hid : id < 3) (h0 : VR M g (.sl id e pos cap fl alt es) v0) (hle : g.low.Le g')
    (h : VR M g' (.sl id e pos cap fl alt es) v) : VR M (g.upd g') (.sl id e pos cap fl alt es) v := by
  obtain ⟨k1, k2⟩ := sl_known h0
  have hρ : g'.ρ id = g.ρ id := hle.ρ id ⟨k1, hid⟩
  refine sl_move hpl k1 hρ.symm (fun m hf => ⟨?_, ?_⟩) rfl h
  · exact hf.1
  · rw [hρ] at hf ⊢
    have := (back_sealed (g := g) hle (fun _ hb => hb) k2).2
    have h2 := hf.2
    rw [this] at h2
    show Own.fix m (if (g.ρ id).block < g.w.heap.size then g.μ (g.ρ id).block else .oth)
    rw [if_pos k2]
    exact (seal_fix _ _).mp h2

theorem low_sr {M : Maps} {g : G} {t : T} (hS : SR M g t) : SR M g.low ⟨3, [[]], [[]]⟩ :=
  SR.enter (t := ⟨3, [], []⟩)
    { n := rfl, wf := ⟨by simp, fun p hp => by simp at hp, by simp, fun p hp => by simp at hp⟩, okn := fun i hi => hi.2,
      var := fun x o hx => by simp [look2_nil] at hx, inj := fun x y o o' hx => by simp [look2_nil] at hx,
      ids := fun i en e hx => by simp [look2_nil] at hx, idinj := fun i j a b hx => by simp [look2_nil] at hx,
      kept := hS.kept.view _ _ _ }

noncomputable def isRow (d : Nat) (row : AV) (r : RR) : Bool := match r with | .norm F _ => avE 60 (F.get (pth d 0)) row | _ => false
noncomputable def isRowI (d q : Nat) (row : AV) (i : Nat) (r : RR) : Bool := match r with | .norm F _ => avE 60 (F.get (pth d 0)) row && avE 2 (F.get (pth d q)) (.int .i64 (.ofNat i)) | _ => false
def isOut (id : Nat) (r : RR) : Bool := match r with | .exit j _ _ => Nat.beq j id | _ => false

noncomputable def frI (d q : Nat) (row : AV) (i : Nat) : Fr := (Fr.nil.put (pth d 0) row).put (pth d q) (.int .i64 (.ofNat i))

section
variable {P : Program} {M : Maps} {im : FuncId → Option Nat} {d ntmps : Nat}

theorem cmpR_kind {ops : Array Oper} {ac : Cd} (h : cmpR P im d ntmps ops = some ac) : (∃ ks ws, ac = .regd ks ws) ∨ ∃ f os, ac = .regx f os := by
  have hd0 : ∀ h c, cmpD0 P im d ntmps h ops = some c → ∃ ks ws, c = .regd ks ws := by
    intro h c hc
    unfold cmpD0 at hc
    simp only [Option.bind_eq_bind, Option.bind_eq_some_iff] at hc
    obtain ⟨_, _, _, _, _, _, e⟩ := hc
    split at e
    · cases e; exact ⟨_, _, rfl⟩
    · cases e
  have hd : ∀ c, cmpD P im d ntmps ops = some c → ∃ ks ws, c = .regd ks ws := by
    intro c hc
    unfold cmpD at hc
    split at hc
    · split at hc
      · rename_i c' hcc; cases hc; exact hd0 _ _ hcc
      · exact hd0 _ _ hc
    · split at hc
      · rename_i c' hcc; cases hc; exact hd0 _ _ hcc
      · exact hd0 _ _ hc
  have hx : ∀ c, cmpX P im d ntmps ops = some c → ∃ f os, c = .regx f os := by
    intro c hc
    unfold cmpX at hc
    simp only [Option.bind_eq_bind, Option.bind_eq_some_iff] at hc
    obtain ⟨_, _, e⟩ := hc
    split at e
    · cases e; exact ⟨_, _, rfl⟩
    · cases e
  unfold cmpR at h
  split at h
  · split at h
    · rename_i c hcc; cases h; exact .inr (hx _ hcc)
    · exact .inl (hd _ h)
  · split at h
    · rename_i c hcc; cases h; exact .inl (hd _ hcc)
    · exact .inr (hx _ h)

theorem inv_seq {c : Code} {A B : Cd} (h : cmpC P im d ntmps c = some (.seq A B)) : ∃ x y, c = .seq x y ∧ cmpC P im d ntmps x = some A ∧ cmpC P im d ntmps y = some B := by
  cases c with
  | seq x y =>
    simp only [cmpC, Option.bind_eq_bind, Option.bind_eq_some_iff] at h
    obtain ⟨x', hx, y', hy, e⟩ := h
    cases e
    exact ⟨x, y, rfl, hx, hy⟩
  | region id ops draw =>
    simp only [cmpC] at h
    split at h
    · rcases cmpR_kind h with ⟨_, _, e⟩ | ⟨_, _, e⟩ <;> cases e
    · rw [Option.map_eq_some_iff] at h
      obtain ⟨_, _, e⟩ := h
      cases e
  | _ => simp [cmpC, Option.bind_eq_some_iff] at h

theorem inv_block {c : Code} {id : Nat} {B : Cd} (h : cmpC P im d ntmps c = some (.block id B)) : ∃ x, c = .block id x ∧ cmpC P im d ntmps x = some B := by
  cases c with
  | block i x =>
    simp only [cmpC, Option.bind_eq_bind, Option.bind_eq_some_iff] at h
    obtain ⟨x', hx, e⟩ := h
    cases e
    exact ⟨x, rfl, hx⟩
  | region id ops draw =>
    simp only [cmpC] at h
    split at h
    · rcases cmpR_kind h with ⟨_, _, e⟩ | ⟨_, _, e⟩ <;> cases e
    · rw [Option.map_eq_some_iff] at h
      obtain ⟨_, _, e⟩ := h
      cases e
  | _ => simp [cmpC, Option.bind_eq_some_iff] at h

theorem inv_loop {c : Code} {B : Cd} (h : cmpC P im d ntmps c = some (.loop B)) : ∃ x, c = .loop x ∧ cmpC P im d ntmps x = some B := by
  cases c with
  | loop x =>
    simp only [cmpC, Option.bind_eq_bind, Option.bind_eq_some_iff] at h
    obtain ⟨x', hx, e⟩ := h
    cases e
    exact ⟨x, rfl, hx⟩
  | region id ops draw =>
    simp only [cmpC] at h
    split at h
    · rcases cmpR_kind h with ⟨_, _, e⟩ | ⟨_, _, e⟩ <;> cases e
    · rw [Option.map_eq_some_iff] at h
      obtain ⟨_, _, e⟩ := h
      cases e
  | _ => simp [cmpC, Option.bind_eq_some_iff] at h

/-- what is known between two pieces -/
structure Mid (M : Maps) (ntmps : Nat) (t : T) (g0 g : G) (a : Act) : Prop where
  le : g0.Le g
  s : SR M g t
  n : a.tmps.size = ntmps
  d : a.defers = []

theorem fr_nil {g : G} {tmps : Array Value} (h : tmps.size ≤ 2 ^ d) : FR M g d .nil tmps := ⟨h, fun t _ => by rw [Fr.get_nil]; exact .und _⟩
theorem fr_row {g : G} {tmps : Array Value} {F : Fr} (hF : FR M g d F tmps) {q : Nat} (hq : q < 2 ^ d) {a : AV} (hv : VR M g a (tmps.getD q undef)) : FR M g d (F.put (pth d q) a) tmps := by
  refine ⟨hF.size, fun u hu => ?_⟩
  rw [Fr.get_put]
  by_cases h : q = u
  · subst h; rw [if_pos rfl]; exact hv
  · rw [if_neg (fun e => h (pth_inj d q u hq hu e))]; exact hF.rel u hu

theorem isRow_ok {q : Nat} {row : AV} {r : RR} (h : isRow q row r = true) : ∃ F t, r = .norm F t ∧ F.get (pth q 0) = row := by
  unfold isRow at h
  split at h
  · exact ⟨_, _, rfl, avE_ok _ _ _ h⟩
  · cases h
theorem isRowI_ok {d q : Nat} {row : AV} {i : Nat} {r : RR} (h : isRowI d q row i r = true) : ∃ F t, r = .norm F t ∧ F.get (pth d 0) = row ∧ F.get (pth d q) = .int .i64 (.ofNat i) := by
  unfold isRowI at h
  split at h
  · simp only [Bool.and_eq_true] at h
    exact ⟨_, _, rfl, avE_ok _ _ _ h.1, avE_ok _ _ _ h.2⟩
  · cases h
theorem isOut_ok {id : Nat} {r : RR} (h : isOut id r = true) : ∃ F t, r = .exit id F t := by
  unfold isOut at h
  split at h
  · rw [Nat.eq_of_beq_eq_true h]; exact ⟨_, _, rfl⟩
  · cases h

theorem loop_orc {tbl : Nat → Option AFunc} (hmix : P.follows .mixedOrders = true) (him : ∀ f x, im f = some x → M.fm x = f) (ht : Table P M im tbl) {sid : Nat} {fn : AFunc} (hfn : tbl sid = some fn) (hdp : fn.depth < 50 := by decide)
    {a1 a2 b c : Cd} {lb : Nat} (hshape : fn.body = .seq a1 (.seq (.seq a2 (.block lb (.loop b))) c)) {q : Nat} (hq : q < 2 ^ fn.depth) (hpar : fn.params = [pth fn.depth 0])
    {id e pos cap alt : Nat} {es : List AV} (hid : id < 3) (hes : ∀ M x, x ∈ es → Free M x) {k N : Nat}
    (h1 : isRow fn.depth (.sl id e pos cap false alt es) (ev tbl N a1 (Fr.nil.put (pth fn.depth 0) (.sl id e pos cap false alt es)) ⟨3, [[]], [[]]⟩) = true)
    (h2 : isRowI fn.depth q (.sl id e pos cap false alt es) 0 (ev tbl N a2 (Fr.nil.put (pth fn.depth 0) (.sl id e pos cap false alt es)) ⟨3, [[]], [[]]⟩) = true)
    (h3 : ∀ i, i < k → isRowI fn.depth q (.sl id e pos cap false alt es) (i + 1) (ev tbl N b (frI fn.depth q (.sl id e pos cap false alt es) i) ⟨3, [[]], [[]]⟩) = true)
    (h4 : isOut lb (ev tbl N b (frI fn.depth q (.sl id e pos cap false alt es) k) ⟨3, [[]], [[]]⟩) = true)
    (h5 : okR (outC fn (ev tbl N c .nil ⟨3, [[]], [[]]⟩)) = true) : CallOK P M (orc sid [.sl id e pos cap false alt es] 3) := by
  generalize hrow : AV.sl id e pos cap false alt es = row at *
  have rlow : ∀ {g : G} {v : Value}, VR M g row v → VR M g.low row v := fun h => by subst hrow; exact sl_low (hes M) hid h
  have rupd : ∀ {g g' : G} {v v0 : Value}, VR M g row v0 → g.low.Le g' → VR M g' row v → VR M (g.upd g') row v := fun h0 hle h => by subst hrow; exact sl_upd (hes M) hid h0 hle h
  have hcode := code_sound (P := P) hmix him tbl N (fun m _ => call_sound hmix him ht m)
  intro f' args t r t1 hr
  unfold orc at hr
  split at hr
  · rename_i hc
    obtain ⟨rfl, rfl, hn⟩ := hc
    cases hr
    obtain ⟨gf, hgf, hcf⟩ := ht.cmp hfn hdp
    unfold cmpF at hcf
    split at hcf
    · rename_i hcond
      obtain ⟨c1, c2, c3⟩ := hcond
      simp only [Option.bind_eq_bind, Option.bind_eq_some_iff] at hcf
      obtain ⟨cc, hbody, bb, hb, rs, hrs, ee⟩ := hcf
      refine ⟨⟨gf, hgf, by simpa using c3, by simp [hbody]⟩, ?_⟩
      intro g cargs hS hsz hv
      have efn : fn = { depth := fn.depth, params := (List.range (gf.params.size + gf.nfree)).map (pth fn.depth), results := rs, keep := fn.keep, body := bb } := by simpa using ee.symm
      have eparams : fn.params = (List.range (gf.params.size + gf.nfree)).map (pth fn.depth) := by rw [efn]
      have ebody : fn.body = bb := by rw [efn]
      have eres : fn.results = rs := by rw [efn]
      have hsz1 : cargs.size = 1 := by simpa using hsz
      have hv0 : VR M g row (cargs.getD 0 undef) := hv 0 (by simp)
      have hnp : gf.params.size + gf.nfree = 1 := by
        rw [hpar] at eparams
        have := congrArg List.length eparams
        simpa using this.symm
      rw [← ebody, hshape] at hb
      obtain ⟨x, y0, rfl, hx, hy0⟩ := inv_seq hb
      obtain ⟨y1, u, rfl, hy1, hu⟩ := inv_seq hy0
      obtain ⟨y, z0, rfl, hy, hz0⟩ := inv_seq hy1
      obtain ⟨z1, rfl, hz1⟩ := inv_block hz0
      obtain ⟨z, rfl, hz⟩ := inv_loop hz1
      refine calls_of_wp hgf hbody ?_
      generalize hQ : bodyPost P gf (fun e w' => ∃ v g', e = .returned v ∧ g'.w = w' ∧ g.Le g' ∧ VR M g' (.bool true) v ∧ SR M g' t) = Q
      have hpw : gf.ntmps ≤ 2 ^ fn.depth := c1
      generalize ha0 : ({ tmps := cargs ++ Array.replicate (gf.ntmps - cargs.size) undef, defers := [] } : Act) = a0
      have m0 : Mid M gf.ntmps t g g a0 := ⟨.refl g, hS, by subst ha0; simp; omega, by subst ha0; rfl⟩
      have r0 : VR M g row (a0.tmps.getD 0 undef) := by
        subst ha0
        have e2 : (cargs ++ Array.replicate (gf.ntmps - cargs.size) undef).getD 0 undef = cargs.getD 0 undef := by
          simp only [Array.getD_eq_getD_getElem?]
          rw [Array.getElem?_append_left (by omega)]
        show VR M g row ((cargs ++ Array.replicate (gf.ntmps - cargs.size) undef).getD 0 undef)
        rw [e2]
        exact hv0
      have p0 : 0 < 2 ^ fn.depth := Nat.two_pow_pos _
      have fits : ∀ {g1 : G} {a : Act} {F : Fr}, Mid M gf.ntmps t g g1 a → FR M g1.low fn.depth F a.tmps → Fits M g1.low fn.depth gf.ntmps F ⟨3, [[]], [[]]⟩ a := fun hm hF => ⟨hF, low_sr hm.s, hm.n, hm.d⟩
      have next : ∀ {g1 g' : G} {a a' : Act} {F' : Fr} {t' : T}, Mid M gf.ntmps t g g1 a → g1.low.Le g' → Fits M g' fn.depth gf.ntmps F' t' a' → Mid M gf.ntmps t g (g1.upd g') a' :=
        fun hm hle hf => ⟨hm.le.trans (le_upd hle), sr_upd hm.s hle, hf.n, hf.d⟩
      have hsize : ∀ {g1 : G} {a : Act}, Mid M gf.ntmps t g g1 a → a.tmps.size ≤ 2 ^ fn.depth := fun hm => by rw [hm.n]; exact hpw
      have frow : ∀ {g1 : G} {a : Act}, Mid M gf.ntmps t g g1 a → VR M g1 row (a.tmps.getD 0 undef) → FR M g1.low fn.depth (Fr.nil.put (pth fn.depth 0) row) a.tmps :=
        fun hm hr => fr_row (fr_nil (hsize hm)) p0 (rlow hr)
      -- the end
      have hend : ∀ g1 a, Mid M gf.ntmps t g g1 a → u.wp P Q a g1.w := by
        intro g1 a hm
        have hp := hcode fn.depth gf.ntmps u c hu g1.low .nil ⟨3, [[]], [[]]⟩ a Q (fits hm (fr_nil (hsize hm)))
        refine hp ?_
        have hfin : ∀ F1 t1, afterBody fn F1 t1 = outC fn (ev tbl N c .nil ⟨3, [[]], [[]]⟩) → ∀ g' a', g1.low.Le g' → Fits M g' fn.depth gf.ntmps F1 t1 a' → bodyPost P gf (fun e w' => ∃ v g', e = .returned v ∧ g'.w = w' ∧ g.Le g' ∧ VR M g' (.bool true) v ∧ SR M g' t) .normal a' g'.w := by
          intro F1 t1 hE g' a' hle hf'
          obtain ⟨t2, ho⟩ := okR_ok h5
          rw [← hE] at ho
          unfold afterBody at ho
          rw [eres] at ho
          cases hrv : resultsOf F1 t1 rs with
          | none => rw [hrv] at ho; cases ho
          | some vs =>
            rw [hrv] at ho
            simp only [OR.ok.injEq] at ho
            obtain ⟨ws, w1, w2, w3⟩ := results_ok hf' gf.results.toList rs hrs vs hrv
            refine ⟨hf'.d, if h : ws.toArray.size = 1 then ws.toArray[0] else .tuple ws.toArray, ?_, ?_⟩
            · show (results gf a'.tmps).run P g'.w = _
              rw [results_eq, Array.mapM_eq_mapM_toList]
              simp only [Sem.run_bind, Sem.run_map, w1, Result.andThen_ok, Sem.run_pure]
            · have hvr := packed_ok w2 w3
              rw [ho.1] at hvr
              refine ⟨_, g1.upd g', rfl, rfl, hm.le.trans (le_upd hle), ?_, sr_upd hm.s hle⟩
              generalize (if h : ws.toArray.size = 1 then ws.toArray[0] else Value.tuple ws.toArray) = vv at hvr
              cases hvr
              exact .bool true
        subst hQ
        cases hev : ev tbl N c .nil ⟨3, [[]], [[]]⟩ with
        | fail => rw [hev] at h5; cases h5
        | norm F1 t1 => exact fun g' a' hle hf' => hfin F1 t1 (by rw [hev]; rfl) g' a' hle hf'
        | exit id F1 t1 => rw [hev] at h5; cases h5
        | ret F1 t1 => exact fun g' a' hle hf' => hfin F1 t1 (by rw [hev]; rfl) g' a' hle hf'
      refine wp_seq ?_
      obtain ⟨F1, t1, e1, v1⟩ := isRow_ok h1
      refine hcode fn.depth gf.ntmps x a1 hx g.low _ _ a0 _ (fits m0 (frow m0 r0)) ?_
      rw [e1]
      intro g1 a' hle hf'
      have m1 := next m0 hle hf'
      have r1 : VR M (g.upd g1) row (a'.tmps.getD 0 undef) := rupd r0 hle (by have := hf'.f.rel 0 p0; rwa [v1] at this)
      show Code.wp P _ Q a' (g.upd g1).w
      refine wp_seq (wp_seq ?_)
      obtain ⟨F2, t2, e2, v2, i2⟩ := isRowI_ok h2
      refine hcode fn.depth gf.ntmps y a2 hy (g.upd g1).low _ _ a' _ (fits m1 (frow m1 r1)) ?_
      rw [e2]
      intro g2 a2' hle2 hf2
      have m2 := next m1 hle2 hf2
      have r2 : VR M ((g.upd g1).upd g2) row (a2'.tmps.getD 0 undef) := rupd r1 hle2 (by have := hf2.f.rel 0 p0; rwa [v2] at this)
      have n2 : a2'.tmps.getD q undef = .int .i64 (.ofNat 0) := by
        have := hf2.f.rel q hq
        rw [i2] at this
        generalize a2'.tmps.getD q undef = vv at this
        cases this
        rfl
      show Code.wp P _ _ a2' ((g.upd g1).upd g2).w
      refine wp_block ?_
      refine wp_loop_n (fun m a w => ∃ i g3, i ≤ k ∧ m = k - i ∧ g3.w = w ∧ Mid M gf.ntmps t g g3 a ∧ VR M g3 row (a.tmps.getD 0 undef) ∧ a.tmps.getD q undef = .int .i64 (.ofNat i)) ?_ k a2' _
        ⟨0, _, Nat.zero_le _, rfl, rfl, m2, r2, n2⟩
      rintro m a3 w3 ⟨i, g3, hik, rfl, rfl, m3, r3, n3⟩
      have hF3 : FR M g3.low fn.depth (frI fn.depth q row i) a3.tmps := fr_row (frow m3 r3) hq (by rw [n3]; exact .int _ _)
      refine hcode fn.depth gf.ntmps z b hz g3.low _ _ a3 _ (fits m3 hF3) ?_
      by_cases hlt : i < k
      · obtain ⟨F4, t4, e4, v4, i4⟩ := isRowI_ok (h3 i hlt)
        rw [e4]
        intro g4 a4 hle4 hf4
        refine ⟨k - (i + 1), by omega, i + 1, g3.upd g4, hlt, rfl, rfl, next m3 hle4 hf4, rupd r3 hle4 (by have := hf4.f.rel 0 p0; rwa [v4] at this), ?_⟩
        have := hf4.f.rel q hq
        rw [i4] at this
        generalize a4.tmps.getD q undef = vv at this ⊢
        cases this
        rfl
      · have hk : i = k := by omega
        subst hk
        obtain ⟨F4, t4, e4⟩ := isOut_ok h4
        rw [e4]
        intro g4 a4 hle4 hf4
        simp only [Exit.then, Exit.inBlock, if_true]
        exact hend (g3.upd g4) a4 (next m3 hle4 hf4)
    · contradiction
  · cases hr

end

end M2
end
section
/- The function that runs the texts, cut at its loop. -/
namespace M2
open Go

noncomputable def s279a1 : Cd := (.reg [⟨(some p6n2), none, (.mv (.c (.bool false)))⟩])
noncomputable def s279a2 : Cd := (.reg [⟨(some p6n3), none, (.mv (.c (.int .i64 (.ofNat 0))))⟩])
noncomputable def s279b : Cd := (.seq (.seq (.reg [⟨(some p6n10), none, (.mv (.t p6n3))⟩, ⟨(some p6n11), none, (.mv (.t p6n0))⟩, ⟨(some p6n12), none, (.len false (.t p6n11))⟩, ⟨(some p6n13), none, (.bin .lss (.t p6n10) (.t p6n12))⟩]) (.cond (.t p6n13) .skip (.exit 0))) (.seq (.block 1 (.seq (.reg [⟨(some p6n17), none, (.mv (.t p6n0))⟩, ⟨(some p6n18), none, (.mv (.t p6n3))⟩, ⟨(some p6n19), none, (.iaddr 1 (.t p6n17) (.t p6n18))⟩, ⟨(some p6n20), none, (.ld1 (.t p6n19))⟩, ⟨(some p6n21), none, (.call 280 [(.t p6n20)])⟩, ⟨(some p6n16), none, (.mv (.t p6n21))⟩, ⟨(some p6n22), none, (.ext (.t p6n16) 0)⟩, ⟨(some p6n23), none, (.ext (.t p6n16) 1)⟩, ⟨(some p6n24), none, (.ext (.t p6n16) 2)⟩, ⟨(some p6n4), none, (.mv (.t p6n22))⟩, ⟨(some p6n5), none, (.mv (.t p6n23))⟩, ⟨(some p6n6), none, (.mv (.t p6n24))⟩]) (.seq (.reg [⟨(some p6n26), none, (.mv (.t p6n0))⟩, ⟨(some p6n27), none, (.mv (.t p6n3))⟩, ⟨(some p6n28), none, (.iaddr 1 (.t p6n26) (.t p6n27))⟩, ⟨(some p6n29), none, (.ld1 (.t p6n28))⟩, ⟨(some p6n30), none, (.call 48 [(.t p6n29)])⟩, ⟨(some p6n25), none, (.mv (.t p6n30))⟩, ⟨(some p6n31), none, (.ext (.t p6n25) 0)⟩, ⟨(some p6n32), none, (.ext (.t p6n25) 1)⟩, ⟨(some p6n33), none, (.ext (.t p6n25) 2)⟩, ⟨(some p6n7), none, (.mv (.t p6n31))⟩, ⟨(some p6n8), none, (.mv (.t p6n32))⟩, ⟨(some p6n9), none, (.mv (.t p6n33))⟩]) (.seq (.reg [⟨(some p6n34), none, (.mv (.t p6n6))⟩, ⟨(some p6n35), none, (.call 281 [(.t p6n34)])⟩, ⟨(some p6n36), none, (.mv (.t p6n9))⟩, ⟨(some p6n37), none, (.bin .neq (.t p6n35) (.t p6n36))⟩, ⟨(some p6n38), none, (.mv (.t p6n37))⟩, ⟨(some p6n39), (some (p6n38, false)), (.mv (.t p6n5))⟩, ⟨(some p6n40), (some (p6n38, false)), (.mv (.t p6n8))⟩, ⟨(some p6n41), (some (p6n38, false)), (.bin .neq (.t p6n39) (.t p6n40))⟩, ⟨(some p6n42), none, (.pick (.t p6n38) (.c (.bool true)) (.t p6n41))⟩, ⟨(some p6n43), none, (.mv (.t p6n42))⟩, ⟨(some p6n44), (some (p6n43, false)), (.mv (.t p6n4))⟩, ⟨(some p6n45), (some (p6n43, false)), (.mv (.t p6n7))⟩, ⟨(some p6n46), (some (p6n43, false)), (.call 38 [(.t p6n44), (.t p6n45)])⟩, ⟨(some p6n47), (some (p6n43, false)), (.un .not (.t p6n46))⟩, ⟨(some p6n48), none, (.pick (.t p6n43) (.c (.bool true)) (.t p6n47))⟩]) (.cond (.t p6n48) (.seq (.reg [⟨(some p6n2), none, (.mv (.c (.bool false)))⟩]) .ret) .skip))))) (.reg [⟨(some p6n14), none, (.mv (.t p6n3))⟩, ⟨(some p6n15), none, (.bin .add (.t p6n14) (.c (.int .i64 (.ofNat 1))))⟩, ⟨(some p6n3), none, (.mv (.t p6n15))⟩])))
noncomputable def s279c : Cd := (.seq (.reg [⟨(some p6n49), none, (.call 282 [])⟩, ⟨(some p6n2), none, (.mv (.t p6n49))⟩]) .ret)
theorem s279_shape : a279.body = .seq s279a1 (.seq (.seq s279a2 (.block 0 (.loop s279b))) s279c) := by kernel_rfl
theorem s279_end : okR (outC a279 (ev tab.get 1000000 s279c .nil ⟨3, [[]], [[]]⟩)) = true := by kernel_rfl

end M2
end
section
/- The law LexNumbers: its texts. -/
namespace M2
open Go

def lexNumbersTexts : List AV := [.str [48], .str [48, 48], .str [48, 48, 55], .str [50, 49, 52, 55, 52, 56, 51, 54, 52, 55], .str [50, 49, 52, 55, 52, 56, 51, 54, 52, 56], .str [57, 57, 57, 57, 57, 57, 57, 57, 57, 57, 57, 57, 57, 57, 57, 57, 57, 57, 57, 57], .str [48, 120], .str [48, 120, 48], .str [48, 120, 102, 102], .str [48, 120, 70, 70], .str [48, 120, 55, 102, 102, 102, 102, 102, 102, 102], .str [48, 120, 56, 48, 48, 48, 48, 48, 48, 48], .str [48, 120, 103], .str [48, 120, 49, 103], .str [49, 50, 97, 98], .str [49, 32, 50], .str [49, 44, 50], .str [45, 53], .str [48, 120, 45, 49], .str [49, 46, 53], .str [49, 95, 48], .str [48, 88, 49], .str [48, 48, 48, 48, 48, 48, 48, 48, 48, 48, 48, 48, 48, 48, 48, 48, 48, 48, 48, 48, 49], .str [48, 120, 48, 48, 48, 48, 48, 48, 48, 48, 48, 48, 48, 48, 48, 48, 48, 48, 48, 48, 48, 49]]
def lexNumbersArg : AV := .sl 2 1 0 24 false 0 lexNumbersTexts

end M2
end
section
/- The law LexNumbers: some of its texts, run one by one. -/
namespace M2
open Go

theorem lexNumbers_r0 : isRowI 6 3 lexNumbersArg 1 (ev tab.get 1000000 s279b (frI 6 3 lexNumbersArg 0) ⟨3, [[]], [[]]⟩) = true := by kernel_rfl
theorem lexNumbers_r1 : isRowI 6 3 lexNumbersArg 2 (ev tab.get 1000000 s279b (frI 6 3 lexNumbersArg 1) ⟨3, [[]], [[]]⟩) = true := by kernel_rfl
theorem lexNumbers_r2 : isRowI 6 3 lexNumbersArg 3 (ev tab.get 1000000 s279b (frI 6 3 lexNumbersArg 2) ⟨3, [[]], [[]]⟩) = true := by kernel_rfl
theorem lexNumbers_r3 : isRowI 6 3 lexNumbersArg 4 (ev tab.get 1000000 s279b (frI 6 3 lexNumbersArg 3) ⟨3, [[]], [[]]⟩) = true := by kernel_rfl
theorem lexNumbers_r4 : isRowI 6 3 lexNumbersArg 5 (ev tab.get 1000000 s279b (frI 6 3 lexNumbersArg 4) ⟨3, [[]], [[]]⟩) = true := by kernel_rfl
theorem lexNumbers_r5 : isRowI 6 3 lexNumbersArg 6 (ev tab.get 1000000 s279b (frI 6 3 lexNumbersArg 5) ⟨3, [[]], [[]]⟩) = true := by kernel_rfl
theorem lexNumbers_r6 : isRowI 6 3 lexNumbersArg 7 (ev tab.get 1000000 s279b (frI 6 3 lexNumbersArg 6) ⟨3, [[]], [[]]⟩) = true := by kernel_rfl
theorem lexNumbers_r7 : isRowI 6 3 lexNumbersArg 8 (ev tab.get 1000000 s279b (frI 6 3 lexNumbersArg 7) ⟨3, [[]], [[]]⟩) = true := by kernel_rfl
theorem lexNumbers_r8 : isRowI 6 3 lexNumbersArg 9 (ev tab.get 1000000 s279b (frI 6 3 lexNumbersArg 8) ⟨3, [[]], [[]]⟩) = true := by kernel_rfl
theorem lexNumbers_r9 : isRowI 6 3 lexNumbersArg 10 (ev tab.get 1000000 s279b (frI 6 3 lexNumbersArg 9) ⟨3, [[]], [[]]⟩) = true := by kernel_rfl
theorem lexNumbers_r10 : isRowI 6 3 lexNumbersArg 11 (ev tab.get 1000000 s279b (frI 6 3 lexNumbersArg 10) ⟨3, [[]], [[]]⟩) = true := by kernel_rfl
theorem lexNumbers_r11 : isRowI 6 3 lexNumbersArg 12 (ev tab.get 1000000 s279b (frI 6 3 lexNumbersArg 11) ⟨3, [[]], [[]]⟩) = true := by kernel_rfl

end M2
end
section
/- The law LexNumbers: some of its texts, run one by one. -/
namespace M2
open Go

theorem lexNumbers_r12 : isRowI 6 3 lexNumbersArg 13 (ev tab.get 1000000 s279b (frI 6 3 lexNumbersArg 12) ⟨3, [[]], [[]]⟩) = true := by kernel_rfl
theorem lexNumbers_r13 : isRowI 6 3 lexNumbersArg 14 (ev tab.get 1000000 s279b (frI 6 3 lexNumbersArg 13) ⟨3, [[]], [[]]⟩) = true := by kernel_rfl
theorem lexNumbers_r14 : isRowI 6 3 lexNumbersArg 15 (ev tab.get 1000000 s279b (frI 6 3 lexNumbersArg 14) ⟨3, [[]], [[]]⟩) = true := by kernel_rfl
theorem lexNumbers_r15 : isRowI 6 3 lexNumbersArg 16 (ev tab.get 1000000 s279b (frI 6 3 lexNumbersArg 15) ⟨3, [[]], [[]]⟩) = true := by kernel_rfl
theorem lexNumbers_r16 : isRowI 6 3 lexNumbersArg 17 (ev tab.get 1000000 s279b (frI 6 3 lexNumbersArg 16) ⟨3, [[]], [[]]⟩) = true := by kernel_rfl
theorem lexNumbers_r17 : isRowI 6 3 lexNumbersArg 18 (ev tab.get 1000000 s279b (frI 6 3 lexNumbersArg 17) ⟨3, [[]], [[]]⟩) = true := by kernel_rfl
theorem lexNumbers_r18 : isRowI 6 3 lexNumbersArg 19 (ev tab.get 1000000 s279b (frI 6 3 lexNumbersArg 18) ⟨3, [[]], [[]]⟩) = true := by kernel_rfl
theorem lexNumbers_r19 : isRowI 6 3 lexNumbersArg 20 (ev tab.get 1000000 s279b (frI 6 3 lexNumbersArg 19) ⟨3, [[]], [[]]⟩) = true := by kernel_rfl
theorem lexNumbers_r20 : isRowI 6 3 lexNumbersArg 21 (ev tab.get 1000000 s279b (frI 6 3 lexNumbersArg 20) ⟨3, [[]], [[]]⟩) = true := by kernel_rfl
theorem lexNumbers_r21 : isRowI 6 3 lexNumbersArg 22 (ev tab.get 1000000 s279b (frI 6 3 lexNumbersArg 21) ⟨3, [[]], [[]]⟩) = true := by kernel_rfl
theorem lexNumbers_r22 : isRowI 6 3 lexNumbersArg 23 (ev tab.get 1000000 s279b (frI 6 3 lexNumbersArg 22) ⟨3, [[]], [[]]⟩) = true := by kernel_rfl
theorem lexNumbers_r23 : isRowI 6 3 lexNumbersArg 24 (ev tab.get 1000000 s279b (frI 6 3 lexNumbersArg 23) ⟨3, [[]], [[]]⟩) = true := by kernel_rfl

end M2
end
section
/- The law LexNumbers: all its texts, run one by one. -/
namespace M2
open Go Go.Proofs Go.Proofs.YtnakomfbniipaaaDoor

def lexNumbersCells (a : AV) : List AV := (List.replicate 2 AV.und).set 0 a
def lexNumbersSt (a : AV) : T := ⟨3, [[(1, .cells (lexNumbersCells a))]], [[]]⟩

theorem lexNumbers_out : isOut 0 (ev tab.get 1000000 s279b (frI 6 3 lexNumbersArg 24) ⟨3, [[]], [[]]⟩) = true := by kernel_rfl
theorem lexNumbers_free : ∀ M x, x ∈ lexNumbersTexts → Free M x := by
  intro M x h
  have : lexNumbersTexts.all (fun y => match y with | .str _ => true | _ => false) = true := by kernel_rfl
  have h2 := List.all_eq_true.mp this x h
  cases x <;> first | exact free_str M _ | cases h2
theorem lexNumbers_orc {es er : Value} (hes : IfV es) (her : IfV er) : CallOK Tryd.prog (mp es er) (orc 279 [lexNumbersArg] 3) :=
  loop_orc mix him (table hes her) (show tab.get 279 = some a279 by kernel_rfl) (by decide) s279_shape (q := 3) (by decide +kernel) (by kernel_rfl) (by decide) lexNumbers_free (k := 24) (N := 1000000)
    (show isRow 6 lexNumbersArg (ev tab.get 1000000 s279a1 (Fr.nil.put (pth 6 0) lexNumbersArg) ⟨3, [[]], [[]]⟩) = true by kernel_rfl)
    (show isRowI 6 3 lexNumbersArg 0 (ev tab.get 1000000 s279a2 (Fr.nil.put (pth 6 0) lexNumbersArg) ⟨3, [[]], [[]]⟩) = true by kernel_rfl)
    (fun i hi => match i, hi with
    | 0, _ => lexNumbers_r0
    | 1, _ => lexNumbers_r1
    | 2, _ => lexNumbers_r2
    | 3, _ => lexNumbers_r3
    | 4, _ => lexNumbers_r4
    | 5, _ => lexNumbers_r5
    | 6, _ => lexNumbers_r6
    | 7, _ => lexNumbers_r7
    | 8, _ => lexNumbers_r8
    | 9, _ => lexNumbers_r9
    | 10, _ => lexNumbers_r10
    | 11, _ => lexNumbers_r11
    | 12, _ => lexNumbers_r12
    | 13, _ => lexNumbers_r13
    | 14, _ => lexNumbers_r14
    | 15, _ => lexNumbers_r15
    | 16, _ => lexNumbers_r16
    | 17, _ => lexNumbers_r17
    | 18, _ => lexNumbers_r18
    | 19, _ => lexNumbers_r19
    | 20, _ => lexNumbers_r20
    | 21, _ => lexNumbers_r21
    | 22, _ => lexNumbers_r22
    | 23, _ => lexNumbers_r23
    | i + 24, h => absurd h (by omega)) lexNumbers_out s279_end

theorem lexNumbers_key (a : AV) (ha : OneSl a) (c : CallF) (hc : c 279 [lexNumbersArg] (lexNumbersSt a) = .ok (.bool true) (lexNumbersSt a)) : ∃ t2, callC c a277 [.agg ((List.replicate 2 AV.und).set 0 a)] ⟨1, [], []⟩ = .ok (.bool true) t2 := by
  have e : callC c a277 [.agg ((List.replicate 2 AV.und).set 0 a)] ⟨1, [], []⟩ = callC (fun _ _ _ => c 279 [lexNumbersArg] (lexNumbersSt a)) a277 [.agg ((List.replicate 2 AV.und).set 0 a)] ⟨1, [], []⟩ := by
    rcases ha with rfl | rfl | ⟨e, pos, cap, alt, n, rfl⟩ <;> kernel_rfl
  rw [e, hc]
  rcases ha with rfl | rfl | ⟨e, pos, cap, alt, n, rfl⟩
  · exact okR_ok (by kernel_rfl)
  · exact okR_ok (by kernel_rfl)
  · exact okR_ok (by kernel_rfl)

theorem lexNumbers_run (a : AV) (ha : OneSl a) : ∃ t2, callC (orc 279 [lexNumbersArg] 3) a277 [.agg ((List.replicate 2 AV.und).set 0 a)] ⟨1, [], []⟩ = .ok (.bool true) t2 :=
  lexNumbers_key a ha _ (orc_eq rfl)

end M2
end
