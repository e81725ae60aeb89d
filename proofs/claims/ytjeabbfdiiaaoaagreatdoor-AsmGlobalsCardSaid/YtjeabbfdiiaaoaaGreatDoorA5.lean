/- General ground for the statement: an abstract machine that the program's code is shown to follow, and the contracts of the functions that the law reaches. Part 5. -/
import Derived.Test.YtjeabbfdiiaaoaaGreatDoorA4
import Derived.Lib.Join
import Derived.Lib.ItoaNum
import Derived.Lib.Fields
import Derived.Lib.SplitLaws
import Derived.Below
import Derived.Shelf.Strings.Builder1
import Derived.Shelf.Strings.Builder2
import Derived.Shelf.Strings.OnBuilder
import Derived.Shelf.Small.Bits
import Derived.Shelf.Small.Strs
import Derived.Shelf.Strconv.Itoa0
import Derived.Shelf.Strconv.Itoa1
import Derived.Shelf.LaysM
import Derived.Shelf.Strconv.Itoa2
import Derived.Shelf.Strconv.Itoa3
import Derived.Shelf.Strings.Search1
import Derived.Shelf.Strings.Search2
import Derived.Shelf.Strings.Search3
import Derived.Shelf.Strings.Count
import Derived.Shelf.Strings.Split
import Derived.Shelf.Strings.SplitCore
import Derived.Shelf.Strings.Fields
import Derived.Test.YtjeabbfdiiaaoaaGreatDoorProg
import Derived.KernelRfl
import Derived.Test.YtjeabbfdiiaaoaaGreatDoorChecked
set_option linter.unusedVariables false
set_option linter.unusedSimpArgs false
section
/- Compiled functions, printed by a program of mine. -/
namespace M2
open Go

noncomputable def a303 : AFunc :=
  ⟨8, [p8n0, p8n1, p8n2], [(p8n6, none), (p8n7, none)], false, (.seq (.reg [⟨(some p8n6), none, (.mv (.c (.int .i64 (.ofNat 0))))⟩, ⟨(some p8n7), none, (.mv (.c .nili))⟩]) (.seq (.seq (.reg [⟨(some p8n12), none, (.mv (.t p8n0))⟩, ⟨(some p8n13), none, (.bin .eql (.t p8n12) (.c (.str [])))⟩]) (.cond (.t p8n13) (.seq (.reg [⟨(some p8n14), none, (.mem .mlen [])⟩, ⟨(some p8n6), none, (.mv (.c (.int .i64 (.ofNat 0))))⟩, ⟨(some p8n7), none, (.mv (.t p8n14))⟩]) .ret) .skip)) (.seq (.reg [⟨(some p8n8), none, (.mv (.c (.bool false)))⟩]) (.seq (.seq (.reg [⟨(some p8n15), none, (.mv (.t p8n0))⟩, ⟨(some p8n16), none, (.idxS (.t p8n15) (.c (.int .i64 (.ofNat 0))))⟩]) (.block 0 (.seq (.reg [⟨(some p8n18), none, (.bin .eql (.t p8n16) (.c (.int .u8 (.ofNat 43))))⟩, ⟨(some p8n17), none, (.mv (.t p8n18))⟩]) (.cond (.t p8n17) (.reg [⟨(some p8n19), none, (.mv (.t p8n0))⟩, ⟨(some p8n20), none, (.slS (.t p8n19) (some (.c (.int .i64 (.ofNat 1)))) none)⟩, ⟨(some p8n0), none, (.mv (.t p8n20))⟩]) (.seq (.reg [⟨(some p8n22), none, (.bin .eql (.t p8n16) (.c (.int .u8 (.ofNat 45))))⟩, ⟨(some p8n21), none, (.mv (.t p8n22))⟩]) (.cond (.t p8n21) (.seq (.reg [⟨(some p8n23), none, (.mv (.t p8n0))⟩, ⟨(some p8n24), none, (.slS (.t p8n23) (some (.c (.int .i64 (.ofNat 1)))) none)⟩, ⟨(some p8n0), none, (.mv (.t p8n24))⟩]) (.reg [⟨(some p8n8), none, (.mv (.c (.bool true)))⟩])) .skip)))))) (.seq (.reg [⟨(some p8n9), none, (.mv (.c (.int .u64 (.ofNat 0))))⟩]) (.seq (.reg [⟨(some p8n26), none, (.mv (.t p8n0))⟩, ⟨(some p8n27), none, (.mv (.t p8n1))⟩, ⟨(some p8n28), none, (.mv (.t p8n2))⟩, ⟨(some p8n29), none, (.call 309 [(.t p8n26), (.t p8n27), (.t p8n28)])⟩, ⟨(some p8n25), none, (.mv (.t p8n29))⟩, ⟨(some p8n30), none, (.ext (.t p8n25) 0)⟩, ⟨(some p8n31), none, (.ext (.t p8n25) 1)⟩, ⟨(some p8n9), none, (.mv (.t p8n30))⟩, ⟨(some p8n7), none, (.mv (.t p8n31))⟩]) (.seq (.seq (.reg [⟨(some p8n32), none, (.mv (.t p8n7))⟩, ⟨(some p8n33), none, (.eqk .iface true (.t p8n32) (.c .nili))⟩, ⟨(some p8n34), none, (.mv (.t p8n33))⟩, ⟨(some p8n35), (some (p8n34, true)), (.mv (.t p8n7))⟩, ⟨(some p8n36), (some (p8n34, true)), (.mem .mlen [])⟩, ⟨(some p8n37), (some (p8n34, true)), (.mem .mlen [])⟩, ⟨(some p8n38), none, (.pick (.t p8n34) (.t p8n37) (.c (.bool false)))⟩]) (.cond (.t p8n38) (.seq (.reg [⟨(some p8n39), none, (.mv (.t p8n7))⟩, ⟨(some p8n6), none, (.mv (.c (.int .i64 (.ofNat 0))))⟩, ⟨(some p8n7), none, (.mv (.t p8n39))⟩]) .ret) .skip)) (.seq (.seq (.reg [⟨(some p8n40), none, (.mv (.t p8n2))⟩, ⟨(some p8n41), none, (.bin .eql (.t p8n40) (.c (.int .i64 (.ofNat 0))))⟩]) (.cond (.t p8n41) (.reg [⟨(some p8n2), none, (.mv (.c (.int .i64 (.ofNat 64))))⟩]) .skip)) (.seq (.reg [⟨(some p8n42), none, (.mv (.t p8n2))⟩, ⟨(some p8n43), none, (.bin .sub (.t p8n42) (.c (.int .i64 (.ofNat 1))))⟩, ⟨(some p8n44), none, (.cv (.int .u64) (.t p8n43))⟩, ⟨(some p8n45), none, (.bin .shl (.c (.int .u64 (.ofNat 1))) (.t p8n44))⟩, ⟨(some p8n10), none, (.mv (.t p8n45))⟩]) (.seq (.seq (.reg [⟨(some p8n46), none, (.mv (.t p8n8))⟩, ⟨(some p8n47), none, (.un .not (.t p8n46))⟩, ⟨(some p8n48), none, (.mv (.t p8n47))⟩, ⟨(some p8n49), (some (p8n48, true)), (.mv (.t p8n9))⟩, ⟨(some p8n50), (some (p8n48, true)), (.mv (.t p8n10))⟩, ⟨(some p8n51), (some (p8n48, true)), (.bin .geq (.t p8n49) (.t p8n50))⟩, ⟨(some p8n52), none, (.pick (.t p8n48) (.t p8n51) (.c (.bool false)))⟩]) (.cond (.t p8n52) (.seq (.reg [⟨(some p8n53), none, (.mv (.t p8n10))⟩, ⟨(some p8n54), none, (.bin .sub (.t p8n53) (.c (.int .u64 (.ofNat 1))))⟩, ⟨(some p8n55), none, (.cv (.int .i64) (.t p8n54))⟩, ⟨(some p8n56), none, (.mem .mlen [])⟩, ⟨(some p8n6), none, (.mv (.t p8n55))⟩, ⟨(some p8n7), none, (.mv (.t p8n56))⟩]) .ret) .skip)) (.seq (.seq (.reg [⟨(some p8n57), none, (.mv (.t p8n8))⟩, ⟨(some p8n58), none, (.mv (.t p8n57))⟩, ⟨(some p8n59), (some (p8n58, true)), (.mv (.t p8n9))⟩, ⟨(some p8n60), (some (p8n58, true)), (.mv (.t p8n10))⟩, ⟨(some p8n61), (some (p8n58, true)), (.bin .gtr (.t p8n59) (.t p8n60))⟩, ⟨(some p8n62), none, (.pick (.t p8n58) (.t p8n61) (.c (.bool false)))⟩]) (.cond (.t p8n62) (.seq (.reg [⟨(some p8n63), none, (.mv (.t p8n10))⟩, ⟨(some p8n64), none, (.cv (.int .i64) (.t p8n63))⟩, ⟨(some p8n65), none, (.un .neg (.t p8n64))⟩, ⟨(some p8n66), none, (.mem .mlen [])⟩, ⟨(some p8n6), none, (.mv (.t p8n65))⟩, ⟨(some p8n7), none, (.mv (.t p8n66))⟩]) .ret) .skip)) (.seq (.reg [⟨(some p8n67), none, (.mv (.t p8n9))⟩, ⟨(some p8n68), none, (.cv (.int .i64) (.t p8n67))⟩, ⟨(some p8n11), none, (.mv (.t p8n68))⟩]) (.seq (.seq (.reg [⟨(some p8n69), none, (.mv (.t p8n8))⟩]) (.cond (.t p8n69) (.reg [⟨(some p8n70), none, (.mv (.t p8n11))⟩, ⟨(some p8n71), none, (.un .neg (.t p8n70))⟩, ⟨(some p8n11), none, (.mv (.t p8n71))⟩]) .skip)) (.seq (.reg [⟨(some p8n72), none, (.mv (.t p8n11))⟩, ⟨(some p8n6), none, (.mv (.t p8n72))⟩, ⟨(some p8n7), none, (.mv (.c .nili))⟩]) .ret))))))))))))))⟩
noncomputable def a304 : AFunc :=
  ⟨6, [p6n0, p6n1, p6n2, p6n3, p6n4], [(p6n10, none)], false, (.seq (.reg [⟨(some p6n10), none, (.mv (.c .nili))⟩]) (.seq (.seq (.reg [⟨(some p6n11), none, (.mv (.t p6n4))⟩]) (.block 0 (.seq (.reg [⟨(some p6n13), none, (.mem .mlen [])⟩, ⟨(some p6n14), none, (.mem .mlen [])⟩, ⟨(some p6n12), none, (.mv (.t p6n14))⟩]) (.cond (.t p6n12) (.seq (.reg [⟨(some p6n15), none, (.mv (.t p6n0))⟩, ⟨(some p6n16), none, (.mv (.t p6n1))⟩, ⟨(some p6n17), none, (.call 310 [(.t p6n15), (.t p6n16)])⟩, ⟨(some p6n18), none, (.mem .mlen [])⟩, ⟨(some p6n10), none, (.mv (.t p6n18))⟩]) .ret) (.seq (.reg [⟨(some p6n20), none, (.mem .mlen [])⟩, ⟨(some p6n21), none, (.mem .mlen [])⟩, ⟨(some p6n19), none, (.mv (.t p6n21))⟩]) (.cond (.t p6n19) (.seq (.reg [⟨(some p6n22), none, (.mv (.t p6n0))⟩, ⟨(some p6n23), none, (.mv (.t p6n1))⟩, ⟨(some p6n24), none, (.call 311 [(.t p6n22), (.t p6n23)])⟩, ⟨(some p6n25), none, (.mem .mlen [])⟩, ⟨(some p6n10), none, (.mv (.t p6n25))⟩]) .ret) (.seq (.reg [⟨(some p6n27), none, (.mem .mlen [])⟩, ⟨(some p6n28), none, (.mem .mlen [])⟩, ⟨(some p6n26), none, (.mv (.t p6n28))⟩]) (.cond (.t p6n26) (.seq (.reg [⟨(some p6n29), none, (.mv (.t p6n0))⟩, ⟨(some p6n30), none, (.mv (.t p6n1))⟩, ⟨(some p6n31), none, (.mv (.t p6n2))⟩, ⟨(some p6n32), none, (.call 312 [(.t p6n29), (.t p6n30), (.t p6n31)])⟩, ⟨(some p6n33), none, (.mem .mlen [])⟩, ⟨(some p6n10), none, (.mv (.t p6n33))⟩]) .ret) (.seq (.reg [⟨(some p6n35), none, (.mem .mlen [])⟩, ⟨(some p6n36), none, (.mem .mlen [])⟩, ⟨(some p6n34), none, (.mv (.t p6n36))⟩]) (.cond (.t p6n34) (.seq (.reg [⟨(some p6n37), none, (.mv (.t p6n0))⟩, ⟨(some p6n38), none, (.mv (.t p6n1))⟩, ⟨(some p6n39), none, (.mv (.t p6n3))⟩, ⟨(some p6n40), none, (.call 313 [(.t p6n37), (.t p6n38), (.t p6n39)])⟩, ⟨(some p6n41), none, (.mem .mlen [])⟩, ⟨(some p6n10), none, (.mv (.t p6n41))⟩]) .ret) .skip)))))))))) (.seq (.reg [⟨(some p6n42), none, (.mv (.t p6n4))⟩, ⟨(some p6n10), none, (.mv (.t p6n42))⟩]) .ret)))⟩
noncomputable def a309 : AFunc :=
  ⟨8, [p8n0, p8n1, p8n2], [(p8n6, none), (p8n7, none)], false, (.seq (.reg [⟨(some p8n6), none, (.mv (.c (.int .u64 (.ofNat 0))))⟩, ⟨(some p8n7), none, (.mv (.c .nili))⟩]) (.seq (.seq (.reg [⟨(some p8n18), none, (.mv (.t p8n0))⟩, ⟨(some p8n19), none, (.bin .eql (.t p8n18) (.c (.str [])))⟩]) (.cond (.t p8n19) (.seq (.reg [⟨(some p8n20), none, (.mem .mlen [])⟩, ⟨(some p8n6), none, (.mv (.c (.int .u64 (.ofNat 0))))⟩, ⟨(some p8n7), none, (.mv (.t p8n20))⟩]) .ret) .skip)) (.seq (.reg [⟨(some p8n21), none, (.mv (.t p8n1))⟩, ⟨(some p8n22), none, (.bin .eql (.t p8n21) (.c (.int .i64 (.ofNat 0))))⟩, ⟨(some p8n8), none, (.mv (.t p8n22))⟩]) (.seq (.reg [⟨(some p8n23), none, (.mv (.t p8n0))⟩, ⟨(some p8n9), none, (.mv (.t p8n23))⟩]) (.seq (.block 0 (.seq (.reg [⟨(some p8n26), none, (.mv (.t p8n1))⟩, ⟨(some p8n27), none, (.bin .leq (.c (.int .i64 (.ofNat 2))) (.t p8n26))⟩, ⟨(some p8n28), none, (.mv (.t p8n27))⟩, ⟨(some p8n29), (some (p8n28, true)), (.mv (.t p8n1))⟩, ⟨(some p8n30), (some (p8n28, true)), (.bin .leq (.t p8n29) (.c (.int .i64 (.ofNat 36))))⟩, ⟨(some p8n31), none, (.pick (.t p8n28) (.t p8n30) (.c (.bool false)))⟩, ⟨(some p8n25), none, (.mv (.t p8n31))⟩]) (.cond (.t p8n25) .skip (.seq (.reg [⟨(some p8n33), none, (.mv (.t p8n1))⟩, ⟨(some p8n34), none, (.bin .eql (.t p8n33) (.c (.int .i64 (.ofNat 0))))⟩, ⟨(some p8n32), none, (.mv (.t p8n34))⟩]) (.cond (.t p8n32) (.seq (.reg [⟨(some p8n1), none, (.mv (.c (.int .i64 (.ofNat 10))))⟩]) (.seq (.reg [⟨(some p8n35), none, (.mv (.t p8n0))⟩, ⟨(some p8n36), none, (.idxS (.t p8n35) (.c (.int .i64 (.ofNat 0))))⟩, ⟨(some p8n37), none, (.bin .eql (.t p8n36) (.c (.int .u8 (.ofNat 48))))⟩]) (.cond (.t p8n37) (.block 1 (.seq (.reg [⟨(some p8n41), none, (.mv (.t p8n0))⟩, ⟨(some p8n42), none, (.len true (.t p8n41))⟩, ⟨(some p8n43), none, (.bin .geq (.t p8n42) (.c (.int .i64 (.ofNat 3))))⟩, ⟨(some p8n44), none, (.mv (.t p8n43))⟩, ⟨(some p8n45), (some (p8n44, true)), (.mv (.t p8n0))⟩, ⟨(some p8n46), (some (p8n44, true)), (.idxS (.t p8n45) (.c (.int .i64 (.ofNat 1))))⟩, ⟨(some p8n47), (some (p8n44, true)), (.call 320 [(.t p8n46)])⟩, ⟨(some p8n48), (some (p8n44, true)), (.bin .eql (.t p8n47) (.c (.int .u8 (.ofNat 98))))⟩, ⟨(some p8n49), none, (.pick (.t p8n44) (.t p8n48) (.c (.bool false)))⟩, ⟨(some p8n40), none, (.mv (.t p8n49))⟩]) (.cond (.t p8n40) (.seq (.reg [⟨(some p8n1), none, (.mv (.c (.int .i64 (.ofNat 2))))⟩]) (.reg [⟨(some p8n50), none, (.mv (.t p8n0))⟩, ⟨(some p8n51), none, (.slS (.t p8n50) (some (.c (.int .i64 (.ofNat 2)))) none)⟩, ⟨(some p8n0), none, (.mv (.t p8n51))⟩])) (.seq (.reg [⟨(some p8n53), none, (.mv (.t p8n0))⟩, ⟨(some p8n54), none, (.len true (.t p8n53))⟩, ⟨(some p8n55), none, (.bin .geq (.t p8n54) (.c (.int .i64 (.ofNat 3))))⟩, ⟨(some p8n56), none, (.mv (.t p8n55))⟩, ⟨(some p8n57), (some (p8n56, true)), (.mv (.t p8n0))⟩, ⟨(some p8n58), (some (p8n56, true)), (.idxS (.t p8n57) (.c (.int .i64 (.ofNat 1))))⟩, ⟨(some p8n59), (some (p8n56, true)), (.call 320 [(.t p8n58)])⟩, ⟨(some p8n60), (some (p8n56, true)), (.bin .eql (.t p8n59) (.c (.int .u8 (.ofNat 111))))⟩, ⟨(some p8n61), none, (.pick (.t p8n56) (.t p8n60) (.c (.bool false)))⟩, ⟨(some p8n52), none, (.mv (.t p8n61))⟩]) (.cond (.t p8n52) (.seq (.reg [⟨(some p8n1), none, (.mv (.c (.int .i64 (.ofNat 8))))⟩]) (.reg [⟨(some p8n62), none, (.mv (.t p8n0))⟩, ⟨(some p8n63), none, (.slS (.t p8n62) (some (.c (.int .i64 (.ofNat 2)))) none)⟩, ⟨(some p8n0), none, (.mv (.t p8n63))⟩])) (.seq (.reg [⟨(some p8n65), none, (.mv (.t p8n0))⟩, ⟨(some p8n66), none, (.len true (.t p8n65))⟩, ⟨(some p8n67), none, (.bin .geq (.t p8n66) (.c (.int .i64 (.ofNat 3))))⟩, ⟨(some p8n68), none, (.mv (.t p8n67))⟩, ⟨(some p8n69), (some (p8n68, true)), (.mv (.t p8n0))⟩, ⟨(some p8n70), (some (p8n68, true)), (.idxS (.t p8n69) (.c (.int .i64 (.ofNat 1))))⟩, ⟨(some p8n71), (some (p8n68, true)), (.call 320 [(.t p8n70)])⟩, ⟨(some p8n72), (some (p8n68, true)), (.bin .eql (.t p8n71) (.c (.int .u8 (.ofNat 120))))⟩, ⟨(some p8n73), none, (.pick (.t p8n68) (.t p8n72) (.c (.bool false)))⟩, ⟨(some p8n64), none, (.mv (.t p8n73))⟩]) (.cond (.t p8n64) (.seq (.reg [⟨(some p8n1), none, (.mv (.c (.int .i64 (.ofNat 16))))⟩]) (.reg [⟨(some p8n74), none, (.mv (.t p8n0))⟩, ⟨(some p8n75), none, (.slS (.t p8n74) (some (.c (.int .i64 (.ofNat 2)))) none)⟩, ⟨(some p8n0), none, (.mv (.t p8n75))⟩])) (.seq (.reg [⟨(some p8n1), none, (.mv (.c (.int .i64 (.ofNat 8))))⟩]) (.reg [⟨(some p8n38), none, (.mv (.t p8n0))⟩, ⟨(some p8n39), none, (.slS (.t p8n38) (some (.c (.int .i64 (.ofNat 1)))) none)⟩, ⟨(some p8n0), none, (.mv (.t p8n39))⟩]))))))))) .skip))) (.seq (.reg [⟨(some p8n24), none, (.mem .mlen [])⟩, ⟨(some p8n6), none, (.mv (.c (.int .u64 (.ofNat 0))))⟩, ⟨(some p8n7), none, (.mv (.t p8n24))⟩]) .ret)))))) (.seq (.seq (.reg [⟨(some p8n76), none, (.mv (.t p8n2))⟩, ⟨(some p8n77), none, (.bin .eql (.t p8n76) (.c (.int .i64 (.ofNat 0))))⟩]) (.cond (.t p8n77) (.reg [⟨(some p8n2), none, (.mv (.c (.int .i64 (.ofNat 64))))⟩]) (.seq (.reg [⟨(some p8n78), none, (.mv (.t p8n2))⟩, ⟨(some p8n79), none, (.bin .lss (.t p8n78) (.c (.int .i64 (.ofNat 0))))⟩, ⟨(some p8n80), none, (.mv (.t p8n79))⟩, ⟨(some p8n81), (some (p8n80, false)), (.mv (.t p8n2))⟩, ⟨(some p8n82), (some (p8n80, false)), (.bin .gtr (.t p8n81) (.c (.int .i64 (.ofNat 64))))⟩, ⟨(some p8n83), none, (.pick (.t p8n80) (.c (.bool true)) (.t p8n82))⟩]) (.cond (.t p8n83) (.seq (.reg [⟨(some p8n84), none, (.mem .mlen [])⟩, ⟨(some p8n6), none, (.mv (.c (.int .u64 (.ofNat 0))))⟩, ⟨(some p8n7), none, (.mv (.t p8n84))⟩]) .ret) .skip)))) (.seq (.reg [⟨(some p8n10), none, (.mv (.c (.int .u64 (.ofNat 0))))⟩]) (.seq (.seq (.reg [⟨(some p8n85), none, (.mv (.t p8n1))⟩]) (.block 2 (.seq (.reg [⟨(some p8n91), none, (.bin .eql (.t p8n85) (.c (.int .i64 (.ofNat 10))))⟩, ⟨(some p8n90), none, (.mv (.t p8n91))⟩]) (.cond (.t p8n90) (.reg [⟨(some p8n10), none, (.mv (.c (.int .u64 (.ofNat 1844674407370955162))))⟩]) (.seq (.reg [⟨(some p8n93), none, (.bin .eql (.t p8n85) (.c (.int .i64 (.ofNat 16))))⟩, ⟨(some p8n92), none, (.mv (.t p8n93))⟩]) (.cond (.t p8n92) (.reg [⟨(some p8n10), none, (.mv (.c (.int .u64 (.ofNat 1152921504606846976))))⟩]) (.reg [⟨(some p8n86), none, (.mv (.t p8n1))⟩, ⟨(some p8n87), none, (.cv (.int .u64) (.t p8n86))⟩, ⟨(some p8n88), none, (.bin .quo (.c (.int .u64 (.ofNat 18446744073709551615))) (.t p8n87))⟩, ⟨(some p8n89), none, (.bin .add (.t p8n88) (.c (.int .u64 (.ofNat 1))))⟩, ⟨(some p8n10), none, (.mv (.t p8n89))⟩]))))))) (.seq (.reg [⟨(some p8n94), none, (.mv (.t p8n2))⟩, ⟨(some p8n95), none, (.cv (.int .u64) (.t p8n94))⟩, ⟨(some p8n96), none, (.bin .shl (.c (.int .u64 (.ofNat 1))) (.t p8n95))⟩, ⟨(some p8n97), none, (.bin .sub (.t p8n96) (.c (.int .u64 (.ofNat 1))))⟩, ⟨(some p8n11), none, (.mv (.t p8n97))⟩]) (.seq (.reg [⟨(some p8n12), none, (.mv (.c (.bool false)))⟩]) (.seq (.reg [⟨(some p8n13), none, (.mv (.c (.int .u64 (.ofNat 0))))⟩]) (.seq (.seq (.reg [⟨(some p8n98), none, (.mv (.t p8n0))⟩, ⟨(some p8n99), none, (.mem .s2b [(.t p8n98)])⟩, ⟨(some p8n100), none, (.len false (.t p8n99))⟩, ⟨(some p8n101), none, (.mv (.c (.int .i64 (.ofNat 0))))⟩]) (.block 3 (.loop (.seq (.reg [⟨(some p8n102), none, (.bin .lss (.t p8n101) (.t p8n100))⟩]) (.seq (.cond (.t p8n102) .skip (.exit 3)) (.seq (.block 4 (.seq (.reg [⟨(some p8n103), none, (.iaddr 1 (.t p8n99) (.t p8n101))⟩, ⟨(some p8n104), none, (.ld1 (.t p8n103))⟩, ⟨(some p8n15), none, (.mv (.t p8n104))⟩]) (.seq (.reg [⟨(some p8n16), none, (.mv (.c (.int .u8 (.ofNat 0))))⟩]) (.seq (.block 5 (.seq (.reg [⟨(some p8n107), none, (.mv (.t p8n15))⟩, ⟨(some p8n108), none, (.bin .eql (.t p8n107) (.c (.int .u8 (.ofNat 95))))⟩, ⟨(some p8n109), none, (.mv (.t p8n108))⟩, ⟨(some p8n110), (some (p8n109, true)), (.mv (.t p8n8))⟩, ⟨(some p8n111), none, (.pick (.t p8n109) (.t p8n110) (.c (.bool false)))⟩, ⟨(some p8n106), none, (.mv (.t p8n111))⟩]) (.cond (.t p8n106) (.seq (.reg [⟨(some p8n12), none, (.mv (.c (.bool true)))⟩]) (.exit 4)) (.seq (.reg [⟨(some p8n113), none, (.mv (.t p8n15))⟩, ⟨(some p8n114), none, (.bin .leq (.c (.int .u8 (.ofNat 48))) (.t p8n113))⟩, ⟨(some p8n115), none, (.mv (.t p8n114))⟩, ⟨(some p8n116), (some (p8n115, true)), (.mv (.t p8n15))⟩, ⟨(some p8n117), (some (p8n115, true)), (.bin .leq (.t p8n116) (.c (.int .u8 (.ofNat 57))))⟩, ⟨(some p8n118), none, (.pick (.t p8n115) (.t p8n117) (.c (.bool false)))⟩, ⟨(some p8n112), none, (.mv (.t p8n118))⟩]) (.cond (.t p8n112) (.reg [⟨(some p8n119), none, (.mv (.t p8n15))⟩, ⟨(some p8n120), none, (.bin .sub (.t p8n119) (.c (.int .u8 (.ofNat 48))))⟩, ⟨(some p8n16), none, (.mv (.t p8n120))⟩]) (.seq (.reg [⟨(some p8n122), none, (.mv (.t p8n15))⟩, ⟨(some p8n123), none, (.call 320 [(.t p8n122)])⟩, ⟨(some p8n124), none, (.bin .leq (.c (.int .u8 (.ofNat 97))) (.t p8n123))⟩, ⟨(some p8n125), none, (.mv (.t p8n124))⟩, ⟨(some p8n126), (some (p8n125, true)), (.mv (.t p8n15))⟩, ⟨(some p8n127), (some (p8n125, true)), (.call 320 [(.t p8n126)])⟩, ⟨(some p8n128), (some (p8n125, true)), (.bin .leq (.t p8n127) (.c (.int .u8 (.ofNat 122))))⟩, ⟨(some p8n129), none, (.pick (.t p8n125) (.t p8n128) (.c (.bool false)))⟩, ⟨(some p8n121), none, (.mv (.t p8n129))⟩]) (.cond (.t p8n121) (.reg [⟨(some p8n130), none, (.mv (.t p8n15))⟩, ⟨(some p8n131), none, (.call 320 [(.t p8n130)])⟩, ⟨(some p8n132), none, (.bin .sub (.t p8n131) (.c (.int .u8 (.ofNat 97))))⟩, ⟨(some p8n133), none, (.bin .add (.t p8n132) (.c (.int .u8 (.ofNat 10))))⟩, ⟨(some p8n16), none, (.mv (.t p8n133))⟩]) (.seq (.reg [⟨(some p8n105), none, (.mem .mlen [])⟩, ⟨(some p8n6), none, (.mv (.c (.int .u64 (.ofNat 0))))⟩, ⟨(some p8n7), none, (.mv (.t p8n105))⟩]) .ret)))))))) (.seq (.seq (.reg [⟨(some p8n134), none, (.mv (.t p8n16))⟩, ⟨(some p8n135), none, (.mv (.t p8n1))⟩, ⟨(some p8n136), none, (.cv (.int .u8) (.t p8n135))⟩, ⟨(some p8n137), none, (.bin .geq (.t p8n134) (.t p8n136))⟩]) (.cond (.t p8n137) (.seq (.reg [⟨(some p8n138), none, (.mem .mlen [])⟩, ⟨(some p8n6), none, (.mv (.c (.int .u64 (.ofNat 0))))⟩, ⟨(some p8n7), none, (.mv (.t p8n138))⟩]) .ret) .skip)) (.seq (.seq (.reg [⟨(some p8n139), none, (.mv (.t p8n13))⟩, ⟨(some p8n140), none, (.mv (.t p8n10))⟩, ⟨(some p8n141), none, (.bin .geq (.t p8n139) (.t p8n140))⟩]) (.cond (.t p8n141) (.seq (.reg [⟨(some p8n142), none, (.mv (.t p8n11))⟩, ⟨(some p8n143), none, (.mem .mlen [])⟩, ⟨(some p8n6), none, (.mv (.t p8n142))⟩, ⟨(some p8n7), none, (.mv (.t p8n143))⟩]) .ret) .skip)) (.seq (.reg [⟨(some p8n144), none, (.mv (.t p8n13))⟩, ⟨(some p8n145), none, (.mv (.t p8n1))⟩, ⟨(some p8n146), none, (.cv (.int .u64) (.t p8n145))⟩, ⟨(some p8n147), none, (.bin .mul (.t p8n144) (.t p8n146))⟩, ⟨(some p8n13), none, (.mv (.t p8n147))⟩]) (.seq (.reg [⟨(some p8n148), none, (.mv (.t p8n13))⟩, ⟨(some p8n149), none, (.mv (.t p8n16))⟩, ⟨(some p8n150), none, (.cv (.int .u64) (.t p8n149))⟩, ⟨(some p8n151), none, (.bin .add (.t p8n148) (.t p8n150))⟩, ⟨(some p8n17), none, (.mv (.t p8n151))⟩]) (.seq (.seq (.reg [⟨(some p8n152), none, (.mv (.t p8n17))⟩, ⟨(some p8n153), none, (.mv (.t p8n13))⟩, ⟨(some p8n154), none, (.bin .lss (.t p8n152) (.t p8n153))⟩, ⟨(some p8n155), none, (.mv (.t p8n154))⟩, ⟨(some p8n156), (some (p8n155, false)), (.mv (.t p8n17))⟩, ⟨(some p8n157), (some (p8n155, false)), (.mv (.t p8n11))⟩, ⟨(some p8n158), (some (p8n155, false)), (.bin .gtr (.t p8n156) (.t p8n157))⟩, ⟨(some p8n159), none, (.pick (.t p8n155) (.c (.bool true)) (.t p8n158))⟩]) (.cond (.t p8n159) (.seq (.reg [⟨(some p8n160), none, (.mv (.t p8n11))⟩, ⟨(some p8n161), none, (.mem .mlen [])⟩, ⟨(some p8n6), none, (.mv (.t p8n160))⟩, ⟨(some p8n7), none, (.mv (.t p8n161))⟩]) .ret) .skip)) (.reg [⟨(some p8n162), none, (.mv (.t p8n17))⟩, ⟨(some p8n13), none, (.mv (.t p8n162))⟩])))))))))) (.reg [⟨(some p8n163), none, (.bin .add (.t p8n101) (.c (.int .i64 (.ofNat 1))))⟩, ⟨(some p8n101), none, (.mv (.t p8n163))⟩]))))))) (.seq (.seq (.reg [⟨(some p8n164), none, (.mv (.t p8n12))⟩, ⟨(some p8n165), none, (.mv (.t p8n164))⟩, ⟨(some p8n166), (some (p8n165, true)), (.mv (.t p8n9))⟩, ⟨(some p8n167), (some (p8n165, true)), (.call 321 [(.t p8n166)])⟩, ⟨(some p8n168), (some (p8n165, true)), (.un .not (.t p8n167))⟩, ⟨(some p8n169), none, (.pick (.t p8n165) (.t p8n168) (.c (.bool false)))⟩]) (.cond (.t p8n169) (.seq (.reg [⟨(some p8n170), none, (.mem .mlen [])⟩, ⟨(some p8n6), none, (.mv (.c (.int .u64 (.ofNat 0))))⟩, ⟨(some p8n7), none, (.mv (.t p8n170))⟩]) .ret) .skip)) (.seq (.reg [⟨(some p8n171), none, (.mv (.t p8n13))⟩, ⟨(some p8n6), none, (.mv (.t p8n171))⟩, ⟨(some p8n7), none, (.mv (.c .nili))⟩]) .ret))))))))))))))⟩
noncomputable def a310 : AFunc :=
  ⟨4, [p4n0, p4n1], [(p4n4, none)], false, (.seq (.reg [⟨(some p4n4), none, (.mv (.c .nilp))⟩]) (.seq (.regx 127 [(0, (0, (true, ⟨(some p4n5), none, (.mv (.t p4n0))⟩))), (1, (0, (true, ⟨(some p4n6), none, (.mv (.t p4n1))⟩))), (2, (2, (false, ⟨(some p4n7), none, (.call 322 [(.t p4n6)])⟩))), (3, (0, (false, ⟨(some p4n8), none, (.mem .mlen [])⟩))), (4, (13, (false, ⟨(some p4n9), none, (.build [(.str []), (.str []), .nili] [(0, (1, (.t p4n5))), (1, (1, (.t p4n7))), (2, (1, (.t p4n8)))])⟩))), (5, (16, (false, ⟨(some p4n10), none, (.box (.t p4n9))⟩))), (6, (63, (true, ⟨(some p4n4), none, (.mv (.t p4n10))⟩)))]) .ret))⟩
noncomputable def a311 : AFunc :=
  ⟨4, [p4n0, p4n1], [(p4n4, none)], false, (.seq (.reg [⟨(some p4n4), none, (.mv (.c .nilp))⟩]) (.seq (.regx 127 [(0, (0, (true, ⟨(some p4n5), none, (.mv (.t p4n0))⟩))), (1, (0, (true, ⟨(some p4n6), none, (.mv (.t p4n1))⟩))), (2, (2, (false, ⟨(some p4n7), none, (.call 322 [(.t p4n6)])⟩))), (3, (0, (false, ⟨(some p4n8), none, (.mem .mlen [])⟩))), (4, (13, (false, ⟨(some p4n9), none, (.build [(.str []), (.str []), .nili] [(0, (1, (.t p4n5))), (1, (1, (.t p4n7))), (2, (1, (.t p4n8)))])⟩))), (5, (16, (false, ⟨(some p4n10), none, (.box (.t p4n9))⟩))), (6, (63, (true, ⟨(some p4n4), none, (.mv (.t p4n10))⟩)))]) .ret))⟩
noncomputable def a312 : AFunc :=
  ⟨4, [p4n0, p4n1, p4n2], [(p4n6, none)], false, (.seq (.reg [⟨(some p4n6), none, (.mv (.c .nilp))⟩]) (.seq (.reg [⟨(some p4n7), none, (.mv (.t p4n0))⟩, ⟨(some p4n8), none, (.mv (.t p4n1))⟩, ⟨(some p4n9), none, (.call 322 [(.t p4n8)])⟩, ⟨(some p4n10), none, (.mv (.t p4n2))⟩, ⟨(some p4n11), none, (.call 289 [(.t p4n10)])⟩, ⟨(some p4n12), none, (.bin .add (.c (.str [105, 110, 118, 97, 108, 105, 100, 32, 98, 97, 115, 101, 32])) (.t p4n11))⟩, ⟨(some p4n13), none, (.call 323 [(.t p4n12)])⟩, ⟨(some p4n14), none, (.build [(.str []), (.str []), .nili] [(0, (1, (.t p4n7))), (1, (1, (.t p4n9))), (2, (1, (.t p4n13)))])⟩, ⟨(some p4n15), none, (.box (.t p4n14))⟩, ⟨(some p4n6), none, (.mv (.t p4n15))⟩]) .ret))⟩
noncomputable def a313 : AFunc :=
  ⟨4, [p4n0, p4n1, p4n2], [(p4n6, none)], false, (.seq (.reg [⟨(some p4n6), none, (.mv (.c .nilp))⟩]) (.seq (.reg [⟨(some p4n7), none, (.mv (.t p4n0))⟩, ⟨(some p4n8), none, (.mv (.t p4n1))⟩, ⟨(some p4n9), none, (.call 322 [(.t p4n8)])⟩, ⟨(some p4n10), none, (.mv (.t p4n2))⟩, ⟨(some p4n11), none, (.call 289 [(.t p4n10)])⟩, ⟨(some p4n12), none, (.bin .add (.c (.str [105, 110, 118, 97, 108, 105, 100, 32, 98, 105, 116, 32, 115, 105, 122, 101, 32])) (.t p4n11))⟩, ⟨(some p4n13), none, (.call 323 [(.t p4n12)])⟩, ⟨(some p4n14), none, (.build [(.str []), (.str []), .nili] [(0, (1, (.t p4n7))), (1, (1, (.t p4n9))), (2, (1, (.t p4n13)))])⟩, ⟨(some p4n15), none, (.box (.t p4n14))⟩, ⟨(some p4n6), none, (.mv (.t p4n15))⟩]) .ret))⟩
noncomputable def a320 : AFunc :=
  ⟨4, [p4n0], [(p4n2, none)], false, (.seq (.reg [⟨(some p4n2), none, (.mv (.c (.int .u8 (.ofNat 0))))⟩]) (.seq (.reg [⟨(some p4n3), none, (.mv (.t p4n0))⟩, ⟨(some p4n4), none, (.bin .or (.t p4n3) (.c (.int .u8 (.ofNat 32))))⟩, ⟨(some p4n2), none, (.mv (.t p4n4))⟩]) .ret))⟩
noncomputable def a322 : AFunc :=
  ⟨6, [p6n0], [(p6n2, none)], false, (.seq (.reg [⟨(some p6n2), none, (.mv (.c (.str [])))⟩]) (.seq (.seq (.reg [⟨(some p6n4), none, (.mv (.t p6n0))⟩, ⟨(some p6n5), none, (.len true (.t p6n4))⟩, ⟨(some p6n6), none, (.bin .eql (.t p6n5) (.c (.int .i64 (.ofNat 0))))⟩]) (.cond (.t p6n6) (.seq (.reg [⟨(some p6n2), none, (.mv (.c (.str [])))⟩]) .ret) .skip)) (.seq (.reg [⟨(some p6n7), none, (.mv (.t p6n0))⟩, ⟨(some p6n8), none, (.len true (.t p6n7))⟩, ⟨(some p6n9), none, (.mkS 1 1 (.int .u8 (.ofNat 0)) (.t p6n8) (.t p6n8))⟩, ⟨(some p6n3), none, (.mv (.t p6n9))⟩]) (.seq (.reg [⟨(some p6n10), none, (.mv (.t p6n3))⟩, ⟨(some p6n11), none, (.mv (.t p6n0))⟩, ⟨(some p6n12), none, (.mem .mlen [])⟩]) (.seq (.reg [⟨(some p6n13), none, (.mv (.t p6n3))⟩, ⟨(some p6n14), none, (.iaddr 1 (.t p6n13) (.c (.int .i64 (.ofNat 0))))⟩, ⟨(some p6n15), none, (.mv (.t p6n3))⟩, ⟨(some p6n16), none, (.len false (.t p6n15))⟩, ⟨(some p6n17), none, (.mem .mlen [])⟩, ⟨(some p6n2), none, (.mv (.t p6n17))⟩]) .ret)))))⟩
noncomputable def a323 : AFunc :=
  ⟨4, [p4n0], [(p4n2, none)], false, (.seq (.reg [⟨(some p4n2), none, (.mv (.c .nili))⟩]) (.seq (.reg [⟨(some p4n3), none, (.mv (.t p4n0))⟩, ⟨(some p4n4), none, (.build [(.str [])] [(0, (1, (.t p4n3)))])⟩, ⟨(some p4n5), none, (.box (.t p4n4))⟩, ⟨(some p4n6), none, (.mem .mlen [])⟩, ⟨(some p4n2), none, (.mv (.t p4n6))⟩]) .ret))⟩
noncomputable def a345 : AFunc :=
  ⟨4, [p4n0], [(p4n2, none)], false, (.seq (.reg [⟨(some p4n1), none, (.box (.t p4n0))⟩, ⟨(some p4n2), none, (.mv (.c (.bool false)))⟩]) (.seq (.reg [⟨(some p4n3), none, (.faddr 0 (.t p4n1))⟩, ⟨(some p4n4), none, (.ld1 (.t p4n3))⟩, ⟨(some p4n5), none, (.len false (.t p4n4))⟩, ⟨(some p4n6), none, (.bin .geq (.t p4n5) (.c (.int .i64 (.ofNat 0))))⟩, ⟨(some p4n7), none, (.mv (.t p4n6))⟩, ⟨(some p4n8), (some (p4n7, true)), (.buildS 1 14 (.str []) [(0, (.c (.str [46, 103, 108, 111, 98, 97, 108, 32, 97, 10, 97, 58, 32, 104, 97, 108, 116]))), (1, (.c (.str [97, 58, 32, 104, 97, 108, 116, 10, 46, 103, 108, 111, 98, 97, 108, 32, 97]))), (2, (.c (.str [46, 103, 108, 111, 98, 97, 108, 32, 97]))), (3, (.c (.str [46, 103, 108, 111, 98, 97, 108, 32, 97, 10, 46, 103, 108, 111, 98, 97, 108, 32, 97, 10, 97, 58, 32, 104, 97, 108, 116]))), (4, (.c (.str [46, 103, 108, 111, 98, 97, 108, 32, 98, 10, 46, 103, 108, 111, 98, 97, 108, 32, 97, 10, 97, 58, 32, 104, 97, 108, 116]))), (5, (.c (.str [46, 103, 108, 111, 98, 97, 108]))), (6, (.c (.str [46, 103, 108, 111, 98, 97, 108, 32, 97, 32, 98]))), (7, (.c (.str [46, 103, 108, 111, 98, 97, 108, 32, 97, 44, 32, 98]))), (8, (.c (.str [46, 103, 108, 111, 98, 97, 108, 32, 53]))), (9, (.c (.str [46, 103, 108, 111, 98, 97, 108, 32, 46, 97]))), (10, (.c (.str [120, 58, 32, 46, 103, 108, 111, 98, 97, 108, 32, 120, 10, 104, 97, 108, 116]))), (11, (.c (.str [46, 103, 108, 111, 98, 97, 108, 32, 100, 10, 46, 100, 97, 116, 97, 10, 100, 58, 32, 46, 119, 111, 114, 100, 32, 49]))), (12, (.c (.str [46, 103, 108, 111, 98, 97, 108, 32, 98, 10, 46, 103, 108, 111, 98, 97, 108, 32, 97, 10, 97, 58, 32, 110, 111, 112, 10, 98, 58, 32, 104, 97, 108, 116]))), (13, (.c (.str [104, 97, 108, 116, 10, 104, 97, 108, 10, 46, 103, 108, 111, 98, 97, 108, 32, 113])))])⟩, ⟨(some p4n9), (some (p4n7, true)), (.call 348 [(.t p4n8)])⟩, ⟨(some p4n10), none, (.pick (.t p4n7) (.t p4n9) (.c (.bool false)))⟩, ⟨(some p4n2), none, (.mv (.t p4n10))⟩]) .ret))⟩
noncomputable def a348 : AFunc :=
  ⟨6, [p6n0], [(p6n2, none)], false, (.seq (.reg [⟨(some p6n2), none, (.mv (.c (.bool false)))⟩]) (.seq (.seq (.reg [⟨(some p6n3), none, (.mv (.c (.int .i64 (.ofNat 0))))⟩]) (.block 0 (.loop (.seq (.seq (.reg [⟨(some p6n10), none, (.mv (.t p6n3))⟩, ⟨(some p6n11), none, (.mv (.t p6n0))⟩, ⟨(some p6n12), none, (.len false (.t p6n11))⟩, ⟨(some p6n13), none, (.bin .lss (.t p6n10) (.t p6n12))⟩]) (.cond (.t p6n13) .skip (.exit 0))) (.seq (.block 1 (.seq (.reg [⟨(some p6n17), none, (.mv (.t p6n0))⟩, ⟨(some p6n18), none, (.mv (.t p6n3))⟩, ⟨(some p6n19), none, (.iaddr 1 (.t p6n17) (.t p6n18))⟩, ⟨(some p6n20), none, (.ld1 (.t p6n19))⟩, ⟨(some p6n21), none, (.call 352 [(.t p6n20)])⟩, ⟨(some p6n16), none, (.mv (.t p6n21))⟩, ⟨(some p6n22), none, (.ext (.t p6n16) 0)⟩, ⟨(some p6n23), none, (.ext (.t p6n16) 1)⟩, ⟨(some p6n24), none, (.ext (.t p6n16) 2)⟩, ⟨(some p6n4), none, (.alloc [.nils, .nils, .nils, .nils])⟩, ⟨none, none, (.st 4 (.t p6n4) (.t p6n22))⟩, ⟨(some p6n5), none, (.mv (.t p6n23))⟩, ⟨(some p6n6), none, (.mv (.t p6n24))⟩]) (.seq (.reg [⟨(some p6n26), none, (.mv (.t p6n0))⟩, ⟨(some p6n27), none, (.mv (.t p6n3))⟩, ⟨(some p6n28), none, (.iaddr 1 (.t p6n26) (.t p6n27))⟩, ⟨(some p6n29), none, (.ld1 (.t p6n28))⟩, ⟨(some p6n30), none, (.call 353 [(.t p6n29)])⟩, ⟨(some p6n25), none, (.mv (.t p6n30))⟩, ⟨(some p6n31), none, (.ext (.t p6n25) 0)⟩, ⟨(some p6n32), none, (.ext (.t p6n25) 1)⟩, ⟨(some p6n33), none, (.ext (.t p6n25) 2)⟩, ⟨(some p6n7), none, (.alloc [.nils, .nils, .nils, .nils])⟩, ⟨none, none, (.st 4 (.t p6n7) (.t p6n31))⟩, ⟨(some p6n8), none, (.mv (.t p6n32))⟩, ⟨(some p6n9), none, (.mv (.t p6n33))⟩]) (.seq (.reg [⟨(some p6n34), none, (.mv (.t p6n6))⟩, ⟨(some p6n35), none, (.call 354 [(.t p6n34)])⟩, ⟨(some p6n36), none, (.mv (.t p6n9))⟩, ⟨(some p6n37), none, (.bin .neq (.t p6n35) (.t p6n36))⟩, ⟨(some p6n38), none, (.mv (.t p6n37))⟩, ⟨(some p6n39), (some (p6n38, false)), (.mv (.t p6n5))⟩, ⟨(some p6n40), (some (p6n38, false)), (.mv (.t p6n8))⟩, ⟨(some p6n41), (some (p6n38, false)), (.bin .neq (.t p6n39) (.t p6n40))⟩, ⟨(some p6n42), none, (.pick (.t p6n38) (.c (.bool true)) (.t p6n41))⟩, ⟨(some p6n43), none, (.mv (.t p6n42))⟩, ⟨(some p6n44), (some (p6n43, false)), (.ldA 4 (.t p6n4))⟩, ⟨(some p6n45), (some (p6n43, false)), (.ldA 4 (.t p6n7))⟩, ⟨(some p6n46), (some (p6n43, false)), (.call 355 [(.t p6n44), (.t p6n45)])⟩, ⟨(some p6n47), (some (p6n43, false)), (.un .not (.t p6n46))⟩, ⟨(some p6n48), none, (.pick (.t p6n43) (.c (.bool true)) (.t p6n47))⟩]) (.cond (.t p6n48) (.seq (.reg [⟨(some p6n2), none, (.mv (.c (.bool false)))⟩]) .ret) .skip))))) (.reg [⟨(some p6n14), none, (.mv (.t p6n3))⟩, ⟨(some p6n15), none, (.bin .add (.t p6n14) (.c (.int .i64 (.ofNat 1))))⟩, ⟨(some p6n3), none, (.mv (.t p6n15))⟩])))))) (.seq (.reg [⟨(some p6n49), none, (.call 356 [])⟩, ⟨(some p6n2), none, (.mv (.t p6n49))⟩]) .ret)))⟩
noncomputable def a349 : AFunc :=
  ⟨106, [p6n0], [(p6n2, none), (p6n3, none), (p6n4, none)], false, (.seq (.reg [⟨(some p6n2), none, (.mv (.c .nils))⟩, ⟨(some p6n3), none, (.mv (.c (.int .i64 (.ofNat 0))))⟩, ⟨(some p6n4), none, (.mv (.c (.int .i64 (.ofNat 0))))⟩]) (.seq (.block 1001 (.seq (.block 1000 (.seq (.seq (.reg [⟨(some p6n13), none, (.mv (.t p6n0))⟩, ⟨(some p6n14), none, (.call 357 [(.t p6n13)])⟩, ⟨(some p6n12), none, (.mv (.t p6n14))⟩, ⟨(some p6n15), none, (.ext (.t p6n12) 0)⟩, ⟨(some p6n16), none, (.ext (.t p6n12) 1)⟩, ⟨(some p6n5), none, (.mv (.t p6n15))⟩, ⟨(some p6n4), none, (.mv (.t p6n16))⟩]) (.seq (.seq (.reg [⟨(some p6n17), none, (.mv (.t p6n4))⟩, ⟨(some p6n18), none, (.bin .neq (.t p6n17) (.c (.int .i64 (.ofNat 0))))⟩]) (.cond (.t p6n18) (.seq (.reg [⟨(some p6n19), none, (.mv (.t p6n4))⟩, ⟨(some p6n2), none, (.mv (.c .nils))⟩, ⟨(some p6n3), none, (.mv (.c (.int .i64 (.ofNat 0))))⟩, ⟨(some p6n4), none, (.mv (.t p6n19))⟩]) .ret) .skip)) (.seq (.reg [⟨(some p6n6), none, (.mv (.c (.int .i64 (.ofNat 0))))⟩]) (.seq .skip (.seq (.seq (.reg [⟨(some p6n20), none, (.mv (.t p6n6))⟩, ⟨(some p6n21), none, (.mv (.t p6n5))⟩, ⟨(some p6n22), none, (.len false (.t p6n21))⟩, ⟨(some p6n23), none, (.bin .eql (.t p6n20) (.t p6n22))⟩]) (.cond (.t p6n23) (.seq (.reg [⟨(some p6n24), none, (.mv (.t p6n2))⟩, ⟨(some p6n2), none, (.mv (.t p6n24))⟩, ⟨(some p6n3), none, (.mv (.c (.int .i64 (.ofNat 0))))⟩, ⟨(some p6n4), none, (.mv (.c (.int .i64 (.ofNat 0))))⟩]) .ret) .skip)) (.seq (.reg [⟨(some p6n25), none, (.mv (.t p6n6))⟩, ⟨(some p6n26), none, (.bin .add (.t p6n25) (.c (.int .i64 (.ofNat 1))))⟩, ⟨(some p6n6), none, (.mv (.t p6n26))⟩]) (.seq (.reg [⟨(some p6n28), none, (.mv (.t p6n5))⟩, ⟨(some p6n29), none, (.mv (.t p6n6))⟩, ⟨(some p6n30), none, (.bin .sub (.t p6n29) (.c (.int .i64 (.ofNat 1))))⟩, ⟨(some p6n31), none, (.iaddr 1 (.t p6n28) (.t p6n30))⟩, ⟨(some p6n32), none, (.ld1 (.t p6n31))⟩, ⟨(some p6n33), none, (.call 280 [(.t p6n32)])⟩, ⟨(some p6n27), none, (.mv (.t p6n33))⟩, ⟨(some p6n34), none, (.ext (.t p6n27) 0)⟩, ⟨(some p6n35), none, (.ext (.t p6n27) 1)⟩, ⟨(some p6n36), none, (.ext (.t p6n27) 2)⟩, ⟨(some p6n7), none, (.mv (.t p6n34))⟩, ⟨(some p6n8), none, (.mv (.t p6n35))⟩, ⟨(some p6n4), none, (.mv (.t p6n36))⟩]) (.seq (.seq (.reg [⟨(some p6n37), none, (.mv (.t p6n4))⟩, ⟨(some p6n38), none, (.bin .neq (.t p6n37) (.c (.int .i64 (.ofNat 0))))⟩]) (.cond (.t p6n38) (.exit 1001) .skip)) (.seq (.seq (.reg [⟨(some p6n40), none, (.mv (.t p6n7))⟩, ⟨(some p6n41), none, (.call 358 [(.t p6n40)])⟩, ⟨(some p6n39), none, (.mv (.t p6n41))⟩, ⟨(some p6n42), none, (.ext (.t p6n39) 0)⟩, ⟨(some p6n43), none, (.ext (.t p6n39) 1)⟩, ⟨(some p6n44), none, (.ext (.t p6n39) 2)⟩, ⟨(some p6n9), none, (.mv (.t p6n42))⟩, ⟨(some p6n10), none, (.mv (.t p6n43))⟩, ⟨(some p6n11), none, (.mv (.t p6n44))⟩]) (.seq (.seq (.reg [⟨(some p6n45), none, (.mv (.t p6n11))⟩, ⟨(some p6n46), none, (.un .not (.t p6n45))⟩]) (.cond (.t p6n46) (.seq (.reg [⟨(some p6n4), none, (.mv (.c (.int .i64 (.ofNat 3))))⟩]) (.exit 1001)) .skip)) (.seq (.seq (.reg [⟨(some p6n47), none, (.mv (.t p6n9))⟩, ⟨(some p6n48), none, (.bin .eql (.t p6n47) (.c (.str [])))⟩, ⟨(some p6n49), none, (.mv (.t p6n48))⟩, ⟨(some p6n50), (some (p6n49, true)), (.mv (.t p6n10))⟩, ⟨(some p6n51), (some (p6n49, true)), (.len false (.t p6n50))⟩, ⟨(some p6n52), (some (p6n49, true)), (.bin .eql (.t p6n51) (.c (.int .i64 (.ofNat 0))))⟩, ⟨(some p6n53), none, (.pick (.t p6n49) (.t p6n52) (.c (.bool false)))⟩]) (.cond (.t p6n53) (.exit 1000) .skip)) (.reg [⟨(some p6n54), none, (.mv (.t p6n2))⟩, ⟨(some p6n55), none, (.mv (.t p6n6))⟩, ⟨(some p6n56), none, (.mv (.t p6n9))⟩, ⟨(some p6n57), none, (.mv (.t p6n10))⟩, ⟨(some p6n58), none, (.call 180 [(.t p6n57)])⟩, ⟨(some p6n59), none, (.build [(.int .i64 (.ofNat 0)), (.str []), .nils] [(0, (1, (.t p6n55))), (1, (1, (.t p6n56))), (2, (1, (.t p6n58)))])⟩, ⟨(some p6n60), none, (.buildS 3 1 (.agg [(.int .i64 (.ofNat 0)), (.str []), .nils]) [(0, (.t p6n59))])⟩, ⟨(some p6n61), none, (.app 3 48 (.agg [(.int .i64 (.ofNat 0)), (.str []), .nils]) (.t p6n54) (.t p6n60))⟩, ⟨(some p6n2), none, (.mv (.t p6n61))⟩])))) (.seq (.exit 1000) (.seq .skip (.seq (.reg [⟨(some p6n62), none, (.mv (.t p6n6))⟩, ⟨(some p6n63), none, (.mv (.t p6n4))⟩, ⟨(some p6n2), none, (.mv (.c .nils))⟩, ⟨(some p6n3), none, (.mv (.t p6n62))⟩, ⟨(some p6n4), none, (.mv (.t p6n63))⟩]) .ret)))))))))))) (.exit 2000))) (.loop (.block 1000 (.seq (.seq .skip (.seq (.seq (.reg [⟨(some p6n20), none, (.mv (.t p6n6))⟩, ⟨(some p6n21), none, (.mv (.t p6n5))⟩, ⟨(some p6n22), none, (.len false (.t p6n21))⟩, ⟨(some p6n23), none, (.bin .eql (.t p6n20) (.t p6n22))⟩]) (.cond (.t p6n23) (.seq (.reg [⟨(some p6n24), none, (.mv (.t p6n2))⟩, ⟨(some p6n2), none, (.mv (.t p6n24))⟩, ⟨(some p6n3), none, (.mv (.c (.int .i64 (.ofNat 0))))⟩, ⟨(some p6n4), none, (.mv (.c (.int .i64 (.ofNat 0))))⟩]) .ret) .skip)) (.seq (.reg [⟨(some p6n25), none, (.mv (.t p6n6))⟩, ⟨(some p6n26), none, (.bin .add (.t p6n25) (.c (.int .i64 (.ofNat 1))))⟩, ⟨(some p6n6), none, (.mv (.t p6n26))⟩]) (.seq (.reg [⟨(some p6n28), none, (.mv (.t p6n5))⟩, ⟨(some p6n29), none, (.mv (.t p6n6))⟩, ⟨(some p6n30), none, (.bin .sub (.t p6n29) (.c (.int .i64 (.ofNat 1))))⟩, ⟨(some p6n31), none, (.iaddr 1 (.t p6n28) (.t p6n30))⟩, ⟨(some p6n32), none, (.ld1 (.t p6n31))⟩, ⟨(some p6n33), none, (.call 280 [(.t p6n32)])⟩, ⟨(some p6n27), none, (.mv (.t p6n33))⟩, ⟨(some p6n34), none, (.ext (.t p6n27) 0)⟩, ⟨(some p6n35), none, (.ext (.t p6n27) 1)⟩, ⟨(some p6n36), none, (.ext (.t p6n27) 2)⟩, ⟨(some p6n7), none, (.mv (.t p6n34))⟩, ⟨(some p6n8), none, (.mv (.t p6n35))⟩, ⟨(some p6n4), none, (.mv (.t p6n36))⟩]) (.seq (.seq (.reg [⟨(some p6n37), none, (.mv (.t p6n4))⟩, ⟨(some p6n38), none, (.bin .neq (.t p6n37) (.c (.int .i64 (.ofNat 0))))⟩]) (.cond (.t p6n38) (.exit 1001) .skip)) (.seq (.seq (.reg [⟨(some p6n40), none, (.mv (.t p6n7))⟩, ⟨(some p6n41), none, (.call 358 [(.t p6n40)])⟩, ⟨(some p6n39), none, (.mv (.t p6n41))⟩, ⟨(some p6n42), none, (.ext (.t p6n39) 0)⟩, ⟨(some p6n43), none, (.ext (.t p6n39) 1)⟩, ⟨(some p6n44), none, (.ext (.t p6n39) 2)⟩, ⟨(some p6n9), none, (.mv (.t p6n42))⟩, ⟨(some p6n10), none, (.mv (.t p6n43))⟩, ⟨(some p6n11), none, (.mv (.t p6n44))⟩]) (.seq (.seq (.reg [⟨(some p6n45), none, (.mv (.t p6n11))⟩, ⟨(some p6n46), none, (.un .not (.t p6n45))⟩]) (.cond (.t p6n46) (.seq (.reg [⟨(some p6n4), none, (.mv (.c (.int .i64 (.ofNat 3))))⟩]) (.exit 1001)) .skip)) (.seq (.seq (.reg [⟨(some p6n47), none, (.mv (.t p6n9))⟩, ⟨(some p6n48), none, (.bin .eql (.t p6n47) (.c (.str [])))⟩, ⟨(some p6n49), none, (.mv (.t p6n48))⟩, ⟨(some p6n50), (some (p6n49, true)), (.mv (.t p6n10))⟩, ⟨(some p6n51), (some (p6n49, true)), (.len false (.t p6n50))⟩, ⟨(some p6n52), (some (p6n49, true)), (.bin .eql (.t p6n51) (.c (.int .i64 (.ofNat 0))))⟩, ⟨(some p6n53), none, (.pick (.t p6n49) (.t p6n52) (.c (.bool false)))⟩]) (.cond (.t p6n53) (.exit 1000) .skip)) (.reg [⟨(some p6n54), none, (.mv (.t p6n2))⟩, ⟨(some p6n55), none, (.mv (.t p6n6))⟩, ⟨(some p6n56), none, (.mv (.t p6n9))⟩, ⟨(some p6n57), none, (.mv (.t p6n10))⟩, ⟨(some p6n58), none, (.call 180 [(.t p6n57)])⟩, ⟨(some p6n59), none, (.build [(.int .i64 (.ofNat 0)), (.str []), .nils] [(0, (1, (.t p6n55))), (1, (1, (.t p6n56))), (2, (1, (.t p6n58)))])⟩, ⟨(some p6n60), none, (.buildS 3 1 (.agg [(.int .i64 (.ofNat 0)), (.str []), .nils]) [(0, (.t p6n59))])⟩, ⟨(some p6n61), none, (.app 3 48 (.agg [(.int .i64 (.ofNat 0)), (.str []), .nils]) (.t p6n54) (.t p6n60))⟩, ⟨(some p6n2), none, (.mv (.t p6n61))⟩])))) (.seq (.exit 1000) (.seq .skip (.seq (.reg [⟨(some p6n62), none, (.mv (.t p6n6))⟩, ⟨(some p6n63), none, (.mv (.t p6n4))⟩, ⟨(some p6n2), none, (.mv (.c .nils))⟩, ⟨(some p6n3), none, (.mv (.t p6n62))⟩, ⟨(some p6n4), none, (.mv (.t p6n63))⟩]) .ret))))))))) (.exit 2000)))))) (.seq (.seq .skip (.seq (.reg [⟨(some p6n62), none, (.mv (.t p6n6))⟩, ⟨(some p6n63), none, (.mv (.t p6n4))⟩, ⟨(some p6n2), none, (.mv (.c .nils))⟩, ⟨(some p6n3), none, (.mv (.t p6n62))⟩, ⟨(some p6n4), none, (.mv (.t p6n63))⟩]) .ret)) (.exit 2000))))⟩
noncomputable def a352 : AFunc :=
  ⟨8, [p8n0], [(p8n2, (some (4, true))), (p8n3, none), (p8n4, none)], true, (.seq (.reg [⟨(some p8n2), none, (.alloc [.nils, .nils, .nils, .nils])⟩, ⟨(some p8n3), none, (.mv (.c (.int .i64 (.ofNat 0))))⟩, ⟨(some p8n4), none, (.mv (.c (.int .i64 (.ofNat 0))))⟩]) (.seq (.reg [⟨(some p8n14), none, (.mv (.t p8n0))⟩, ⟨(some p8n15), none, (.call 349 [(.t p8n14)])⟩, ⟨(some p8n13), none, (.mv (.t p8n15))⟩, ⟨(some p8n16), none, (.ext (.t p8n13) 0)⟩, ⟨(some p8n17), none, (.ext (.t p8n13) 1)⟩, ⟨(some p8n18), none, (.ext (.t p8n13) 2)⟩, ⟨(some p8n5), none, (.mv (.t p8n16))⟩, ⟨(some p8n3), none, (.mv (.t p8n17))⟩, ⟨(some p8n4), none, (.mv (.t p8n18))⟩]) (.seq (.seq (.reg [⟨(some p8n19), none, (.mv (.t p8n4))⟩, ⟨(some p8n20), none, (.bin .neq (.t p8n19) (.c (.int .i64 (.ofNat 0))))⟩]) (.cond (.t p8n20) (.seq (.reg [⟨(some p8n21), none, (.ldA 4 (.t p8n2))⟩, ⟨(some p8n22), none, (.mv (.t p8n3))⟩, ⟨(some p8n23), none, (.mv (.t p8n4))⟩, ⟨none, none, (.st 4 (.t p8n2) (.t p8n21))⟩, ⟨(some p8n3), none, (.mv (.t p8n22))⟩, ⟨(some p8n4), none, (.mv (.t p8n23))⟩]) .ret) .skip)) (.seq (.reg [⟨(some p8n25), none, (.mv (.t p8n5))⟩, ⟨(some p8n26), none, (.call 130 [(.t p8n25)])⟩, ⟨(some p8n24), none, (.mv (.t p8n26))⟩, ⟨(some p8n27), none, (.ext (.t p8n24) 0)⟩, ⟨(some p8n28), none, (.ext (.t p8n24) 1)⟩, ⟨(some p8n29), none, (.ext (.t p8n24) 2)⟩, ⟨(some p8n30), none, (.ext (.t p8n24) 3)⟩, ⟨(some p8n5), none, (.mv (.t p8n27))⟩, ⟨(some p8n6), none, (.mv (.t p8n28))⟩, ⟨(some p8n3), none, (.mv (.t p8n29))⟩, ⟨(some p8n4), none, (.mv (.t p8n30))⟩]) (.seq (.seq (.reg [⟨(some p8n31), none, (.mv (.t p8n4))⟩, ⟨(some p8n32), none, (.bin .neq (.t p8n31) (.c (.int .i64 (.ofNat 0))))⟩]) (.cond (.t p8n32) (.seq (.reg [⟨(some p8n33), none, (.ldA 4 (.t p8n2))⟩, ⟨(some p8n34), none, (.mv (.t p8n3))⟩, ⟨(some p8n35), none, (.mv (.t p8n4))⟩, ⟨none, none, (.st 4 (.t p8n2) (.t p8n33))⟩, ⟨(some p8n3), none, (.mv (.t p8n34))⟩, ⟨(some p8n4), none, (.mv (.t p8n35))⟩]) .ret) .skip)) (.seq (.reg [⟨(some p8n36), none, (.mv (.t p8n6))⟩, ⟨(some p8n37), none, (.mem .mkmap [])⟩, ⟨(some p8n38), none, (.build [.nils, .nils, .nils, .nils, .nils, (.bool false), .nilm, .nils, (.int .i64 (.ofNat 0))] [(4, (1, (.t p8n36))), (6, (1, (.t p8n37)))])⟩, ⟨(some p8n39), none, (.box (.t p8n38))⟩, ⟨(some p8n7), none, (.mv (.t p8n39))⟩]) (.seq (.seq (.reg [⟨(some p8n40), none, (.mv (.t p8n5))⟩, ⟨(some p8n41), none, (.len false (.t p8n40))⟩, ⟨(some p8n42), none, (.mv (.c (.int .i64 (.ofNat 0))))⟩]) (.block 0 (.loop (.seq (.reg [⟨(some p8n43), none, (.bin .lss (.t p8n42) (.t p8n41))⟩]) (.seq (.cond (.t p8n43) .skip (.exit 0)) (.seq (.block 1 (.seq (.reg [⟨(some p8n44), none, (.iaddr 3 (.t p8n40) (.t p8n42))⟩, ⟨(some p8n45), none, (.ldA 3 (.t p8n44))⟩, ⟨(some p8n9), none, (.alloc [(.int .i64 (.ofNat 0)), (.str []), .nils])⟩, ⟨none, none, (.st 3 (.t p8n9) (.t p8n45))⟩]) (.seq (.reg [⟨(some p8n46), none, (.mv (.t p8n7))⟩, ⟨(some p8n47), none, (.ldA 3 (.t p8n9))⟩, ⟨(some p8n48), none, (.call 360 [(.t p8n46), (.t p8n47)])⟩, ⟨(some p8n10), none, (.mv (.t p8n48))⟩]) (.seq (.reg [⟨(some p8n49), none, (.mv (.t p8n10))⟩, ⟨(some p8n50), none, (.bin .neq (.t p8n49) (.c (.int .i64 (.ofNat 0))))⟩]) (.cond (.t p8n50) (.seq (.regd [((.loadm 0 0), ⟨(some p8n51), none, (.ldA 4 (.t p8n2))⟩), (.pure, ⟨(some p8n52), none, (.faddr 0 (.t p8n9))⟩), ((.loadm 2 2), ⟨(some p8n53), none, (.ld1 (.t p8n52))⟩), (.pure, ⟨(some p8n54), none, (.mv (.t p8n10))⟩), ((.sto 4 1), ⟨none, none, (.st 4 (.t p8n2) (.t p8n51))⟩), (.pure, ⟨(some p8n3), none, (.mv (.t p8n53))⟩)] [⟨(some p8n4), none, (.mv (.t p8n54))⟩]) .ret) .skip))))) (.reg [⟨(some p8n55), none, (.bin .add (.t p8n42) (.c (.int .i64 (.ofNat 1))))⟩, ⟨(some p8n42), none, (.mv (.t p8n55))⟩]))))))) (.seq (.seq (.reg [⟨(some p8n56), none, (.mv (.t p8n7))⟩, ⟨(some p8n57), none, (.nilck (.t p8n56))⟩, ⟨(some p8n58), none, (.faddr 7 (.t p8n57))⟩, ⟨(some p8n59), none, (.ld1 (.t p8n58))⟩, ⟨(some p8n60), none, (.len false (.t p8n59))⟩, ⟨(some p8n61), none, (.mv (.c (.int .i64 (.ofNat 0))))⟩]) (.block 2 (.loop (.seq (.reg [⟨(some p8n62), none, (.bin .lss (.t p8n61) (.t p8n60))⟩]) (.seq (.cond (.t p8n62) .skip (.exit 2)) (.seq (.block 3 (.seq (.reg [⟨(some p8n63), none, (.iaddr 2 (.t p8n59) (.t p8n61))⟩, ⟨(some p8n64), none, (.ldA 2 (.t p8n63))⟩, ⟨(some p8n12), none, (.alloc [(.str []), (.int .i64 (.ofNat 0))])⟩, ⟨none, none, (.st 2 (.t p8n12) (.t p8n64))⟩]) (.seq (.seq (.regd [(.pure, ⟨(some p8n65), none, (.mv (.t p8n7))⟩), (.pure, ⟨(some p8n66), none, (.nilck (.t p8n65))⟩), (.pure, ⟨(some p8n67), none, (.faddr 6 (.t p8n66))⟩), (.load, ⟨(some p8n68), none, (.ld1 (.t p8n67))⟩), (.pure, ⟨(some p8n69), none, (.faddr 0 (.t p8n12))⟩), (.load, ⟨(some p8n70), none, (.ld1 (.t p8n69))⟩)] [⟨(some p8n71), none, (.mem (.lkp .str (.bool false) false) [(.t p8n68), (.t p8n70)])⟩, ⟨(some p8n72), none, (.un .not (.t p8n71))⟩]) (.cond (.t p8n72) (.seq (.regd [((.loadm 0 0), ⟨(some p8n73), none, (.ldA 4 (.t p8n2))⟩), (.pure, ⟨(some p8n74), none, (.faddr 1 (.t p8n12))⟩), ((.loadm 2 2), ⟨(some p8n75), none, (.ld1 (.t p8n74))⟩), ((.sto 3 1), ⟨none, none, (.st 4 (.t p8n2) (.t p8n73))⟩)] [⟨(some p8n3), none, (.mv (.t p8n75))⟩, ⟨(some p8n4), none, (.mv (.c (.int .i64 (.ofNat 4))))⟩]) .ret) .skip)) (.regd [(.pure, ⟨(some p8n76), none, (.mv (.t p8n7))⟩), (.pure, ⟨(some p8n77), none, (.mv (.t p8n7))⟩), (.pure, ⟨(some p8n78), none, (.nilck (.t p8n77))⟩), (.pure, ⟨(some p8n79), none, (.faddr 0 (.t p8n78))⟩), (.pure, ⟨(some p8n80), none, (.faddr 3 (.t p8n79))⟩), (.load, ⟨(some p8n81), none, (.ld1 (.t p8n80))⟩), (.pure, ⟨(some p8n82), none, (.faddr 0 (.t p8n12))⟩), (.load, ⟨(some p8n83), none, (.ld1 (.t p8n82))⟩), (.pure, ⟨(some p8n84), none, (.buildS 1 1 (.str []) [(0, (.t p8n83))])⟩)] [⟨(some p8n85), none, (.mem (.app 1 16 (.str [])) [(.t p8n81), (.t p8n84)])⟩, ⟨(some p8n86), none, (.nilck (.t p8n76))⟩, ⟨(some p8n87), none, (.faddr 0 (.t p8n86))⟩, ⟨(some p8n88), none, (.faddr 3 (.t p8n87))⟩, ⟨none, none, (.st 1 (.t p8n88) (.t p8n85))⟩])))) (.reg [⟨(some p8n89), none, (.bin .add (.t p8n61) (.c (.int .i64 (.ofNat 1))))⟩, ⟨(some p8n61), none, (.mv (.t p8n89))⟩]))))))) (.seq (.reg [⟨(some p8n90), none, (.mv (.t p8n7))⟩, ⟨(some p8n91), none, (.nilck (.t p8n90))⟩, ⟨(some p8n92), none, (.faddr 0 (.t p8n91))⟩, ⟨(some p8n93), none, (.faddr 3 (.t p8n92))⟩, ⟨(some p8n94), none, (.ld1 (.t p8n93))⟩, ⟨(some p8n95), none, (.call 214 [(.t p8n94)])⟩]) (.seq (.reg [⟨(some p8n96), none, (.mv (.t p8n7))⟩, ⟨(some p8n97), none, (.mv (.t p8n7))⟩, ⟨(some p8n98), none, (.nilck (.t p8n97))⟩, ⟨(some p8n99), none, (.faddr 0 (.t p8n98))⟩, ⟨(some p8n100), none, (.faddr 3 (.t p8n99))⟩, ⟨(some p8n101), none, (.ld1 (.t p8n100))⟩, ⟨(some p8n102), none, (.call 216 [(.t p8n101)])⟩, ⟨(some p8n103), none, (.nilck (.t p8n96))⟩, ⟨(some p8n104), none, (.faddr 0 (.t p8n103))⟩, ⟨(some p8n105), none, (.faddr 3 (.t p8n104))⟩, ⟨none, none, (.st 1 (.t p8n105) (.t p8n102))⟩]) (.seq (.reg [⟨(some p8n106), none, (.mv (.t p8n7))⟩, ⟨(some p8n107), none, (.nilck (.t p8n106))⟩, ⟨(some p8n108), none, (.faddr 0 (.t p8n107))⟩, ⟨(some p8n109), none, (.ldA 4 (.t p8n108))⟩, ⟨none, none, (.st 4 (.t p8n2) (.t p8n109))⟩, ⟨(some p8n3), none, (.mv (.c (.int .i64 (.ofNat 0))))⟩, ⟨(some p8n4), none, (.mv (.c (.int .i64 (.ofNat 0))))⟩]) .ret)))))))))))⟩
noncomputable def a353 : AFunc :=
  ⟨8, [p8n0], [(p8n2, (some (4, true))), (p8n3, none), (p8n4, none)], true, (.seq (.reg [⟨(some p8n2), none, (.alloc [.nils, .nils, .nils, .nils])⟩, ⟨(some p8n3), none, (.mv (.c (.int .i64 (.ofNat 0))))⟩, ⟨(some p8n4), none, (.mv (.c (.int .i64 (.ofNat 0))))⟩]) (.seq (.reg [⟨(some p8n16), none, (.mv (.t p8n0))⟩, ⟨(some p8n17), none, (.call 139 [(.t p8n16)])⟩, ⟨(some p8n15), none, (.mv (.t p8n17))⟩, ⟨(some p8n18), none, (.ext (.t p8n15) 0)⟩, ⟨(some p8n19), none, (.ext (.t p8n15) 1)⟩, ⟨(some p8n20), none, (.ext (.t p8n15) 2)⟩, ⟨(some p8n5), none, (.mv (.t p8n18))⟩, ⟨(some p8n6), none, (.mv (.t p8n19))⟩, ⟨(some p8n7), none, (.mv (.t p8n20))⟩]) (.seq (.seq (.reg [⟨(some p8n21), none, (.mv (.t p8n7))⟩, ⟨(some p8n22), none, (.bin .neq (.t p8n21) (.c (.int .i64 (.ofNat 0))))⟩]) (.cond (.t p8n22) (.seq (.reg [⟨(some p8n23), none, (.build [.nils, .nils, .nils, .nils] [])⟩, ⟨(some p8n24), none, (.mv (.t p8n6))⟩, ⟨(some p8n25), none, (.mv (.t p8n7))⟩, ⟨none, none, (.st 4 (.t p8n2) (.t p8n23))⟩, ⟨(some p8n3), none, (.mv (.t p8n24))⟩, ⟨(some p8n4), none, (.mv (.t p8n25))⟩]) .ret) .skip)) (.seq (.reg [⟨(some p8n27), none, (.mv (.t p8n5))⟩, ⟨(some p8n28), none, (.call 132 [(.t p8n27)])⟩, ⟨(some p8n26), none, (.mv (.t p8n28))⟩, ⟨(some p8n29), none, (.ext (.t p8n26) 0)⟩, ⟨(some p8n30), none, (.ext (.t p8n26) 1)⟩, ⟨(some p8n31), none, (.ext (.t p8n26) 2)⟩, ⟨(some p8n32), none, (.ext (.t p8n26) 3)⟩, ⟨(some p8n8), none, (.mv (.t p8n29))⟩, ⟨(some p8n9), none, (.mv (.t p8n30))⟩, ⟨(some p8n6), none, (.mv (.t p8n31))⟩, ⟨(some p8n7), none, (.mv (.t p8n32))⟩]) (.seq (.seq (.reg [⟨(some p8n33), none, (.mv (.t p8n7))⟩, ⟨(some p8n34), none, (.bin .neq (.t p8n33) (.c (.int .i64 (.ofNat 0))))⟩]) (.cond (.t p8n34) (.seq (.reg [⟨(some p8n35), none, (.build [.nils, .nils, .nils, .nils] [])⟩, ⟨(some p8n36), none, (.mv (.t p8n6))⟩, ⟨(some p8n37), none, (.mv (.t p8n7))⟩, ⟨none, none, (.st 4 (.t p8n2) (.t p8n35))⟩, ⟨(some p8n3), none, (.mv (.t p8n36))⟩, ⟨(some p8n4), none, (.mv (.t p8n37))⟩]) .ret) .skip)) (.seq (.reg [⟨(some p8n38), none, (.mv (.t p8n9))⟩, ⟨(some p8n39), none, (.build [.nils, .nils, .nils, .nils, .nils, (.bool false), (.int .i64 (.ofNat 0)), .nils, (.int .i64 (.ofNat 0))] [(0, (1, (.t p8n38)))])⟩, ⟨(some p8n40), none, (.box (.t p8n39))⟩, ⟨(some p8n10), none, (.mv (.t p8n40))⟩]) (.seq (.seq (.reg [⟨(some p8n11), none, (.mv (.c (.int .i64 (.ofNat 0))))⟩]) (.block 0 (.loop (.seq (.seq (.reg [⟨(some p8n41), none, (.mv (.t p8n11))⟩, ⟨(some p8n42), none, (.mv (.t p8n8))⟩, ⟨(some p8n43), none, (.len false (.t p8n42))⟩, ⟨(some p8n44), none, (.bin .lss (.t p8n41) (.t p8n43))⟩]) (.cond (.t p8n44) .skip (.exit 0))) (.seq (.block 1 (.seq (.reg [⟨(some p8n47), none, (.mv (.t p8n8))⟩, ⟨(some p8n48), none, (.mv (.t p8n11))⟩, ⟨(some p8n49), none, (.iaddr 3 (.t p8n47) (.t p8n48))⟩, ⟨(some p8n50), none, (.faddr 2 (.t p8n49))⟩, ⟨(some p8n51), none, (.ld1 (.t p8n50))⟩, ⟨(some p8n12), none, (.mv (.t p8n51))⟩]) (.seq (.seq (.reg [⟨(some p8n52), none, (.mv (.t p8n8))⟩, ⟨(some p8n53), none, (.mv (.t p8n11))⟩, ⟨(some p8n54), none, (.iaddr 3 (.t p8n52) (.t p8n53))⟩, ⟨(some p8n55), none, (.faddr 1 (.t p8n54))⟩, ⟨(some p8n56), none, (.ld1 (.t p8n55))⟩, ⟨(some p8n57), none, (.bin .neq (.t p8n56) (.c (.str [])))⟩]) (.cond (.t p8n57) (.reg [⟨(some p8n58), none, (.mv (.t p8n10))⟩, ⟨(some p8n59), none, (.mv (.t p8n8))⟩, ⟨(some p8n60), none, (.mv (.t p8n11))⟩, ⟨(some p8n61), none, (.iaddr 3 (.t p8n59) (.t p8n60))⟩, ⟨(some p8n62), none, (.faddr 1 (.t p8n61))⟩, ⟨(some p8n63), none, (.ld1 (.t p8n62))⟩, ⟨(some p8n64), none, (.call 361 [(.t p8n58), (.t p8n63)])⟩]) .skip)) (.seq (.seq (.reg [⟨(some p8n65), none, (.mv (.t p8n10))⟩, ⟨(some p8n66), none, (.nilck (.t p8n65))⟩, ⟨(some p8n67), none, (.faddr 8 (.t p8n66))⟩, ⟨(some p8n68), none, (.ld1 (.t p8n67))⟩, ⟨(some p8n69), none, (.bin .eql (.t p8n68) (.c (.int .i64 (.ofNat 0))))⟩, ⟨(some p8n70), none, (.mv (.t p8n69))⟩, ⟨(some p8n71), (some (p8n70, true)), (.mv (.t p8n12))⟩, ⟨(some p8n72), (some (p8n70, true)), (.len false (.t p8n71))⟩, ⟨(some p8n73), (some (p8n70, true)), (.bin .gtr (.t p8n72) (.c (.int .i64 (.ofNat 0))))⟩, ⟨(some p8n74), none, (.pick (.t p8n70) (.t p8n73) (.c (.bool false)))⟩]) (.cond (.t p8n74) (.seq (.reg [⟨(some p8n75), none, (.mv (.t p8n8))⟩, ⟨(some p8n76), none, (.mv (.t p8n11))⟩, ⟨(some p8n77), none, (.iaddr 3 (.t p8n75) (.t p8n76))⟩, ⟨(some p8n78), none, (.ldA 3 (.t p8n77))⟩, ⟨(some p8n79), none, (.call 154 [(.t p8n78)])⟩]) (.block 2 (.seq (.seq (.reg [⟨(some p8n84), none, (.bin .eql (.t p8n79) (.c (.str [46, 99, 111, 100, 101])))⟩, ⟨(some p8n83), none, (.mv (.t p8n84))⟩]) (.cond (.t p8n83) .skip (.reg [⟨(some p8n85), none, (.bin .eql (.t p8n79) (.c (.str [46, 100, 97, 116, 97])))⟩, ⟨(some p8n83), none, (.mv (.t p8n85))⟩]))) (.cond (.t p8n83) (.seq (.seq (.reg [⟨(some p8n86), none, (.mv (.t p8n12))⟩, ⟨(some p8n87), none, (.len false (.t p8n86))⟩, ⟨(some p8n88), none, (.bin .gtr (.t p8n87) (.c (.int .i64 (.ofNat 1))))⟩]) (.cond (.t p8n88) (.reg [⟨(some p8n89), none, (.mv (.t p8n10))⟩, ⟨(some p8n90), none, (.nilck (.t p8n89))⟩, ⟨(some p8n91), none, (.faddr 8 (.t p8n90))⟩, ⟨none, none, (.st 1 (.t p8n91) (.c (.int .i64 (.ofNat 3))))⟩]) .skip)) (.reg [⟨(some p8n92), none, (.mv (.t p8n10))⟩, ⟨(some p8n93), none, (.mv (.t p8n12))⟩, ⟨(some p8n94), none, (.iaddr 4 (.t p8n93) (.c (.int .i64 (.ofNat 0))))⟩, ⟨(some p8n95), none, (.faddr 1 (.t p8n94))⟩, ⟨(some p8n96), none, (.ld1 (.t p8n95))⟩, ⟨(some p8n97), none, (.bin .eql (.t p8n96) (.c (.str [46, 100, 97, 116, 97])))⟩, ⟨(some p8n98), none, (.nilck (.t p8n92))⟩, ⟨(some p8n99), none, (.faddr 5 (.t p8n98))⟩, ⟨none, none, (.st 1 (.t p8n99) (.t p8n97))⟩])) (.seq (.reg [⟨(some p8n101), none, (.bin .eql (.t p8n79) (.c (.str [46, 103, 108, 111, 98, 97, 108])))⟩, ⟨(some p8n100), none, (.mv (.t p8n101))⟩]) (.cond (.t p8n100) (.seq (.reg [⟨(some p8n102), none, (.mv (.t p8n12))⟩, ⟨(some p8n103), none, (.len false (.t p8n102))⟩, ⟨(some p8n104), none, (.bin .neq (.t p8n103) (.c (.int .i64 (.ofNat 2))))⟩, ⟨(some p8n105), none, (.mv (.t p8n104))⟩, ⟨(some p8n106), (some (p8n105, false)), (.mv (.t p8n12))⟩, ⟨(some p8n107), (some (p8n105, false)), (.iaddr 4 (.t p8n106) (.c (.int .i64 (.ofNat 1))))⟩, ⟨(some p8n108), (some (p8n105, false)), (.ldA 4 (.t p8n107))⟩, ⟨(some p8n109), (some (p8n105, false)), (.call 148 [(.t p8n108)])⟩, ⟨(some p8n110), (some (p8n105, false)), (.un .not (.t p8n109))⟩, ⟨(some p8n111), none, (.pick (.t p8n105) (.c (.bool true)) (.t p8n110))⟩]) (.cond (.t p8n111) (.reg [⟨(some p8n112), none, (.mv (.t p8n10))⟩, ⟨(some p8n113), none, (.nilck (.t p8n112))⟩, ⟨(some p8n114), none, (.faddr 8 (.t p8n113))⟩, ⟨none, none, (.st 1 (.t p8n114) (.c (.int .i64 (.ofNat 3))))⟩]) (.regd [(.pure, ⟨(some p8n115), none, (.mv (.t p8n10))⟩), (.pure, ⟨(some p8n116), none, (.mv (.t p8n10))⟩), (.pure, ⟨(some p8n117), none, (.nilck (.t p8n116))⟩), (.pure, ⟨(some p8n118), none, (.faddr 7 (.t p8n117))⟩), (.load, ⟨(some p8n119), none, (.ld1 (.t p8n118))⟩), (.pure, ⟨(some p8n120), none, (.mv (.t p8n12))⟩), (.pure, ⟨(some p8n121), none, (.iaddr 4 (.t p8n120) (.c (.int .i64 (.ofNat 1))))⟩), (.pure, ⟨(some p8n122), none, (.faddr 1 (.t p8n121))⟩), (.load, ⟨(some p8n123), none, (.ld1 (.t p8n122))⟩), (.pure, ⟨(some p8n124), none, (.mv (.t p8n8))⟩), (.pure, ⟨(some p8n125), none, (.mv (.t p8n11))⟩), (.pure, ⟨(some p8n126), none, (.iaddr 3 (.t p8n124) (.t p8n125))⟩), (.pure, ⟨(some p8n127), none, (.faddr 0 (.t p8n126))⟩), (.load, ⟨(some p8n128), none, (.ld1 (.t p8n127))⟩), (.pure, ⟨(some p8n129), none, (.build [(.str []), (.bool false), (.int .i64 (.ofNat 0)), (.bool false)] [(0, (1, (.t p8n123))), (2, (1, (.t p8n128)))])⟩), (.pure, ⟨(some p8n130), none, (.buildS 4 1 (.agg [(.str []), (.bool false), (.int .i64 (.ofNat 0)), (.bool false)]) [(0, (.t p8n129))])⟩)] [⟨(some p8n131), none, (.app 4 40 (.agg [(.str []), (.bool false), (.int .i64 (.ofNat 0)), (.bool false)]) (.t p8n119) (.t p8n130))⟩, ⟨(some p8n132), none, (.nilck (.t p8n115))⟩, ⟨(some p8n133), none, (.faddr 7 (.t p8n132))⟩, ⟨none, none, (.st 1 (.t p8n133) (.t p8n131))⟩]))) (.seq (.reg [⟨(some p8n135), none, (.bin .eql (.t p8n79) (.c (.str [46, 119, 111, 114, 100])))⟩, ⟨(some p8n134), none, (.mv (.t p8n135))⟩]) (.cond (.t p8n134) (.reg [⟨(some p8n136), none, (.mv (.t p8n10))⟩, ⟨(some p8n137), none, (.mv (.t p8n12))⟩, ⟨(some p8n138), none, (.slL 4 (.t p8n137) (some (.c (.int .i64 (.ofNat 1)))) none none)⟩, ⟨(some p8n139), none, (.call 362 [(.t p8n136), (.t p8n138)])⟩]) (.seq (.reg [⟨(some p8n141), none, (.bin .eql (.t p8n79) (.c (.str [46, 115, 112, 97, 99, 101])))⟩, ⟨(some p8n140), none, (.mv (.t p8n141))⟩]) (.cond (.t p8n140) (.reg [⟨(some p8n142), none, (.mv (.t p8n10))⟩, ⟨(some p8n143), none, (.mv (.t p8n12))⟩, ⟨(some p8n144), none, (.slL 4 (.t p8n143) (some (.c (.int .i64 (.ofNat 1)))) none none)⟩, ⟨(some p8n145), none, (.call 363 [(.t p8n142), (.t p8n144)])⟩]) (.reg [⟨(some p8n80), none, (.mv (.t p8n10))⟩, ⟨(some p8n81), none, (.mv (.t p8n12))⟩, ⟨(some p8n82), none, (.call 364 [(.t p8n80), (.t p8n81)])⟩]))))))))))) .skip)) (.seq (.reg [⟨(some p8n146), none, (.mv (.t p8n10))⟩, ⟨(some p8n147), none, (.nilck (.t p8n146))⟩, ⟨(some p8n148), none, (.faddr 8 (.t p8n147))⟩, ⟨(some p8n149), none, (.ld1 (.t p8n148))⟩, ⟨(some p8n150), none, (.bin .neq (.t p8n149) (.c (.int .i64 (.ofNat 0))))⟩]) (.cond (.t p8n150) (.seq (.regd [(.pure, ⟨(some p8n151), none, (.build [.nils, .nils, .nils, .nils] [])⟩), (.pure, ⟨(some p8n152), none, (.mv (.t p8n8))⟩), (.pure, ⟨(some p8n153), none, (.mv (.t p8n11))⟩), (.pure, ⟨(some p8n154), none, (.iaddr 3 (.t p8n152) (.t p8n153))⟩), (.pure, ⟨(some p8n155), none, (.faddr 0 (.t p8n154))⟩), ((.loadm 5 30), ⟨(some p8n156), none, (.ld1 (.t p8n155))⟩), (.pure, ⟨(some p8n157), none, (.mv (.t p8n10))⟩), (.pure, ⟨(some p8n158), none, (.nilck (.t p8n157))⟩), (.pure, ⟨(some p8n159), none, (.faddr 8 (.t p8n158))⟩), ((.loadm 9 448), ⟨(some p8n160), none, (.ld1 (.t p8n159))⟩), ((.sto 10 1), ⟨none, none, (.st 4 (.t p8n2) (.t p8n151))⟩), (.pure, ⟨(some p8n3), none, (.mv (.t p8n156))⟩)] [⟨(some p8n4), none, (.mv (.t p8n160))⟩]) .ret) .skip)))))) (.reg [⟨(some p8n45), none, (.mv (.t p8n11))⟩, ⟨(some p8n46), none, (.bin .add (.t p8n45) (.c (.int .i64 (.ofNat 1))))⟩, ⟨(some p8n11), none, (.mv (.t p8n46))⟩])))))) (.seq (.reg [⟨(some p8n161), none, (.mv (.t p8n10))⟩, ⟨(some p8n162), none, (.nilck (.t p8n161))⟩, ⟨(some p8n163), none, (.faddr 1 (.t p8n162))⟩, ⟨(some p8n164), none, (.ldA 4 (.t p8n163))⟩, ⟨(some p8n165), none, (.call 365 [(.t p8n164)])⟩, ⟨(some p8n13), none, (.mv (.t p8n165))⟩]) (.seq (.seq (.reg [⟨(some p8n14), none, (.mv (.c (.int .i64 (.ofNat 0))))⟩]) (.block 3 (.loop (.seq (.seq (.reg [⟨(some p8n166), none, (.mv (.t p8n14))⟩, ⟨(some p8n167), none, (.mv (.t p8n10))⟩, ⟨(some p8n168), none, (.nilck (.t p8n167))⟩, ⟨(some p8n169), none, (.faddr 7 (.t p8n168))⟩, ⟨(some p8n170), none, (.ld1 (.t p8n169))⟩, ⟨(some p8n171), none, (.len false (.t p8n170))⟩, ⟨(some p8n172), none, (.bin .lss (.t p8n166) (.t p8n171))⟩]) (.cond (.t p8n172) .skip (.exit 3))) (.seq (.block 4 (.seq (.seq (.reg [⟨(some p8n175), none, (.mv (.t p8n13))⟩, ⟨(some p8n176), none, (.mv (.t p8n10))⟩, ⟨(some p8n177), none, (.nilck (.t p8n176))⟩, ⟨(some p8n178), none, (.faddr 7 (.t p8n177))⟩, ⟨(some p8n179), none, (.ld1 (.t p8n178))⟩, ⟨(some p8n180), none, (.mv (.t p8n14))⟩, ⟨(some p8n181), none, (.iaddr 4 (.t p8n179) (.t p8n180))⟩, ⟨(some p8n182), none, (.faddr 0 (.t p8n181))⟩, ⟨(some p8n183), none, (.ld1 (.t p8n182))⟩, ⟨(some p8n184), none, (.call 172 [(.t p8n175), (.t p8n183)])⟩, ⟨(some p8n185), none, (.bin .lss (.t p8n184) (.c (.int .i64 (.ofNat 0))))⟩]) (.cond (.t p8n185) (.seq (.regd [(.pure, ⟨(some p8n186), none, (.build [.nils, .nils, .nils, .nils] [])⟩), (.pure, ⟨(some p8n187), none, (.mv (.t p8n10))⟩), (.pure, ⟨(some p8n188), none, (.nilck (.t p8n187))⟩), (.pure, ⟨(some p8n189), none, (.faddr 7 (.t p8n188))⟩), ((.loadm 4 14), ⟨(some p8n190), none, (.ld1 (.t p8n189))⟩), (.pure, ⟨(some p8n191), none, (.mv (.t p8n14))⟩), (.pure, ⟨(some p8n192), none, (.iaddr 4 (.t p8n190) (.t p8n191))⟩), (.pure, ⟨(some p8n193), none, (.faddr 2 (.t p8n192))⟩), ((.loadm 8 254), ⟨(some p8n194), none, (.ld1 (.t p8n193))⟩), ((.sto 9 1), ⟨none, none, (.st 4 (.t p8n2) (.t p8n186))⟩)] [⟨(some p8n3), none, (.mv (.t p8n194))⟩, ⟨(some p8n4), none, (.mv (.c (.int .i64 (.ofNat 4))))⟩]) .ret) .skip)) (.regd [(.pure, ⟨(some p8n195), none, (.mv (.t p8n10))⟩), (.pure, ⟨(some p8n196), none, (.mv (.t p8n10))⟩), (.pure, ⟨(some p8n197), none, (.nilck (.t p8n196))⟩), (.pure, ⟨(some p8n198), none, (.faddr 1 (.t p8n197))⟩), (.pure, ⟨(some p8n199), none, (.faddr 3 (.t p8n198))⟩), (.load, ⟨(some p8n200), none, (.ld1 (.t p8n199))⟩), (.pure, ⟨(some p8n201), none, (.mv (.t p8n10))⟩), (.pure, ⟨(some p8n202), none, (.nilck (.t p8n201))⟩), (.pure, ⟨(some p8n203), none, (.faddr 7 (.t p8n202))⟩), (.load, ⟨(some p8n204), none, (.ld1 (.t p8n203))⟩), (.pure, ⟨(some p8n205), none, (.mv (.t p8n14))⟩), (.pure, ⟨(some p8n206), none, (.iaddr 4 (.t p8n204) (.t p8n205))⟩), (.pure, ⟨(some p8n207), none, (.faddr 0 (.t p8n206))⟩), (.load, ⟨(some p8n208), none, (.ld1 (.t p8n207))⟩)] [⟨(some p8n209), none, (.call 206 [(.t p8n200), (.t p8n208)])⟩, ⟨(some p8n210), none, (.nilck (.t p8n195))⟩, ⟨(some p8n211), none, (.faddr 1 (.t p8n210))⟩, ⟨(some p8n212), none, (.faddr 3 (.t p8n211))⟩, ⟨none, none, (.st 1 (.t p8n212) (.t p8n209))⟩]))) (.reg [⟨(some p8n173), none, (.mv (.t p8n14))⟩, ⟨(some p8n174), none, (.bin .add (.t p8n173) (.c (.int .i64 (.ofNat 1))))⟩, ⟨(some p8n14), none, (.mv (.t p8n174))⟩])))))) (.seq (.reg [⟨(some p8n213), none, (.mv (.t p8n10))⟩, ⟨(some p8n214), none, (.nilck (.t p8n213))⟩, ⟨(some p8n215), none, (.faddr 1 (.t p8n214))⟩, ⟨(some p8n216), none, (.ldA 4 (.t p8n215))⟩, ⟨none, none, (.st 4 (.t p8n2) (.t p8n216))⟩, ⟨(some p8n3), none, (.mv (.c (.int .i64 (.ofNat 0))))⟩, ⟨(some p8n4), none, (.mv (.c (.int .i64 (.ofNat 0))))⟩]) .ret))))))))))⟩
noncomputable def a354 : AFunc :=
  ⟨4, [p4n0], [(p4n2, none)], false, (.seq (.reg [⟨(some p4n2), none, (.mv (.c (.int .i64 (.ofNat 0))))⟩]) (.seq (.reg [⟨(some p4n3), none, (.mv (.t p4n0))⟩, ⟨(some p4n2), none, (.mv (.t p4n3))⟩]) .ret))⟩
noncomputable def a355 : AFunc :=
  ⟨6, [p6n0, p6n1], [(p6n4, none)], false, (.seq (.reg [⟨(some p6n2), none, (.box (.t p6n0))⟩, ⟨(some p6n3), none, (.box (.t p6n1))⟩, ⟨(some p6n4), none, (.mv (.c (.bool false)))⟩]) (.seq (.reg [⟨(some p6n5), none, (.faddr 0 (.t p6n2))⟩, ⟨(some p6n6), none, (.ld1 (.t p6n5))⟩, ⟨(some p6n7), none, (.faddr 0 (.t p6n3))⟩, ⟨(some p6n8), none, (.ld1 (.t p6n7))⟩, ⟨(some p6n9), none, (.call 366 [(.t p6n6), (.t p6n8)])⟩, ⟨(some p6n10), none, (.mv (.t p6n9))⟩, ⟨(some p6n11), (some (p6n10, true)), (.faddr 1 (.t p6n2))⟩, ⟨(some p6n12), (some (p6n10, true)), (.ld1 (.t p6n11))⟩, ⟨(some p6n13), (some (p6n10, true)), (.faddr 1 (.t p6n3))⟩, ⟨(some p6n14), (some (p6n10, true)), (.ld1 (.t p6n13))⟩, ⟨(some p6n15), (some (p6n10, true)), (.call 39 [(.t p6n12), (.t p6n14)])⟩, ⟨(some p6n16), none, (.pick (.t p6n10) (.t p6n15) (.c (.bool false)))⟩, ⟨(some p6n17), none, (.mv (.t p6n16))⟩, ⟨(some p6n18), (some (p6n17, true)), (.faddr 2 (.t p6n2))⟩, ⟨(some p6n19), (some (p6n17, true)), (.ld1 (.t p6n18))⟩, ⟨(some p6n20), (some (p6n17, true)), (.faddr 2 (.t p6n3))⟩, ⟨(some p6n21), (some (p6n17, true)), (.ld1 (.t p6n20))⟩, ⟨(some p6n22), (some (p6n17, true)), (.call 367 [(.t p6n19), (.t p6n21)])⟩, ⟨(some p6n23), none, (.pick (.t p6n17) (.t p6n22) (.c (.bool false)))⟩, ⟨(some p6n24), none, (.mv (.t p6n23))⟩, ⟨(some p6n25), (some (p6n24, true)), (.faddr 3 (.t p6n2))⟩, ⟨(some p6n26), (some (p6n24, true)), (.ld1 (.t p6n25))⟩, ⟨(some p6n27), (some (p6n24, true)), (.faddr 3 (.t p6n3))⟩, ⟨(some p6n28), (some (p6n24, true)), (.ld1 (.t p6n27))⟩, ⟨(some p6n29), (some (p6n24, true)), (.call 368 [(.t p6n26), (.t p6n28)])⟩, ⟨(some p6n30), none, (.pick (.t p6n24) (.t p6n29) (.c (.bool false)))⟩, ⟨(some p6n4), none, (.mv (.t p6n30))⟩]) .ret))⟩
noncomputable def a356 : AFunc :=
  ⟨6, [], [(p6n0, none)], false, (.seq (.reg [⟨(some p6n0), none, (.mv (.c (.bool false)))⟩]) (.seq (.reg [⟨(some p6n7), none, (.call 352 [(.c (.str [46, 103, 108, 111, 98, 97, 108, 32, 97, 10, 97, 58, 32, 104, 97, 108, 116]))])⟩, ⟨(some p6n6), none, (.mv (.t p6n7))⟩, ⟨(some p6n8), none, (.ext (.t p6n6) 0)⟩, ⟨(some p6n9), none, (.ext (.t p6n6) 1)⟩, ⟨(some p6n10), none, (.ext (.t p6n6) 2)⟩, ⟨(some p6n1), none, (.alloc [.nils, .nils, .nils, .nils])⟩, ⟨none, none, (.st 4 (.t p6n1) (.t p6n8))⟩, ⟨(some p6n2), none, (.mv (.t p6n9))⟩, ⟨(some p6n3), none, (.mv (.t p6n10))⟩]) (.seq (.reg [⟨(some p6n12), none, (.ldA 4 (.t p6n1))⟩, ⟨(some p6n13), none, (.call 369 [(.t p6n12)])⟩, ⟨(some p6n11), none, (.mv (.t p6n13))⟩, ⟨(some p6n14), none, (.ext (.t p6n11) 0)⟩, ⟨(some p6n15), none, (.ext (.t p6n11) 1)⟩, ⟨(some p6n4), none, (.mv (.t p6n14))⟩, ⟨(some p6n5), none, (.mv (.t p6n15))⟩]) (.seq (.reg [⟨(some p6n16), none, (.mv (.t p6n3))⟩, ⟨(some p6n17), none, (.call 354 [(.t p6n16)])⟩, ⟨(some p6n18), none, (.bin .eql (.t p6n17) (.c (.int .i64 (.ofNat 0))))⟩, ⟨(some p6n19), none, (.mv (.t p6n18))⟩, ⟨(some p6n20), (some (p6n19, true)), (.mv (.t p6n5))⟩, ⟨(some p6n21), (some (p6n19, true)), (.call 354 [(.t p6n20)])⟩, ⟨(some p6n22), (some (p6n19, true)), (.bin .eql (.t p6n21) (.c (.int .i64 (.ofNat 0))))⟩, ⟨(some p6n23), none, (.pick (.t p6n19) (.t p6n22) (.c (.bool false)))⟩, ⟨(some p6n24), none, (.mv (.t p6n23))⟩, ⟨(some p6n25), (some (p6n24, true)), (.faddr 0 (.t p6n1))⟩, ⟨(some p6n26), (some (p6n24, true)), (.ld1 (.t p6n25))⟩, ⟨(some p6n27), (some (p6n24, true)), (.len false (.t p6n26))⟩, ⟨(some p6n28), (some (p6n24, true)), (.bin .eql (.t p6n27) (.c (.int .i64 (.ofNat 2))))⟩, ⟨(some p6n29), none, (.pick (.t p6n24) (.t p6n28) (.c (.bool false)))⟩, ⟨(some p6n30), none, (.mv (.t p6n29))⟩, ⟨(some p6n31), (some (p6n30, true)), (.mv (.t p6n4))⟩, ⟨(some p6n32), (some (p6n30, true)), (.bin .eql (.t p6n31) (.c (.str [46, 103, 108, 111, 98, 97, 108, 32, 97, 10, 97, 58, 10, 104, 97, 108, 116, 10])))⟩, ⟨(some p6n33), none, (.pick (.t p6n30) (.t p6n32) (.c (.bool false)))⟩, ⟨(some p6n0), none, (.mv (.t p6n33))⟩]) .ret))))⟩
noncomputable def a357 : AFunc :=
  ⟨4, [p4n0], [(p4n2, none), (p4n3, none)], false, (.seq (.reg [⟨(some p4n2), none, (.mv (.c .nils))⟩, ⟨(some p4n3), none, (.mv (.c (.int .i64 (.ofNat 0))))⟩]) (.seq (.reg [⟨(some p4n5), none, (.mv (.t p4n0))⟩, ⟨(some p4n6), none, (.call 370 [(.t p4n5), (.c (.str [10]))])⟩, ⟨(some p4n4), none, (.mv (.t p4n6))⟩]) (.seq (.seq (.reg [⟨(some p4n7), none, (.mv (.t p4n0))⟩, ⟨(some p4n8), none, (.len true (.t p4n7))⟩, ⟨(some p4n9), none, (.bin .gtr (.t p4n8) (.c (.int .i64 (.ofNat 4000))))⟩, ⟨(some p4n10), none, (.mv (.t p4n9))⟩, ⟨(some p4n11), (some (p4n10, false)), (.mv (.t p4n4))⟩, ⟨(some p4n12), (some (p4n10, false)), (.len false (.t p4n11))⟩, ⟨(some p4n13), (some (p4n10, false)), (.bin .gtr (.t p4n12) (.c (.int .i64 (.ofNat 300))))⟩, ⟨(some p4n14), none, (.pick (.t p4n10) (.c (.bool true)) (.t p4n13))⟩]) (.cond (.t p4n14) (.seq (.reg [⟨(some p4n2), none, (.mv (.c .nils))⟩, ⟨(some p4n3), none, (.mv (.c (.int .i64 (.ofNat 2))))⟩]) .ret) .skip)) (.seq (.reg [⟨(some p4n15), none, (.mv (.t p4n4))⟩, ⟨(some p4n2), none, (.mv (.t p4n15))⟩, ⟨(some p4n3), none, (.mv (.c (.int .i64 (.ofNat 0))))⟩]) .ret))))⟩
noncomputable def a358 : AFunc :=
  ⟨6, [p6n0], [(p6n2, none), (p6n3, none), (p6n4, none)], false, (.seq (.reg [⟨(some p6n2), none, (.mv (.c (.str [])))⟩, ⟨(some p6n3), none, (.mv (.c .nils))⟩, ⟨(some p6n4), none, (.mv (.c (.bool false)))⟩]) (.seq (.reg [⟨(some p6n5), none, (.mv (.t p6n0))⟩, ⟨(some p6n3), none, (.mv (.t p6n5))⟩]) (.seq (.seq (.reg [⟨(some p6n6), none, (.mv (.t p6n0))⟩, ⟨(some p6n7), none, (.len false (.t p6n6))⟩, ⟨(some p6n8), none, (.bin .gtr (.t p6n7) (.c (.int .i64 (.ofNat 1))))⟩, ⟨(some p6n9), none, (.mv (.t p6n8))⟩, ⟨(some p6n10), (some (p6n9, true)), (.mv (.t p6n0))⟩, ⟨(some p6n11), (some (p6n9, true)), (.iaddr 4 (.t p6n10) (.c (.int .i64 (.ofNat 1))))⟩, ⟨(some p6n12), (some (p6n9, true)), (.ldA 4 (.t p6n11))⟩, ⟨(some p6n13), (some (p6n9, true)), (.call 150 [(.t p6n12)])⟩, ⟨(some p6n14), none, (.pick (.t p6n9) (.t p6n13) (.c (.bool false)))⟩]) (.cond (.t p6n14) (.seq (.seq (.reg [⟨(some p6n15), none, (.mv (.t p6n0))⟩, ⟨(some p6n16), none, (.iaddr 4 (.t p6n15) (.c (.int .i64 (.ofNat 0))))⟩, ⟨(some p6n17), none, (.faddr 0 (.t p6n16))⟩, ⟨(some p6n18), none, (.ld1 (.t p6n17))⟩, ⟨(some p6n19), none, (.bin .neq (.t p6n18) (.c (.int .i64 (.ofNat 1))))⟩, ⟨(some p6n20), none, (.mv (.t p6n19))⟩, ⟨(some p6n21), (some (p6n20, false)), (.mv (.t p6n0))⟩, ⟨(some p6n22), (some (p6n20, false)), (.iaddr 4 (.t p6n21) (.c (.int .i64 (.ofNat 0))))⟩, ⟨(some p6n23), (some (p6n20, false)), (.faddr 1 (.t p6n22))⟩, ⟨(some p6n24), (some (p6n20, false)), (.ld1 (.t p6n23))⟩, ⟨(some p6n25), (some (p6n20, false)), (.call 82 [(.t p6n24)])⟩, ⟨(some p6n26), (some (p6n20, false)), (.un .not (.t p6n25))⟩, ⟨(some p6n27), none, (.pick (.t p6n20) (.c (.bool true)) (.t p6n26))⟩]) (.cond (.t p6n27) (.seq (.reg [⟨(some p6n2), none, (.mv (.c (.str [])))⟩, ⟨(some p6n3), none, (.mv (.c .nils))⟩, ⟨(some p6n4), none, (.mv (.c (.bool false)))⟩]) .ret) .skip)) (.regd [(.pure, ⟨(some p6n28), none, (.mv (.t p6n0))⟩), (.pure, ⟨(some p6n29), none, (.iaddr 4 (.t p6n28) (.c (.int .i64 (.ofNat 0))))⟩), (.pure, ⟨(some p6n30), none, (.faddr 1 (.t p6n29))⟩), (.load, ⟨(some p6n31), none, (.ld1 (.t p6n30))⟩), (.pure, ⟨(some p6n32), none, (.mv (.t p6n0))⟩), (.pure, ⟨(some p6n33), none, (.slL 4 (.t p6n32) (some (.c (.int .i64 (.ofNat 2)))) none none)⟩), (.pure, ⟨(some p6n2), none, (.mv (.t p6n31))⟩)] [⟨(some p6n3), none, (.mv (.t p6n33))⟩])) .skip)) (.seq (.reg [⟨(some p6n34), none, (.mv (.t p6n2))⟩, ⟨(some p6n35), none, (.mv (.t p6n3))⟩, ⟨(some p6n36), none, (.mv (.t p6n3))⟩, ⟨(some p6n37), none, (.call 64 [(.t p6n36), (.c (.fn 150 [] []))])⟩, ⟨(some p6n38), none, (.un .not (.t p6n37))⟩, ⟨(some p6n2), none, (.mv (.t p6n34))⟩, ⟨(some p6n3), none, (.mv (.t p6n35))⟩, ⟨(some p6n4), none, (.mv (.t p6n38))⟩]) .ret))))⟩
noncomputable def a360 : AFunc :=
  ⟨6, [p6n0, p6n1], [(p6n4, none)], true, (.seq (.reg [⟨(some p6n3), none, (.box (.t p6n1))⟩, ⟨(some p6n4), none, (.mv (.c (.int .i64 (.ofNat 0))))⟩]) (.seq (.seq (.reg [⟨(some p6n7), none, (.faddr 1 (.t p6n3))⟩, ⟨(some p6n8), none, (.ld1 (.t p6n7))⟩, ⟨(some p6n9), none, (.bin .neq (.t p6n8) (.c (.str [])))⟩]) (.cond (.t p6n9) (.seq (.reg [⟨(some p6n10), none, (.mv (.t p6n0))⟩, ⟨(some p6n11), none, (.faddr 1 (.t p6n3))⟩, ⟨(some p6n12), none, (.ld1 (.t p6n11))⟩, ⟨(some p6n13), none, (.call 372 [(.t p6n10), (.t p6n12)])⟩, ⟨(some p6n5), none, (.mv (.t p6n13))⟩]) (.seq (.reg [⟨(some p6n14), none, (.mv (.t p6n5))⟩, ⟨(some p6n15), none, (.bin .neq (.t p6n14) (.c (.int .i64 (.ofNat 0))))⟩]) (.cond (.t p6n15) (.seq (.reg [⟨(some p6n16), none, (.mv (.t p6n5))⟩, ⟨(some p6n4), none, (.mv (.t p6n16))⟩]) .ret) .skip))) .skip)) (.seq (.seq (.reg [⟨(some p6n17), none, (.faddr 2 (.t p6n3))⟩, ⟨(some p6n18), none, (.ld1 (.t p6n17))⟩, ⟨(some p6n19), none, (.len false (.t p6n18))⟩, ⟨(some p6n20), none, (.bin .eql (.t p6n19) (.c (.int .i64 (.ofNat 0))))⟩]) (.cond (.t p6n20) (.seq (.reg [⟨(some p6n4), none, (.mv (.c (.int .i64 (.ofNat 0))))⟩]) .ret) .skip)) (.seq (.seq (.reg [⟨(some p6n21), none, (.faddr 2 (.t p6n3))⟩, ⟨(some p6n22), none, (.ld1 (.t p6n21))⟩, ⟨(some p6n23), none, (.iaddr 4 (.t p6n22) (.c (.int .i64 (.ofNat 0))))⟩, ⟨(some p6n24), none, (.faddr 1 (.t p6n23))⟩, ⟨(some p6n25), none, (.ld1 (.t p6n24))⟩, ⟨(some p6n6), none, (.mv (.t p6n25))⟩]) (.seq (.reg [⟨(some p6n26), none, (.mv (.t p6n6))⟩]) (.block 0 (.seq (.seq (.reg [⟨(some p6n28), none, (.bin .eql (.t p6n26) (.c (.str [46, 99, 111, 100, 101])))⟩, ⟨(some p6n27), none, (.mv (.t p6n28))⟩]) (.cond (.t p6n27) .skip (.reg [⟨(some p6n29), none, (.bin .eql (.t p6n26) (.c (.str [46, 100, 97, 116, 97])))⟩, ⟨(some p6n27), none, (.mv (.t p6n29))⟩]))) (.cond (.t p6n27) (.seq (.seq (.reg [⟨(some p6n30), none, (.faddr 2 (.t p6n3))⟩, ⟨(some p6n31), none, (.ld1 (.t p6n30))⟩, ⟨(some p6n32), none, (.len false (.t p6n31))⟩, ⟨(some p6n33), none, (.bin .gtr (.t p6n32) (.c (.int .i64 (.ofNat 1))))⟩]) (.cond (.t p6n33) (.seq (.reg [⟨(some p6n4), none, (.mv (.c (.int .i64 (.ofNat 3))))⟩]) .ret) .skip)) (.seq (.reg [⟨(some p6n34), none, (.mv (.t p6n0))⟩, ⟨(some p6n35), none, (.mv (.t p6n6))⟩, ⟨(some p6n36), none, (.bin .eql (.t p6n35) (.c (.str [46, 100, 97, 116, 97])))⟩, ⟨(some p6n37), none, (.nilck (.t p6n34))⟩, ⟨(some p6n38), none, (.faddr 5 (.t p6n37))⟩, ⟨none, none, (.st 1 (.t p6n38) (.t p6n36))⟩]) (.seq (.reg [⟨(some p6n4), none, (.mv (.c (.int .i64 (.ofNat 0))))⟩]) .ret))) (.seq (.reg [⟨(some p6n40), none, (.bin .eql (.t p6n26) (.c (.str [46, 103, 108, 111, 98, 97, 108])))⟩, ⟨(some p6n39), none, (.mv (.t p6n40))⟩]) (.cond (.t p6n39) (.seq (.reg [⟨(some p6n41), none, (.mv (.t p6n0))⟩, ⟨(some p6n42), none, (.ldA 3 (.t p6n3))⟩, ⟨(some p6n43), none, (.call 373 [(.t p6n41), (.t p6n42)])⟩, ⟨(some p6n4), none, (.mv (.t p6n43))⟩]) .ret) (.seq (.reg [⟨(some p6n45), none, (.bin .eql (.t p6n26) (.c (.str [46, 119, 111, 114, 100])))⟩, ⟨(some p6n44), none, (.mv (.t p6n45))⟩]) (.cond (.t p6n44) (.seq (.reg [⟨(some p6n46), none, (.mv (.t p6n0))⟩, ⟨(some p6n47), none, (.faddr 2 (.t p6n3))⟩, ⟨(some p6n48), none, (.ld1 (.t p6n47))⟩, ⟨(some p6n49), none, (.slL 4 (.t p6n48) (some (.c (.int .i64 (.ofNat 1)))) none none)⟩, ⟨(some p6n50), none, (.call 374 [(.t p6n46), (.t p6n49)])⟩, ⟨(some p6n4), none, (.mv (.t p6n50))⟩]) .ret) (.seq (.reg [⟨(some p6n52), none, (.bin .eql (.t p6n26) (.c (.str [46, 115, 112, 97, 99, 101])))⟩, ⟨(some p6n51), none, (.mv (.t p6n52))⟩]) (.cond (.t p6n51) (.seq (.reg [⟨(some p6n53), none, (.mv (.t p6n0))⟩, ⟨(some p6n54), none, (.faddr 2 (.t p6n3))⟩, ⟨(some p6n55), none, (.ld1 (.t p6n54))⟩, ⟨(some p6n56), none, (.slL 4 (.t p6n55) (some (.c (.int .i64 (.ofNat 1)))) none none)⟩, ⟨(some p6n57), none, (.call 375 [(.t p6n53), (.t p6n56)])⟩, ⟨(some p6n4), none, (.mv (.t p6n57))⟩]) .ret) .skip))))))))))) (.seq (.reg [⟨(some p6n58), none, (.mv (.t p6n0))⟩, ⟨(some p6n59), none, (.faddr 2 (.t p6n3))⟩, ⟨(some p6n60), none, (.ld1 (.t p6n59))⟩, ⟨(some p6n61), none, (.call 376 [(.t p6n58), (.t p6n60)])⟩, ⟨(some p6n4), none, (.mv (.t p6n61))⟩]) .ret)))))⟩
noncomputable def a361 : AFunc :=
  ⟨6, [p6n0, p6n1], [], true, (.seq (.reg [⟨(some p6n5), none, (.mv (.t p6n0))⟩, ⟨(some p6n6), none, (.nilck (.t p6n5))⟩, ⟨(some p6n7), none, (.faddr 1 (.t p6n6))⟩, ⟨(some p6n8), none, (.ldA 4 (.t p6n7))⟩, ⟨(some p6n9), none, (.call 365 [(.t p6n8)])⟩, ⟨(some p6n4), none, (.mv (.t p6n9))⟩]) (.seq (.seq (.reg [⟨(some p6n10), none, (.mv (.t p6n4))⟩, ⟨(some p6n11), none, (.mv (.t p6n1))⟩, ⟨(some p6n12), none, (.call 172 [(.t p6n10), (.t p6n11)])⟩, ⟨(some p6n13), none, (.bin .geq (.t p6n12) (.c (.int .i64 (.ofNat 0))))⟩]) (.cond (.t p6n13) (.seq (.reg [⟨(some p6n14), none, (.mv (.t p6n0))⟩, ⟨(some p6n15), none, (.nilck (.t p6n14))⟩, ⟨(some p6n16), none, (.faddr 8 (.t p6n15))⟩, ⟨none, none, (.st 1 (.t p6n16) (.c (.int .i64 (.ofNat 5))))⟩]) .ret) .skip)) (.seq (.seq (.reg [⟨(some p6n17), none, (.mv (.t p6n4))⟩, ⟨(some p6n18), none, (.len false (.t p6n17))⟩, ⟨(some p6n19), none, (.bin .geq (.t p6n18) (.c (.int .i64 (.ofNat 60))))⟩]) (.cond (.t p6n19) (.seq (.reg [⟨(some p6n20), none, (.mv (.t p6n0))⟩, ⟨(some p6n21), none, (.nilck (.t p6n20))⟩, ⟨(some p6n22), none, (.faddr 8 (.t p6n21))⟩, ⟨none, none, (.st 1 (.t p6n22) (.c (.int .i64 (.ofNat 2))))⟩]) .ret) .skip)) (.seq (.reg [⟨(some p6n23), none, (.mv (.t p6n0))⟩, ⟨(some p6n24), none, (.nilck (.t p6n23))⟩, ⟨(some p6n25), none, (.faddr 5 (.t p6n24))⟩, ⟨(some p6n26), none, (.ld1 (.t p6n25))⟩]) (.cond (.t p6n26) (.regd [(.pure, ⟨(some p6n27), none, (.mv (.t p6n0))⟩), (.pure, ⟨(some p6n28), none, (.mv (.t p6n0))⟩), (.pure, ⟨(some p6n29), none, (.nilck (.t p6n28))⟩), (.pure, ⟨(some p6n30), none, (.faddr 1 (.t p6n29))⟩), (.pure, ⟨(some p6n31), none, (.faddr 2 (.t p6n30))⟩), (.load, ⟨(some p6n32), none, (.ld1 (.t p6n31))⟩), (.pure, ⟨(some p6n33), none, (.mv (.t p6n1))⟩), (.pure, ⟨(some p6n34), none, (.mv (.t p6n0))⟩), (.pure, ⟨(some p6n35), none, (.nilck (.t p6n34))⟩), (.pure, ⟨(some p6n36), none, (.faddr 1 (.t p6n35))⟩), (.pure, ⟨(some p6n37), none, (.faddr 1 (.t p6n36))⟩), (.load, ⟨(some p6n38), none, (.ld1 (.t p6n37))⟩), (.pure, ⟨(some p6n39), none, (.len false (.t p6n38))⟩), (.pure, ⟨(some p6n40), none, (.build [(.str []), (.bool false), (.int .i64 (.ofNat 0)), (.bool false)] [(0, (1, (.t p6n33))), (2, (1, (.t p6n39)))])⟩), (.pure, ⟨(some p6n41), none, (.buildS 4 1 (.agg [(.str []), (.bool false), (.int .i64 (.ofNat 0)), (.bool false)]) [(0, (.t p6n40))])⟩)] [⟨(some p6n42), none, (.app 4 40 (.agg [(.str []), (.bool false), (.int .i64 (.ofNat 0)), (.bool false)]) (.t p6n32) (.t p6n41))⟩, ⟨(some p6n43), none, (.nilck (.t p6n27))⟩, ⟨(some p6n44), none, (.faddr 1 (.t p6n43))⟩, ⟨(some p6n45), none, (.faddr 2 (.t p6n44))⟩, ⟨none, none, (.st 1 (.t p6n45) (.t p6n42))⟩]) (.reg [⟨(some p6n46), none, (.mv (.t p6n0))⟩, ⟨(some p6n47), none, (.mv (.t p6n0))⟩, ⟨(some p6n48), none, (.nilck (.t p6n47))⟩, ⟨(some p6n49), none, (.faddr 1 (.t p6n48))⟩, ⟨(some p6n50), none, (.faddr 0 (.t p6n49))⟩, ⟨(some p6n51), none, (.ld1 (.t p6n50))⟩, ⟨(some p6n52), none, (.mv (.t p6n1))⟩, ⟨(some p6n53), none, (.build [(.str []), (.int .i64 (.ofNat 0)), (.int .i64 (.ofNat 0)), (.int .i64 (.ofNat 0)), (.int .i64 (.ofNat 0)), (.int .i64 (.ofNat 0)), (.str [])] [(0, (1, (.t p6n52)))])⟩, ⟨(some p6n54), none, (.buildS 7 1 (.agg [(.str []), (.int .i64 (.ofNat 0)), (.int .i64 (.ofNat 0)), (.int .i64 (.ofNat 0)), (.int .i64 (.ofNat 0)), (.int .i64 (.ofNat 0)), (.str [])]) [(0, (.t p6n53))])⟩, ⟨(some p6n55), none, (.app 7 72 (.agg [(.str []), (.int .i64 (.ofNat 0)), (.int .i64 (.ofNat 0)), (.int .i64 (.ofNat 0)), (.int .i64 (.ofNat 0)), (.int .i64 (.ofNat 0)), (.str [])]) (.t p6n51) (.t p6n54))⟩, ⟨(some p6n56), none, (.nilck (.t p6n46))⟩, ⟨(some p6n57), none, (.faddr 1 (.t p6n56))⟩, ⟨(some p6n58), none, (.faddr 0 (.t p6n57))⟩, ⟨none, none, (.st 1 (.t p6n58) (.t p6n55))⟩]))))))⟩
noncomputable def a362 : AFunc :=
  ⟨8, [p8n0, p8n1], [], true, (.seq (.seq (.reg [⟨(some p8n8), none, (.mv (.t p8n0))⟩, ⟨(some p8n9), none, (.nilck (.t p8n8))⟩, ⟨(some p8n10), none, (.faddr 5 (.t p8n9))⟩, ⟨(some p8n11), none, (.ld1 (.t p8n10))⟩, ⟨(some p8n12), none, (.un .not (.t p8n11))⟩, ⟨(some p8n13), none, (.mv (.t p8n12))⟩, ⟨(some p8n14), (some (p8n13, false)), (.mv (.t p8n1))⟩, ⟨(some p8n15), (some (p8n13, false)), (.len false (.t p8n14))⟩, ⟨(some p8n16), (some (p8n13, false)), (.bin .eql (.t p8n15) (.c (.int .i64 (.ofNat 0))))⟩, ⟨(some p8n17), none, (.pick (.t p8n13) (.c (.bool true)) (.t p8n16))⟩]) (.cond (.t p8n17) (.seq (.reg [⟨(some p8n18), none, (.mv (.t p8n0))⟩, ⟨(some p8n19), none, (.nilck (.t p8n18))⟩, ⟨(some p8n20), none, (.faddr 8 (.t p8n19))⟩, ⟨none, none, (.st 1 (.t p8n20) (.c (.int .i64 (.ofNat 3))))⟩]) .ret) .skip)) (.seq (.reg [⟨(some p8n21), none, (.mv (.t p8n1))⟩, ⟨(some p8n22), none, (.call 175 [(.t p8n21)])⟩, ⟨(some p8n4), none, (.mv (.t p8n22))⟩]) (.seq (.reg [⟨(some p8n5), none, (.mv (.c (.int .i64 (.ofNat 0))))⟩]) (.block 0 (.loop (.seq (.seq (.reg [⟨(some p8n23), none, (.mv (.t p8n5))⟩, ⟨(some p8n24), none, (.mv (.t p8n4))⟩, ⟨(some p8n25), none, (.len false (.t p8n24))⟩, ⟨(some p8n26), none, (.bin .lss (.t p8n23) (.t p8n25))⟩]) (.cond (.t p8n26) .skip (.exit 0))) (.seq (.block 1 (.seq (.regd [(.pure, ⟨(some p8n30), none, (.mv (.t p8n0))⟩), (.pure, ⟨(some p8n31), none, (.nilck (.t p8n30))⟩), (.pure, ⟨(some p8n32), none, (.faddr 0 (.t p8n31))⟩), ((.loadm 3 7), ⟨(some p8n33), none, (.ld1 (.t p8n32))⟩), (.pure, ⟨(some p8n34), none, (.mv (.t p8n4))⟩), (.pure, ⟨(some p8n35), none, (.mv (.t p8n5))⟩), (.pure, ⟨(some p8n36), none, (.iaddr 1 (.t p8n34) (.t p8n35))⟩), ((.loadm 7 112), ⟨(some p8n37), none, (.ld1 (.t p8n36))⟩), (.iso, ⟨(some p8n38), none, (.call 35 [(.t p8n33), (.t p8n37)])⟩), (.pure, ⟨(some p8n29), none, (.mv (.t p8n38))⟩), (.pure, ⟨(some p8n39), none, (.ext (.t p8n29) 0)⟩), (.pure, ⟨(some p8n40), none, (.ext (.t p8n29) 1)⟩), (.pure, ⟨(some p8n6), none, (.alloc [(.str []), (.int .i64 (.ofNat 0))])⟩), ((.sto 13 6143), ⟨none, none, (.st 2 (.t p8n6) (.t p8n39))⟩)] [⟨(some p8n7), none, (.mv (.t p8n40))⟩]) (.seq (.seq (.reg [⟨(some p8n41), none, (.mv (.t p8n7))⟩, ⟨(some p8n42), none, (.bin .eql (.t p8n41) (.c (.int .i64 (.ofNat 0))))⟩, ⟨(some p8n43), none, (.mv (.t p8n42))⟩, ⟨(some p8n44), (some (p8n43, true)), (.mv (.t p8n0))⟩, ⟨(some p8n45), (some (p8n43, true)), (.nilck (.t p8n44))⟩, ⟨(some p8n46), (some (p8n43, true)), (.faddr 1 (.t p8n45))⟩, ⟨(some p8n47), (some (p8n43, true)), (.faddr 1 (.t p8n46))⟩, ⟨(some p8n48), (some (p8n43, true)), (.ld1 (.t p8n47))⟩, ⟨(some p8n49), (some (p8n43, true)), (.len false (.t p8n48))⟩, ⟨(some p8n50), (some (p8n43, true)), (.bin .geq (.t p8n49) (.c (.int .i64 (.ofNat 128))))⟩, ⟨(some p8n51), none, (.pick (.t p8n43) (.t p8n50) (.c (.bool false)))⟩]) (.cond (.t p8n51) (.reg [⟨(some p8n7), none, (.mv (.c (.int .i64 (.ofNat 2))))⟩]) .skip)) (.seq (.seq (.reg [⟨(some p8n52), none, (.mv (.t p8n7))⟩, ⟨(some p8n53), none, (.bin .neq (.t p8n52) (.c (.int .i64 (.ofNat 0))))⟩]) (.cond (.t p8n53) (.seq (.reg [⟨(some p8n54), none, (.mv (.t p8n0))⟩, ⟨(some p8n55), none, (.mv (.t p8n7))⟩, ⟨(some p8n56), none, (.nilck (.t p8n54))⟩, ⟨(some p8n57), none, (.faddr 8 (.t p8n56))⟩, ⟨none, none, (.st 1 (.t p8n57) (.t p8n55))⟩]) .ret) .skip)) (.regd [(.pure, ⟨(some p8n58), none, (.mv (.t p8n0))⟩), (.pure, ⟨(some p8n59), none, (.mv (.t p8n0))⟩), (.pure, ⟨(some p8n60), none, (.nilck (.t p8n59))⟩), (.pure, ⟨(some p8n61), none, (.faddr 1 (.t p8n60))⟩), (.pure, ⟨(some p8n62), none, (.faddr 1 (.t p8n61))⟩), (.load, ⟨(some p8n63), none, (.ld1 (.t p8n62))⟩), (.load, ⟨(some p8n64), none, (.ldA 2 (.t p8n6))⟩), (.pure, ⟨(some p8n65), none, (.buildS 2 1 (.agg [(.str []), (.int .i64 (.ofNat 0))]) [(0, (.t p8n64))])⟩)] [⟨(some p8n66), none, (.app 2 24 (.agg [(.str []), (.int .i64 (.ofNat 0))]) (.t p8n63) (.t p8n65))⟩, ⟨(some p8n67), none, (.nilck (.t p8n58))⟩, ⟨(some p8n68), none, (.faddr 1 (.t p8n67))⟩, ⟨(some p8n69), none, (.faddr 1 (.t p8n68))⟩, ⟨none, none, (.st 1 (.t p8n69) (.t p8n66))⟩]))))) (.reg [⟨(some p8n27), none, (.mv (.t p8n5))⟩, ⟨(some p8n28), none, (.bin .add (.t p8n27) (.c (.int .i64 (.ofNat 1))))⟩, ⟨(some p8n5), none, (.mv (.t p8n28))⟩]))))))))⟩
noncomputable def a363 : AFunc :=
  ⟨6, [p6n0, p6n1], [], true, (.seq (.seq (.reg [⟨(some p6n6), none, (.mv (.t p6n0))⟩, ⟨(some p6n7), none, (.nilck (.t p6n6))⟩, ⟨(some p6n8), none, (.faddr 5 (.t p6n7))⟩, ⟨(some p6n9), none, (.ld1 (.t p6n8))⟩, ⟨(some p6n10), none, (.un .not (.t p6n9))⟩]) (.cond (.t p6n10) (.seq (.reg [⟨(some p6n11), none, (.mv (.t p6n0))⟩, ⟨(some p6n12), none, (.nilck (.t p6n11))⟩, ⟨(some p6n13), none, (.faddr 8 (.t p6n12))⟩, ⟨none, none, (.st 1 (.t p6n13) (.c (.int .i64 (.ofNat 3))))⟩]) .ret) .skip)) (.seq (.reg [⟨(some p6n15), none, (.mv (.t p6n0))⟩, ⟨(some p6n16), none, (.nilck (.t p6n15))⟩, ⟨(some p6n17), none, (.faddr 0 (.t p6n16))⟩, ⟨(some p6n18), none, (.ld1 (.t p6n17))⟩, ⟨(some p6n19), none, (.mv (.t p6n1))⟩, ⟨(some p6n20), none, (.call 36 [(.t p6n18), (.t p6n19)])⟩, ⟨(some p6n14), none, (.mv (.t p6n20))⟩, ⟨(some p6n21), none, (.ext (.t p6n14) 0)⟩, ⟨(some p6n22), none, (.ext (.t p6n14) 1)⟩, ⟨(some p6n4), none, (.mv (.t p6n21))⟩, ⟨(some p6n5), none, (.mv (.t p6n22))⟩]) (.seq (.seq (.reg [⟨(some p6n23), none, (.mv (.t p6n5))⟩, ⟨(some p6n24), none, (.bin .eql (.t p6n23) (.c (.int .i64 (.ofNat 0))))⟩, ⟨(some p6n25), none, (.mv (.t p6n24))⟩, ⟨(some p6n26), (some (p6n25, true)), (.mv (.t p6n4))⟩, ⟨(some p6n27), (some (p6n25, true)), (.call 377 [(.t p6n26), (.c (.int .i64 (.ofNat 128)))])⟩, ⟨(some p6n28), (some (p6n25, true)), (.un .not (.t p6n27))⟩, ⟨(some p6n29), none, (.pick (.t p6n25) (.t p6n28) (.c (.bool false)))⟩]) (.cond (.t p6n29) (.reg [⟨(some p6n5), none, (.mv (.c (.int .i64 (.ofNat 7))))⟩]) .skip)) (.seq (.seq (.reg [⟨(some p6n30), none, (.mv (.t p6n5))⟩, ⟨(some p6n31), none, (.bin .eql (.t p6n30) (.c (.int .i64 (.ofNat 0))))⟩, ⟨(some p6n32), none, (.mv (.t p6n31))⟩, ⟨(some p6n33), (some (p6n32, true)), (.mv (.t p6n4))⟩, ⟨(some p6n34), (some (p6n32, true)), (.mv (.t p6n0))⟩, ⟨(some p6n35), (some (p6n32, true)), (.nilck (.t p6n34))⟩, ⟨(some p6n36), (some (p6n32, true)), (.faddr 1 (.t p6n35))⟩, ⟨(some p6n37), (some (p6n32, true)), (.faddr 1 (.t p6n36))⟩, ⟨(some p6n38), (some (p6n32, true)), (.ld1 (.t p6n37))⟩, ⟨(some p6n39), (some (p6n32, true)), (.len false (.t p6n38))⟩, ⟨(some p6n40), (some (p6n32, true)), (.bin .sub (.c (.int .i64 (.ofNat 128))) (.t p6n39))⟩, ⟨(some p6n41), (some (p6n32, true)), (.bin .gtr (.t p6n33) (.t p6n40))⟩, ⟨(some p6n42), none, (.pick (.t p6n32) (.t p6n41) (.c (.bool false)))⟩]) (.cond (.t p6n42) (.reg [⟨(some p6n5), none, (.mv (.c (.int .i64 (.ofNat 2))))⟩]) .skip)) (.seq (.seq (.reg [⟨(some p6n43), none, (.mv (.t p6n5))⟩, ⟨(some p6n44), none, (.bin .neq (.t p6n43) (.c (.int .i64 (.ofNat 0))))⟩]) (.cond (.t p6n44) (.seq (.reg [⟨(some p6n45), none, (.mv (.t p6n0))⟩, ⟨(some p6n46), none, (.mv (.t p6n5))⟩, ⟨(some p6n47), none, (.nilck (.t p6n45))⟩, ⟨(some p6n48), none, (.faddr 8 (.t p6n47))⟩, ⟨none, none, (.st 1 (.t p6n48) (.t p6n46))⟩]) .ret) .skip)) (.reg [⟨(some p6n49), none, (.mv (.t p6n0))⟩, ⟨(some p6n50), none, (.mv (.t p6n0))⟩, ⟨(some p6n51), none, (.nilck (.t p6n50))⟩, ⟨(some p6n52), none, (.faddr 1 (.t p6n51))⟩, ⟨(some p6n53), none, (.faddr 1 (.t p6n52))⟩, ⟨(some p6n54), none, (.ld1 (.t p6n53))⟩, ⟨(some p6n55), none, (.mv (.t p6n4))⟩, ⟨(some p6n56), none, (.mem (.apz 2 24 (.agg [(.str []), (.int .i64 (.ofNat 0))])) [(.t p6n54), (.t p6n55)])⟩, ⟨(some p6n57), none, (.nilck (.t p6n49))⟩, ⟨(some p6n58), none, (.faddr 1 (.t p6n57))⟩, ⟨(some p6n59), none, (.faddr 1 (.t p6n58))⟩, ⟨none, none, (.st 1 (.t p6n59) (.t p6n56))⟩]))))))⟩
noncomputable def a364 : AFunc :=
  ⟨8, [p8n0, p8n1], [], true, (.seq (.seq (.reg [⟨(some p8n10), none, (.mv (.t p8n0))⟩, ⟨(some p8n11), none, (.nilck (.t p8n10))⟩, ⟨(some p8n12), none, (.faddr 5 (.t p8n11))⟩, ⟨(some p8n13), none, (.ld1 (.t p8n12))⟩, ⟨(some p8n14), none, (.mv (.t p8n13))⟩, ⟨(some p8n15), (some (p8n14, false)), (.mv (.t p8n1))⟩, ⟨(some p8n16), (some (p8n14, false)), (.iaddr 4 (.t p8n15) (.c (.int .i64 (.ofNat 0))))⟩, ⟨(some p8n17), (some (p8n14, false)), (.faddr 0 (.t p8n16))⟩, ⟨(some p8n18), (some (p8n14, false)), (.ld1 (.t p8n17))⟩, ⟨(some p8n19), (some (p8n14, false)), (.bin .neq (.t p8n18) (.c (.int .i64 (.ofNat 1))))⟩, ⟨(some p8n20), none, (.pick (.t p8n14) (.c (.bool true)) (.t p8n19))⟩]) (.cond (.t p8n20) (.seq (.reg [⟨(some p8n21), none, (.mv (.t p8n0))⟩, ⟨(some p8n22), none, (.nilck (.t p8n21))⟩, ⟨(some p8n23), none, (.faddr 8 (.t p8n22))⟩, ⟨none, none, (.st 1 (.t p8n23) (.c (.int .i64 (.ofNat 3))))⟩]) .ret) .skip)) (.seq (.regd [(.iso, ⟨(some p8n24), none, (.call 378 [])⟩), (.pure, ⟨(some p8n25), none, (.mv (.t p8n1))⟩), (.pure, ⟨(some p8n26), none, (.iaddr 4 (.t p8n25) (.c (.int .i64 (.ofNat 0))))⟩), (.pure, ⟨(some p8n27), none, (.faddr 1 (.t p8n26))⟩), (.load, ⟨(some p8n28), none, (.ld1 (.t p8n27))⟩), (.iso, ⟨(some p8n29), none, (.call 172 [(.t p8n24), (.t p8n28)])⟩), (.pure, ⟨(some p8n30), none, (.build [(.int .i64 (.ofNat 0)), (.int .i64 (.ofNat 0)), (.int .i64 (.ofNat 0)), (.int .i64 (.ofNat 0)), (.int .i64 (.ofNat 0)), (.str [])] [(0, (1, (.t p8n29)))])⟩), (.pure, ⟨(some p8n4), none, (.alloc [(.int .i64 (.ofNat 0)), (.int .i64 (.ofNat 0)), (.int .i64 (.ofNat 0)), (.int .i64 (.ofNat 0)), (.int .i64 (.ofNat 0)), (.str [])])⟩)] [⟨none, none, (.st 6 (.t p8n4) (.t p8n30))⟩]) (.seq (.seq (.reg [⟨(some p8n31), none, (.faddr 0 (.t p8n4))⟩, ⟨(some p8n32), none, (.ld1 (.t p8n31))⟩, ⟨(some p8n33), none, (.bin .lss (.t p8n32) (.c (.int .i64 (.ofNat 0))))⟩]) (.cond (.t p8n33) (.seq (.reg [⟨(some p8n34), none, (.mv (.t p8n0))⟩, ⟨(some p8n35), none, (.nilck (.t p8n34))⟩, ⟨(some p8n36), none, (.faddr 8 (.t p8n35))⟩, ⟨none, none, (.st 1 (.t p8n36) (.c (.int .i64 (.ofNat 4))))⟩]) .ret) .skip)) (.seq (.reg [⟨(some p8n37), none, (.faddr 0 (.t p8n4))⟩, ⟨(some p8n38), none, (.ld1 (.t p8n37))⟩, ⟨(some p8n39), none, (.call 379 [(.t p8n38)])⟩, ⟨(some p8n5), none, (.mv (.t p8n39))⟩]) (.seq (.reg [⟨(some p8n6), none, (.mv (.c .nils))⟩]) (.seq (.seq (.reg [⟨(some p8n40), none, (.mv (.t p8n5))⟩, ⟨(some p8n41), none, (.call 380 [(.t p8n40)])⟩]) (.cond (.t p8n41) (.reg [⟨(some p8n42), none, (.mv (.t p8n6))⟩, ⟨(some p8n43), none, (.buildS 1 1 (.int .i64 (.ofNat 0)) [(0, (.c (.int .i64 (.ofNat 0))))])⟩, ⟨(some p8n44), none, (.mem (.app 1 8 (.int .i64 (.ofNat 0))) [(.t p8n42), (.t p8n43)])⟩, ⟨(some p8n6), none, (.mv (.t p8n44))⟩]) .skip)) (.seq (.seq (.reg [⟨(some p8n45), none, (.mv (.t p8n5))⟩, ⟨(some p8n46), none, (.bin .eql (.t p8n45) (.c (.int .i64 (.ofNat 5))))⟩]) (.cond (.t p8n46) (.reg [⟨(some p8n47), none, (.mv (.t p8n6))⟩, ⟨(some p8n48), none, (.buildS 1 1 (.int .i64 (.ofNat 0)) [(0, (.c (.int .i64 (.ofNat 2))))])⟩, ⟨(some p8n49), none, (.mem (.app 1 8 (.int .i64 (.ofNat 0))) [(.t p8n47), (.t p8n48)])⟩, ⟨(some p8n6), none, (.mv (.t p8n49))⟩]) .skip)) (.seq (.seq (.reg [⟨(some p8n50), none, (.mv (.t p8n5))⟩, ⟨(some p8n51), none, (.call 381 [(.t p8n50)])⟩]) (.cond (.t p8n51) (.reg [⟨(some p8n52), none, (.mv (.t p8n6))⟩, ⟨(some p8n53), none, (.buildS 1 1 (.int .i64 (.ofNat 0)) [(0, (.c (.int .i64 (.ofNat 1))))])⟩, ⟨(some p8n54), none, (.mem (.app 1 8 (.int .i64 (.ofNat 0))) [(.t p8n52), (.t p8n53)])⟩, ⟨(some p8n6), none, (.mv (.t p8n54))⟩]) .skip)) (.seq (.seq (.reg [⟨(some p8n55), none, (.mv (.t p8n5))⟩, ⟨(some p8n56), none, (.bin .eql (.t p8n55) (.c (.int .i64 (.ofNat 1))))⟩]) (.cond (.t p8n56) (.reg [⟨(some p8n57), none, (.mv (.t p8n6))⟩, ⟨(some p8n58), none, (.buildS 1 1 (.int .i64 (.ofNat 0)) [(0, (.c (.int .i64 (.ofNat 2))))])⟩, ⟨(some p8n59), none, (.mem (.app 1 8 (.int .i64 (.ofNat 0))) [(.t p8n57), (.t p8n58)])⟩, ⟨(some p8n6), none, (.mv (.t p8n59))⟩]) .skip)) (.seq (.seq (.reg [⟨(some p8n60), none, (.mv (.t p8n5))⟩, ⟨(some p8n61), none, (.call 382 [(.t p8n60)])⟩, ⟨(some p8n62), none, (.bin .gtr (.t p8n61) (.c (.int .i64 (.ofNat 0))))⟩]) (.cond (.t p8n62) (.reg [⟨(some p8n63), none, (.mv (.t p8n6))⟩, ⟨(some p8n64), none, (.buildS 1 1 (.int .i64 (.ofNat 0)) [(0, (.c (.int .i64 (.ofNat 3))))])⟩, ⟨(some p8n65), none, (.mem (.app 1 8 (.int .i64 (.ofNat 0))) [(.t p8n63), (.t p8n64)])⟩, ⟨(some p8n6), none, (.mv (.t p8n65))⟩]) .skip)) (.seq (.reg [⟨(some p8n66), none, (.mv (.t p8n1))⟩, ⟨(some p8n67), none, (.slL 4 (.t p8n66) (some (.c (.int .i64 (.ofNat 1)))) none none)⟩, ⟨(some p8n68), none, (.call 175 [(.t p8n67)])⟩, ⟨(some p8n7), none, (.mv (.t p8n68))⟩]) (.seq (.seq (.reg [⟨(some p8n69), none, (.mv (.t p8n7))⟩, ⟨(some p8n70), none, (.len false (.t p8n69))⟩, ⟨(some p8n71), none, (.mv (.t p8n6))⟩, ⟨(some p8n72), none, (.len false (.t p8n71))⟩, ⟨(some p8n73), none, (.bin .neq (.t p8n70) (.t p8n72))⟩]) (.cond (.t p8n73) (.seq (.reg [⟨(some p8n74), none, (.mv (.t p8n0))⟩, ⟨(some p8n75), none, (.nilck (.t p8n74))⟩, ⟨(some p8n76), none, (.faddr 8 (.t p8n75))⟩, ⟨none, none, (.st 1 (.t p8n76) (.c (.int .i64 (.ofNat 3))))⟩]) .ret) .skip)) (.seq (.seq (.reg [⟨(some p8n8), none, (.mv (.c (.int .i64 (.ofNat 0))))⟩]) (.block 0 (.loop (.seq (.seq (.reg [⟨(some p8n77), none, (.mv (.t p8n8))⟩, ⟨(some p8n78), none, (.mv (.t p8n6))⟩, ⟨(some p8n79), none, (.len false (.t p8n78))⟩, ⟨(some p8n80), none, (.bin .lss (.t p8n77) (.t p8n79))⟩, ⟨(some p8n81), none, (.mv (.t p8n80))⟩, ⟨(some p8n82), (some (p8n81, true)), (.mv (.t p8n0))⟩, ⟨(some p8n83), (some (p8n81, true)), (.nilck (.t p8n82))⟩, ⟨(some p8n84), (some (p8n81, true)), (.faddr 8 (.t p8n83))⟩, ⟨(some p8n85), (some (p8n81, true)), (.ld1 (.t p8n84))⟩, ⟨(some p8n86), (some (p8n81, true)), (.bin .eql (.t p8n85) (.c (.int .i64 (.ofNat 0))))⟩, ⟨(some p8n87), none, (.pick (.t p8n81) (.t p8n86) (.c (.bool false)))⟩]) (.cond (.t p8n87) .skip (.exit 0))) (.seq (.block 1 (.seq (.seq (.reg [⟨(some p8n90), none, (.mv (.t p8n6))⟩, ⟨(some p8n91), none, (.mv (.t p8n8))⟩, ⟨(some p8n92), none, (.iaddr 1 (.t p8n90) (.t p8n91))⟩, ⟨(some p8n93), none, (.ld1 (.t p8n92))⟩, ⟨(some p8n94), none, (.bin .eql (.t p8n93) (.c (.int .i64 (.ofNat 3))))⟩]) (.cond (.t p8n94) (.seq (.reg [⟨(some p8n95), none, (.mv (.t p8n0))⟩, ⟨(some p8n96), none, (.mv (.t p8n7))⟩, ⟨(some p8n97), none, (.mv (.t p8n8))⟩, ⟨(some p8n98), none, (.iaddr 1 (.t p8n96) (.t p8n97))⟩, ⟨(some p8n99), none, (.ld1 (.t p8n98))⟩, ⟨(some p8n100), none, (.call 383 [(.t p8n95), (.t p8n4), (.t p8n99)])⟩]) (.exit 1)) .skip)) (.seq (.reg [⟨(some p8n101), none, (.mv (.t p8n7))⟩, ⟨(some p8n102), none, (.mv (.t p8n8))⟩, ⟨(some p8n103), none, (.iaddr 1 (.t p8n101) (.t p8n102))⟩, ⟨(some p8n104), none, (.ld1 (.t p8n103))⟩, ⟨(some p8n105), none, (.call 384 [(.t p8n104)])⟩, ⟨(some p8n9), none, (.mv (.t p8n105))⟩]) (.seq (.seq (.reg [⟨(some p8n106), none, (.mv (.t p8n9))⟩, ⟨(some p8n107), none, (.bin .lss (.t p8n106) (.c (.int .i64 (.ofNat 0))))⟩]) (.cond (.t p8n107) (.seq (.reg [⟨(some p8n108), none, (.mv (.t p8n0))⟩, ⟨(some p8n109), none, (.nilck (.t p8n108))⟩, ⟨(some p8n110), none, (.faddr 8 (.t p8n109))⟩, ⟨none, none, (.st 1 (.t p8n110) (.c (.int .i64 (.ofNat 3))))⟩]) .ret) .skip)) (.seq (.reg [⟨(some p8n111), none, (.mv (.t p8n6))⟩, ⟨(some p8n112), none, (.mv (.t p8n8))⟩, ⟨(some p8n113), none, (.iaddr 1 (.t p8n111) (.t p8n112))⟩, ⟨(some p8n114), none, (.ld1 (.t p8n113))⟩]) (.block 2 (.seq (.reg [⟨(some p8n118), none, (.bin .eql (.t p8n114) (.c (.int .i64 (.ofNat 0))))⟩, ⟨(some p8n117), none, (.mv (.t p8n118))⟩]) (.cond (.t p8n117) (.reg [⟨(some p8n119), none, (.mv (.t p8n9))⟩, ⟨(some p8n120), none, (.faddr 1 (.t p8n4))⟩, ⟨none, none, (.st 1 (.t p8n120) (.t p8n119))⟩]) (.seq (.reg [⟨(some p8n122), none, (.bin .eql (.t p8n114) (.c (.int .i64 (.ofNat 1))))⟩, ⟨(some p8n121), none, (.mv (.t p8n122))⟩]) (.cond (.t p8n121) (.reg [⟨(some p8n123), none, (.mv (.t p8n9))⟩, ⟨(some p8n124), none, (.faddr 2 (.t p8n4))⟩, ⟨none, none, (.st 1 (.t p8n124) (.t p8n123))⟩]) (.reg [⟨(some p8n115), none, (.mv (.t p8n9))⟩, ⟨(some p8n116), none, (.faddr 3 (.t p8n4))⟩, ⟨none, none, (.st 1 (.t p8n116) (.t p8n115))⟩]))))))))))) (.reg [⟨(some p8n88), none, (.mv (.t p8n8))⟩, ⟨(some p8n89), none, (.bin .add (.t p8n88) (.c (.int .i64 (.ofNat 1))))⟩, ⟨(some p8n8), none, (.mv (.t p8n89))⟩])))))) (.seq (.seq (.reg [⟨(some p8n125), none, (.mv (.t p8n0))⟩, ⟨(some p8n126), none, (.nilck (.t p8n125))⟩, ⟨(some p8n127), none, (.faddr 8 (.t p8n126))⟩, ⟨(some p8n128), none, (.ld1 (.t p8n127))⟩, ⟨(some p8n129), none, (.bin .eql (.t p8n128) (.c (.int .i64 (.ofNat 0))))⟩, ⟨(some p8n130), none, (.mv (.t p8n129))⟩, ⟨(some p8n131), (some (p8n130, true)), (.mv (.t p8n0))⟩, ⟨(some p8n132), (some (p8n130, true)), (.nilck (.t p8n131))⟩, ⟨(some p8n133), (some (p8n130, true)), (.faddr 6 (.t p8n132))⟩, ⟨(some p8n134), (some (p8n130, true)), (.ld1 (.t p8n133))⟩, ⟨(some p8n135), (some (p8n130, true)), (.bin .geq (.t p8n134) (.c (.int .i64 (.ofNat 200))))⟩, ⟨(some p8n136), none, (.pick (.t p8n130) (.t p8n135) (.c (.bool false)))⟩]) (.cond (.t p8n136) (.reg [⟨(some p8n137), none, (.mv (.t p8n0))⟩, ⟨(some p8n138), none, (.nilck (.t p8n137))⟩, ⟨(some p8n139), none, (.faddr 8 (.t p8n138))⟩, ⟨none, none, (.st 1 (.t p8n139) (.c (.int .i64 (.ofNat 2))))⟩]) .skip)) (.seq (.reg [⟨(some p8n140), none, (.mv (.t p8n0))⟩, ⟨(some p8n141), none, (.nilck (.t p8n140))⟩, ⟨(some p8n142), none, (.faddr 6 (.t p8n141))⟩, ⟨(some p8n143), none, (.ld1 (.t p8n142))⟩, ⟨(some p8n144), none, (.bin .add (.t p8n143) (.c (.int .i64 (.ofNat 1))))⟩, ⟨(some p8n145), none, (.nilck (.t p8n140))⟩, ⟨(some p8n146), none, (.faddr 6 (.t p8n145))⟩, ⟨none, none, (.st 1 (.t p8n146) (.t p8n144))⟩]) (.regd [(.pure, ⟨(some p8n147), none, (.mv (.t p8n0))⟩), (.pure, ⟨(some p8n148), none, (.mv (.t p8n0))⟩), (.pure, ⟨(some p8n149), none, (.nilck (.t p8n148))⟩), (.pure, ⟨(some p8n150), none, (.faddr 1 (.t p8n149))⟩), (.pure, ⟨(some p8n151), none, (.faddr 0 (.t p8n150))⟩), (.load, ⟨(some p8n152), none, (.ld1 (.t p8n151))⟩), (.load, ⟨(some p8n153), none, (.ldA 6 (.t p8n4))⟩), (.pure, ⟨(some p8n154), none, (.build [(.str []), (.int .i64 (.ofNat 0)), (.int .i64 (.ofNat 0)), (.int .i64 (.ofNat 0)), (.int .i64 (.ofNat 0)), (.int .i64 (.ofNat 0)), (.str [])] [(1, (6, (.t p8n153)))])⟩), (.pure, ⟨(some p8n155), none, (.buildS 7 1 (.agg [(.str []), (.int .i64 (.ofNat 0)), (.int .i64 (.ofNat 0)), (.int .i64 (.ofNat 0)), (.int .i64 (.ofNat 0)), (.int .i64 (.ofNat 0)), (.str [])]) [(0, (.t p8n154))])⟩)] [⟨(some p8n156), none, (.app 7 72 (.agg [(.str []), (.int .i64 (.ofNat 0)), (.int .i64 (.ofNat 0)), (.int .i64 (.ofNat 0)), (.int .i64 (.ofNat 0)), (.int .i64 (.ofNat 0)), (.str [])]) (.t p8n152) (.t p8n155))⟩, ⟨(some p8n157), none, (.nilck (.t p8n147))⟩, ⟨(some p8n158), none, (.faddr 1 (.t p8n157))⟩, ⟨(some p8n159), none, (.faddr 0 (.t p8n158))⟩, ⟨none, none, (.st 1 (.t p8n159) (.t p8n156))⟩]))))))))))))))))⟩
noncomputable def a365 : AFunc :=
  ⟨6, [p6n0], [(p6n2, none)], true, (.seq (.reg [⟨(some p6n1), none, (.box (.t p6n0))⟩, ⟨(some p6n2), none, (.mv (.c .nils))⟩]) (.seq (.reg [⟨(some p6n3), none, (.mv (.c .nils))⟩]) (.seq (.seq (.reg [⟨(some p6n4), none, (.mv (.c (.int .i64 (.ofNat 0))))⟩]) (.block 0 (.loop (.seq (.seq (.reg [⟨(some p6n6), none, (.mv (.t p6n4))⟩, ⟨(some p6n7), none, (.faddr 0 (.t p6n1))⟩, ⟨(some p6n8), none, (.ld1 (.t p6n7))⟩, ⟨(some p6n9), none, (.len false (.t p6n8))⟩, ⟨(some p6n10), none, (.bin .lss (.t p6n6) (.t p6n9))⟩]) (.cond (.t p6n10) .skip (.exit 0))) (.seq (.block 1 (.seq (.reg [⟨(some p6n13), none, (.faddr 0 (.t p6n1))⟩, ⟨(some p6n14), none, (.ld1 (.t p6n13))⟩, ⟨(some p6n15), none, (.mv (.t p6n4))⟩, ⟨(some p6n16), none, (.iaddr 7 (.t p6n14) (.t p6n15))⟩, ⟨(some p6n17), none, (.faddr 0 (.t p6n16))⟩, ⟨(some p6n18), none, (.ld1 (.t p6n17))⟩, ⟨(some p6n19), none, (.bin .neq (.t p6n18) (.c (.str [])))⟩]) (.cond (.t p6n19) (.reg [⟨(some p6n20), none, (.mv (.t p6n3))⟩, ⟨(some p6n21), none, (.faddr 0 (.t p6n1))⟩, ⟨(some p6n22), none, (.ld1 (.t p6n21))⟩, ⟨(some p6n23), none, (.mv (.t p6n4))⟩, ⟨(some p6n24), none, (.iaddr 7 (.t p6n22) (.t p6n23))⟩, ⟨(some p6n25), none, (.faddr 0 (.t p6n24))⟩, ⟨(some p6n26), none, (.ld1 (.t p6n25))⟩, ⟨(some p6n27), none, (.buildS 1 1 (.str []) [(0, (.t p6n26))])⟩, ⟨(some p6n28), none, (.mem (.app 1 16 (.str [])) [(.t p6n20), (.t p6n27)])⟩, ⟨(some p6n3), none, (.mv (.t p6n28))⟩]) .skip))) (.reg [⟨(some p6n11), none, (.mv (.t p6n4))⟩, ⟨(some p6n12), none, (.bin .add (.t p6n11) (.c (.int .i64 (.ofNat 1))))⟩, ⟨(some p6n4), none, (.mv (.t p6n12))⟩])))))) (.seq (.seq (.reg [⟨(some p6n5), none, (.mv (.c (.int .i64 (.ofNat 0))))⟩]) (.block 2 (.loop (.seq (.seq (.reg [⟨(some p6n29), none, (.mv (.t p6n5))⟩, ⟨(some p6n30), none, (.faddr 2 (.t p6n1))⟩, ⟨(some p6n31), none, (.ld1 (.t p6n30))⟩, ⟨(some p6n32), none, (.len false (.t p6n31))⟩, ⟨(some p6n33), none, (.bin .lss (.t p6n29) (.t p6n32))⟩]) (.cond (.t p6n33) .skip (.exit 2))) (.seq (.block 3 (.reg [⟨(some p6n36), none, (.mv (.t p6n3))⟩, ⟨(some p6n37), none, (.faddr 2 (.t p6n1))⟩, ⟨(some p6n38), none, (.ld1 (.t p6n37))⟩, ⟨(some p6n39), none, (.mv (.t p6n5))⟩, ⟨(some p6n40), none, (.iaddr 4 (.t p6n38) (.t p6n39))⟩, ⟨(some p6n41), none, (.faddr 0 (.t p6n40))⟩, ⟨(some p6n42), none, (.ld1 (.t p6n41))⟩, ⟨(some p6n43), none, (.buildS 1 1 (.str []) [(0, (.t p6n42))])⟩, ⟨(some p6n44), none, (.mem (.app 1 16 (.str [])) [(.t p6n36), (.t p6n43)])⟩, ⟨(some p6n3), none, (.mv (.t p6n44))⟩])) (.reg [⟨(some p6n34), none, (.mv (.t p6n5))⟩, ⟨(some p6n35), none, (.bin .add (.t p6n34) (.c (.int .i64 (.ofNat 1))))⟩, ⟨(some p6n5), none, (.mv (.t p6n35))⟩])))))) (.seq (.reg [⟨(some p6n45), none, (.mv (.t p6n3))⟩, ⟨(some p6n2), none, (.mv (.t p6n45))⟩]) .ret)))))⟩
noncomputable def a366 : AFunc :=
  ⟨6, [p6n0, p6n1], [(p6n4, none)], false, (.seq (.reg [⟨(some p6n4), none, (.mv (.c (.bool false)))⟩]) (.seq (.seq (.reg [⟨(some p6n6), none, (.mv (.t p6n0))⟩, ⟨(some p6n7), none, (.len false (.t p6n6))⟩, ⟨(some p6n8), none, (.mv (.t p6n1))⟩, ⟨(some p6n9), none, (.len false (.t p6n8))⟩, ⟨(some p6n10), none, (.bin .neq (.t p6n7) (.t p6n9))⟩]) (.cond (.t p6n10) (.seq (.reg [⟨(some p6n4), none, (.mv (.c (.bool false)))⟩]) .ret) .skip)) (.seq (.seq (.reg [⟨(some p6n5), none, (.mv (.c (.int .i64 (.ofNat 0))))⟩]) (.block 0 (.loop (.seq (.seq (.reg [⟨(some p6n11), none, (.mv (.t p6n5))⟩, ⟨(some p6n12), none, (.mv (.t p6n0))⟩, ⟨(some p6n13), none, (.len false (.t p6n12))⟩, ⟨(some p6n14), none, (.bin .lss (.t p6n11) (.t p6n13))⟩]) (.cond (.t p6n14) .skip (.exit 0))) (.seq (.block 1 (.seq (.regd [(.pure, ⟨(some p6n17), none, (.mv (.t p6n0))⟩), (.pure, ⟨(some p6n18), none, (.mv (.t p6n5))⟩), (.pure, ⟨(some p6n19), none, (.iaddr 7 (.t p6n17) (.t p6n18))⟩), (.load, ⟨(some p6n20), none, (.ldA 7 (.t p6n19))⟩), (.pure, ⟨(some p6n21), none, (.mv (.t p6n1))⟩), (.pure, ⟨(some p6n22), none, (.mv (.t p6n5))⟩), (.pure, ⟨(some p6n23), none, (.iaddr 7 (.t p6n21) (.t p6n22))⟩), (.load, ⟨(some p6n24), none, (.ldA 7 (.t p6n23))⟩)] [⟨(some p6n25), none, (.eqs (.st [(0, (1, (false, .str))), (1, (6, (true, (.st [(0, (1, (false, .int))), (1, (1, (false, .int))), (2, (1, (false, .int))), (3, (1, (false, .int))), (4, (1, (false, .int))), (5, (1, (false, .str)))]))))]) true (.t p6n20) (.t p6n24))⟩]) (.cond (.t p6n25) (.seq (.reg [⟨(some p6n4), none, (.mv (.c (.bool false)))⟩]) .ret) .skip))) (.reg [⟨(some p6n15), none, (.mv (.t p6n5))⟩, ⟨(some p6n16), none, (.bin .add (.t p6n15) (.c (.int .i64 (.ofNat 1))))⟩, ⟨(some p6n5), none, (.mv (.t p6n16))⟩])))))) (.seq (.reg [⟨(some p6n4), none, (.mv (.c (.bool true)))⟩]) .ret))))⟩
noncomputable def a367 : AFunc :=
  ⟨6, [p6n0, p6n1], [(p6n4, none)], false, (.seq (.reg [⟨(some p6n4), none, (.mv (.c (.bool false)))⟩]) (.seq (.seq (.reg [⟨(some p6n6), none, (.mv (.t p6n0))⟩, ⟨(some p6n7), none, (.len false (.t p6n6))⟩, ⟨(some p6n8), none, (.mv (.t p6n1))⟩, ⟨(some p6n9), none, (.len false (.t p6n8))⟩, ⟨(some p6n10), none, (.bin .neq (.t p6n7) (.t p6n9))⟩]) (.cond (.t p6n10) (.seq (.reg [⟨(some p6n4), none, (.mv (.c (.bool false)))⟩]) .ret) .skip)) (.seq (.seq (.reg [⟨(some p6n5), none, (.mv (.c (.int .i64 (.ofNat 0))))⟩]) (.block 0 (.loop (.seq (.seq (.reg [⟨(some p6n11), none, (.mv (.t p6n5))⟩, ⟨(some p6n12), none, (.mv (.t p6n0))⟩, ⟨(some p6n13), none, (.len false (.t p6n12))⟩, ⟨(some p6n14), none, (.bin .lss (.t p6n11) (.t p6n13))⟩]) (.cond (.t p6n14) .skip (.exit 0))) (.seq (.block 1 (.seq (.regd [(.pure, ⟨(some p6n17), none, (.mv (.t p6n0))⟩), (.pure, ⟨(some p6n18), none, (.mv (.t p6n5))⟩), (.pure, ⟨(some p6n19), none, (.iaddr 4 (.t p6n17) (.t p6n18))⟩), (.load, ⟨(some p6n20), none, (.ldA 4 (.t p6n19))⟩), (.pure, ⟨(some p6n21), none, (.mv (.t p6n1))⟩), (.pure, ⟨(some p6n22), none, (.mv (.t p6n5))⟩), (.pure, ⟨(some p6n23), none, (.iaddr 4 (.t p6n21) (.t p6n22))⟩), (.load, ⟨(some p6n24), none, (.ldA 4 (.t p6n23))⟩)] [⟨(some p6n25), none, (.eqs (.st [(0, (1, (false, .str))), (1, (1, (false, .bool))), (2, (1, (false, .int))), (3, (1, (false, .bool)))]) true (.t p6n20) (.t p6n24))⟩]) (.cond (.t p6n25) (.seq (.reg [⟨(some p6n4), none, (.mv (.c (.bool false)))⟩]) .ret) .skip))) (.reg [⟨(some p6n15), none, (.mv (.t p6n5))⟩, ⟨(some p6n16), none, (.bin .add (.t p6n15) (.c (.int .i64 (.ofNat 1))))⟩, ⟨(some p6n5), none, (.mv (.t p6n16))⟩])))))) (.seq (.reg [⟨(some p6n4), none, (.mv (.c (.bool true)))⟩]) .ret))))⟩
noncomputable def a368 : AFunc :=
  ⟨6, [p6n0, p6n1], [(p6n4, none)], false, (.seq (.reg [⟨(some p6n4), none, (.mv (.c (.bool false)))⟩]) (.seq (.seq (.reg [⟨(some p6n6), none, (.mv (.t p6n0))⟩, ⟨(some p6n7), none, (.len false (.t p6n6))⟩, ⟨(some p6n8), none, (.mv (.t p6n1))⟩, ⟨(some p6n9), none, (.len false (.t p6n8))⟩, ⟨(some p6n10), none, (.bin .neq (.t p6n7) (.t p6n9))⟩]) (.cond (.t p6n10) (.seq (.reg [⟨(some p6n4), none, (.mv (.c (.bool false)))⟩]) .ret) .skip)) (.seq (.seq (.reg [⟨(some p6n5), none, (.mv (.c (.int .i64 (.ofNat 0))))⟩]) (.block 0 (.loop (.seq (.seq (.reg [⟨(some p6n11), none, (.mv (.t p6n5))⟩, ⟨(some p6n12), none, (.mv (.t p6n0))⟩, ⟨(some p6n13), none, (.len false (.t p6n12))⟩, ⟨(some p6n14), none, (.bin .lss (.t p6n11) (.t p6n13))⟩]) (.cond (.t p6n14) .skip (.exit 0))) (.seq (.block 1 (.seq (.regd [(.pure, ⟨(some p6n17), none, (.mv (.t p6n0))⟩), (.pure, ⟨(some p6n18), none, (.mv (.t p6n5))⟩), (.pure, ⟨(some p6n19), none, (.iaddr 1 (.t p6n17) (.t p6n18))⟩), (.load, ⟨(some p6n20), none, (.ld1 (.t p6n19))⟩), (.pure, ⟨(some p6n21), none, (.mv (.t p6n1))⟩), (.pure, ⟨(some p6n22), none, (.mv (.t p6n5))⟩), (.pure, ⟨(some p6n23), none, (.iaddr 1 (.t p6n21) (.t p6n22))⟩), (.load, ⟨(some p6n24), none, (.ld1 (.t p6n23))⟩)] [⟨(some p6n25), none, (.bin .neq (.t p6n20) (.t p6n24))⟩]) (.cond (.t p6n25) (.seq (.reg [⟨(some p6n4), none, (.mv (.c (.bool false)))⟩]) .ret) .skip))) (.reg [⟨(some p6n15), none, (.mv (.t p6n5))⟩, ⟨(some p6n16), none, (.bin .add (.t p6n15) (.c (.int .i64 (.ofNat 1))))⟩, ⟨(some p6n5), none, (.mv (.t p6n16))⟩])))))) (.seq (.reg [⟨(some p6n4), none, (.mv (.c (.bool true)))⟩]) .ret))))⟩
noncomputable def a369 : AFunc :=
  ⟨6, [p6n0], [(p6n2, none), (p6n3, none)], false, (.seq (.reg [⟨(some p6n1), none, (.box (.t p6n0))⟩, ⟨(some p6n2), none, (.mv (.c (.str [])))⟩, ⟨(some p6n3), none, (.mv (.c (.int .i64 (.ofNat 0))))⟩]) (.seq (.seq (.reg [⟨(some p6n9), none, (.ldA 4 (.t p6n1))⟩, ⟨(some p6n10), none, (.call 385 [(.t p6n9)])⟩, ⟨(some p6n11), none, (.un .not (.t p6n10))⟩]) (.cond (.t p6n11) (.seq (.reg [⟨(some p6n2), none, (.mv (.c (.str [])))⟩, ⟨(some p6n3), none, (.mv (.c (.int .i64 (.ofNat 1))))⟩]) .ret) .skip)) (.seq (.reg [⟨(some p6n4), none, (.mv (.c (.str [])))⟩]) (.seq (.seq (.reg [⟨(some p6n12), none, (.ldA 4 (.t p6n1))⟩, ⟨(some p6n13), none, (.call 386 [(.t p6n12)])⟩, ⟨(some p6n5), none, (.mv (.t p6n13))⟩]) (.seq (.reg [⟨(some p6n14), none, (.mv (.t p6n5))⟩, ⟨(some p6n15), none, (.len false (.t p6n14))⟩, ⟨(some p6n16), none, (.bin .gtr (.t p6n15) (.c (.int .i64 (.ofNat 0))))⟩]) (.cond (.t p6n16) (.reg [⟨(some p6n17), none, (.mv (.t p6n5))⟩, ⟨(some p6n18), none, (.call 290 [(.t p6n17), (.c (.str [10]))])⟩, ⟨(some p6n19), none, (.bin .add (.t p6n18) (.c (.str [10])))⟩, ⟨(some p6n4), none, (.mv (.t p6n19))⟩]) .skip))) (.seq (.seq (.reg [⟨(some p6n21), none, (.mv (.t p6n4))⟩, ⟨(some p6n22), none, (.call 352 [(.t p6n21)])⟩, ⟨(some p6n20), none, (.mv (.t p6n22))⟩, ⟨(some p6n23), none, (.ext (.t p6n20) 0)⟩, ⟨(some p6n24), none, (.ext (.t p6n20) 1)⟩, ⟨(some p6n25), none, (.ext (.t p6n20) 2)⟩, ⟨(some p6n6), none, (.alloc [.nils, .nils, .nils, .nils])⟩, ⟨none, none, (.st 4 (.t p6n6) (.t p6n23))⟩, ⟨(some p6n7), none, (.mv (.t p6n24))⟩, ⟨(some p6n8), none, (.mv (.t p6n25))⟩]) (.seq (.reg [⟨(some p6n26), none, (.mv (.t p6n8))⟩, ⟨(some p6n27), none, (.bin .neq (.t p6n26) (.c (.int .i64 (.ofNat 0))))⟩, ⟨(some p6n28), none, (.mv (.t p6n27))⟩, ⟨(some p6n29), (some (p6n28, false)), (.ldA 4 (.t p6n6))⟩, ⟨(some p6n30), (some (p6n28, false)), (.ldA 4 (.t p6n1))⟩, ⟨(some p6n31), (some (p6n28, false)), (.call 387 [(.t p6n29), (.t p6n30)])⟩, ⟨(some p6n32), (some (p6n28, false)), (.un .not (.t p6n31))⟩, ⟨(some p6n33), none, (.pick (.t p6n28) (.c (.bool true)) (.t p6n32))⟩]) (.cond (.t p6n33) (.seq (.reg [⟨(some p6n2), none, (.mv (.c (.str [])))⟩, ⟨(some p6n3), none, (.mv (.c (.int .i64 (.ofNat 2))))⟩]) .ret) .skip))) (.seq (.reg [⟨(some p6n34), none, (.mv (.t p6n4))⟩, ⟨(some p6n2), none, (.mv (.t p6n34))⟩, ⟨(some p6n3), none, (.mv (.c (.int .i64 (.ofNat 0))))⟩]) .ret))))))⟩
noncomputable def a370 : AFunc :=
  ⟨4, [p4n0, p4n1], [(p4n4, none)], false, (.seq (.reg [⟨(some p4n4), none, (.mv (.c .nils))⟩]) (.seq (.reg [⟨(some p4n5), none, (.mv (.t p4n0))⟩, ⟨(some p4n6), none, (.mv (.t p4n1))⟩, ⟨(some p4n7), none, (.call 388 [(.t p4n5), (.t p4n6), (.c (.int .i64 (.ofNat 0))), (.c (.int .i64 (.negSucc 0)))])⟩, ⟨(some p4n4), none, (.mv (.t p4n7))⟩]) .ret))⟩
noncomputable def a372 : AFunc :=
  ⟨6, [p6n0, p6n1], [(p6n4, none)], true, (.seq (.reg [⟨(some p6n4), none, (.mv (.c (.int .i64 (.ofNat 0))))⟩]) (.seq (.block 0 (.seq (.reg [⟨(some p6n6), none, (.mv (.t p6n0))⟩, ⟨(some p6n7), none, (.nilck (.t p6n6))⟩, ⟨(some p6n8), none, (.faddr 6 (.t p6n7))⟩, ⟨(some p6n9), none, (.ld1 (.t p6n8))⟩, ⟨(some p6n10), none, (.mv (.t p6n1))⟩, ⟨(some p6n11), none, (.mem (.lkp .str (.bool false) false) [(.t p6n9), (.t p6n10)])⟩, ⟨(some p6n5), none, (.mv (.t p6n11))⟩]) (.cond (.t p6n5) (.seq (.reg [⟨(some p6n4), none, (.mv (.c (.int .i64 (.ofNat 5))))⟩]) .ret) (.seq (.reg [⟨(some p6n13), none, (.mv (.t p6n0))⟩, ⟨(some p6n14), none, (.nilck (.t p6n13))⟩, ⟨(some p6n15), none, (.faddr 6 (.t p6n14))⟩, ⟨(some p6n16), none, (.ld1 (.t p6n15))⟩, ⟨(some p6n17), none, (.mem .mlen [(.t p6n16)])⟩, ⟨(some p6n18), none, (.bin .geq (.t p6n17) (.c (.int .i64 (.ofNat 60))))⟩, ⟨(some p6n12), none, (.mv (.t p6n18))⟩]) (.cond (.t p6n12) (.seq (.reg [⟨(some p6n4), none, (.mv (.c (.int .i64 (.ofNat 2))))⟩]) .ret) .skip))))) (.seq (.reg [⟨(some p6n19), none, (.mv (.t p6n0))⟩, ⟨(some p6n20), none, (.nilck (.t p6n19))⟩, ⟨(some p6n21), none, (.faddr 6 (.t p6n20))⟩, ⟨(some p6n22), none, (.ld1 (.t p6n21))⟩, ⟨(some p6n23), none, (.mv (.t p6n1))⟩, ⟨none, none, (.mem (.mup .str) [(.t p6n22), (.t p6n23), (.c (.bool true))])⟩]) (.seq (.seq (.reg [⟨(some p6n24), none, (.mv (.t p6n0))⟩, ⟨(some p6n25), none, (.nilck (.t p6n24))⟩, ⟨(some p6n26), none, (.faddr 5 (.t p6n25))⟩, ⟨(some p6n27), none, (.ld1 (.t p6n26))⟩]) (.cond (.t p6n27) (.regd [(.pure, ⟨(some p6n28), none, (.mv (.t p6n0))⟩), (.pure, ⟨(some p6n29), none, (.mv (.t p6n0))⟩), (.pure, ⟨(some p6n30), none, (.nilck (.t p6n29))⟩), (.pure, ⟨(some p6n31), none, (.faddr 0 (.t p6n30))⟩), (.pure, ⟨(some p6n32), none, (.faddr 2 (.t p6n31))⟩), (.load, ⟨(some p6n33), none, (.ld1 (.t p6n32))⟩), (.pure, ⟨(some p6n34), none, (.mv (.t p6n1))⟩), (.pure, ⟨(some p6n35), none, (.mv (.t p6n0))⟩), (.pure, ⟨(some p6n36), none, (.nilck (.t p6n35))⟩), (.pure, ⟨(some p6n37), none, (.faddr 0 (.t p6n36))⟩), (.pure, ⟨(some p6n38), none, (.faddr 1 (.t p6n37))⟩), (.load, ⟨(some p6n39), none, (.ld1 (.t p6n38))⟩), (.pure, ⟨(some p6n40), none, (.len false (.t p6n39))⟩), (.pure, ⟨(some p6n41), none, (.build [(.str []), (.bool false), (.int .i64 (.ofNat 0)), (.bool false)] [(0, (1, (.t p6n34))), (2, (1, (.t p6n40)))])⟩), (.pure, ⟨(some p6n42), none, (.buildS 4 1 (.agg [(.str []), (.bool false), (.int .i64 (.ofNat 0)), (.bool false)]) [(0, (.t p6n41))])⟩)] [⟨(some p6n43), none, (.app 4 40 (.agg [(.str []), (.bool false), (.int .i64 (.ofNat 0)), (.bool false)]) (.t p6n33) (.t p6n42))⟩, ⟨(some p6n44), none, (.nilck (.t p6n28))⟩, ⟨(some p6n45), none, (.faddr 0 (.t p6n44))⟩, ⟨(some p6n46), none, (.faddr 2 (.t p6n45))⟩, ⟨none, none, (.st 1 (.t p6n46) (.t p6n43))⟩]) (.reg [⟨(some p6n47), none, (.mv (.t p6n0))⟩, ⟨(some p6n48), none, (.mv (.t p6n0))⟩, ⟨(some p6n49), none, (.nilck (.t p6n48))⟩, ⟨(some p6n50), none, (.faddr 0 (.t p6n49))⟩, ⟨(some p6n51), none, (.faddr 0 (.t p6n50))⟩, ⟨(some p6n52), none, (.ld1 (.t p6n51))⟩, ⟨(some p6n53), none, (.mv (.t p6n1))⟩, ⟨(some p6n54), none, (.build [(.str []), (.int .i64 (.ofNat 0)), (.int .i64 (.ofNat 0)), (.int .i64 (.ofNat 0)), (.int .i64 (.ofNat 0)), (.int .i64 (.ofNat 0)), (.str [])] [(0, (1, (.t p6n53)))])⟩, ⟨(some p6n55), none, (.buildS 7 1 (.agg [(.str []), (.int .i64 (.ofNat 0)), (.int .i64 (.ofNat 0)), (.int .i64 (.ofNat 0)), (.int .i64 (.ofNat 0)), (.int .i64 (.ofNat 0)), (.str [])]) [(0, (.t p6n54))])⟩, ⟨(some p6n56), none, (.app 7 72 (.agg [(.str []), (.int .i64 (.ofNat 0)), (.int .i64 (.ofNat 0)), (.int .i64 (.ofNat 0)), (.int .i64 (.ofNat 0)), (.int .i64 (.ofNat 0)), (.str [])]) (.t p6n52) (.t p6n55))⟩, ⟨(some p6n57), none, (.nilck (.t p6n47))⟩, ⟨(some p6n58), none, (.faddr 0 (.t p6n57))⟩, ⟨(some p6n59), none, (.faddr 0 (.t p6n58))⟩, ⟨none, none, (.st 1 (.t p6n59) (.t p6n56))⟩]))) (.seq (.reg [⟨(some p6n4), none, (.mv (.c (.int .i64 (.ofNat 0))))⟩]) .ret)))))⟩
noncomputable def a373 : AFunc :=
  ⟨6, [p6n0, p6n1], [(p6n4, none)], true, (.seq (.reg [⟨(some p6n3), none, (.box (.t p6n1))⟩, ⟨(some p6n4), none, (.mv (.c (.int .i64 (.ofNat 0))))⟩]) (.seq (.seq (.reg [⟨(some p6n5), none, (.faddr 2 (.t p6n3))⟩, ⟨(some p6n6), none, (.ld1 (.t p6n5))⟩, ⟨(some p6n7), none, (.len false (.t p6n6))⟩, ⟨(some p6n8), none, (.bin .neq (.t p6n7) (.c (.int .i64 (.ofNat 2))))⟩, ⟨(some p6n9), none, (.mv (.t p6n8))⟩, ⟨(some p6n10), (some (p6n9, false)), (.faddr 2 (.t p6n3))⟩, ⟨(some p6n11), (some (p6n9, false)), (.ld1 (.t p6n10))⟩, ⟨(some p6n12), (some (p6n9, false)), (.iaddr 4 (.t p6n11) (.c (.int .i64 (.ofNat 1))))⟩, ⟨(some p6n13), (some (p6n9, false)), (.faddr 0 (.t p6n12))⟩, ⟨(some p6n14), (some (p6n9, false)), (.ld1 (.t p6n13))⟩, ⟨(some p6n15), (some (p6n9, false)), (.bin .neq (.t p6n14) (.c (.int .i64 (.ofNat 1))))⟩, ⟨(some p6n16), none, (.pick (.t p6n9) (.c (.bool true)) (.t p6n15))⟩, ⟨(some p6n17), none, (.mv (.t p6n16))⟩, ⟨(some p6n18), (some (p6n17, false)), (.faddr 2 (.t p6n3))⟩, ⟨(some p6n19), (some (p6n17, false)), (.ld1 (.t p6n18))⟩, ⟨(some p6n20), (some (p6n17, false)), (.iaddr 4 (.t p6n19) (.c (.int .i64 (.ofNat 1))))⟩, ⟨(some p6n21), (some (p6n17, false)), (.faddr 1 (.t p6n20))⟩, ⟨(some p6n22), (some (p6n17, false)), (.ld1 (.t p6n21))⟩, ⟨(some p6n23), (some (p6n17, false)), (.call 82 [(.t p6n22)])⟩, ⟨(some p6n24), (some (p6n17, false)), (.un .not (.t p6n23))⟩, ⟨(some p6n25), none, (.pick (.t p6n17) (.c (.bool true)) (.t p6n24))⟩]) (.cond (.t p6n25) (.seq (.reg [⟨(some p6n4), none, (.mv (.c (.int .i64 (.ofNat 3))))⟩]) .ret) .skip)) (.seq (.regd [(.pure, ⟨(some p6n26), none, (.mv (.t p6n0))⟩), (.pure, ⟨(some p6n27), none, (.mv (.t p6n0))⟩), (.pure, ⟨(some p6n28), none, (.nilck (.t p6n27))⟩), (.pure, ⟨(some p6n29), none, (.faddr 7 (.t p6n28))⟩), (.load, ⟨(some p6n30), none, (.ld1 (.t p6n29))⟩), (.pure, ⟨(some p6n31), none, (.faddr 2 (.t p6n3))⟩), (.load, ⟨(some p6n32), none, (.ld1 (.t p6n31))⟩), (.pure, ⟨(some p6n33), none, (.iaddr 4 (.t p6n32) (.c (.int .i64 (.ofNat 1))))⟩), (.pure, ⟨(some p6n34), none, (.faddr 1 (.t p6n33))⟩), (.load, ⟨(some p6n35), none, (.ld1 (.t p6n34))⟩), (.pure, ⟨(some p6n36), none, (.faddr 0 (.t p6n3))⟩), (.load, ⟨(some p6n37), none, (.ld1 (.t p6n36))⟩), (.pure, ⟨(some p6n38), none, (.build [(.str []), (.int .i64 (.ofNat 0))] [(0, (1, (.t p6n35))), (1, (1, (.t p6n37)))])⟩), (.pure, ⟨(some p6n39), none, (.buildS 2 1 (.agg [(.str []), (.int .i64 (.ofNat 0))]) [(0, (.t p6n38))])⟩)] [⟨(some p6n40), none, (.app 2 24 (.agg [(.str []), (.int .i64 (.ofNat 0))]) (.t p6n30) (.t p6n39))⟩, ⟨(some p6n41), none, (.nilck (.t p6n26))⟩, ⟨(some p6n42), none, (.faddr 7 (.t p6n41))⟩, ⟨none, none, (.st 1 (.t p6n42) (.t p6n40))⟩]) (.seq (.reg [⟨(some p6n4), none, (.mv (.c (.int .i64 (.ofNat 0))))⟩]) .ret))))⟩
noncomputable def a374 : AFunc :=
  ⟨6, [p6n0, p6n1], [(p6n4, none)], true, (.seq (.reg [⟨(some p6n4), none, (.mv (.c (.int .i64 (.ofNat 0))))⟩]) (.seq (.reg [⟨(some p6n10), none, (.mv (.t p6n1))⟩, ⟨(some p6n11), none, (.call 179 [(.t p6n10)])⟩, ⟨(some p6n5), none, (.mv (.t p6n11))⟩]) (.seq (.seq (.reg [⟨(some p6n12), none, (.mv (.t p6n0))⟩, ⟨(some p6n13), none, (.nilck (.t p6n12))⟩, ⟨(some p6n14), none, (.faddr 5 (.t p6n13))⟩, ⟨(some p6n15), none, (.ld1 (.t p6n14))⟩, ⟨(some p6n16), none, (.un .not (.t p6n15))⟩, ⟨(some p6n17), none, (.mv (.t p6n16))⟩, ⟨(some p6n18), (some (p6n17, false)), (.mv (.t p6n5))⟩, ⟨(some p6n19), (some (p6n17, false)), (.len false (.t p6n18))⟩, ⟨(some p6n20), (some (p6n17, false)), (.bin .eql (.t p6n19) (.c (.int .i64 (.ofNat 0))))⟩, ⟨(some p6n21), none, (.pick (.t p6n17) (.c (.bool true)) (.t p6n20))⟩]) (.cond (.t p6n21) (.seq (.reg [⟨(some p6n4), none, (.mv (.c (.int .i64 (.ofNat 3))))⟩]) .ret) .skip)) (.seq (.seq (.reg [⟨(some p6n22), none, (.mv (.t p6n5))⟩, ⟨(some p6n23), none, (.len false (.t p6n22))⟩, ⟨(some p6n24), none, (.mv (.c (.int .i64 (.ofNat 0))))⟩]) (.block 0 (.loop (.seq (.reg [⟨(some p6n25), none, (.bin .lss (.t p6n24) (.t p6n23))⟩]) (.seq (.cond (.t p6n25) .skip (.exit 0)) (.seq (.block 1 (.seq (.reg [⟨(some p6n26), none, (.iaddr 1 (.t p6n22) (.t p6n24))⟩, ⟨(some p6n27), none, (.ld1 (.t p6n26))⟩, ⟨(some p6n7), none, (.mv (.t p6n27))⟩]) (.seq (.reg [⟨(some p6n29), none, (.mv (.t p6n0))⟩, ⟨(some p6n30), none, (.nilck (.t p6n29))⟩, ⟨(some p6n31), none, (.faddr 4 (.t p6n30))⟩, ⟨(some p6n32), none, (.ld1 (.t p6n31))⟩, ⟨(some p6n33), none, (.mv (.t p6n7))⟩, ⟨(some p6n34), none, (.call 30 [(.t p6n32), (.t p6n33)])⟩, ⟨(some p6n28), none, (.mv (.t p6n34))⟩, ⟨(some p6n35), none, (.ext (.t p6n28) 0)⟩, ⟨(some p6n36), none, (.ext (.t p6n28) 1)⟩, ⟨(some p6n8), none, (.alloc [(.str []), (.int .i64 (.ofNat 0))])⟩, ⟨none, none, (.st 2 (.t p6n8) (.t p6n35))⟩, ⟨(some p6n9), none, (.mv (.t p6n36))⟩]) (.seq (.block 2 (.seq (.reg [⟨(some p6n38), none, (.mv (.t p6n9))⟩, ⟨(some p6n39), none, (.bin .neq (.t p6n38) (.c (.int .i64 (.ofNat 0))))⟩, ⟨(some p6n37), none, (.mv (.t p6n39))⟩]) (.cond (.t p6n37) (.seq (.reg [⟨(some p6n40), none, (.mv (.t p6n9))⟩, ⟨(some p6n4), none, (.mv (.t p6n40))⟩]) .ret) (.seq (.reg [⟨(some p6n42), none, (.mv (.t p6n0))⟩, ⟨(some p6n43), none, (.nilck (.t p6n42))⟩, ⟨(some p6n44), none, (.faddr 0 (.t p6n43))⟩, ⟨(some p6n45), none, (.faddr 1 (.t p6n44))⟩, ⟨(some p6n46), none, (.ld1 (.t p6n45))⟩, ⟨(some p6n47), none, (.len false (.t p6n46))⟩, ⟨(some p6n48), none, (.bin .geq (.t p6n47) (.c (.int .i64 (.ofNat 128))))⟩, ⟨(some p6n41), none, (.mv (.t p6n48))⟩]) (.cond (.t p6n41) (.seq (.reg [⟨(some p6n4), none, (.mv (.c (.int .i64 (.ofNat 2))))⟩]) .ret) .skip))))) (.regd [(.pure, ⟨(some p6n49), none, (.mv (.t p6n0))⟩), (.pure, ⟨(some p6n50), none, (.mv (.t p6n0))⟩), (.pure, ⟨(some p6n51), none, (.nilck (.t p6n50))⟩), (.pure, ⟨(some p6n52), none, (.faddr 0 (.t p6n51))⟩), (.pure, ⟨(some p6n53), none, (.faddr 1 (.t p6n52))⟩), (.load, ⟨(some p6n54), none, (.ld1 (.t p6n53))⟩), (.load, ⟨(some p6n55), none, (.ldA 2 (.t p6n8))⟩), (.pure, ⟨(some p6n56), none, (.buildS 2 1 (.agg [(.str []), (.int .i64 (.ofNat 0))]) [(0, (.t p6n55))])⟩)] [⟨(some p6n57), none, (.app 2 24 (.agg [(.str []), (.int .i64 (.ofNat 0))]) (.t p6n54) (.t p6n56))⟩, ⟨(some p6n58), none, (.nilck (.t p6n49))⟩, ⟨(some p6n59), none, (.faddr 0 (.t p6n58))⟩, ⟨(some p6n60), none, (.faddr 1 (.t p6n59))⟩, ⟨none, none, (.st 1 (.t p6n60) (.t p6n57))⟩]))))) (.reg [⟨(some p6n61), none, (.bin .add (.t p6n24) (.c (.int .i64 (.ofNat 1))))⟩, ⟨(some p6n24), none, (.mv (.t p6n61))⟩]))))))) (.seq (.reg [⟨(some p6n4), none, (.mv (.c (.int .i64 (.ofNat 0))))⟩]) .ret)))))⟩
noncomputable def a375 : AFunc :=
  ⟨6, [p6n0, p6n1], [(p6n4, none)], true, (.seq (.reg [⟨(some p6n4), none, (.mv (.c (.int .i64 (.ofNat 0))))⟩]) (.seq (.seq (.reg [⟨(some p6n7), none, (.mv (.t p6n0))⟩, ⟨(some p6n8), none, (.nilck (.t p6n7))⟩, ⟨(some p6n9), none, (.faddr 5 (.t p6n8))⟩, ⟨(some p6n10), none, (.ld1 (.t p6n9))⟩, ⟨(some p6n11), none, (.un .not (.t p6n10))⟩]) (.cond (.t p6n11) (.seq (.reg [⟨(some p6n4), none, (.mv (.c (.int .i64 (.ofNat 3))))⟩]) .ret) .skip)) (.seq (.reg [⟨(some p6n13), none, (.mv (.t p6n0))⟩, ⟨(some p6n14), none, (.nilck (.t p6n13))⟩, ⟨(some p6n15), none, (.faddr 4 (.t p6n14))⟩, ⟨(some p6n16), none, (.ld1 (.t p6n15))⟩, ⟨(some p6n17), none, (.mv (.t p6n1))⟩, ⟨(some p6n18), none, (.call 31 [(.t p6n16), (.t p6n17)])⟩, ⟨(some p6n12), none, (.mv (.t p6n18))⟩, ⟨(some p6n19), none, (.ext (.t p6n12) 0)⟩, ⟨(some p6n20), none, (.ext (.t p6n12) 1)⟩, ⟨(some p6n5), none, (.mv (.t p6n19))⟩, ⟨(some p6n6), none, (.mv (.t p6n20))⟩]) (.seq (.block 0 (.seq (.reg [⟨(some p6n22), none, (.mv (.t p6n6))⟩, ⟨(some p6n23), none, (.bin .neq (.t p6n22) (.c (.int .i64 (.ofNat 0))))⟩, ⟨(some p6n21), none, (.mv (.t p6n23))⟩]) (.cond (.t p6n21) (.seq (.reg [⟨(some p6n24), none, (.mv (.t p6n6))⟩, ⟨(some p6n4), none, (.mv (.t p6n24))⟩]) .ret) (.seq (.reg [⟨(some p6n26), none, (.mv (.t p6n5))⟩, ⟨(some p6n27), none, (.bin .lss (.t p6n26) (.c (.int .i64 (.ofNat 0))))⟩, ⟨(some p6n28), none, (.mv (.t p6n27))⟩, ⟨(some p6n29), (some (p6n28, false)), (.mv (.t p6n5))⟩, ⟨(some p6n30), (some (p6n28, false)), (.bin .gtr (.t p6n29) (.c (.int .i64 (.ofNat 128))))⟩, ⟨(some p6n31), none, (.pick (.t p6n28) (.c (.bool true)) (.t p6n30))⟩, ⟨(some p6n25), none, (.mv (.t p6n31))⟩]) (.cond (.t p6n25) (.seq (.reg [⟨(some p6n4), none, (.mv (.c (.int .i64 (.ofNat 7))))⟩]) .ret) (.seq (.reg [⟨(some p6n33), none, (.mv (.t p6n5))⟩, ⟨(some p6n34), none, (.mv (.t p6n0))⟩, ⟨(some p6n35), none, (.nilck (.t p6n34))⟩, ⟨(some p6n36), none, (.faddr 0 (.t p6n35))⟩, ⟨(some p6n37), none, (.faddr 1 (.t p6n36))⟩, ⟨(some p6n38), none, (.ld1 (.t p6n37))⟩, ⟨(some p6n39), none, (.len false (.t p6n38))⟩, ⟨(some p6n40), none, (.bin .sub (.c (.int .i64 (.ofNat 128))) (.t p6n39))⟩, ⟨(some p6n41), none, (.bin .gtr (.t p6n33) (.t p6n40))⟩, ⟨(some p6n32), none, (.mv (.t p6n41))⟩]) (.cond (.t p6n32) (.seq (.reg [⟨(some p6n4), none, (.mv (.c (.int .i64 (.ofNat 2))))⟩]) .ret) .skip))))))) (.seq (.reg [⟨(some p6n42), none, (.mv (.t p6n0))⟩, ⟨(some p6n43), none, (.mv (.t p6n0))⟩, ⟨(some p6n44), none, (.nilck (.t p6n43))⟩, ⟨(some p6n45), none, (.faddr 0 (.t p6n44))⟩, ⟨(some p6n46), none, (.faddr 1 (.t p6n45))⟩, ⟨(some p6n47), none, (.ld1 (.t p6n46))⟩, ⟨(some p6n48), none, (.mv (.t p6n5))⟩, ⟨(some p6n49), none, (.mem (.apz 2 24 (.agg [(.str []), (.int .i64 (.ofNat 0))])) [(.t p6n47), (.t p6n48)])⟩, ⟨(some p6n50), none, (.nilck (.t p6n42))⟩, ⟨(some p6n51), none, (.faddr 0 (.t p6n50))⟩, ⟨(some p6n52), none, (.faddr 1 (.t p6n51))⟩, ⟨none, none, (.st 1 (.t p6n52) (.t p6n49))⟩]) (.seq (.reg [⟨(some p6n4), none, (.mv (.c (.int .i64 (.ofNat 0))))⟩]) .ret))))))⟩
noncomputable def a376 : AFunc :=
  ⟨7, [p7n0, p7n1], [(p7n4, none)], true, (.seq (.reg [⟨(some p7n4), none, (.mv (.c (.int .i64 (.ofNat 0))))⟩]) (.seq (.seq (.reg [⟨(some p7n13), none, (.mv (.t p7n0))⟩, ⟨(some p7n14), none, (.nilck (.t p7n13))⟩, ⟨(some p7n15), none, (.faddr 5 (.t p7n14))⟩, ⟨(some p7n16), none, (.ld1 (.t p7n15))⟩, ⟨(some p7n17), none, (.mv (.t p7n16))⟩, ⟨(some p7n18), (some (p7n17, false)), (.mv (.t p7n1))⟩, ⟨(some p7n19), (some (p7n17, false)), (.iaddr 4 (.t p7n18) (.c (.int .i64 (.ofNat 0))))⟩, ⟨(some p7n20), (some (p7n17, false)), (.faddr 0 (.t p7n19))⟩, ⟨(some p7n21), (some (p7n17, false)), (.ld1 (.t p7n20))⟩, ⟨(some p7n22), (some (p7n17, false)), (.bin .neq (.t p7n21) (.c (.int .i64 (.ofNat 1))))⟩, ⟨(some p7n23), none, (.pick (.t p7n17) (.c (.bool true)) (.t p7n22))⟩]) (.cond (.t p7n23) (.seq (.reg [⟨(some p7n4), none, (.mv (.c (.int .i64 (.ofNat 3))))⟩]) .ret) .skip)) (.seq (.reg [⟨(some p7n25), none, (.mv (.t p7n1))⟩, ⟨(some p7n26), none, (.iaddr 4 (.t p7n25) (.c (.int .i64 (.ofNat 0))))⟩, ⟨(some p7n27), none, (.faddr 1 (.t p7n26))⟩, ⟨(some p7n28), none, (.ld1 (.t p7n27))⟩, ⟨(some p7n29), none, (.call 391 [(.t p7n28)])⟩, ⟨(some p7n24), none, (.mv (.t p7n29))⟩, ⟨(some p7n30), none, (.ext (.t p7n24) 0)⟩, ⟨(some p7n31), none, (.ext (.t p7n24) 1)⟩, ⟨(some p7n5), none, (.mv (.t p7n30))⟩, ⟨(some p7n6), none, (.mv (.t p7n31))⟩]) (.seq (.seq (.reg [⟨(some p7n32), none, (.mv (.t p7n6))⟩, ⟨(some p7n33), none, (.bin .neq (.t p7n32) (.c (.int .i64 (.ofNat 0))))⟩]) (.cond (.t p7n33) (.seq (.reg [⟨(some p7n4), none, (.mv (.c (.int .i64 (.ofNat 4))))⟩]) .ret) .skip)) (.seq (.reg [⟨(some p7n34), none, (.mv (.t p7n5))⟩, ⟨(some p7n35), none, (.build [(.int .i64 (.ofNat 0)), (.int .i64 (.ofNat 0)), (.int .i64 (.ofNat 0)), (.int .i64 (.ofNat 0)), (.int .i64 (.ofNat 0)), (.str [])] [(0, (1, (.t p7n34)))])⟩, ⟨(some p7n7), none, (.alloc [(.int .i64 (.ofNat 0)), (.int .i64 (.ofNat 0)), (.int .i64 (.ofNat 0)), (.int .i64 (.ofNat 0)), (.int .i64 (.ofNat 0)), (.str [])])⟩, ⟨none, none, (.st 6 (.t p7n7) (.t p7n35))⟩]) (.seq (.regx 63 [(0, (0, (false, ⟨(some p7n36), none, (.call 392 [(.t p7n7)])⟩))), (1, (0, (true, ⟨(some p7n37), none, (.mv (.t p7n1))⟩))), (2, (2, (false, ⟨(some p7n38), none, (.slL 4 (.t p7n37) (some (.c (.int .i64 (.ofNat 1)))) none none)⟩))), (3, (5, (false, ⟨(some p7n39), none, (.call 179 [(.t p7n38)])⟩))), (4, (9, (true, ⟨(some p7n8), none, (.mv (.t p7n36))⟩))), (5, (31, (true, ⟨(some p7n9), none, (.mv (.t p7n39))⟩)))]) (.seq (.reg [⟨(some p7n40), none, (.mv (.t p7n8))⟩, ⟨(some p7n41), none, (.len false (.t p7n40))⟩, ⟨(some p7n10), none, (.mv (.t p7n41))⟩]) (.seq (.seq (.reg [⟨(some p7n42), none, (.mv (.t p7n5))⟩, ⟨(some p7n43), none, (.call 231 [(.t p7n42)])⟩, ⟨(some p7n44), none, (.call 274 [(.t p7n43)])⟩, ⟨(some p7n45), none, (.bin .gtr (.t p7n44) (.c (.int .i64 (.ofNat 0))))⟩]) (.cond (.t p7n45) (.reg [⟨(some p7n46), none, (.mv (.t p7n10))⟩, ⟨(some p7n47), none, (.bin .add (.t p7n46) (.c (.int .i64 (.ofNat 1))))⟩, ⟨(some p7n10), none, (.mv (.t p7n47))⟩]) .skip)) (.seq (.seq (.reg [⟨(some p7n48), none, (.mv (.t p7n9))⟩, ⟨(some p7n49), none, (.len false (.t p7n48))⟩, ⟨(some p7n50), none, (.mv (.t p7n10))⟩, ⟨(some p7n51), none, (.bin .neq (.t p7n49) (.t p7n50))⟩]) (.cond (.t p7n51) (.seq (.reg [⟨(some p7n4), none, (.mv (.c (.int .i64 (.ofNat 3))))⟩]) .ret) .skip)) (.seq (.seq (.reg [⟨(some p7n52), none, (.mv (.t p7n8))⟩, ⟨(some p7n53), none, (.len false (.t p7n52))⟩, ⟨(some p7n54), none, (.mv (.c (.int .i64 (.ofNat 0))))⟩]) (.block 0 (.loop (.seq (.reg [⟨(some p7n55), none, (.bin .lss (.t p7n54) (.t p7n53))⟩]) (.seq (.cond (.t p7n55) .skip (.exit 0)) (.seq (.block 1 (.seq (.reg [⟨(some p7n56), none, (.mv (.t p7n54))⟩, ⟨(some p7n57), none, (.iaddr 1 (.t p7n52) (.t p7n54))⟩, ⟨(some p7n58), none, (.ld1 (.t p7n57))⟩, ⟨(some p7n11), none, (.mv (.t p7n56))⟩, ⟨(some p7n12), none, (.mv (.t p7n58))⟩]) (.seq (.reg [⟨(some p7n60), none, (.mv (.t p7n12))⟩, ⟨(some p7n61), none, (.mv (.t p7n9))⟩, ⟨(some p7n62), none, (.mv (.t p7n11))⟩, ⟨(some p7n63), none, (.iaddr 1 (.t p7n61) (.t p7n62))⟩, ⟨(some p7n64), none, (.ld1 (.t p7n63))⟩, ⟨(some p7n65), none, (.call 393 [(.t p7n64)])⟩, ⟨(some p7n59), none, (.mv (.t p7n65))⟩, ⟨(some p7n66), none, (.ext (.t p7n59) 0)⟩, ⟨(some p7n67), none, (.ext (.t p7n59) 1)⟩, ⟨(some p7n68), none, (.nilck (.t p7n60))⟩, ⟨none, none, (.st 1 (.t p7n68) (.t p7n66))⟩, ⟨(some p7n6), none, (.mv (.t p7n67))⟩]) (.seq (.reg [⟨(some p7n69), none, (.mv (.t p7n6))⟩, ⟨(some p7n70), none, (.bin .neq (.t p7n69) (.c (.int .i64 (.ofNat 0))))⟩]) (.cond (.t p7n70) (.seq (.reg [⟨(some p7n71), none, (.mv (.t p7n6))⟩, ⟨(some p7n4), none, (.mv (.t p7n71))⟩]) .ret) .skip))))) (.reg [⟨(some p7n72), none, (.bin .add (.t p7n54) (.c (.int .i64 (.ofNat 1))))⟩, ⟨(some p7n54), none, (.mv (.t p7n72))⟩]))))))) (.seq (.seq (.reg [⟨(some p7n73), none, (.mv (.t p7n10))⟩, ⟨(some p7n74), none, (.mv (.t p7n8))⟩, ⟨(some p7n75), none, (.len false (.t p7n74))⟩, ⟨(some p7n76), none, (.bin .gtr (.t p7n73) (.t p7n75))⟩]) (.cond (.t p7n76) (.seq (.reg [⟨(some p7n77), none, (.mv (.t p7n0))⟩, ⟨(some p7n78), none, (.mv (.t p7n9))⟩, ⟨(some p7n79), none, (.mv (.t p7n8))⟩, ⟨(some p7n80), none, (.len false (.t p7n79))⟩, ⟨(some p7n81), none, (.iaddr 1 (.t p7n78) (.t p7n80))⟩, ⟨(some p7n82), none, (.ld1 (.t p7n81))⟩, ⟨(some p7n83), none, (.call 394 [(.t p7n77), (.t p7n7), (.t p7n82)])⟩, ⟨(some p7n6), none, (.mv (.t p7n83))⟩]) (.seq (.reg [⟨(some p7n84), none, (.mv (.t p7n6))⟩, ⟨(some p7n85), none, (.bin .neq (.t p7n84) (.c (.int .i64 (.ofNat 0))))⟩]) (.cond (.t p7n85) (.seq (.reg [⟨(some p7n86), none, (.mv (.t p7n6))⟩, ⟨(some p7n4), none, (.mv (.t p7n86))⟩]) .ret) .skip))) .skip)) (.seq (.seq (.reg [⟨(some p7n87), none, (.mv (.t p7n0))⟩, ⟨(some p7n88), none, (.nilck (.t p7n87))⟩, ⟨(some p7n89), none, (.faddr 8 (.t p7n88))⟩, ⟨(some p7n90), none, (.ld1 (.t p7n89))⟩, ⟨(some p7n91), none, (.bin .geq (.t p7n90) (.c (.int .i64 (.ofNat 200))))⟩]) (.cond (.t p7n91) (.seq (.reg [⟨(some p7n4), none, (.mv (.c (.int .i64 (.ofNat 2))))⟩]) .ret) .skip)) (.seq (.reg [⟨(some p7n92), none, (.mv (.t p7n0))⟩, ⟨(some p7n93), none, (.nilck (.t p7n92))⟩, ⟨(some p7n94), none, (.faddr 8 (.t p7n93))⟩, ⟨(some p7n95), none, (.ld1 (.t p7n94))⟩, ⟨(some p7n96), none, (.bin .add (.t p7n95) (.c (.int .i64 (.ofNat 1))))⟩, ⟨(some p7n97), none, (.nilck (.t p7n92))⟩, ⟨(some p7n98), none, (.faddr 8 (.t p7n97))⟩, ⟨none, none, (.st 1 (.t p7n98) (.t p7n96))⟩]) (.seq (.regd [(.pure, ⟨(some p7n99), none, (.mv (.t p7n0))⟩), (.pure, ⟨(some p7n100), none, (.mv (.t p7n0))⟩), (.pure, ⟨(some p7n101), none, (.nilck (.t p7n100))⟩), (.pure, ⟨(some p7n102), none, (.faddr 0 (.t p7n101))⟩), (.pure, ⟨(some p7n103), none, (.faddr 0 (.t p7n102))⟩), (.load, ⟨(some p7n104), none, (.ld1 (.t p7n103))⟩), (.load, ⟨(some p7n105), none, (.ldA 6 (.t p7n7))⟩), (.pure, ⟨(some p7n106), none, (.build [(.str []), (.int .i64 (.ofNat 0)), (.int .i64 (.ofNat 0)), (.int .i64 (.ofNat 0)), (.int .i64 (.ofNat 0)), (.int .i64 (.ofNat 0)), (.str [])] [(1, (6, (.t p7n105)))])⟩), (.pure, ⟨(some p7n107), none, (.buildS 7 1 (.agg [(.str []), (.int .i64 (.ofNat 0)), (.int .i64 (.ofNat 0)), (.int .i64 (.ofNat 0)), (.int .i64 (.ofNat 0)), (.int .i64 (.ofNat 0)), (.str [])]) [(0, (.t p7n106))])⟩)] [⟨(some p7n108), none, (.app 7 72 (.agg [(.str []), (.int .i64 (.ofNat 0)), (.int .i64 (.ofNat 0)), (.int .i64 (.ofNat 0)), (.int .i64 (.ofNat 0)), (.int .i64 (.ofNat 0)), (.str [])]) (.t p7n104) (.t p7n107))⟩, ⟨(some p7n109), none, (.nilck (.t p7n99))⟩, ⟨(some p7n110), none, (.faddr 0 (.t p7n109))⟩, ⟨(some p7n111), none, (.faddr 0 (.t p7n110))⟩, ⟨none, none, (.st 1 (.t p7n111) (.t p7n108))⟩]) (.seq (.reg [⟨(some p7n4), none, (.mv (.c (.int .i64 (.ofNat 0))))⟩]) .ret)))))))))))))))⟩
noncomputable def a377 : AFunc :=
  ⟨4, [p4n0, p4n1], [(p4n4, none)], false, (.seq (.reg [⟨(some p4n4), none, (.mv (.c (.bool false)))⟩]) (.seq (.reg [⟨(some p4n5), none, (.mv (.t p4n0))⟩, ⟨(some p4n6), none, (.bin .geq (.t p4n5) (.c (.int .i64 (.ofNat 0))))⟩, ⟨(some p4n7), none, (.mv (.t p4n6))⟩, ⟨(some p4n8), (some (p4n7, true)), (.mv (.t p4n0))⟩, ⟨(some p4n9), (some (p4n7, true)), (.mv (.t p4n1))⟩, ⟨(some p4n10), (some (p4n7, true)), (.bin .leq (.t p4n8) (.t p4n9))⟩, ⟨(some p4n11), none, (.pick (.t p4n7) (.t p4n10) (.c (.bool false)))⟩, ⟨(some p4n4), none, (.mv (.t p4n11))⟩]) .ret))⟩
noncomputable def a378 : AFunc :=
  ⟨4, [], [(p4n0, none)], false, (.seq (.reg [⟨(some p4n0), none, (.mv (.c .nils))⟩]) (.seq (.reg [⟨(some p4n1), none, (.buildS 1 34 (.str []) [(0, (.c (.str [110, 111, 112]))), (1, (.c (.str [97, 100, 100]))), (2, (.c (.str [115, 117, 98]))), (3, (.c (.str [97, 110, 100]))), (4, (.c (.str [111, 114]))), (5, (.c (.str [120, 111, 114]))), (6, (.c (.str [115, 104, 108]))), (7, (.c (.str [115, 104, 114]))), (8, (.c (.str [115, 97, 114]))), (9, (.c (.str [115, 108, 116]))), (10, (.c (.str [115, 108, 116, 117]))), (11, (.c (.str [101, 113]))), (12, (.c (.str [109, 105, 110]))), (13, (.c (.str [109, 97, 120]))), (14, (.c (.str [109, 117, 108]))), (15, (.c (.str [109, 117, 108, 104]))), (16, (.c (.str [100, 105, 118]))), (17, (.c (.str [114, 101, 109]))), (18, (.c (.str [99, 97, 100, 100]))), (19, (.c (.str [99, 115, 117, 98]))), (20, (.c (.str [99, 109, 117, 108]))), (21, (.c (.str [99, 111, 110, 106]))), (22, (.c (.str [97, 100, 100, 105]))), (23, (.c (.str [108, 105]))), (24, (.c (.str [108, 100]))), (25, (.c (.str [115, 116]))), (26, (.c (.str [105, 110]))), (27, (.c (.str [111, 117, 116]))), (28, (.c (.str [106, 109, 112]))), (29, (.c (.str [98, 122]))), (30, (.c (.str [98, 110, 122]))), (31, (.c (.str [99, 97, 108, 108]))), (32, (.c (.str [114, 101, 116]))), (33, (.c (.str [104, 97, 108, 116])))])⟩, ⟨(some p4n0), none, (.mv (.t p4n1))⟩]) .ret))⟩
noncomputable def a379 : AFunc :=
  ⟨4, [p4n0], [(p4n2, none)], false, (.seq (.reg [⟨(some p4n2), none, (.mv (.c (.int .i64 (.ofNat 0))))⟩]) (.seq (.reg [⟨(some p4n3), none, (.buildS 1 34 (.int .i64 (.ofNat 0)) [(0, (.c (.int .i64 (.ofNat 0)))), (1, (.c (.int .i64 (.ofNat 1)))), (2, (.c (.int .i64 (.ofNat 1)))), (3, (.c (.int .i64 (.ofNat 1)))), (4, (.c (.int .i64 (.ofNat 1)))), (5, (.c (.int .i64 (.ofNat 1)))), (6, (.c (.int .i64 (.ofNat 1)))), (7, (.c (.int .i64 (.ofNat 1)))), (8, (.c (.int .i64 (.ofNat 1)))), (9, (.c (.int .i64 (.ofNat 1)))), (10, (.c (.int .i64 (.ofNat 1)))), (11, (.c (.int .i64 (.ofNat 1)))), (12, (.c (.int .i64 (.ofNat 1)))), (13, (.c (.int .i64 (.ofNat 1)))), (14, (.c (.int .i64 (.ofNat 1)))), (15, (.c (.int .i64 (.ofNat 1)))), (16, (.c (.int .i64 (.ofNat 1)))), (17, (.c (.int .i64 (.ofNat 1)))), (18, (.c (.int .i64 (.ofNat 1)))), (19, (.c (.int .i64 (.ofNat 1)))), (20, (.c (.int .i64 (.ofNat 1)))), (21, (.c (.int .i64 (.ofNat 2)))), (22, (.c (.int .i64 (.ofNat 3)))), (23, (.c (.int .i64 (.ofNat 4)))), (24, (.c (.int .i64 (.ofNat 3)))), (25, (.c (.int .i64 (.ofNat 5)))), (26, (.c (.int .i64 (.ofNat 6)))), (27, (.c (.int .i64 (.ofNat 7)))), (28, (.c (.int .i64 (.ofNat 8)))), (29, (.c (.int .i64 (.ofNat 9)))), (30, (.c (.int .i64 (.ofNat 9)))), (31, (.c (.int .i64 (.ofNat 8)))), (32, (.c (.int .i64 (.ofNat 0)))), (33, (.c (.int .i64 (.ofNat 0))))])⟩, ⟨(some p4n4), none, (.mv (.t p4n0))⟩, ⟨(some p4n5), none, (.iaddr 1 (.t p4n3) (.t p4n4))⟩, ⟨(some p4n6), none, (.ld1 (.t p4n5))⟩, ⟨(some p4n2), none, (.mv (.t p4n6))⟩]) .ret))⟩
noncomputable def a380 : AFunc :=
  ⟨4, [p4n0], [(p4n2, none)], false, (.seq (.reg [⟨(some p4n2), none, (.mv (.c (.bool false)))⟩]) (.seq (.reg [⟨(some p4n3), none, (.mv (.t p4n0))⟩, ⟨(some p4n4), none, (.call 46 [(.t p4n3), (.c (.int .i64 (.ofNat 1))), (.c (.int .i64 (.ofNat 4)))])⟩, ⟨(some p4n5), none, (.mv (.t p4n4))⟩, ⟨(some p4n6), (some (p4n5, false)), (.mv (.t p4n0))⟩, ⟨(some p4n7), (some (p4n5, false)), (.bin .eql (.t p4n6) (.c (.int .i64 (.ofNat 6))))⟩, ⟨(some p4n8), none, (.pick (.t p4n5) (.c (.bool true)) (.t p4n7))⟩, ⟨(some p4n2), none, (.mv (.t p4n8))⟩]) .ret))⟩
noncomputable def a381 : AFunc :=
  ⟨6, [p6n0], [(p6n2, none)], false, (.seq (.reg [⟨(some p6n2), none, (.mv (.c (.bool false)))⟩]) (.seq (.reg [⟨(some p6n3), none, (.mv (.t p6n0))⟩, ⟨(some p6n4), none, (.call 46 [(.t p6n3), (.c (.int .i64 (.ofNat 1))), (.c (.int .i64 (.ofNat 3)))])⟩, ⟨(some p6n5), none, (.mv (.t p6n4))⟩, ⟨(some p6n6), (some (p6n5, false)), (.mv (.t p6n0))⟩, ⟨(some p6n7), (some (p6n5, false)), (.bin .eql (.t p6n6) (.c (.int .i64 (.ofNat 5))))⟩, ⟨(some p6n8), none, (.pick (.t p6n5) (.c (.bool true)) (.t p6n7))⟩, ⟨(some p6n9), none, (.mv (.t p6n8))⟩, ⟨(some p6n10), (some (p6n9, false)), (.mv (.t p6n0))⟩, ⟨(some p6n11), (some (p6n9, false)), (.bin .eql (.t p6n10) (.c (.int .i64 (.ofNat 7))))⟩, ⟨(some p6n12), none, (.pick (.t p6n9) (.c (.bool true)) (.t p6n11))⟩, ⟨(some p6n13), none, (.mv (.t p6n12))⟩, ⟨(some p6n14), (some (p6n13, false)), (.mv (.t p6n0))⟩, ⟨(some p6n15), (some (p6n13, false)), (.bin .eql (.t p6n14) (.c (.int .i64 (.ofNat 9))))⟩, ⟨(some p6n16), none, (.pick (.t p6n13) (.c (.bool true)) (.t p6n15))⟩, ⟨(some p6n2), none, (.mv (.t p6n16))⟩]) .ret))⟩
noncomputable def a382 : AFunc :=
  ⟨4, [p4n0], [(p4n2, none)], false, (.seq (.reg [⟨(some p4n2), none, (.mv (.c (.int .i64 (.ofNat 0))))⟩]) (.seq (.seq (.reg [⟨(some p4n3), none, (.mv (.t p4n0))⟩]) (.block 0 (.seq (.seq (.reg [⟨(some p4n5), none, (.bin .eql (.t p4n3) (.c (.int .i64 (.ofNat 3))))⟩, ⟨(some p4n4), none, (.mv (.t p4n5))⟩]) (.cond (.t p4n4) .skip (.seq (.reg [⟨(some p4n6), none, (.bin .eql (.t p4n3) (.c (.int .i64 (.ofNat 5))))⟩, ⟨(some p4n4), none, (.mv (.t p4n6))⟩]) (.cond (.t p4n4) .skip (.reg [⟨(some p4n7), none, (.bin .eql (.t p4n3) (.c (.int .i64 (.ofNat 9))))⟩, ⟨(some p4n4), none, (.mv (.t p4n7))⟩]))))) (.cond (.t p4n4) (.seq (.reg [⟨(some p4n2), none, (.mv (.c (.int .i64 (.ofNat 14))))⟩]) .ret) (.seq (.seq (.reg [⟨(some p4n9), none, (.bin .eql (.t p4n3) (.c (.int .i64 (.ofNat 4))))⟩, ⟨(some p4n8), none, (.mv (.t p4n9))⟩]) (.cond (.t p4n8) .skip (.reg [⟨(some p4n10), none, (.bin .eql (.t p4n3) (.c (.int .i64 (.ofNat 8))))⟩, ⟨(some p4n8), none, (.mv (.t p4n10))⟩]))) (.cond (.t p4n8) (.seq (.reg [⟨(some p4n2), none, (.mv (.c (.int .i64 (.ofNat 18))))⟩]) .ret) .skip)))))) (.seq (.reg [⟨(some p4n2), none, (.mv (.c (.int .i64 (.ofNat 0))))⟩]) .ret)))⟩
noncomputable def a383 : AFunc :=
  ⟨8, [p8n0, p8n1, p8n2], [], true, (.seq (.reg [⟨(some p8n10), none, (.mv (.t p8n0))⟩, ⟨(some p8n11), none, (.nilck (.t p8n10))⟩, ⟨(some p8n12), none, (.faddr 0 (.t p8n11))⟩, ⟨(some p8n13), none, (.ld1 (.t p8n12))⟩, ⟨(some p8n14), none, (.mv (.t p8n2))⟩, ⟨(some p8n15), none, (.call 35 [(.t p8n13), (.t p8n14)])⟩, ⟨(some p8n9), none, (.mv (.t p8n15))⟩, ⟨(some p8n16), none, (.ext (.t p8n9) 0)⟩, ⟨(some p8n17), none, (.ext (.t p8n9) 1)⟩, ⟨(some p8n6), none, (.alloc [(.str []), (.int .i64 (.ofNat 0))])⟩, ⟨none, none, (.st 2 (.t p8n6) (.t p8n16))⟩, ⟨(some p8n7), none, (.mv (.t p8n17))⟩]) (.seq (.seq (.reg [⟨(some p8n18), none, (.mv (.t p8n7))⟩, ⟨(some p8n19), none, (.bin .neq (.t p8n18) (.c (.int .i64 (.ofNat 0))))⟩]) (.cond (.t p8n19) (.seq (.reg [⟨(some p8n20), none, (.mv (.t p8n0))⟩, ⟨(some p8n21), none, (.mv (.t p8n7))⟩, ⟨(some p8n22), none, (.nilck (.t p8n20))⟩, ⟨(some p8n23), none, (.faddr 8 (.t p8n22))⟩, ⟨none, none, (.st 1 (.t p8n23) (.t p8n21))⟩]) .ret) .skip)) (.seq (.reg [⟨(some p8n24), none, (.mv (.t p8n1))⟩, ⟨(some p8n25), none, (.nilck (.t p8n24))⟩, ⟨(some p8n26), none, (.faddr 0 (.t p8n25))⟩, ⟨(some p8n27), none, (.ld1 (.t p8n26))⟩, ⟨(some p8n28), none, (.call 379 [(.t p8n27)])⟩, ⟨(some p8n8), none, (.mv (.t p8n28))⟩]) (.seq (.seq (.reg [⟨(some p8n29), none, (.mv (.t p8n8))⟩, ⟨(some p8n30), none, (.call 395 [(.t p8n29)])⟩]) (.cond (.t p8n30) (.seq (.reg [⟨(some p8n31), none, (.faddr 0 (.t p8n6))⟩, ⟨(some p8n32), none, (.ld1 (.t p8n31))⟩, ⟨(some p8n33), none, (.bin .eql (.t p8n32) (.c (.str [])))⟩, ⟨(some p8n34), none, (.mv (.t p8n33))⟩, ⟨(some p8n35), (some (p8n34, false)), (.faddr 1 (.t p8n6))⟩, ⟨(some p8n36), (some (p8n34, false)), (.ld1 (.t p8n35))⟩, ⟨(some p8n37), (some (p8n34, false)), (.bin .neq (.t p8n36) (.c (.int .i64 (.ofNat 0))))⟩, ⟨(some p8n38), none, (.pick (.t p8n34) (.c (.bool true)) (.t p8n37))⟩]) (.cond (.t p8n38) (.reg [⟨(some p8n39), none, (.mv (.t p8n0))⟩, ⟨(some p8n40), none, (.nilck (.t p8n39))⟩, ⟨(some p8n41), none, (.faddr 8 (.t p8n40))⟩, ⟨none, none, (.st 1 (.t p8n41) (.c (.int .i64 (.ofNat 6))))⟩]) .skip)) (.seq (.reg [⟨(some p8n42), none, (.faddr 0 (.t p8n6))⟩, ⟨(some p8n43), none, (.ld1 (.t p8n42))⟩, ⟨(some p8n44), none, (.bin .neq (.t p8n43) (.c (.str [])))⟩, ⟨(some p8n45), none, (.mv (.t p8n44))⟩, ⟨(some p8n46), (some (p8n45, true)), (.mv (.t p8n1))⟩, ⟨(some p8n47), (some (p8n45, true)), (.nilck (.t p8n46))⟩, ⟨(some p8n48), (some (p8n45, true)), (.faddr 0 (.t p8n47))⟩, ⟨(some p8n49), (some (p8n45, true)), (.ld1 (.t p8n48))⟩, ⟨(some p8n50), (some (p8n45, true)), (.bin .neq (.t p8n49) (.c (.int .i64 (.ofNat 23))))⟩, ⟨(some p8n51), none, (.pick (.t p8n45) (.t p8n50) (.c (.bool false)))⟩]) (.cond (.t p8n51) (.reg [⟨(some p8n52), none, (.mv (.t p8n0))⟩, ⟨(some p8n53), none, (.nilck (.t p8n52))⟩, ⟨(some p8n54), none, (.faddr 8 (.t p8n53))⟩, ⟨none, none, (.st 1 (.t p8n54) (.c (.int .i64 (.ofNat 6))))⟩]) (.seq (.regd [(.pure, ⟨(some p8n55), none, (.faddr 1 (.t p8n6))⟩), (.load, ⟨(some p8n56), none, (.ld1 (.t p8n55))⟩), (.pure, ⟨(some p8n57), none, (.mv (.t p8n8))⟩), (.iso, ⟨(some p8n58), none, (.call 382 [(.t p8n57)])⟩)] [⟨(some p8n59), none, (.call 396 [(.t p8n56), (.t p8n58)])⟩, ⟨(some p8n60), none, (.un .not (.t p8n59))⟩]) (.cond (.t p8n60) (.reg [⟨(some p8n61), none, (.mv (.t p8n0))⟩, ⟨(some p8n62), none, (.nilck (.t p8n61))⟩, ⟨(some p8n63), none, (.faddr 8 (.t p8n62))⟩, ⟨none, none, (.st 1 (.t p8n63) (.c (.int .i64 (.ofNat 7))))⟩]) .skip)))))) (.regd [(.pure, ⟨(some p8n64), none, (.mv (.t p8n1))⟩), (.pure, ⟨(some p8n65), none, (.mv (.t p8n1))⟩), (.pure, ⟨(some p8n66), none, (.faddr 1 (.t p8n6))⟩), ((.loadm 3 4), ⟨(some p8n67), none, (.ld1 (.t p8n66))⟩), (.pure, ⟨(some p8n68), none, (.faddr 0 (.t p8n6))⟩), ((.loadm 5 16), ⟨(some p8n69), none, (.ld1 (.t p8n68))⟩), (.pure, ⟨(some p8n70), none, (.nilck (.t p8n64))⟩), (.pure, ⟨(some p8n71), none, (.faddr 4 (.t p8n70))⟩), ((.sto 8 205), ⟨none, none, (.st 1 (.t p8n71) (.t p8n67))⟩)] [⟨(some p8n72), none, (.nilck (.t p8n65))⟩, ⟨(some p8n73), none, (.faddr 5 (.t p8n72))⟩, ⟨none, none, (.st 1 (.t p8n73) (.t p8n69))⟩])))))⟩
noncomputable def a384 : AFunc :=
  ⟨6, [p6n0], [(p6n2, none)], false, (.seq (.reg [⟨(some p6n2), none, (.mv (.c (.int .i64 (.ofNat 0))))⟩]) (.seq (.seq (.reg [⟨(some p6n3), none, (.mv (.c (.int .i64 (.ofNat 0))))⟩]) (.block 0 (.loop (.seq (.seq (.reg [⟨(some p6n4), none, (.mv (.t p6n3))⟩, ⟨(some p6n5), none, (.bin .lss (.t p6n4) (.c (.int .i64 (.ofNat 16))))⟩, ⟨(some p6n6), none, (.mv (.t p6n5))⟩, ⟨(some p6n7), (some (p6n6, true)), (.mv (.t p6n0))⟩, ⟨(some p6n8), (some (p6n6, true)), (.len false (.t p6n7))⟩, ⟨(some p6n9), (some (p6n6, true)), (.bin .eql (.t p6n8) (.c (.int .i64 (.ofNat 1))))⟩, ⟨(some p6n10), none, (.pick (.t p6n6) (.t p6n9) (.c (.bool false)))⟩]) (.cond (.t p6n10) .skip (.exit 0))) (.seq (.block 1 (.seq (.regd [(.pure, ⟨(some p6n13), none, (.mv (.t p6n0))⟩), (.pure, ⟨(some p6n14), none, (.iaddr 4 (.t p6n13) (.c (.int .i64 (.ofNat 0))))⟩), (.pure, ⟨(some p6n15), none, (.faddr 0 (.t p6n14))⟩), (.load, ⟨(some p6n16), none, (.ld1 (.t p6n15))⟩), (.pure, ⟨(some p6n17), none, (.bin .eql (.t p6n16) (.c (.int .i64 (.ofNat 1))))⟩), (.pure, ⟨(some p6n18), none, (.mv (.t p6n17))⟩), (.pure, ⟨(some p6n19), (some (p6n18, true)), (.mv (.t p6n0))⟩), (.pure, ⟨(some p6n20), (some (p6n18, true)), (.iaddr 4 (.t p6n19) (.c (.int .i64 (.ofNat 0))))⟩), (.pure, ⟨(some p6n21), (some (p6n18, true)), (.faddr 1 (.t p6n20))⟩), (.load, ⟨(some p6n22), (some (p6n18, true)), (.ld1 (.t p6n21))⟩), (.pure, ⟨(some p6n23), (some (p6n18, true)), (.mv (.t p6n3))⟩), (.iso, ⟨(some p6n24), (some (p6n18, true)), (.call 289 [(.t p6n23)])⟩), (.pure, ⟨(some p6n25), (some (p6n18, true)), (.bin .add (.c (.str [114])) (.t p6n24))⟩)] [⟨(some p6n26), (some (p6n18, true)), (.bin .eql (.t p6n22) (.t p6n25))⟩, ⟨(some p6n27), none, (.pick (.t p6n18) (.t p6n26) (.c (.bool false)))⟩]) (.cond (.t p6n27) (.seq (.reg [⟨(some p6n28), none, (.mv (.t p6n3))⟩, ⟨(some p6n2), none, (.mv (.t p6n28))⟩]) .ret) .skip))) (.reg [⟨(some p6n11), none, (.mv (.t p6n3))⟩, ⟨(some p6n12), none, (.bin .add (.t p6n11) (.c (.int .i64 (.ofNat 1))))⟩, ⟨(some p6n3), none, (.mv (.t p6n12))⟩])))))) (.seq (.reg [⟨(some p6n2), none, (.mv (.c (.int .i64 (.negSucc 0))))⟩]) .ret)))⟩
noncomputable def a385 : AFunc :=
  ⟨6, [p6n0], [(p6n2, none)], false, (.seq (.reg [⟨(some p6n1), none, (.box (.t p6n0))⟩, ⟨(some p6n2), none, (.mv (.c (.bool false)))⟩]) (.seq (.seq (.reg [⟨(some p6n4), none, (.faddr 0 (.t p6n1))⟩, ⟨(some p6n5), none, (.ld1 (.t p6n4))⟩, ⟨(some p6n6), none, (.call 397 [(.t p6n5), (.c (.fn 398 [] []))])⟩, ⟨(some p6n7), none, (.mv (.t p6n6))⟩, ⟨(some p6n8), (some (p6n7, false)), (.ldA 4 (.t p6n1))⟩, ⟨(some p6n9), (some (p6n7, false)), (.call 400 [(.t p6n8)])⟩, ⟨(some p6n10), (some (p6n7, false)), (.bin .gtr (.t p6n9) (.c (.int .i64 (.ofNat 200))))⟩, ⟨(some p6n11), none, (.pick (.t p6n7) (.c (.bool true)) (.t p6n10))⟩, ⟨(some p6n12), none, (.mv (.t p6n11))⟩, ⟨(some p6n13), (some (p6n12, false)), (.ldA 4 (.t p6n1))⟩, ⟨(some p6n14), (some (p6n12, false)), (.call 401 [(.t p6n13)])⟩, ⟨(some p6n15), (some (p6n12, false)), (.un .not (.t p6n14))⟩, ⟨(some p6n16), none, (.pick (.t p6n12) (.c (.bool true)) (.t p6n15))⟩]) (.cond (.t p6n16) (.seq (.reg [⟨(some p6n2), none, (.mv (.c (.bool false)))⟩]) .ret) .skip)) (.seq (.reg [⟨(some p6n17), none, (.ldA 4 (.t p6n1))⟩, ⟨(some p6n18), none, (.call 402 [(.t p6n17)])⟩, ⟨(some p6n3), none, (.alloc [.nils])⟩, ⟨none, none, (.st 1 (.t p6n3) (.t p6n18))⟩]) (.seq (.seq (.reg [⟨(some p6n19), none, (.ld1 (.t p6n3))⟩, ⟨(some p6n20), none, (.len false (.t p6n19))⟩, ⟨(some p6n21), none, (.bin .gtr (.t p6n20) (.c (.int .i64 (.ofNat 60))))⟩, ⟨(some p6n22), none, (.mv (.t p6n21))⟩, ⟨(some p6n23), (some (p6n22, false)), (.ld1 (.t p6n3))⟩, ⟨(some p6n24), (some (p6n22, false)), (.call 403 [(.t p6n23)])⟩, ⟨(some p6n25), (some (p6n22, false)), (.un .not (.t p6n24))⟩, ⟨(some p6n26), none, (.pick (.t p6n22) (.c (.bool true)) (.t p6n25))⟩, ⟨(some p6n27), none, (.mv (.t p6n26))⟩, ⟨(some p6n28), (some (p6n27, false)), (.faddr 3 (.t p6n1))⟩, ⟨(some p6n29), (some (p6n27, false)), (.ld1 (.t p6n28))⟩, ⟨(some p6n30), (some (p6n27, false)), (.call 403 [(.t p6n29)])⟩, ⟨(some p6n31), (some (p6n27, false)), (.un .not (.t p6n30))⟩, ⟨(some p6n32), none, (.pick (.t p6n27) (.c (.bool true)) (.t p6n31))⟩, ⟨(some p6n33), none, (.mv (.t p6n32))⟩, ⟨(some p6n34), (some (p6n33, false)), (.faddr 3 (.t p6n1))⟩, ⟨(some p6n35), (some (p6n33, false)), (.ld1 (.t p6n34))⟩, ⟨(some p6n36), (some (p6n33, false)), (.call 404 [(.t p6n35)])⟩, ⟨(some p6n37), (some (p6n33, false)), (.un .not (.t p6n36))⟩, ⟨(some p6n38), none, (.pick (.t p6n33) (.c (.bool true)) (.t p6n37))⟩]) (.cond (.t p6n38) (.seq (.reg [⟨(some p6n2), none, (.mv (.c (.bool false)))⟩]) .ret) .skip)) (.seq (.reg [⟨(some p6n39), none, (.faddr 3 (.t p6n1))⟩, ⟨(some p6n40), none, (.ld1 (.t p6n39))⟩, ⟨(some p6n41), none, (.mkfn 405 [] [(.t p6n3)])⟩, ⟨(some p6n42), none, (.call 201 [(.t p6n40), (.t p6n41)])⟩, ⟨(some p6n43), none, (.un .not (.t p6n42))⟩, ⟨(some p6n2), none, (.mv (.t p6n43))⟩]) .ret)))))⟩
noncomputable def a386 : AFunc :=
  ⟨8, [p8n0], [(p8n2, none)], true, (.seq (.reg [⟨(some p8n1), none, (.box (.t p8n0))⟩, ⟨(some p8n2), none, (.mv (.c .nils))⟩]) (.seq (.seq (.reg [⟨(some p8n12), none, (.faddr 3 (.t p8n1))⟩, ⟨(some p8n13), none, (.ld1 (.t p8n12))⟩, ⟨(some p8n14), none, (.len false (.t p8n13))⟩, ⟨(some p8n15), none, (.mv (.c (.int .i64 (.ofNat 0))))⟩]) (.block 0 (.loop (.seq (.reg [⟨(some p8n16), none, (.bin .lss (.t p8n15) (.t p8n14))⟩]) (.seq (.cond (.t p8n16) .skip (.exit 0)) (.seq (.block 1 (.seq (.reg [⟨(some p8n17), none, (.iaddr 1 (.t p8n13) (.t p8n15))⟩, ⟨(some p8n18), none, (.ld1 (.t p8n17))⟩, ⟨(some p8n4), none, (.mv (.t p8n18))⟩]) (.reg [⟨(some p8n19), none, (.mv (.t p8n2))⟩, ⟨(some p8n20), none, (.mv (.t p8n4))⟩, ⟨(some p8n21), none, (.bin .add (.c (.str [46, 103, 108, 111, 98, 97, 108, 32])) (.t p8n20))⟩, ⟨(some p8n22), none, (.buildS 1 1 (.str []) [(0, (.t p8n21))])⟩, ⟨(some p8n23), none, (.mem (.app 1 16 (.str [])) [(.t p8n19), (.t p8n22)])⟩, ⟨(some p8n2), none, (.mv (.t p8n23))⟩]))) (.reg [⟨(some p8n24), none, (.bin .add (.t p8n15) (.c (.int .i64 (.ofNat 1))))⟩, ⟨(some p8n15), none, (.mv (.t p8n24))⟩]))))))) (.seq (.seq (.reg [⟨(some p8n25), none, (.faddr 0 (.t p8n1))⟩, ⟨(some p8n26), none, (.ld1 (.t p8n25))⟩, ⟨(some p8n27), none, (.len false (.t p8n26))⟩, ⟨(some p8n28), none, (.mv (.c (.int .i64 (.ofNat 0))))⟩]) (.block 2 (.loop (.seq (.reg [⟨(some p8n29), none, (.bin .lss (.t p8n28) (.t p8n27))⟩]) (.seq (.cond (.t p8n29) .skip (.exit 2)) (.seq (.block 3 (.seq (.reg [⟨(some p8n30), none, (.iaddr 7 (.t p8n26) (.t p8n28))⟩, ⟨(some p8n31), none, (.ldA 7 (.t p8n30))⟩, ⟨(some p8n6), none, (.alloc [(.str []), (.int .i64 (.ofNat 0)), (.int .i64 (.ofNat 0)), (.int .i64 (.ofNat 0)), (.int .i64 (.ofNat 0)), (.int .i64 (.ofNat 0)), (.str [])])⟩, ⟨none, none, (.st 7 (.t p8n6) (.t p8n31))⟩]) (.seq (.reg [⟨(some p8n33), none, (.faddr 1 (.t p8n6))⟩, ⟨(some p8n34), none, (.ldA 6 (.t p8n33))⟩, ⟨(some p8n35), none, (.call 406 [(.t p8n34)])⟩, ⟨(some p8n32), none, (.mv (.t p8n35))⟩, ⟨(some p8n36), none, (.ext (.t p8n32) 0)⟩, ⟨(some p8n37), none, (.ext (.t p8n32) 1)⟩, ⟨(some p8n7), none, (.mv (.t p8n36))⟩, ⟨(some p8n8), none, (.mv (.t p8n37))⟩]) (.seq (.seq (.reg [⟨(some p8n38), none, (.faddr 0 (.t p8n6))⟩, ⟨(some p8n39), none, (.ld1 (.t p8n38))⟩, ⟨(some p8n40), none, (.bin .neq (.t p8n39) (.c (.str [])))⟩]) (.cond (.t p8n40) (.reg [⟨(some p8n41), none, (.faddr 0 (.t p8n6))⟩, ⟨(some p8n42), none, (.ld1 (.t p8n41))⟩, ⟨(some p8n43), none, (.bin .add (.t p8n42) (.c (.str [58])))⟩, ⟨(some p8n7), none, (.mv (.t p8n43))⟩]) .skip)) (.reg [⟨(some p8n44), none, (.mv (.t p8n2))⟩, ⟨(some p8n45), none, (.mv (.t p8n7))⟩, ⟨(some p8n46), none, (.buildS 1 1 (.str []) [(0, (.t p8n45))])⟩, ⟨(some p8n47), none, (.mem (.app 1 16 (.str [])) [(.t p8n44), (.t p8n46)])⟩, ⟨(some p8n2), none, (.mv (.t p8n47))⟩]))))) (.reg [⟨(some p8n48), none, (.bin .add (.t p8n28) (.c (.int .i64 (.ofNat 1))))⟩, ⟨(some p8n28), none, (.mv (.t p8n48))⟩]))))))) (.seq (.seq (.reg [⟨(some p8n49), none, (.faddr 1 (.t p8n1))⟩, ⟨(some p8n50), none, (.ld1 (.t p8n49))⟩, ⟨(some p8n51), none, (.len false (.t p8n50))⟩, ⟨(some p8n52), none, (.faddr 2 (.t p8n1))⟩, ⟨(some p8n53), none, (.ld1 (.t p8n52))⟩, ⟨(some p8n54), none, (.len false (.t p8n53))⟩, ⟨(some p8n55), none, (.bin .add (.t p8n51) (.t p8n54))⟩, ⟨(some p8n56), none, (.bin .gtr (.t p8n55) (.c (.int .i64 (.ofNat 0))))⟩]) (.cond (.t p8n56) (.reg [⟨(some p8n57), none, (.mv (.t p8n2))⟩, ⟨(some p8n58), none, (.buildS 1 1 (.str []) [(0, (.c (.str [46, 100, 97, 116, 97])))])⟩, ⟨(some p8n59), none, (.mem (.app 1 16 (.str [])) [(.t p8n57), (.t p8n58)])⟩, ⟨(some p8n2), none, (.mv (.t p8n59))⟩]) .skip)) (.seq (.seq (.reg [⟨(some p8n60), none, (.faddr 1 (.t p8n1))⟩, ⟨(some p8n61), none, (.ld1 (.t p8n60))⟩, ⟨(some p8n62), none, (.len false (.t p8n61))⟩, ⟨(some p8n63), none, (.bin .add (.t p8n62) (.c (.int .i64 (.ofNat 1))))⟩, ⟨(some p8n64), none, (.mv (.c (.int .i64 (.ofNat 0))))⟩]) (.block 4 (.loop (.seq (.reg [⟨(some p8n65), none, (.bin .lss (.t p8n64) (.t p8n63))⟩]) (.seq (.cond (.t p8n65) .skip (.exit 4)) (.seq (.block 5 (.seq (.reg [⟨(some p8n66), none, (.mv (.t p8n64))⟩, ⟨(some p8n9), none, (.mv (.t p8n66))⟩]) (.seq (.seq (.reg [⟨(some p8n67), none, (.faddr 2 (.t p8n1))⟩, ⟨(some p8n68), none, (.ld1 (.t p8n67))⟩, ⟨(some p8n69), none, (.len false (.t p8n68))⟩, ⟨(some p8n70), none, (.mv (.c (.int .i64 (.ofNat 0))))⟩]) (.block 6 (.loop (.seq (.reg [⟨(some p8n71), none, (.bin .lss (.t p8n70) (.t p8n69))⟩]) (.seq (.cond (.t p8n71) .skip (.exit 6)) (.seq (.block 7 (.seq (.reg [⟨(some p8n72), none, (.iaddr 4 (.t p8n68) (.t p8n70))⟩, ⟨(some p8n73), none, (.ldA 4 (.t p8n72))⟩, ⟨(some p8n11), none, (.alloc [(.str []), (.bool false), (.int .i64 (.ofNat 0)), (.bool false)])⟩, ⟨none, none, (.st 4 (.t p8n11) (.t p8n73))⟩]) (.seq (.reg [⟨(some p8n74), none, (.faddr 2 (.t p8n11))⟩, ⟨(some p8n75), none, (.ld1 (.t p8n74))⟩, ⟨(some p8n76), none, (.mv (.t p8n9))⟩, ⟨(some p8n77), none, (.bin .eql (.t p8n75) (.t p8n76))⟩]) (.cond (.t p8n77) (.reg [⟨(some p8n78), none, (.mv (.t p8n2))⟩, ⟨(some p8n79), none, (.faddr 0 (.t p8n11))⟩, ⟨(some p8n80), none, (.ld1 (.t p8n79))⟩, ⟨(some p8n81), none, (.bin .add (.t p8n80) (.c (.str [58])))⟩, ⟨(some p8n82), none, (.buildS 1 1 (.str []) [(0, (.t p8n81))])⟩, ⟨(some p8n83), none, (.mem (.app 1 16 (.str [])) [(.t p8n78), (.t p8n82)])⟩, ⟨(some p8n2), none, (.mv (.t p8n83))⟩]) .skip)))) (.reg [⟨(some p8n84), none, (.bin .add (.t p8n70) (.c (.int .i64 (.ofNat 1))))⟩, ⟨(some p8n70), none, (.mv (.t p8n84))⟩]))))))) (.seq (.reg [⟨(some p8n85), none, (.mv (.t p8n9))⟩, ⟨(some p8n86), none, (.faddr 1 (.t p8n1))⟩, ⟨(some p8n87), none, (.ld1 (.t p8n86))⟩, ⟨(some p8n88), none, (.len false (.t p8n87))⟩, ⟨(some p8n89), none, (.bin .lss (.t p8n85) (.t p8n88))⟩]) (.cond (.t p8n89) (.reg [⟨(some p8n90), none, (.mv (.t p8n2))⟩, ⟨(some p8n91), none, (.faddr 1 (.t p8n1))⟩, ⟨(some p8n92), none, (.ld1 (.t p8n91))⟩, ⟨(some p8n93), none, (.mv (.t p8n9))⟩, ⟨(some p8n94), none, (.iaddr 2 (.t p8n92) (.t p8n93))⟩, ⟨(some p8n95), none, (.ldA 2 (.t p8n94))⟩, ⟨(some p8n96), none, (.call 407 [(.t p8n95)])⟩, ⟨(some p8n97), none, (.bin .add (.c (.str [46, 119, 111, 114, 100, 32])) (.t p8n96))⟩, ⟨(some p8n98), none, (.buildS 1 1 (.str []) [(0, (.t p8n97))])⟩, ⟨(some p8n99), none, (.mem (.app 1 16 (.str [])) [(.t p8n90), (.t p8n98)])⟩, ⟨(some p8n2), none, (.mv (.t p8n99))⟩]) .skip))))) (.reg [⟨(some p8n100), none, (.bin .add (.t p8n64) (.c (.int .i64 (.ofNat 1))))⟩, ⟨(some p8n64), none, (.mv (.t p8n100))⟩]))))))) (.seq (.reg [⟨(some p8n101), none, (.mv (.t p8n2))⟩, ⟨(some p8n2), none, (.mv (.t p8n101))⟩]) .ret))))))⟩
noncomputable def a387 : AFunc :=
  ⟨6, [p6n0, p6n1], [(p6n4, none)], false, (.seq (.reg [⟨(some p6n2), none, (.box (.t p6n0))⟩, ⟨(some p6n3), none, (.box (.t p6n1))⟩, ⟨(some p6n4), none, (.mv (.c (.bool false)))⟩]) (.seq (.reg [⟨(some p6n5), none, (.faddr 0 (.t p6n2))⟩, ⟨(some p6n6), none, (.ld1 (.t p6n5))⟩, ⟨(some p6n7), none, (.faddr 0 (.t p6n3))⟩, ⟨(some p6n8), none, (.ld1 (.t p6n7))⟩, ⟨(some p6n9), none, (.call 408 [(.t p6n6), (.t p6n8)])⟩, ⟨(some p6n10), none, (.mv (.t p6n9))⟩, ⟨(some p6n11), (some (p6n10, true)), (.faddr 1 (.t p6n2))⟩, ⟨(some p6n12), (some (p6n10, true)), (.ld1 (.t p6n11))⟩, ⟨(some p6n13), (some (p6n10, true)), (.faddr 1 (.t p6n3))⟩, ⟨(some p6n14), (some (p6n10, true)), (.ld1 (.t p6n13))⟩, ⟨(some p6n15), (some (p6n10, true)), (.call 409 [(.t p6n12), (.t p6n14)])⟩, ⟨(some p6n16), none, (.pick (.t p6n10) (.t p6n15) (.c (.bool false)))⟩, ⟨(some p6n17), none, (.mv (.t p6n16))⟩, ⟨(some p6n18), (some (p6n17, true)), (.faddr 2 (.t p6n2))⟩, ⟨(some p6n19), (some (p6n17, true)), (.ld1 (.t p6n18))⟩, ⟨(some p6n20), (some (p6n17, true)), (.faddr 2 (.t p6n3))⟩, ⟨(some p6n21), (some (p6n17, true)), (.ld1 (.t p6n20))⟩, ⟨(some p6n22), (some (p6n17, true)), (.call 410 [(.t p6n19), (.t p6n21)])⟩, ⟨(some p6n23), none, (.pick (.t p6n17) (.t p6n22) (.c (.bool false)))⟩, ⟨(some p6n24), none, (.mv (.t p6n23))⟩, ⟨(some p6n25), (some (p6n24, true)), (.faddr 3 (.t p6n2))⟩, ⟨(some p6n26), (some (p6n24, true)), (.ld1 (.t p6n25))⟩, ⟨(some p6n27), (some (p6n24, true)), (.faddr 3 (.t p6n3))⟩, ⟨(some p6n28), (some (p6n24, true)), (.ld1 (.t p6n27))⟩, ⟨(some p6n29), (some (p6n24, true)), (.call 411 [(.t p6n26), (.t p6n28)])⟩, ⟨(some p6n30), none, (.pick (.t p6n24) (.t p6n29) (.c (.bool false)))⟩, ⟨(some p6n4), none, (.mv (.t p6n30))⟩]) .ret))⟩
noncomputable def a388 : AFunc :=
  ⟨77, [p3n0, p3n1, p3n2, p3n3], [(p3n4, none)], false, (.reg [⟨(some p3n4), none, (.mem .splt [(.t p3n0), (.t p3n1), (.t p3n2), (.t p3n3)])⟩])⟩
noncomputable def a391 : AFunc :=
  ⟨4, [p4n0], [(p4n2, none), (p4n3, none)], false, (.seq (.reg [⟨(some p4n2), none, (.mv (.c (.int .i64 (.ofNat 0))))⟩, ⟨(some p4n3), none, (.mv (.c (.int .i64 (.ofNat 0))))⟩]) (.seq (.reg [⟨(some p4n5), none, (.call 416 [])⟩, ⟨(some p4n6), none, (.mv (.t p4n0))⟩, ⟨(some p4n7), none, (.call 181 [(.t p4n5), (.t p4n6)])⟩, ⟨(some p4n4), none, (.mv (.t p4n7))⟩]) (.seq (.seq (.reg [⟨(some p4n8), none, (.mv (.t p4n4))⟩, ⟨(some p4n9), none, (.bin .lss (.t p4n8) (.c (.int .i64 (.ofNat 0))))⟩]) (.cond (.t p4n9) (.seq (.reg [⟨(some p4n2), none, (.mv (.c (.int .i64 (.ofNat 0))))⟩, ⟨(some p4n3), none, (.mv (.c (.int .i64 (.ofNat 9))))⟩]) .ret) .skip)) (.seq (.reg [⟨(some p4n10), none, (.mv (.t p4n4))⟩, ⟨(some p4n2), none, (.mv (.t p4n10))⟩, ⟨(some p4n3), none, (.mv (.c (.int .i64 (.ofNat 0))))⟩]) .ret))))⟩
noncomputable def a392 : AFunc :=
  ⟨6, [p6n0], [(p6n2, none)], false, (.seq (.reg [⟨(some p6n2), none, (.mv (.c .nils))⟩]) (.seq (.reg [⟨(some p6n4), none, (.mv (.t p6n0))⟩, ⟨(some p6n5), none, (.nilck (.t p6n4))⟩, ⟨(some p6n6), none, (.faddr 0 (.t p6n5))⟩, ⟨(some p6n7), none, (.ld1 (.t p6n6))⟩, ⟨(some p6n8), none, (.call 231 [(.t p6n7)])⟩, ⟨(some p6n3), none, (.mv (.t p6n8))⟩]) (.seq (.seq (.reg [⟨(some p6n9), none, (.mv (.t p6n3))⟩, ⟨(some p6n10), none, (.bin .eql (.t p6n9) (.c (.int .i64 (.ofNat 5))))⟩]) (.cond (.t p6n10) (.seq (.regd [(.pure, ⟨(some p6n11), none, (.mv (.t p6n0))⟩), (.pure, ⟨(some p6n12), none, (.nilck (.t p6n11))⟩), (.pure, ⟨(some p6n13), none, (.faddr 3 (.t p6n12))⟩), (.pure, ⟨(some p6n14), none, (.mv (.t p6n0))⟩), (.pure, ⟨(some p6n15), none, (.nilck (.t p6n14))⟩), (.pure, ⟨(some p6n16), none, (.faddr 2 (.t p6n15))⟩)] [⟨(some p6n17), none, (.buildS 1 2 .nilp [(0, (.t p6n13)), (1, (.t p6n16))])⟩, ⟨(some p6n2), none, (.mv (.t p6n17))⟩]) .ret) .skip)) (.seq (.seq (.reg [⟨(some p6n18), none, (.mv (.t p6n3))⟩, ⟨(some p6n19), none, (.call 263 [(.t p6n18)])⟩]) (.cond (.t p6n19) (.reg [⟨(some p6n20), none, (.mv (.t p6n2))⟩, ⟨(some p6n21), none, (.mv (.t p6n0))⟩, ⟨(some p6n22), none, (.nilck (.t p6n21))⟩, ⟨(some p6n23), none, (.faddr 1 (.t p6n22))⟩, ⟨(some p6n24), none, (.buildS 1 1 .nilp [(0, (.t p6n23))])⟩, ⟨(some p6n25), none, (.app 1 8 .nilp (.t p6n20) (.t p6n24))⟩, ⟨(some p6n2), none, (.mv (.t p6n25))⟩]) .skip)) (.seq (.seq (.reg [⟨(some p6n26), none, (.mv (.t p6n3))⟩, ⟨(some p6n27), none, (.call 264 [(.t p6n26)])⟩]) (.cond (.t p6n27) (.reg [⟨(some p6n28), none, (.mv (.t p6n2))⟩, ⟨(some p6n29), none, (.mv (.t p6n0))⟩, ⟨(some p6n30), none, (.nilck (.t p6n29))⟩, ⟨(some p6n31), none, (.faddr 2 (.t p6n30))⟩, ⟨(some p6n32), none, (.buildS 1 1 .nilp [(0, (.t p6n31))])⟩, ⟨(some p6n33), none, (.app 1 8 .nilp (.t p6n28) (.t p6n32))⟩, ⟨(some p6n2), none, (.mv (.t p6n33))⟩]) .skip)) (.seq (.seq (.reg [⟨(some p6n34), none, (.mv (.t p6n3))⟩, ⟨(some p6n35), none, (.call 265 [(.t p6n34)])⟩]) (.cond (.t p6n35) (.reg [⟨(some p6n36), none, (.mv (.t p6n2))⟩, ⟨(some p6n37), none, (.mv (.t p6n0))⟩, ⟨(some p6n38), none, (.nilck (.t p6n37))⟩, ⟨(some p6n39), none, (.faddr 3 (.t p6n38))⟩, ⟨(some p6n40), none, (.buildS 1 1 .nilp [(0, (.t p6n39))])⟩, ⟨(some p6n41), none, (.app 1 8 .nilp (.t p6n36) (.t p6n40))⟩, ⟨(some p6n2), none, (.mv (.t p6n41))⟩]) .skip)) (.seq (.reg [⟨(some p6n42), none, (.mv (.t p6n2))⟩, ⟨(some p6n2), none, (.mv (.t p6n42))⟩]) .ret)))))))⟩

end M2
end
section
/- Compiled functions, printed by a program of mine. -/
namespace M2
open Go

noncomputable def a393 : AFunc :=
  ⟨6, [p6n0], [(p6n2, none), (p6n3, none)], false, (.seq (.reg [⟨(some p6n2), none, (.mv (.c (.int .i64 (.ofNat 0))))⟩, ⟨(some p6n3), none, (.mv (.c (.int .i64 (.ofNat 0))))⟩]) (.seq (.seq (.reg [⟨(some p6n5), none, (.mv (.t p6n0))⟩, ⟨(some p6n6), none, (.len false (.t p6n5))⟩, ⟨(some p6n7), none, (.bin .neq (.t p6n6) (.c (.int .i64 (.ofNat 1))))⟩, ⟨(some p6n8), none, (.mv (.t p6n7))⟩, ⟨(some p6n9), (some (p6n8, false)), (.mv (.t p6n0))⟩, ⟨(some p6n10), (some (p6n8, false)), (.iaddr 4 (.t p6n9) (.c (.int .i64 (.ofNat 0))))⟩, ⟨(some p6n11), (some (p6n8, false)), (.faddr 0 (.t p6n10))⟩, ⟨(some p6n12), (some (p6n8, false)), (.ld1 (.t p6n11))⟩, ⟨(some p6n13), (some (p6n8, false)), (.bin .neq (.t p6n12) (.c (.int .i64 (.ofNat 1))))⟩, ⟨(some p6n14), none, (.pick (.t p6n8) (.c (.bool true)) (.t p6n13))⟩]) (.cond (.t p6n14) (.seq (.reg [⟨(some p6n2), none, (.mv (.c (.int .i64 (.ofNat 0))))⟩, ⟨(some p6n3), none, (.mv (.c (.int .i64 (.ofNat 3))))⟩]) .ret) .skip)) (.seq (.seq (.reg [⟨(some p6n15), none, (.mv (.c (.int .i64 (.ofNat 0))))⟩]) (.block 0 (.loop (.seq (.reg [⟨(some p6n16), none, (.bin .lss (.t p6n15) (.c (.int .i64 (.ofNat 16))))⟩]) (.seq (.cond (.t p6n16) .skip (.exit 0)) (.seq (.block 1 (.seq (.reg [⟨(some p6n17), none, (.mv (.t p6n15))⟩, ⟨(some p6n4), none, (.mv (.t p6n17))⟩]) (.seq (.regd [(.pure, ⟨(some p6n18), none, (.mv (.t p6n0))⟩), (.pure, ⟨(some p6n19), none, (.iaddr 4 (.t p6n18) (.c (.int .i64 (.ofNat 0))))⟩), (.pure, ⟨(some p6n20), none, (.faddr 1 (.t p6n19))⟩), (.load, ⟨(some p6n21), none, (.ld1 (.t p6n20))⟩), (.pure, ⟨(some p6n22), none, (.mv (.t p6n4))⟩), (.iso, ⟨(some p6n23), none, (.call 289 [(.t p6n22)])⟩), (.pure, ⟨(some p6n24), none, (.bin .add (.c (.str [114])) (.t p6n23))⟩)] [⟨(some p6n25), none, (.bin .eql (.t p6n21) (.t p6n24))⟩]) (.cond (.t p6n25) (.seq (.reg [⟨(some p6n26), none, (.mv (.t p6n4))⟩, ⟨(some p6n2), none, (.mv (.t p6n26))⟩, ⟨(some p6n3), none, (.mv (.c (.int .i64 (.ofNat 0))))⟩]) .ret) .skip)))) (.reg [⟨(some p6n27), none, (.bin .add (.t p6n15) (.c (.int .i64 (.ofNat 1))))⟩, ⟨(some p6n15), none, (.mv (.t p6n27))⟩]))))))) (.seq (.reg [⟨(some p6n2), none, (.mv (.c (.int .i64 (.ofNat 0))))⟩, ⟨(some p6n3), none, (.mv (.c (.int .i64 (.ofNat 3))))⟩]) .ret))))⟩
noncomputable def a394 : AFunc :=
  ⟨8, [p8n0, p8n1, p8n2], [(p8n6, none)], true, (.seq (.reg [⟨(some p8n6), none, (.mv (.c (.int .i64 (.ofNat 0))))⟩]) (.seq (.reg [⟨(some p8n11), none, (.mv (.t p8n0))⟩, ⟨(some p8n12), none, (.nilck (.t p8n11))⟩, ⟨(some p8n13), none, (.faddr 4 (.t p8n12))⟩, ⟨(some p8n14), none, (.ld1 (.t p8n13))⟩, ⟨(some p8n15), none, (.mv (.t p8n2))⟩, ⟨(some p8n16), none, (.call 30 [(.t p8n14), (.t p8n15)])⟩, ⟨(some p8n10), none, (.mv (.t p8n16))⟩, ⟨(some p8n17), none, (.ext (.t p8n10) 0)⟩, ⟨(some p8n18), none, (.ext (.t p8n10) 1)⟩, ⟨(some p8n7), none, (.alloc [(.str []), (.int .i64 (.ofNat 0))])⟩, ⟨none, none, (.st 2 (.t p8n7) (.t p8n17))⟩, ⟨(some p8n8), none, (.mv (.t p8n18))⟩]) (.seq (.reg [⟨(some p8n19), none, (.mv (.t p8n1))⟩, ⟨(some p8n20), none, (.nilck (.t p8n19))⟩, ⟨(some p8n21), none, (.faddr 0 (.t p8n20))⟩, ⟨(some p8n22), none, (.ld1 (.t p8n21))⟩, ⟨(some p8n23), none, (.call 231 [(.t p8n22)])⟩, ⟨(some p8n9), none, (.mv (.t p8n23))⟩]) (.seq (.block 0 (.seq (.reg [⟨(some p8n25), none, (.mv (.t p8n8))⟩, ⟨(some p8n26), none, (.bin .neq (.t p8n25) (.c (.int .i64 (.ofNat 0))))⟩, ⟨(some p8n24), none, (.mv (.t p8n26))⟩]) (.cond (.t p8n24) (.seq (.reg [⟨(some p8n27), none, (.mv (.t p8n8))⟩, ⟨(some p8n6), none, (.mv (.t p8n27))⟩]) .ret) (.seq (.seq (.reg [⟨(some p8n29), none, (.mv (.t p8n9))⟩, ⟨(some p8n30), none, (.call 230 [(.t p8n29)])⟩, ⟨(some p8n31), none, (.mv (.t p8n30))⟩, ⟨(some p8n32), (some (p8n31, true)), (.faddr 0 (.t p8n7))⟩, ⟨(some p8n33), (some (p8n31, true)), (.ld1 (.t p8n32))⟩, ⟨(some p8n34), (some (p8n31, true)), (.bin .eql (.t p8n33) (.c (.str [])))⟩, ⟨(some p8n35), (some (p8n31, true)), (.mv (.t p8n34))⟩, ⟨(some p8n36), (some (p8n35, false)), (.faddr 1 (.t p8n7))⟩, ⟨(some p8n37), (some (p8n35, false)), (.ld1 (.t p8n36))⟩, ⟨(some p8n38), (some (p8n35, false)), (.bin .neq (.t p8n37) (.c (.int .i64 (.ofNat 0))))⟩, ⟨(some p8n39), (some (p8n31, true)), (.pick (.t p8n35) (.c (.bool true)) (.t p8n38))⟩, ⟨(some p8n40), none, (.pick (.t p8n31) (.t p8n39) (.c (.bool false)))⟩, ⟨(some p8n28), none, (.mv (.t p8n40))⟩]) (.cond (.t p8n28) .skip (.reg [⟨(some p8n41), none, (.mv (.t p8n9))⟩, ⟨(some p8n42), none, (.call 230 [(.t p8n41)])⟩, ⟨(some p8n43), none, (.un .not (.t p8n42))⟩, ⟨(some p8n44), none, (.mv (.t p8n43))⟩, ⟨(some p8n45), (some (p8n44, true)), (.mv (.t p8n9))⟩, ⟨(some p8n46), (some (p8n44, true)), (.bin .neq (.t p8n45) (.c (.int .i64 (.ofNat 4))))⟩, ⟨(some p8n47), none, (.pick (.t p8n44) (.t p8n46) (.c (.bool false)))⟩, ⟨(some p8n48), none, (.mv (.t p8n47))⟩, ⟨(some p8n49), (some (p8n48, true)), (.faddr 0 (.t p8n7))⟩, ⟨(some p8n50), (some (p8n48, true)), (.ld1 (.t p8n49))⟩, ⟨(some p8n51), (some (p8n48, true)), (.bin .neq (.t p8n50) (.c (.str [])))⟩, ⟨(some p8n52), none, (.pick (.t p8n48) (.t p8n51) (.c (.bool false)))⟩, ⟨(some p8n28), none, (.mv (.t p8n52))⟩]))) (.cond (.t p8n28) (.seq (.reg [⟨(some p8n6), none, (.mv (.c (.int .i64 (.ofNat 6))))⟩]) .ret) (.seq (.regd [(.pure, ⟨(some p8n54), none, (.faddr 1 (.t p8n7))⟩), (.load, ⟨(some p8n55), none, (.ld1 (.t p8n54))⟩), (.pure, ⟨(some p8n56), none, (.mv (.t p8n9))⟩), (.iso, ⟨(some p8n57), none, (.call 274 [(.t p8n56)])⟩)] [⟨(some p8n58), none, (.call 275 [(.t p8n55), (.t p8n57)])⟩, ⟨(some p8n59), none, (.un .not (.t p8n58))⟩, ⟨(some p8n53), none, (.mv (.t p8n59))⟩]) (.cond (.t p8n53) (.seq (.reg [⟨(some p8n6), none, (.mv (.c (.int .i64 (.ofNat 7))))⟩]) .ret) .skip))))))) (.seq (.regd [(.pure, ⟨(some p8n60), none, (.mv (.t p8n1))⟩), (.pure, ⟨(some p8n61), none, (.mv (.t p8n1))⟩), (.pure, ⟨(some p8n62), none, (.faddr 1 (.t p8n7))⟩), ((.loadm 3 4), ⟨(some p8n63), none, (.ld1 (.t p8n62))⟩), (.pure, ⟨(some p8n64), none, (.faddr 0 (.t p8n7))⟩), ((.loadm 5 16), ⟨(some p8n65), none, (.ld1 (.t p8n64))⟩), (.pure, ⟨(some p8n66), none, (.nilck (.t p8n60))⟩), (.pure, ⟨(some p8n67), none, (.faddr 4 (.t p8n66))⟩), ((.sto 8 205), ⟨none, none, (.st 1 (.t p8n67) (.t p8n63))⟩)] [⟨(some p8n68), none, (.nilck (.t p8n61))⟩, ⟨(some p8n69), none, (.faddr 5 (.t p8n68))⟩, ⟨none, none, (.st 1 (.t p8n69) (.t p8n65))⟩]) (.seq (.reg [⟨(some p8n6), none, (.mv (.c (.int .i64 (.ofNat 0))))⟩]) .ret))))))⟩
noncomputable def a395 : AFunc :=
  ⟨4, [p4n0], [(p4n2, none)], false, (.seq (.reg [⟨(some p4n2), none, (.mv (.c (.bool false)))⟩]) (.seq (.reg [⟨(some p4n3), none, (.mv (.t p4n0))⟩, ⟨(some p4n4), none, (.bin .eql (.t p4n3) (.c (.int .i64 (.ofNat 8))))⟩, ⟨(some p4n5), none, (.mv (.t p4n4))⟩, ⟨(some p4n6), (some (p4n5, false)), (.mv (.t p4n0))⟩, ⟨(some p4n7), (some (p4n5, false)), (.bin .eql (.t p4n6) (.c (.int .i64 (.ofNat 9))))⟩, ⟨(some p4n8), none, (.pick (.t p4n5) (.c (.bool true)) (.t p4n7))⟩, ⟨(some p4n2), none, (.mv (.t p4n8))⟩]) .ret))⟩
noncomputable def a396 : AFunc :=
  ⟨6, [p6n0, p6n1], [(p6n4, none)], false, (.seq (.reg [⟨(some p6n4), none, (.mv (.c (.bool false)))⟩]) (.seq (.reg [⟨(some p6n6), none, (.mv (.t p6n1))⟩, ⟨(some p6n7), none, (.bin .sub (.t p6n6) (.c (.int .i64 (.ofNat 1))))⟩, ⟨(some p6n8), none, (.bin .shl (.c (.int .i64 (.ofNat 1))) (.t p6n7))⟩, ⟨(some p6n5), none, (.mv (.t p6n8))⟩]) (.seq (.reg [⟨(some p6n9), none, (.mv (.t p6n0))⟩, ⟨(some p6n10), none, (.mv (.t p6n5))⟩, ⟨(some p6n11), none, (.un .neg (.t p6n10))⟩, ⟨(some p6n12), none, (.bin .geq (.t p6n9) (.t p6n11))⟩, ⟨(some p6n13), none, (.mv (.t p6n12))⟩, ⟨(some p6n14), (some (p6n13, true)), (.mv (.t p6n0))⟩, ⟨(some p6n15), (some (p6n13, true)), (.mv (.t p6n5))⟩, ⟨(some p6n16), (some (p6n13, true)), (.bin .lss (.t p6n14) (.t p6n15))⟩, ⟨(some p6n17), none, (.pick (.t p6n13) (.t p6n16) (.c (.bool false)))⟩, ⟨(some p6n4), none, (.mv (.t p6n17))⟩]) .ret)))⟩
noncomputable def a397 : AFunc :=
  ⟨4, [p4n0, p4n1], [(p4n4, none)], false, (.seq (.reg [⟨(some p4n4), none, (.mv (.c (.bool false)))⟩]) (.seq (.reg [⟨(some p4n5), none, (.mv (.t p4n0))⟩, ⟨(some p4n6), none, (.mv (.t p4n1))⟩, ⟨(some p4n7), none, (.call 417 [(.t p4n5), (.t p4n6)])⟩, ⟨(some p4n8), none, (.bin .geq (.t p4n7) (.c (.int .i64 (.ofNat 0))))⟩, ⟨(some p4n4), none, (.mv (.t p4n8))⟩]) .ret))⟩
noncomputable def a398 : AFunc :=
  ⟨4, [p4n0], [(p4n2, none)], false, (.seq (.reg [⟨(some p4n1), none, (.box (.t p4n0))⟩, ⟨(some p4n2), none, (.mv (.c (.bool false)))⟩]) (.seq (.reg [⟨(some p4n3), none, (.ldA 7 (.t p4n1))⟩, ⟨(some p4n4), none, (.call 399 [(.t p4n3)])⟩, ⟨(some p4n5), none, (.un .not (.t p4n4))⟩, ⟨(some p4n2), none, (.mv (.t p4n5))⟩]) .ret))⟩
noncomputable def a399 : AFunc :=
  ⟨6, [p6n0], [(p6n2, none)], false, (.seq (.reg [⟨(some p6n1), none, (.box (.t p6n0))⟩, ⟨(some p6n2), none, (.mv (.c (.bool false)))⟩]) (.seq (.seq (.reg [⟨(some p6n3), none, (.faddr 0 (.t p6n1))⟩, ⟨(some p6n4), none, (.ld1 (.t p6n3))⟩, ⟨(some p6n5), none, (.bin .neq (.t p6n4) (.c (.str [])))⟩]) (.cond (.t p6n5) (.seq (.reg [⟨(some p6n6), none, (.faddr 0 (.t p6n1))⟩, ⟨(some p6n7), none, (.ld1 (.t p6n6))⟩, ⟨(some p6n8), none, (.call 82 [(.t p6n7)])⟩, ⟨(some p6n9), none, (.mv (.t p6n8))⟩, ⟨(some p6n10), (some (p6n9, true)), (.faddr 1 (.t p6n1))⟩, ⟨(some p6n11), (some (p6n9, true)), (.ldA 6 (.t p6n10))⟩, ⟨(some p6n12), (some (p6n9, true)), (.build [(.int .i64 (.ofNat 0)), (.int .i64 (.ofNat 0)), (.int .i64 (.ofNat 0)), (.int .i64 (.ofNat 0)), (.int .i64 (.ofNat 0)), (.str [])] [])⟩, ⟨(some p6n13), (some (p6n9, true)), (.eqs (.st [(0, (1, (false, .int))), (1, (1, (false, .int))), (2, (1, (false, .int))), (3, (1, (false, .int))), (4, (1, (false, .int))), (5, (1, (false, .str)))]) false (.t p6n11) (.t p6n12))⟩, ⟨(some p6n14), none, (.pick (.t p6n9) (.t p6n13) (.c (.bool false)))⟩, ⟨(some p6n2), none, (.mv (.t p6n14))⟩]) .ret) .skip)) (.seq (.reg [⟨(some p6n15), none, (.faddr 1 (.t p6n1))⟩, ⟨(some p6n16), none, (.ldA 6 (.t p6n15))⟩, ⟨(some p6n17), none, (.call 242 [(.t p6n16)])⟩, ⟨(some p6n18), none, (.mv (.t p6n17))⟩, ⟨(some p6n19), (some (p6n18, true)), (.faddr 1 (.t p6n1))⟩, ⟨(some p6n20), (some (p6n18, true)), (.faddr 0 (.t p6n19))⟩, ⟨(some p6n21), (some (p6n18, true)), (.ld1 (.t p6n20))⟩, ⟨(some p6n22), (some (p6n18, true)), (.call 231 [(.t p6n21)])⟩, ⟨(some p6n23), (some (p6n18, true)), (.call 230 [(.t p6n22)])⟩, ⟨(some p6n24), (some (p6n18, true)), (.un .not (.t p6n23))⟩, ⟨(some p6n25), (some (p6n18, true)), (.mv (.t p6n24))⟩, ⟨(some p6n26), (some (p6n25, false)), (.faddr 1 (.t p6n1))⟩, ⟨(some p6n27), (some (p6n25, false)), (.faddr 5 (.t p6n26))⟩, ⟨(some p6n28), (some (p6n25, false)), (.ld1 (.t p6n27))⟩, ⟨(some p6n29), (some (p6n25, false)), (.bin .neq (.t p6n28) (.c (.str [])))⟩, ⟨(some p6n30), (some (p6n18, true)), (.pick (.t p6n25) (.c (.bool true)) (.t p6n29))⟩, ⟨(some p6n31), none, (.pick (.t p6n18) (.t p6n30) (.c (.bool false)))⟩, ⟨(some p6n2), none, (.mv (.t p6n31))⟩]) .ret)))⟩
noncomputable def a400 : AFunc :=
  ⟨6, [p6n0], [(p6n2, none)], false, (.seq (.reg [⟨(some p6n1), none, (.box (.t p6n0))⟩, ⟨(some p6n2), none, (.mv (.c (.int .i64 (.ofNat 0))))⟩]) (.seq (.reg [⟨(some p6n3), none, (.mv (.c (.int .i64 (.ofNat 0))))⟩]) (.seq (.seq (.reg [⟨(some p6n6), none, (.faddr 0 (.t p6n1))⟩, ⟨(some p6n7), none, (.ld1 (.t p6n6))⟩, ⟨(some p6n8), none, (.len false (.t p6n7))⟩, ⟨(some p6n9), none, (.mv (.c (.int .i64 (.ofNat 0))))⟩]) (.block 0 (.loop (.seq (.reg [⟨(some p6n10), none, (.bin .lss (.t p6n9) (.t p6n8))⟩]) (.seq (.cond (.t p6n10) .skip (.exit 0)) (.seq (.block 1 (.seq (.reg [⟨(some p6n11), none, (.iaddr 7 (.t p6n7) (.t p6n9))⟩, ⟨(some p6n12), none, (.ldA 7 (.t p6n11))⟩, ⟨(some p6n5), none, (.alloc [(.str []), (.int .i64 (.ofNat 0)), (.int .i64 (.ofNat 0)), (.int .i64 (.ofNat 0)), (.int .i64 (.ofNat 0)), (.int .i64 (.ofNat 0)), (.str [])])⟩, ⟨none, none, (.st 7 (.t p6n5) (.t p6n12))⟩]) (.seq (.reg [⟨(some p6n13), none, (.faddr 0 (.t p6n5))⟩, ⟨(some p6n14), none, (.ld1 (.t p6n13))⟩, ⟨(some p6n15), none, (.bin .eql (.t p6n14) (.c (.str [])))⟩]) (.cond (.t p6n15) (.reg [⟨(some p6n16), none, (.mv (.t p6n3))⟩, ⟨(some p6n17), none, (.bin .add (.t p6n16) (.c (.int .i64 (.ofNat 1))))⟩, ⟨(some p6n3), none, (.mv (.t p6n17))⟩]) .skip)))) (.reg [⟨(some p6n18), none, (.bin .add (.t p6n9) (.c (.int .i64 (.ofNat 1))))⟩, ⟨(some p6n9), none, (.mv (.t p6n18))⟩]))))))) (.seq (.reg [⟨(some p6n19), none, (.mv (.t p6n3))⟩, ⟨(some p6n2), none, (.mv (.t p6n19))⟩]) .ret))))⟩
noncomputable def a401 : AFunc :=
  ⟨6, [p6n0], [(p6n2, none)], false, (.seq (.reg [⟨(some p6n1), none, (.box (.t p6n0))⟩, ⟨(some p6n2), none, (.mv (.c (.bool false)))⟩]) (.seq (.reg [⟨(some p6n3), none, (.mv (.c (.int .i64 (.ofNat 0))))⟩]) (.seq (.seq (.reg [⟨(some p6n6), none, (.faddr 2 (.t p6n1))⟩, ⟨(some p6n7), none, (.ld1 (.t p6n6))⟩, ⟨(some p6n8), none, (.len false (.t p6n7))⟩, ⟨(some p6n9), none, (.mv (.c (.int .i64 (.ofNat 0))))⟩]) (.block 0 (.loop (.seq (.reg [⟨(some p6n10), none, (.bin .lss (.t p6n9) (.t p6n8))⟩]) (.seq (.cond (.t p6n10) .skip (.exit 0)) (.seq (.block 1 (.seq (.reg [⟨(some p6n11), none, (.iaddr 4 (.t p6n7) (.t p6n9))⟩, ⟨(some p6n12), none, (.ldA 4 (.t p6n11))⟩, ⟨(some p6n5), none, (.alloc [(.str []), (.bool false), (.int .i64 (.ofNat 0)), (.bool false)])⟩, ⟨none, none, (.st 4 (.t p6n5) (.t p6n12))⟩]) (.seq (.seq (.reg [⟨(some p6n13), none, (.faddr 0 (.t p6n5))⟩, ⟨(some p6n14), none, (.ld1 (.t p6n13))⟩, ⟨(some p6n15), none, (.call 82 [(.t p6n14)])⟩, ⟨(some p6n16), none, (.un .not (.t p6n15))⟩, ⟨(some p6n17), none, (.mv (.t p6n16))⟩, ⟨(some p6n18), (some (p6n17, false)), (.faddr 1 (.t p6n5))⟩, ⟨(some p6n19), (some (p6n17, false)), (.ld1 (.t p6n18))⟩, ⟨(some p6n20), none, (.pick (.t p6n17) (.c (.bool true)) (.t p6n19))⟩, ⟨(some p6n21), none, (.mv (.t p6n20))⟩, ⟨(some p6n22), (some (p6n21, false)), (.faddr 3 (.t p6n5))⟩, ⟨(some p6n23), (some (p6n21, false)), (.ld1 (.t p6n22))⟩, ⟨(some p6n24), none, (.pick (.t p6n21) (.c (.bool true)) (.t p6n23))⟩, ⟨(some p6n25), none, (.mv (.t p6n24))⟩, ⟨(some p6n26), (some (p6n25, false)), (.faddr 2 (.t p6n5))⟩, ⟨(some p6n27), (some (p6n25, false)), (.ld1 (.t p6n26))⟩, ⟨(some p6n28), (some (p6n25, false)), (.mv (.t p6n3))⟩, ⟨(some p6n29), (some (p6n25, false)), (.bin .lss (.t p6n27) (.t p6n28))⟩, ⟨(some p6n30), none, (.pick (.t p6n25) (.c (.bool true)) (.t p6n29))⟩, ⟨(some p6n31), none, (.mv (.t p6n30))⟩, ⟨(some p6n32), (some (p6n31, false)), (.faddr 2 (.t p6n5))⟩, ⟨(some p6n33), (some (p6n31, false)), (.ld1 (.t p6n32))⟩, ⟨(some p6n34), (some (p6n31, false)), (.faddr 1 (.t p6n1))⟩, ⟨(some p6n35), (some (p6n31, false)), (.ld1 (.t p6n34))⟩, ⟨(some p6n36), (some (p6n31, false)), (.len false (.t p6n35))⟩, ⟨(some p6n37), (some (p6n31, false)), (.bin .gtr (.t p6n33) (.t p6n36))⟩, ⟨(some p6n38), none, (.pick (.t p6n31) (.c (.bool true)) (.t p6n37))⟩]) (.cond (.t p6n38) (.seq (.reg [⟨(some p6n2), none, (.mv (.c (.bool false)))⟩]) .ret) .skip)) (.reg [⟨(some p6n39), none, (.faddr 2 (.t p6n5))⟩, ⟨(some p6n40), none, (.ld1 (.t p6n39))⟩, ⟨(some p6n3), none, (.mv (.t p6n40))⟩])))) (.reg [⟨(some p6n41), none, (.bin .add (.t p6n9) (.c (.int .i64 (.ofNat 1))))⟩, ⟨(some p6n9), none, (.mv (.t p6n41))⟩]))))))) (.seq (.reg [⟨(some p6n42), none, (.faddr 1 (.t p6n1))⟩, ⟨(some p6n43), none, (.ld1 (.t p6n42))⟩, ⟨(some p6n44), none, (.len false (.t p6n43))⟩, ⟨(some p6n45), none, (.bin .leq (.t p6n44) (.c (.int .i64 (.ofNat 128))))⟩, ⟨(some p6n46), none, (.mv (.t p6n45))⟩, ⟨(some p6n47), (some (p6n46, true)), (.faddr 1 (.t p6n1))⟩, ⟨(some p6n48), (some (p6n46, true)), (.ld1 (.t p6n47))⟩, ⟨(some p6n49), (some (p6n46, true)), (.call 62 [(.t p6n48), (.c (.fn 418 [] []))])⟩, ⟨(some p6n50), (some (p6n46, true)), (.un .not (.t p6n49))⟩, ⟨(some p6n51), none, (.pick (.t p6n46) (.t p6n50) (.c (.bool false)))⟩, ⟨(some p6n2), none, (.mv (.t p6n51))⟩]) .ret))))⟩
noncomputable def a402 : AFunc :=
  ⟨6, [p6n0], [(p6n2, none)], true, (.seq (.reg [⟨(some p6n1), none, (.box (.t p6n0))⟩, ⟨(some p6n2), none, (.mv (.c .nils))⟩]) (.seq (.seq (.reg [⟨(some p6n7), none, (.faddr 0 (.t p6n1))⟩, ⟨(some p6n8), none, (.ld1 (.t p6n7))⟩, ⟨(some p6n9), none, (.len false (.t p6n8))⟩, ⟨(some p6n10), none, (.mv (.c (.int .i64 (.ofNat 0))))⟩]) (.block 0 (.loop (.seq (.reg [⟨(some p6n11), none, (.bin .lss (.t p6n10) (.t p6n9))⟩]) (.seq (.cond (.t p6n11) .skip (.exit 0)) (.seq (.block 1 (.seq (.reg [⟨(some p6n12), none, (.iaddr 7 (.t p6n8) (.t p6n10))⟩, ⟨(some p6n13), none, (.ldA 7 (.t p6n12))⟩, ⟨(some p6n4), none, (.alloc [(.str []), (.int .i64 (.ofNat 0)), (.int .i64 (.ofNat 0)), (.int .i64 (.ofNat 0)), (.int .i64 (.ofNat 0)), (.int .i64 (.ofNat 0)), (.str [])])⟩, ⟨none, none, (.st 7 (.t p6n4) (.t p6n13))⟩]) (.seq (.reg [⟨(some p6n14), none, (.faddr 0 (.t p6n4))⟩, ⟨(some p6n15), none, (.ld1 (.t p6n14))⟩, ⟨(some p6n16), none, (.bin .neq (.t p6n15) (.c (.str [])))⟩]) (.cond (.t p6n16) (.reg [⟨(some p6n17), none, (.mv (.t p6n2))⟩, ⟨(some p6n18), none, (.faddr 0 (.t p6n4))⟩, ⟨(some p6n19), none, (.ld1 (.t p6n18))⟩, ⟨(some p6n20), none, (.buildS 1 1 (.str []) [(0, (.t p6n19))])⟩, ⟨(some p6n21), none, (.mem (.app 1 16 (.str [])) [(.t p6n17), (.t p6n20)])⟩, ⟨(some p6n2), none, (.mv (.t p6n21))⟩]) .skip)))) (.reg [⟨(some p6n22), none, (.bin .add (.t p6n10) (.c (.int .i64 (.ofNat 1))))⟩, ⟨(some p6n10), none, (.mv (.t p6n22))⟩]))))))) (.seq (.seq (.reg [⟨(some p6n23), none, (.faddr 2 (.t p6n1))⟩, ⟨(some p6n24), none, (.ld1 (.t p6n23))⟩, ⟨(some p6n25), none, (.len false (.t p6n24))⟩, ⟨(some p6n26), none, (.mv (.c (.int .i64 (.ofNat 0))))⟩]) (.block 2 (.loop (.seq (.reg [⟨(some p6n27), none, (.bin .lss (.t p6n26) (.t p6n25))⟩]) (.seq (.cond (.t p6n27) .skip (.exit 2)) (.seq (.block 3 (.seq (.reg [⟨(some p6n28), none, (.iaddr 4 (.t p6n24) (.t p6n26))⟩, ⟨(some p6n29), none, (.ldA 4 (.t p6n28))⟩, ⟨(some p6n6), none, (.alloc [(.str []), (.bool false), (.int .i64 (.ofNat 0)), (.bool false)])⟩, ⟨none, none, (.st 4 (.t p6n6) (.t p6n29))⟩]) (.reg [⟨(some p6n30), none, (.mv (.t p6n2))⟩, ⟨(some p6n31), none, (.faddr 0 (.t p6n6))⟩, ⟨(some p6n32), none, (.ld1 (.t p6n31))⟩, ⟨(some p6n33), none, (.buildS 1 1 (.str []) [(0, (.t p6n32))])⟩, ⟨(some p6n34), none, (.mem (.app 1 16 (.str [])) [(.t p6n30), (.t p6n33)])⟩, ⟨(some p6n2), none, (.mv (.t p6n34))⟩]))) (.reg [⟨(some p6n35), none, (.bin .add (.t p6n26) (.c (.int .i64 (.ofNat 1))))⟩, ⟨(some p6n26), none, (.mv (.t p6n35))⟩]))))))) (.seq (.reg [⟨(some p6n36), none, (.mv (.t p6n2))⟩, ⟨(some p6n2), none, (.mv (.t p6n36))⟩]) .ret))))⟩
noncomputable def a403 : AFunc :=
  ⟨4, [p4n0], [(p4n2, none)], false, (.seq (.reg [⟨(some p4n2), none, (.mv (.c (.bool false)))⟩]) (.seq (.reg [⟨(some p4n3), none, (.mv (.t p4n0))⟩, ⟨(some p4n4), none, (.call 419 [(.t p4n3)])⟩, ⟨(some p4n0), none, (.mv (.t p4n4))⟩]) (.seq (.reg [⟨(some p4n5), none, (.mv (.t p4n0))⟩, ⟨(some p4n6), none, (.call 214 [(.t p4n5)])⟩]) (.seq (.reg [⟨(some p4n7), none, (.mv (.t p4n0))⟩, ⟨(some p4n8), none, (.call 216 [(.t p4n7)])⟩, ⟨(some p4n9), none, (.len false (.t p4n8))⟩, ⟨(some p4n10), none, (.mv (.t p4n0))⟩, ⟨(some p4n11), none, (.len false (.t p4n10))⟩, ⟨(some p4n12), none, (.bin .eql (.t p4n9) (.t p4n11))⟩, ⟨(some p4n2), none, (.mv (.t p4n12))⟩]) .ret))))⟩
noncomputable def a404 : AFunc :=
  ⟨6, [p6n0], [(p6n2, none)], false, (.seq (.reg [⟨(some p6n2), none, (.mv (.c (.bool false)))⟩]) (.seq (.seq (.reg [⟨(some p6n4), none, (.mv (.t p6n0))⟩, ⟨(some p6n5), none, (.len false (.t p6n4))⟩, ⟨(some p6n6), none, (.bin .sub (.t p6n5) (.c (.int .i64 (.ofNat 1))))⟩, ⟨(some p6n3), none, (.mv (.t p6n6))⟩]) (.block 0 (.loop (.seq (.seq (.reg [⟨(some p6n7), none, (.mv (.t p6n3))⟩, ⟨(some p6n8), none, (.bin .gtr (.t p6n7) (.c (.int .i64 (.ofNat 0))))⟩]) (.cond (.t p6n8) .skip (.exit 0))) (.seq (.block 1 (.seq (.regd [(.pure, ⟨(some p6n11), none, (.mv (.t p6n0))⟩), (.pure, ⟨(some p6n12), none, (.mv (.t p6n3))⟩), (.pure, ⟨(some p6n13), none, (.iaddr 1 (.t p6n11) (.t p6n12))⟩), (.load, ⟨(some p6n14), none, (.ld1 (.t p6n13))⟩), (.pure, ⟨(some p6n15), none, (.mv (.t p6n0))⟩), (.pure, ⟨(some p6n16), none, (.mv (.t p6n3))⟩), (.pure, ⟨(some p6n17), none, (.bin .sub (.t p6n16) (.c (.int .i64 (.ofNat 1))))⟩), (.pure, ⟨(some p6n18), none, (.iaddr 1 (.t p6n15) (.t p6n17))⟩), (.load, ⟨(some p6n19), none, (.ld1 (.t p6n18))⟩)] [⟨(some p6n20), none, (.call 256 [(.t p6n14), (.t p6n19)])⟩]) (.cond (.t p6n20) (.seq (.reg [⟨(some p6n2), none, (.mv (.c (.bool false)))⟩]) .ret) .skip))) (.reg [⟨(some p6n9), none, (.mv (.t p6n3))⟩, ⟨(some p6n10), none, (.bin .sub (.t p6n9) (.c (.int .i64 (.ofNat 1))))⟩, ⟨(some p6n3), none, (.mv (.t p6n10))⟩])))))) (.seq (.reg [⟨(some p6n2), none, (.mv (.c (.bool true)))⟩]) .ret)))⟩
noncomputable def a405 : AFunc :=
  ⟨4, [p4n0, p4n1], [(p4n3, none)], false, (.seq (.reg [⟨(some p4n3), none, (.mv (.c (.bool false)))⟩]) (.seq (.reg [⟨(some p4n4), none, (.ld1 (.t p4n1))⟩, ⟨(some p4n5), none, (.mv (.t p4n0))⟩, ⟨(some p4n6), none, (.call 176 [(.t p4n4), (.t p4n5)])⟩, ⟨(some p4n7), none, (.un .not (.t p4n6))⟩, ⟨(some p4n3), none, (.mv (.t p4n7))⟩]) .ret))⟩
noncomputable def a406 : AFunc :=
  ⟨6, [p6n0], [(p6n2, none), (p6n3, none)], false, (.seq (.reg [⟨(some p6n1), none, (.box (.t p6n0))⟩, ⟨(some p6n2), none, (.mv (.c (.str [])))⟩, ⟨(some p6n3), none, (.mv (.c (.int .i64 (.ofNat 0))))⟩]) (.seq (.seq (.reg [⟨(some p6n8), none, (.ldA 6 (.t p6n1))⟩, ⟨(some p6n9), none, (.call 242 [(.t p6n8)])⟩, ⟨(some p6n10), none, (.un .not (.t p6n9))⟩]) (.cond (.t p6n10) (.seq (.reg [⟨(some p6n2), none, (.mv (.c (.str [])))⟩, ⟨(some p6n3), none, (.mv (.c (.int .i64 (.ofNat 1))))⟩]) .ret) .skip)) (.seq (.reg [⟨(some p6n11), none, (.faddr 0 (.t p6n1))⟩, ⟨(some p6n12), none, (.ld1 (.t p6n11))⟩, ⟨(some p6n13), none, (.call 231 [(.t p6n12)])⟩, ⟨(some p6n4), none, (.mv (.t p6n13))⟩]) (.seq (.reg [⟨(some p6n5), none, (.alloc [.nils])⟩]) (.seq (.reg [⟨(some p6n14), none, (.mkfn 420 [] [(.t p6n5)])⟩, ⟨(some p6n6), none, (.mv (.t p6n14))⟩]) (.seq (.reg [⟨(some p6n15), none, (.mv (.t p6n6))⟩, ⟨(some p6n16), none, (.mv (.t p6n4))⟩, ⟨(some p6n17), none, (.bin .eql (.t p6n16) (.c (.int .i64 (.ofNat 5))))⟩, ⟨(some p6n18), none, (.faddr 3 (.t p6n1))⟩, ⟨(some p6n19), none, (.ld1 (.t p6n18))⟩, ⟨(some p6n20), none, (.calld (.t p6n15) [(.t p6n17), (.t p6n19)])⟩]) (.seq (.regd [(.pure, ⟨(some p6n21), none, (.mv (.t p6n6))⟩), (.pure, ⟨(some p6n22), none, (.mv (.t p6n4))⟩), (.iso, ⟨(some p6n23), none, (.call 263 [(.t p6n22)])⟩), (.pure, ⟨(some p6n24), none, (.faddr 1 (.t p6n1))⟩), (.load, ⟨(some p6n25), none, (.ld1 (.t p6n24))⟩)] [⟨(some p6n26), none, (.calld (.t p6n21) [(.t p6n23), (.t p6n25)])⟩]) (.seq (.regd [(.pure, ⟨(some p6n27), none, (.mv (.t p6n6))⟩), (.pure, ⟨(some p6n28), none, (.mv (.t p6n4))⟩), (.iso, ⟨(some p6n29), none, (.call 264 [(.t p6n28)])⟩), (.pure, ⟨(some p6n30), none, (.faddr 2 (.t p6n1))⟩), (.load, ⟨(some p6n31), none, (.ld1 (.t p6n30))⟩)] [⟨(some p6n32), none, (.calld (.t p6n27) [(.t p6n29), (.t p6n31)])⟩]) (.seq (.reg [⟨(some p6n33), none, (.mv (.t p6n6))⟩, ⟨(some p6n34), none, (.mv (.t p6n4))⟩, ⟨(some p6n35), none, (.bin .eql (.t p6n34) (.c (.int .i64 (.ofNat 1))))⟩, ⟨(some p6n36), none, (.faddr 3 (.t p6n1))⟩, ⟨(some p6n37), none, (.ld1 (.t p6n36))⟩, ⟨(some p6n38), none, (.calld (.t p6n33) [(.t p6n35), (.t p6n37)])⟩]) (.seq (.seq (.reg [⟨(some p6n39), none, (.mv (.t p6n4))⟩, ⟨(some p6n40), none, (.call 274 [(.t p6n39)])⟩, ⟨(some p6n41), none, (.bin .gtr (.t p6n40) (.c (.int .i64 (.ofNat 0))))⟩]) (.cond (.t p6n41) (.regd [(.load, ⟨(some p6n42), none, (.ld1 (.t p6n5))⟩), (.load, ⟨(some p6n43), none, (.ldA 6 (.t p6n1))⟩), (.iso, ⟨(some p6n44), none, (.call 421 [(.t p6n43)])⟩), (.pure, ⟨(some p6n45), none, (.buildS 1 1 (.str []) [(0, (.t p6n44))])⟩)] [⟨(some p6n46), none, (.mem (.app 1 16 (.str [])) [(.t p6n42), (.t p6n45)])⟩, ⟨none, none, (.st 1 (.t p6n5) (.t p6n46))⟩]) .skip)) (.seq (.regd [(.iso, ⟨(some p6n47), none, (.call 416 [])⟩), (.pure, ⟨(some p6n48), none, (.faddr 0 (.t p6n1))⟩), (.load, ⟨(some p6n49), none, (.ld1 (.t p6n48))⟩)] [⟨(some p6n50), none, (.iaddr 1 (.t p6n47) (.t p6n49))⟩, ⟨(some p6n51), none, (.ld1 (.t p6n50))⟩, ⟨(some p6n7), none, (.mv (.t p6n51))⟩]) (.seq (.seq (.reg [⟨(some p6n52), none, (.ld1 (.t p6n5))⟩, ⟨(some p6n53), none, (.len false (.t p6n52))⟩, ⟨(some p6n54), none, (.bin .gtr (.t p6n53) (.c (.int .i64 (.ofNat 0))))⟩]) (.cond (.t p6n54) (.reg [⟨(some p6n55), none, (.mv (.t p6n7))⟩, ⟨(some p6n56), none, (.ld1 (.t p6n5))⟩, ⟨(some p6n57), none, (.call 290 [(.t p6n56), (.c (.str [44, 32]))])⟩, ⟨(some p6n58), none, (.bin .add (.c (.str [32])) (.t p6n57))⟩, ⟨(some p6n59), none, (.bin .add (.t p6n55) (.t p6n58))⟩, ⟨(some p6n7), none, (.mv (.t p6n59))⟩]) .skip)) (.seq (.reg [⟨(some p6n60), none, (.mv (.t p6n7))⟩, ⟨(some p6n2), none, (.mv (.t p6n60))⟩, ⟨(some p6n3), none, (.mv (.c (.int .i64 (.ofNat 0))))⟩]) .ret)))))))))))))⟩
noncomputable def a407 : AFunc :=
  ⟨6, [p6n0], [(p6n2, none)], false, (.seq (.reg [⟨(some p6n1), none, (.box (.t p6n0))⟩, ⟨(some p6n2), none, (.mv (.c (.str [])))⟩]) (.seq (.block 0 (.seq (.reg [⟨(some p6n4), none, (.faddr 0 (.t p6n1))⟩, ⟨(some p6n5), none, (.ld1 (.t p6n4))⟩, ⟨(some p6n6), none, (.bin .eql (.t p6n5) (.c (.str [])))⟩, ⟨(some p6n3), none, (.mv (.t p6n6))⟩]) (.cond (.t p6n3) (.seq (.reg [⟨(some p6n7), none, (.faddr 1 (.t p6n1))⟩, ⟨(some p6n8), none, (.ld1 (.t p6n7))⟩, ⟨(some p6n9), none, (.call 289 [(.t p6n8)])⟩, ⟨(some p6n2), none, (.mv (.t p6n9))⟩]) .ret) (.seq (.reg [⟨(some p6n11), none, (.faddr 1 (.t p6n1))⟩, ⟨(some p6n12), none, (.ld1 (.t p6n11))⟩, ⟨(some p6n13), none, (.bin .gtr (.t p6n12) (.c (.int .i64 (.ofNat 0))))⟩, ⟨(some p6n10), none, (.mv (.t p6n13))⟩]) (.cond (.t p6n10) (.seq (.regd [(.pure, ⟨(some p6n14), none, (.faddr 0 (.t p6n1))⟩), (.load, ⟨(some p6n15), none, (.ld1 (.t p6n14))⟩), (.pure, ⟨(some p6n16), none, (.bin .add (.t p6n15) (.c (.str [43])))⟩), (.pure, ⟨(some p6n17), none, (.faddr 1 (.t p6n1))⟩), (.load, ⟨(some p6n18), none, (.ld1 (.t p6n17))⟩), (.iso, ⟨(some p6n19), none, (.call 289 [(.t p6n18)])⟩)] [⟨(some p6n20), none, (.bin .add (.t p6n16) (.t p6n19))⟩, ⟨(some p6n2), none, (.mv (.t p6n20))⟩]) .ret) (.seq (.reg [⟨(some p6n22), none, (.faddr 1 (.t p6n1))⟩, ⟨(some p6n23), none, (.ld1 (.t p6n22))⟩, ⟨(some p6n24), none, (.bin .lss (.t p6n23) (.c (.int .i64 (.ofNat 0))))⟩, ⟨(some p6n21), none, (.mv (.t p6n24))⟩]) (.cond (.t p6n21) (.seq (.regd [(.pure, ⟨(some p6n25), none, (.faddr 0 (.t p6n1))⟩), (.load, ⟨(some p6n26), none, (.ld1 (.t p6n25))⟩), (.pure, ⟨(some p6n27), none, (.faddr 1 (.t p6n1))⟩), (.load, ⟨(some p6n28), none, (.ld1 (.t p6n27))⟩), (.iso, ⟨(some p6n29), none, (.call 289 [(.t p6n28)])⟩)] [⟨(some p6n30), none, (.bin .add (.t p6n26) (.t p6n29))⟩, ⟨(some p6n2), none, (.mv (.t p6n30))⟩]) .ret) .skip))))))) (.seq (.reg [⟨(some p6n31), none, (.faddr 0 (.t p6n1))⟩, ⟨(some p6n32), none, (.ld1 (.t p6n31))⟩, ⟨(some p6n2), none, (.mv (.t p6n32))⟩]) .ret)))⟩
noncomputable def a408 : AFunc :=
  ⟨6, [p6n0, p6n1], [(p6n4, none)], false, (.seq (.reg [⟨(some p6n4), none, (.mv (.c (.bool false)))⟩]) (.seq (.seq (.reg [⟨(some p6n6), none, (.mv (.t p6n0))⟩, ⟨(some p6n7), none, (.len false (.t p6n6))⟩, ⟨(some p6n8), none, (.mv (.t p6n1))⟩, ⟨(some p6n9), none, (.len false (.t p6n8))⟩, ⟨(some p6n10), none, (.bin .neq (.t p6n7) (.t p6n9))⟩]) (.cond (.t p6n10) (.seq (.reg [⟨(some p6n4), none, (.mv (.c (.bool false)))⟩]) .ret) .skip)) (.seq (.seq (.reg [⟨(some p6n11), none, (.mv (.t p6n0))⟩, ⟨(some p6n12), none, (.len false (.t p6n11))⟩, ⟨(some p6n13), none, (.mv (.c (.int .i64 (.ofNat 0))))⟩]) (.block 0 (.loop (.seq (.reg [⟨(some p6n14), none, (.bin .lss (.t p6n13) (.t p6n12))⟩]) (.seq (.cond (.t p6n14) .skip (.exit 0)) (.seq (.block 1 (.seq (.reg [⟨(some p6n15), none, (.mv (.t p6n13))⟩, ⟨(some p6n5), none, (.mv (.t p6n15))⟩]) (.seq (.regd [(.pure, ⟨(some p6n16), none, (.mv (.t p6n0))⟩), (.pure, ⟨(some p6n17), none, (.mv (.t p6n5))⟩), (.pure, ⟨(some p6n18), none, (.iaddr 7 (.t p6n16) (.t p6n17))⟩), (.load, ⟨(some p6n19), none, (.ldA 7 (.t p6n18))⟩), (.pure, ⟨(some p6n20), none, (.mv (.t p6n1))⟩), (.pure, ⟨(some p6n21), none, (.mv (.t p6n5))⟩), (.pure, ⟨(some p6n22), none, (.iaddr 7 (.t p6n20) (.t p6n21))⟩), (.load, ⟨(some p6n23), none, (.ldA 7 (.t p6n22))⟩)] [⟨(some p6n24), none, (.eqs (.st [(0, (1, (false, .str))), (1, (6, (true, (.st [(0, (1, (false, .int))), (1, (1, (false, .int))), (2, (1, (false, .int))), (3, (1, (false, .int))), (4, (1, (false, .int))), (5, (1, (false, .str)))]))))]) true (.t p6n19) (.t p6n23))⟩]) (.cond (.t p6n24) (.seq (.reg [⟨(some p6n4), none, (.mv (.c (.bool false)))⟩]) .ret) .skip)))) (.reg [⟨(some p6n25), none, (.bin .add (.t p6n13) (.c (.int .i64 (.ofNat 1))))⟩, ⟨(some p6n13), none, (.mv (.t p6n25))⟩]))))))) (.seq (.reg [⟨(some p6n4), none, (.mv (.c (.bool true)))⟩]) .ret))))⟩
noncomputable def a409 : AFunc :=
  ⟨6, [p6n0, p6n1], [(p6n4, none)], false, (.seq (.reg [⟨(some p6n4), none, (.mv (.c (.bool false)))⟩]) (.seq (.seq (.reg [⟨(some p6n6), none, (.mv (.t p6n0))⟩, ⟨(some p6n7), none, (.len false (.t p6n6))⟩, ⟨(some p6n8), none, (.mv (.t p6n1))⟩, ⟨(some p6n9), none, (.len false (.t p6n8))⟩, ⟨(some p6n10), none, (.bin .neq (.t p6n7) (.t p6n9))⟩]) (.cond (.t p6n10) (.seq (.reg [⟨(some p6n4), none, (.mv (.c (.bool false)))⟩]) .ret) .skip)) (.seq (.seq (.reg [⟨(some p6n11), none, (.mv (.t p6n0))⟩, ⟨(some p6n12), none, (.len false (.t p6n11))⟩, ⟨(some p6n13), none, (.mv (.c (.int .i64 (.ofNat 0))))⟩]) (.block 0 (.loop (.seq (.reg [⟨(some p6n14), none, (.bin .lss (.t p6n13) (.t p6n12))⟩]) (.seq (.cond (.t p6n14) .skip (.exit 0)) (.seq (.block 1 (.seq (.reg [⟨(some p6n15), none, (.mv (.t p6n13))⟩, ⟨(some p6n5), none, (.mv (.t p6n15))⟩]) (.seq (.regd [(.pure, ⟨(some p6n16), none, (.mv (.t p6n0))⟩), (.pure, ⟨(some p6n17), none, (.mv (.t p6n5))⟩), (.pure, ⟨(some p6n18), none, (.iaddr 2 (.t p6n16) (.t p6n17))⟩), (.load, ⟨(some p6n19), none, (.ldA 2 (.t p6n18))⟩), (.pure, ⟨(some p6n20), none, (.mv (.t p6n1))⟩), (.pure, ⟨(some p6n21), none, (.mv (.t p6n5))⟩), (.pure, ⟨(some p6n22), none, (.iaddr 2 (.t p6n20) (.t p6n21))⟩), (.load, ⟨(some p6n23), none, (.ldA 2 (.t p6n22))⟩)] [⟨(some p6n24), none, (.eqs (.st [(0, (1, (false, .str))), (1, (1, (false, .int)))]) true (.t p6n19) (.t p6n23))⟩]) (.cond (.t p6n24) (.seq (.reg [⟨(some p6n4), none, (.mv (.c (.bool false)))⟩]) .ret) .skip)))) (.reg [⟨(some p6n25), none, (.bin .add (.t p6n13) (.c (.int .i64 (.ofNat 1))))⟩, ⟨(some p6n13), none, (.mv (.t p6n25))⟩]))))))) (.seq (.reg [⟨(some p6n4), none, (.mv (.c (.bool true)))⟩]) .ret))))⟩
noncomputable def a410 : AFunc :=
  ⟨6, [p6n0, p6n1], [(p6n4, none)], false, (.seq (.reg [⟨(some p6n4), none, (.mv (.c (.bool false)))⟩]) (.seq (.seq (.reg [⟨(some p6n6), none, (.mv (.t p6n0))⟩, ⟨(some p6n7), none, (.len false (.t p6n6))⟩, ⟨(some p6n8), none, (.mv (.t p6n1))⟩, ⟨(some p6n9), none, (.len false (.t p6n8))⟩, ⟨(some p6n10), none, (.bin .neq (.t p6n7) (.t p6n9))⟩]) (.cond (.t p6n10) (.seq (.reg [⟨(some p6n4), none, (.mv (.c (.bool false)))⟩]) .ret) .skip)) (.seq (.seq (.reg [⟨(some p6n11), none, (.mv (.t p6n0))⟩, ⟨(some p6n12), none, (.len false (.t p6n11))⟩, ⟨(some p6n13), none, (.mv (.c (.int .i64 (.ofNat 0))))⟩]) (.block 0 (.loop (.seq (.reg [⟨(some p6n14), none, (.bin .lss (.t p6n13) (.t p6n12))⟩]) (.seq (.cond (.t p6n14) .skip (.exit 0)) (.seq (.block 1 (.seq (.reg [⟨(some p6n15), none, (.mv (.t p6n13))⟩, ⟨(some p6n5), none, (.mv (.t p6n15))⟩]) (.seq (.regd [(.pure, ⟨(some p6n16), none, (.mv (.t p6n0))⟩), (.pure, ⟨(some p6n17), none, (.mv (.t p6n5))⟩), (.pure, ⟨(some p6n18), none, (.iaddr 4 (.t p6n16) (.t p6n17))⟩), (.load, ⟨(some p6n19), none, (.ldA 4 (.t p6n18))⟩), (.pure, ⟨(some p6n20), none, (.mv (.t p6n1))⟩), (.pure, ⟨(some p6n21), none, (.mv (.t p6n5))⟩), (.pure, ⟨(some p6n22), none, (.iaddr 4 (.t p6n20) (.t p6n21))⟩), (.load, ⟨(some p6n23), none, (.ldA 4 (.t p6n22))⟩)] [⟨(some p6n24), none, (.eqs (.st [(0, (1, (false, .str))), (1, (1, (false, .bool))), (2, (1, (false, .int))), (3, (1, (false, .bool)))]) true (.t p6n19) (.t p6n23))⟩]) (.cond (.t p6n24) (.seq (.reg [⟨(some p6n4), none, (.mv (.c (.bool false)))⟩]) .ret) .skip)))) (.reg [⟨(some p6n25), none, (.bin .add (.t p6n13) (.c (.int .i64 (.ofNat 1))))⟩, ⟨(some p6n13), none, (.mv (.t p6n25))⟩]))))))) (.seq (.reg [⟨(some p6n4), none, (.mv (.c (.bool true)))⟩]) .ret))))⟩
noncomputable def a411 : AFunc :=
  ⟨6, [p6n0, p6n1], [(p6n4, none)], false, (.seq (.reg [⟨(some p6n4), none, (.mv (.c (.bool false)))⟩]) (.seq (.seq (.reg [⟨(some p6n6), none, (.mv (.t p6n0))⟩, ⟨(some p6n7), none, (.len false (.t p6n6))⟩, ⟨(some p6n8), none, (.mv (.t p6n1))⟩, ⟨(some p6n9), none, (.len false (.t p6n8))⟩, ⟨(some p6n10), none, (.bin .neq (.t p6n7) (.t p6n9))⟩]) (.cond (.t p6n10) (.seq (.reg [⟨(some p6n4), none, (.mv (.c (.bool false)))⟩]) .ret) .skip)) (.seq (.seq (.reg [⟨(some p6n11), none, (.mv (.t p6n0))⟩, ⟨(some p6n12), none, (.len false (.t p6n11))⟩, ⟨(some p6n13), none, (.mv (.c (.int .i64 (.ofNat 0))))⟩]) (.block 0 (.loop (.seq (.reg [⟨(some p6n14), none, (.bin .lss (.t p6n13) (.t p6n12))⟩]) (.seq (.cond (.t p6n14) .skip (.exit 0)) (.seq (.block 1 (.seq (.reg [⟨(some p6n15), none, (.mv (.t p6n13))⟩, ⟨(some p6n5), none, (.mv (.t p6n15))⟩]) (.seq (.regd [(.pure, ⟨(some p6n16), none, (.mv (.t p6n0))⟩), (.pure, ⟨(some p6n17), none, (.mv (.t p6n5))⟩), (.pure, ⟨(some p6n18), none, (.iaddr 1 (.t p6n16) (.t p6n17))⟩), (.load, ⟨(some p6n19), none, (.ld1 (.t p6n18))⟩), (.pure, ⟨(some p6n20), none, (.mv (.t p6n1))⟩), (.pure, ⟨(some p6n21), none, (.mv (.t p6n5))⟩), (.pure, ⟨(some p6n22), none, (.iaddr 1 (.t p6n20) (.t p6n21))⟩), (.load, ⟨(some p6n23), none, (.ld1 (.t p6n22))⟩)] [⟨(some p6n24), none, (.bin .neq (.t p6n19) (.t p6n23))⟩]) (.cond (.t p6n24) (.seq (.reg [⟨(some p6n4), none, (.mv (.c (.bool false)))⟩]) .ret) .skip)))) (.reg [⟨(some p6n25), none, (.bin .add (.t p6n13) (.c (.int .i64 (.ofNat 1))))⟩, ⟨(some p6n13), none, (.mv (.t p6n25))⟩]))))))) (.seq (.reg [⟨(some p6n4), none, (.mv (.c (.bool true)))⟩]) .ret))))⟩
noncomputable def a416 : AFunc :=
  ⟨4, [], [(p4n0, none)], false, (.seq (.reg [⟨(some p4n0), none, (.mv (.c .nils))⟩]) (.seq (.reg [⟨(some p4n1), none, (.call 425 [(.c (.str [110, 111, 112, 32, 97, 100, 100, 32, 115, 117, 98, 32, 97, 110, 100, 32, 111, 114, 32, 120, 111, 114, 32, 115, 104, 108, 32, 115, 104, 114, 32, 115, 97, 114, 32, 115, 108, 116, 32, 115, 108, 116, 117, 32, 101, 113, 32, 109, 105, 110, 32, 109, 97, 120, 32, 109, 117, 108, 32, 109, 117, 108, 104, 32, 100, 105, 118, 32, 114, 101, 109, 32, 99, 97, 100, 100, 32, 99, 115, 117, 98, 32, 99, 109, 117, 108, 32, 99, 111, 110, 106, 32, 97, 100, 100, 105, 32, 108, 105, 32, 108, 100, 32, 115, 116, 32, 105, 110, 32, 111, 117, 116, 32, 106, 109, 112, 32, 98, 122, 32, 98, 110, 122, 32, 99, 97, 108, 108, 32, 114, 101, 116, 32, 104, 97, 108, 116]))])⟩, ⟨(some p4n0), none, (.mv (.t p4n1))⟩]) .ret))⟩
noncomputable def a417 : AFunc :=
  ⟨6, [p6n0, p6n1], [(p6n4, none)], false, (.seq (.reg [⟨(some p6n4), none, (.mv (.c (.int .i64 (.ofNat 0))))⟩]) (.seq (.seq (.reg [⟨(some p6n6), none, (.mv (.t p6n0))⟩, ⟨(some p6n7), none, (.len false (.t p6n6))⟩, ⟨(some p6n8), none, (.mv (.c (.int .i64 (.ofNat 0))))⟩]) (.block 0 (.loop (.seq (.reg [⟨(some p6n9), none, (.bin .lss (.t p6n8) (.t p6n7))⟩]) (.seq (.cond (.t p6n9) .skip (.exit 0)) (.seq (.block 1 (.seq (.reg [⟨(some p6n10), none, (.mv (.t p6n8))⟩, ⟨(some p6n5), none, (.mv (.t p6n10))⟩]) (.seq (.reg [⟨(some p6n11), none, (.mv (.t p6n1))⟩, ⟨(some p6n12), none, (.mv (.t p6n0))⟩, ⟨(some p6n13), none, (.mv (.t p6n5))⟩, ⟨(some p6n14), none, (.iaddr 7 (.t p6n12) (.t p6n13))⟩, ⟨(some p6n15), none, (.ldA 7 (.t p6n14))⟩, ⟨(some p6n16), none, (.calld (.t p6n11) [(.t p6n15)])⟩]) (.cond (.t p6n16) (.seq (.reg [⟨(some p6n17), none, (.mv (.t p6n5))⟩, ⟨(some p6n4), none, (.mv (.t p6n17))⟩]) .ret) .skip)))) (.reg [⟨(some p6n18), none, (.bin .add (.t p6n8) (.c (.int .i64 (.ofNat 1))))⟩, ⟨(some p6n8), none, (.mv (.t p6n18))⟩]))))))) (.seq (.reg [⟨(some p6n4), none, (.mv (.c (.int .i64 (.negSucc 0))))⟩]) .ret)))⟩
noncomputable def a418 : AFunc :=
  ⟨4, [p4n0], [(p4n2, none)], false, (.seq (.reg [⟨(some p4n1), none, (.box (.t p4n0))⟩, ⟨(some p4n2), none, (.mv (.c (.bool false)))⟩]) (.seq (.reg [⟨(some p4n3), none, (.ldA 2 (.t p4n1))⟩, ⟨(some p4n4), none, (.call 61 [(.t p4n3)])⟩, ⟨(some p4n5), none, (.un .not (.t p4n4))⟩, ⟨(some p4n2), none, (.mv (.t p4n5))⟩]) .ret))⟩
noncomputable def a419 : AFunc :=
  ⟨4, [p4n0], [(p4n2, none)], true, (.seq (.reg [⟨(some p4n2), none, (.mv (.c .nils))⟩]) (.seq (.seq (.reg [⟨(some p4n3), none, (.mv (.t p4n0))⟩, ⟨(some p4n4), none, (.eqk .slice false (.t p4n3) (.c .nils))⟩]) (.cond (.t p4n4) (.seq (.reg [⟨(some p4n2), none, (.mv (.c .nils))⟩]) .ret) .skip)) (.seq (.reg [⟨(some p4n5), none, (.buildS 1 0 (.str []) [])⟩, ⟨(some p4n6), none, (.mv (.t p4n0))⟩, ⟨(some p4n7), none, (.mem (.app 1 16 (.str [])) [(.t p4n5), (.t p4n6)])⟩, ⟨(some p4n2), none, (.mv (.t p4n7))⟩]) .ret)))⟩
noncomputable def a420 : AFunc :=
  ⟨4, [p4n0, p4n1, p4n2], [], false, (.seq (.reg [⟨(some p4n5), none, (.mv (.t p4n0))⟩]) (.cond (.t p4n5) (.regd [(.load, ⟨(some p4n6), none, (.ld1 (.t p4n2))⟩), (.pure, ⟨(some p4n7), none, (.mv (.t p4n1))⟩), (.iso, ⟨(some p4n8), none, (.call 289 [(.t p4n7)])⟩), (.pure, ⟨(some p4n9), none, (.bin .add (.c (.str [114])) (.t p4n8))⟩), (.pure, ⟨(some p4n10), none, (.buildS 1 1 (.str []) [(0, (.t p4n9))])⟩)] [⟨(some p4n11), none, (.mem (.app 1 16 (.str [])) [(.t p4n6), (.t p4n10)])⟩, ⟨none, none, (.st 1 (.t p4n2) (.t p4n11))⟩]) .skip))⟩
noncomputable def a421 : AFunc :=
  ⟨6, [p6n0], [(p6n2, none)], false, (.seq (.reg [⟨(some p6n1), none, (.box (.t p6n0))⟩, ⟨(some p6n2), none, (.mv (.c (.str [])))⟩]) (.seq (.block 0 (.seq (.reg [⟨(some p6n4), none, (.faddr 5 (.t p6n1))⟩, ⟨(some p6n5), none, (.ld1 (.t p6n4))⟩, ⟨(some p6n6), none, (.bin .eql (.t p6n5) (.c (.str [])))⟩, ⟨(some p6n3), none, (.mv (.t p6n6))⟩]) (.cond (.t p6n3) (.seq (.reg [⟨(some p6n7), none, (.faddr 4 (.t p6n1))⟩, ⟨(some p6n8), none, (.ld1 (.t p6n7))⟩, ⟨(some p6n9), none, (.call 289 [(.t p6n8)])⟩, ⟨(some p6n2), none, (.mv (.t p6n9))⟩]) .ret) (.seq (.reg [⟨(some p6n11), none, (.faddr 4 (.t p6n1))⟩, ⟨(some p6n12), none, (.ld1 (.t p6n11))⟩, ⟨(some p6n13), none, (.bin .gtr (.t p6n12) (.c (.int .i64 (.ofNat 0))))⟩, ⟨(some p6n10), none, (.mv (.t p6n13))⟩]) (.cond (.t p6n10) (.seq (.regd [(.pure, ⟨(some p6n14), none, (.faddr 5 (.t p6n1))⟩), (.load, ⟨(some p6n15), none, (.ld1 (.t p6n14))⟩), (.pure, ⟨(some p6n16), none, (.bin .add (.t p6n15) (.c (.str [43])))⟩), (.pure, ⟨(some p6n17), none, (.faddr 4 (.t p6n1))⟩), (.load, ⟨(some p6n18), none, (.ld1 (.t p6n17))⟩), (.iso, ⟨(some p6n19), none, (.call 289 [(.t p6n18)])⟩)] [⟨(some p6n20), none, (.bin .add (.t p6n16) (.t p6n19))⟩, ⟨(some p6n2), none, (.mv (.t p6n20))⟩]) .ret) (.seq (.reg [⟨(some p6n22), none, (.faddr 4 (.t p6n1))⟩, ⟨(some p6n23), none, (.ld1 (.t p6n22))⟩, ⟨(some p6n24), none, (.bin .lss (.t p6n23) (.c (.int .i64 (.ofNat 0))))⟩, ⟨(some p6n21), none, (.mv (.t p6n24))⟩]) (.cond (.t p6n21) (.seq (.regd [(.pure, ⟨(some p6n25), none, (.faddr 5 (.t p6n1))⟩), (.load, ⟨(some p6n26), none, (.ld1 (.t p6n25))⟩), (.pure, ⟨(some p6n27), none, (.faddr 4 (.t p6n1))⟩), (.load, ⟨(some p6n28), none, (.ld1 (.t p6n27))⟩), (.iso, ⟨(some p6n29), none, (.call 289 [(.t p6n28)])⟩)] [⟨(some p6n30), none, (.bin .add (.t p6n26) (.t p6n29))⟩, ⟨(some p6n2), none, (.mv (.t p6n30))⟩]) .ret) .skip))))))) (.seq (.reg [⟨(some p6n31), none, (.faddr 5 (.t p6n1))⟩, ⟨(some p6n32), none, (.ld1 (.t p6n31))⟩, ⟨(some p6n2), none, (.mv (.t p6n32))⟩]) .ret)))⟩
noncomputable def a425 : AFunc :=
  ⟨77, [p3n0], [(p3n1, none)], false, (.reg [⟨(some p3n1), none, (.mem .flds [(.t p3n0)])⟩])⟩

end M2
end
section
namespace M2
open Go

noncomputable def tab : Tr := (.node 231 a231 (.node 97 a97 (.node 70 a70 (.node 54 a54 (.node 39 a39 (.node 34 a34 (.node 30 a30 (.node 29 a29 .leaf .leaf) (.node 31 a31 .leaf .leaf)) (.node 36 a36 (.node 35 a35 .leaf .leaf) .leaf)) (.node 51 a51 (.node 48 a48 (.node 46 a46 .leaf .leaf) (.node 50 a50 .leaf .leaf)) (.node 53 a53 (.node 52 a52 .leaf .leaf) .leaf))) (.node 64 a64 (.node 61 a61 (.node 57 a57 (.node 55 a55 .leaf .leaf) (.node 60 a60 .leaf .leaf)) (.node 63 a63 (.node 62 a62 .leaf .leaf) .leaf)) (.node 67 a67 (.node 66 a66 (.node 65 a65 .leaf .leaf) .leaf) (.node 69 a69 (.node 68 a68 .leaf .leaf) .leaf)))) (.node 84 a84 (.node 77 a77 (.node 74 a74 (.node 72 a72 (.node 71 a71 .leaf .leaf) (.node 73 a73 .leaf .leaf)) (.node 76 a76 (.node 75 a75 .leaf .leaf) .leaf)) (.node 81 a81 (.node 79 a79 (.node 78 a78 .leaf .leaf) (.node 80 a80 .leaf .leaf)) (.node 83 a83 (.node 82 a82 .leaf .leaf) .leaf))) (.node 91 a91 (.node 88 a88 (.node 86 a86 (.node 85 a85 .leaf .leaf) (.node 87 a87 .leaf .leaf)) (.node 90 a90 (.node 89 a89 .leaf .leaf) .leaf)) (.node 94 a94 (.node 93 a93 (.node 92 a92 .leaf .leaf) .leaf) (.node 96 a96 (.node 95 a95 .leaf .leaf) .leaf))))) (.node 163 a163 (.node 150 a150 (.node 141 a141 (.node 130 a130 (.node 99 a99 (.node 98 a98 .leaf .leaf) (.node 100 a100 .leaf .leaf)) (.node 139 a139 (.node 132 a132 .leaf .leaf) .leaf)) (.node 147 a147 (.node 143 a143 (.node 142 a142 .leaf .leaf) (.node 144 a144 .leaf .leaf)) (.node 149 a149 (.node 148 a148 .leaf .leaf) .leaf))) (.node 157 a157 (.node 154 a154 (.node 152 a152 (.node 151 a151 .leaf .leaf) (.node 153 a153 .leaf .leaf)) (.node 156 a156 (.node 155 a155 .leaf .leaf) .leaf)) (.node 160 a160 (.node 159 a159 (.node 158 a158 .leaf .leaf) .leaf) (.node 162 a162 (.node 161 a161 .leaf .leaf) .leaf)))) (.node 177 a177 (.node 170 a170 (.node 167 a167 (.node 165 a165 (.node 164 a164 .leaf .leaf) (.node 166 a166 .leaf .leaf)) (.node 169 a169 (.node 168 a168 .leaf .leaf) .leaf)) (.node 174 a174 (.node 172 a172 (.node 171 a171 .leaf .leaf) (.node 173 a173 .leaf .leaf)) (.node 176 a176 (.node 175 a175 .leaf .leaf) .leaf))) (.node 206 a206 (.node 181 a181 (.node 179 a179 (.node 178 a178 .leaf .leaf) (.node 180 a180 .leaf .leaf)) (.node 201 a201 (.node 182 a182 .leaf .leaf) .leaf)) (.node 219 a219 (.node 216 a216 (.node 214 a214 .leaf .leaf) .leaf) (.node 230 a230 (.node 222 a222 .leaf .leaf) .leaf)))))) (.node 362 a362 (.node 292 a292 (.node 266 a266 (.node 259 a259 (.node 250 a250 (.node 237 a237 (.node 236 a236 .leaf .leaf) (.node 242 a242 .leaf .leaf)) (.node 256 a256 (.node 254 a254 .leaf .leaf) .leaf)) (.node 263 a263 (.node 261 a261 (.node 260 a260 .leaf .leaf) (.node 262 a262 .leaf .leaf)) (.node 265 a265 (.node 264 a264 .leaf .leaf) .leaf))) (.node 285 a285 (.node 280 a280 (.node 274 a274 (.node 268 a268 .leaf .leaf) (.node 275 a275 .leaf .leaf)) (.node 284 a284 (.node 283 a283 .leaf .leaf) .leaf)) (.node 289 a289 (.node 288 a288 (.node 287 a287 .leaf .leaf) .leaf) (.node 291 a291 (.node 290 a290 .leaf .leaf) .leaf)))) (.node 323 a323 (.node 309 a309 (.node 302 a302 (.node 294 a294 (.node 293 a293 .leaf .leaf) (.node 300 a300 .leaf .leaf)) (.node 304 a304 (.node 303 a303 .leaf .leaf) .leaf)) (.node 313 a313 (.node 311 a311 (.node 310 a310 .leaf .leaf) (.node 312 a312 .leaf .leaf)) (.node 322 a322 (.node 320 a320 .leaf .leaf) .leaf))) (.node 355 a355 (.node 352 a352 (.node 348 a348 (.node 345 a345 .leaf .leaf) (.node 349 a349 .leaf .leaf)) (.node 354 a354 (.node 353 a353 .leaf .leaf) .leaf)) (.node 358 a358 (.node 357 a357 (.node 356 a356 .leaf .leaf) .leaf) (.node 361 a361 (.node 360 a360 .leaf .leaf) .leaf))))) (.node 392 a392 (.node 377 a377 (.node 369 a369 (.node 366 a366 (.node 364 a364 (.node 363 a363 .leaf .leaf) (.node 365 a365 .leaf .leaf)) (.node 368 a368 (.node 367 a367 .leaf .leaf) .leaf)) (.node 374 a374 (.node 372 a372 (.node 370 a370 .leaf .leaf) (.node 373 a373 .leaf .leaf)) (.node 376 a376 (.node 375 a375 .leaf .leaf) .leaf))) (.node 384 a384 (.node 381 a381 (.node 379 a379 (.node 378 a378 .leaf .leaf) (.node 380 a380 .leaf .leaf)) (.node 383 a383 (.node 382 a382 .leaf .leaf) .leaf)) (.node 387 a387 (.node 386 a386 (.node 385 a385 .leaf .leaf) .leaf) (.node 391 a391 (.node 388 a388 .leaf .leaf) .leaf)))) (.node 406 a406 (.node 399 a399 (.node 396 a396 (.node 394 a394 (.node 393 a393 .leaf .leaf) (.node 395 a395 .leaf .leaf)) (.node 398 a398 (.node 397 a397 .leaf .leaf) .leaf)) (.node 403 a403 (.node 401 a401 (.node 400 a400 .leaf .leaf) (.node 402 a402 .leaf .leaf)) (.node 405 a405 (.node 404 a404 .leaf .leaf) .leaf))) (.node 417 a417 (.node 410 a410 (.node 408 a408 (.node 407 a407 .leaf .leaf) (.node 409 a409 .leaf .leaf)) (.node 416 a416 (.node 411 a411 .leaf .leaf) .leaf)) (.node 420 a420 (.node 419 a419 (.node 418 a418 .leaf .leaf) .leaf) (.node 425 a425 (.node 421 a421 .leaf .leaf) .leaf)))))))

end M2
end
section
namespace M2
open Go Go.RowKit

/-! ### Functions of the library whose contracts are known -/

def primJoin : AFunc := ⟨77, [pth 3 0, pth 3 1], [(pth 3 2, none)], false, .reg [⟨some (pth 3 2), none, .mem (.prim 0) [.t (pth 3 0), .t (pth 3 1)]⟩]⟩
def primItoa : AFunc := ⟨77, [pth 3 0], [(pth 3 1, none)], false, .reg [⟨some (pth 3 1), none, .mem (.prim 1) [.t (pth 3 0)]⟩]⟩

def primFields : AFunc := ⟨77, [pth 3 0], [(pth 3 1, none)], false, .reg [⟨some (pth 3 1), none, .mem .flds [.t (pth 3 0)]⟩]⟩

def primSplit : AFunc := ⟨77, [pth 3 0, pth 3 1, pth 3 2, pth 3 3], [(pth 3 4, none)], false, .reg [⟨some (pth 3 4), none, .mem .splt [.t (pth 3 0), .t (pth 3 1), .t (pth 3 2), .t (pth 3 3)]⟩]⟩

def primJoinm : AFunc := ⟨77, [pth 3 0, pth 3 1], [(pth 3 2, none)], false, .reg [⟨some (pth 3 2), none, .mem .joinm [.t (pth 3 0), .t (pth 3 1)]⟩]⟩

theorem ev_reg (tbl : Nat → Option AFunc) (n : Nat) (l : List AO) (F : Fr) (t : T) : ev tbl (n + 1) (.reg l) F t = runOps l (callA tbl (ev tbl n)) F t := rfl
theorem runOps_one (op : AOp) (p : Bits) (call : CallF) (F : Fr) (t : T) : runOps [⟨some p, none, op⟩] call F t = (match op.run call F t with | .ok v t => .norm (F.put p v) t | .fail => .fail) := rfl

theorem prim2 {tbl : Nat → Option AFunc} {n i k : Nat} {args : List AV} {t t' : T} {r : AV} {fn : AFunc} (hfn : fn = ⟨77, [pth 3 0, pth 3 1], [(pth 3 2, none)], false, .reg [⟨some (pth 3 2), none, .mem (.prim k) [.t (pth 3 0), .t (pth 3 1)]⟩]⟩)
    (hi : tbl i = some fn) (h : callA tbl (ev tbl n) i args t = .ok r t') : ∃ x y, args = [x, y] ∧ primA k [x, y] = some r ∧ t' = t.enter.leave false r := by
  unfold callA at h
  rw [hi] at h
  subst hfn
  simp only at h
  match args, h with
  | [x, y], h =>
    refine ⟨x, y, rfl, ?_⟩
    simp only [argsIn] at h
    cases n with
    | zero => cases h
    | succ n =>
      rw [ev_reg, runOps_one] at h
      have e : AOp.run (.mem (.prim k) [.t (pth 3 0), .t (pth 3 1)]) (callA tbl (ev tbl n)) ((Fr.nil.put (pth 3 0) x).put (pth 3 1) y) t.enter = (match primA k [x, y] with | some v => .ok v t.enter | none => .fail) := by
        show memStep (.prim k) [((Fr.nil.put (pth 3 0) x).put (pth 3 1) y).get (pth 3 0), ((Fr.nil.put (pth 3 0) x).put (pth 3 1) y).get (pth 3 1)] t.enter = _
        rw [Fr.get_put, Fr.get_put, Fr.get_put, if_pos rfl, if_pos rfl, if_neg (by decide)]
        rfl
      rw [e] at h
      cases hp : primA k [x, y] with
      | none => rw [hp] at h; cases h
      | some v =>
        rw [hp] at h
        simp only [afterBody, resultsOf, resultOf, packed] at h
        rw [Fr.get_put, if_pos rfl] at h
        cases h
        exact ⟨rfl, rfl⟩
  | [], h => simp [argsIn] at h
  | [_], h => simp [argsIn] at h
  | _ :: _ :: _ :: _, h => simp [argsIn] at h

theorem prim1 {tbl : Nat → Option AFunc} {n i k : Nat} {args : List AV} {t t' : T} {r : AV} {fn : AFunc} (hfn : fn = ⟨77, [pth 3 0], [(pth 3 1, none)], false, .reg [⟨some (pth 3 1), none, .mem (.prim k) [.t (pth 3 0)]⟩]⟩)
    (hi : tbl i = some fn) (h : callA tbl (ev tbl n) i args t = .ok r t') : ∃ x, args = [x] ∧ primA k [x] = some r ∧ t' = t.enter.leave false r := by
  unfold callA at h
  rw [hi] at h
  subst hfn
  simp only at h
  match args, h with
  | [x], h =>
    refine ⟨x, rfl, ?_⟩
    simp only [argsIn] at h
    cases n with
    | zero => cases h
    | succ n =>
      rw [ev_reg, runOps_one] at h
      have e : AOp.run (.mem (.prim k) [.t (pth 3 0)]) (callA tbl (ev tbl n)) (Fr.nil.put (pth 3 0) x) t.enter = (match primA k [x] with | some v => .ok v t.enter | none => .fail) := by
        show memStep (.prim k) [(Fr.nil.put (pth 3 0) x).get (pth 3 0)] t.enter = _
        rw [Fr.get_put, if_pos rfl]
        rfl
      rw [e] at h
      cases hp : primA k [x] with
      | none => rw [hp] at h; cases h
      | some v =>
        rw [hp] at h
        simp only [afterBody, resultsOf, resultOf, packed] at h
        rw [Fr.get_put, if_pos rfl] at h
        cases h
        exact ⟨rfl, rfl⟩
  | [], h => simp [argsIn] at h
  | _ :: _ :: _, h => simp [argsIn] at h

section
variable {P : Program} {M : Maps}

/-- a world in which what was there stands -/
def G.grown (g : G) (w : World) : G := { g with w := w }
theorem le_grown {g : G} {w : World} (h : Below g.w.heap.size g.w w) : g.Le (g.grown w) where
  n := Nat.le_refl _
  ok _ h := h
  new _ h := .inl h
  ρ _ _ := rfl
  ν _ _ := rfl
  size := h.size
  lim b k hb hk := ⟨k, hk, Nat.le_refl _, fun _ _ => cell?_of_heap (h.block b hb)⟩
  oth b hb _ := ⟨rfl, h.block b hb⟩
  os := h.os
  tape := h.tape
  output := h.output
  sz b hb := csize_of_heap (h.block b hb)
theorem sr_grown {g : G} {w : World} {t : T} (h : Below g.w.heap.size g.w w) (hS : SR M g t) : SR M (g.grown w) t where
  n := hS.n
  wf := hS.wf
  okn := hS.okn
  var x o hx := by
    obtain ⟨a, b, c⟩ := hS.var x o hx
    refine ⟨a, b, c.mono (le_grown h) (h.block _ ?_)⟩
    cases c with
    | cells cs b c ty fz hh hz hl hv => exact (getElem?_some_iff.mp hh).1
    | map es b ms clock hh hl hk hv => exact (getElem?_some_iff.mp hh).1
  inj := hS.inj
  ids i en e hi := by
    obtain ⟨a, b, c, ty, fz, c1, c2, c3⟩ := hS.ids i en e hi
    have hb := h.block _ (getElem?_some_iff.mp c1).1
    exact ⟨a, b, c, ty, fz, hb.trans c1, fun off ho => by rw [← c2 off ho]; exact frozen_of_heap hb, c3⟩
  idinj := hS.idinj
  kept := hS.kept.mono (le_grown h)

theorem joinA_eq (sep : List UInt8) (l : List (List UInt8)) : joinA sep l = Lib.join l sep := by
  induction l with
  | nil => rfl
  | cons x l ih =>
    cases l with
    | nil => rw [Lib.join_one]; rfl
    | cons y l =>
      rw [Lib.join_cons]
      show x ++ (sep ++ joinA sep (y :: l)) = _
      rw [ih, Lib.join_cons]
      simp [Lib.joinTail]

theorem strsA_ok : ∀ (es : List AV) (l : List (List UInt8)), strsA es = some l → es = l.map AV.str := by
  intro es
  induction es with
  | nil => intro l h; cases h; rfl
  | cons x es ih =>
    intro l h
    cases x with
    | str s =>
      simp only [strsA] at h
      cases hs : strsA es with
      | none => rw [hs] at h; cases h
      | some r => rw [hs] at h; cases h; rw [ih r hs]; rfl
    | _ => cases h

theorem prim_join {i : Nat} (hgood : Good P (M.fm i))
    (h0 : ∀ (a : Option Addr) (c : Nat) (sep : ByteArray) (w : World), Calls P (M.fm i) #[.slice a 0 c, .string sep] w fun e w' => e = .returned (.string ⟨#[]⟩) ∧ w' = w)
    (h1 : ∀ (bk o c : Nat) (xs : List ByteArray) (sep : ByteArray) (w : World), (∀ (j : Nat) x, xs[j]? = some x → w.cell? ⟨bk, o + j, none⟩ = some (.string x)) → bk < w.heap.size → xs.length ≤ 140737488355328 → xs.length ≤ c →
      (Lib.join (xs.map (·.data.toList)) sep.data.toList).length ≤ 140737488355328 →
      Calls P (M.fm i) #[.slice (some ⟨bk, o, none⟩) xs.length c, .string sep] w fun e w' => e = .returned (.string ⟨(Lib.join (xs.map (·.data.toList)) sep.data.toList).toArray⟩) ∧ Below w.heap.size w w') : PrimAt P M i primJoin := by
  intro tbl n args t r t' hi hr
  obtain ⟨x, y, rfl, hp, rfl⟩ := prim2 rfl hi hr
  refine ⟨hgood, fun g cargs hS hsz hv => ?_⟩
  have hsz2 : cargs.size = 2 := by simpa using hsz
  have vx := hv 0 (by simp)
  have vy := hv 1 (by simp)
  obtain ⟨cx, cy, rfl⟩ : ∃ cx cy, cargs = #[cx, cy] := ⟨cargs[0], cargs[1], by
    apply Array.ext
    · simp [hsz2]
    · intro j h1 h2
      match j, h2 with
      | 0, _ => rfl
      | 1, _ => rfl⟩
  simp only [List.getElem_cons_zero, List.getElem_cons_succ] at vx vy
  have vx : VR M g x cx := vx
  have vy : VR M g y cy := vy
  have none_case : ∀ a c (sep : List UInt8), cx = .slice a 0 c → y = .str sep → r = .str [] → Calls P (M.fm i) #[cx, cy] g.w fun e w' => ∃ v g', e = .returned v ∧ g'.w = w' ∧ g.Le g' ∧ VR M g' r v ∧ SR M g' (t.enter.leave false r) := by
    intro a c sep e1 e2 e3
    subst e1 e2 e3
    cases vy
    refine (h0 a c _ g.w).mono ?_
    rintro e w' ⟨rfl, rfl⟩
    exact ⟨_, g, rfl, rfl, .refl g, .str [], hS.enter.leave _ _⟩
  unfold primA at hp
  split at hp
  · rename_i s e0 e1
    cases e1
    cases hp
    cases vx
    exact none_case _ _ _ rfl rfl rfl
  · rename_i s e0 e1
    cases e1
    cases hp
    cases vx
    exact none_case _ _ _ rfl rfl rfl
  · rename_i id e pos cap fl alt es sep e0 e1
    cases e1
    cases hl : strsA es with
    | none => rw [hl] at hp; cases hp
    | some l =>
      rw [hl] at hp
      simp only at hp
      split at hp
      · rename_i hb
        cases hp
        simp only [Bool.and_eq_true] at hb
        have b1 := Nat.eq_of_beq_eq_true hb.1.1
        have b2 := Nat.le_of_ble_eq_true hb.1.2
        have b3 := Nat.le_of_ble_eq_true hb.2
        subst b1
        have hes := strsA_ok es l hl
        cases vy
        cases vx with
        | sl id e pos cap fl alt es b o ccap vs hid hcc hb' ho hlen hv' hsz' hc hf =>
          have hlen2 : es.length = l.length := by rw [hes]; simp
          have hvs : ∀ j (hj : j < l.length), vs j = .string ⟨l[j].toArray⟩ := by
            intro j hj
            have h := hv' j (by omega)
            have e5 : es[j]'(by omega) = .str l[j] := by simp [hes]
            rw [e5] at h
            generalize vs j = vj at h
            cases h
            rfl
          have hcall := h1 b o ccap (l.map fun s => ⟨s.toArray⟩) ⟨sep.toArray⟩ g.w (by
            intro j x hx
            rw [List.getElem?_map] at hx
            rw [Option.map_eq_some_iff] at hx
            obtain ⟨s, hs, rfl⟩ := hx
            obtain ⟨hj, rfl⟩ := List.getElem?_eq_some_iff.mp hs
            have h := hc j 0 (by omega) (by omega)
            rw [Nat.mul_one, Nat.add_zero, hvs j hj] at h
            exact h) hf.1 (by simp; omega) (by simp; omega) (by
            rw [List.map_map]
            have : (l.map ((fun (x : ByteArray) => x.data.toList) ∘ fun s => (⟨s.toArray⟩ : ByteArray))) = l := by simp [Function.comp_def]
            rw [this, show (⟨sep.toArray⟩ : ByteArray).data.toList = sep by simp, ← joinA_eq]
            omega)
          rw [List.length_map, ← hlen2] at hcall
          refine hcall.mono ?_
          rintro e w' ⟨rfl, hw⟩
          refine ⟨_, g.grown w', rfl, rfl, le_grown hw, ?_, (sr_grown hw hS).enter.leave _ _⟩
          have : (l.map (fun s => (⟨s.toArray⟩ : ByteArray))).map (fun x => x.data.toList) = l := by simp [Function.comp_def]
          rw [this, show (⟨sep.toArray⟩ : ByteArray).data.toList = sep by simp, joinA_eq]
          exact .str _
      · cases hp
  · rename_i e0 e1
    cases e1
  · cases hp

theorem smallA_eq : ∀ n, n < 100 → smallA n = Lib.decDigits n := by
  intro n hn
  unfold Lib.decDigits
  by_cases h : n < 10
  · rw [dif_pos h]
    have : Nat.blt n 10 = true := Nat.ble_eq_true_of_le h
    simp [smallA, this]
  · rw [dif_neg h]
    unfold Lib.decDigits
    have h2 : n / 10 < 10 := by omega
    rw [dif_pos h2]
    have : Nat.blt n 10 = false := by
      cases hc : Nat.blt n 10 with
      | false => rfl
      | true => exact absurd (Nat.le_of_ble_eq_true hc) h
    simp [smallA, this]

theorem prim_itoa {i : Nat} (hgood : Good P (M.fm i))
    (h0 : ∀ (n : Nat) (_ : n < 100) (w : World), Calls P (M.fm i) #[.int .i64 n] w fun e w' => e = .returned (.string ⟨(Lib.decDigits n).toArray⟩) ∧ w' = w) : PrimAt P M i primItoa := by
  intro tbl n args t r t' hi hr
  obtain ⟨x, rfl, hp, rfl⟩ := prim1 rfl hi hr
  refine ⟨hgood, fun g cargs hS hsz hv => ?_⟩
  have hsz1 : cargs.size = 1 := by simpa using hsz
  have vx := hv 0 (by simp)
  obtain ⟨cx, rfl⟩ : ∃ cx, cargs = #[cx] := ⟨cargs[0], by
    apply Array.ext
    · simp [hsz1]
    · intro j h1 h2
      match j, h2 with
      | 0, _ => rfl⟩
  simp only [List.getElem_cons_zero] at vx
  have vx : VR M g x cx := vx
  unfold primA at hp
  split at hp
  · rename_i e0 e1; cases e1
  · rename_i e0 e1; cases e1
  · rename_i e0 e1; cases e1
  · rename_i k m e0 e1
    cases e1
    split at hp
    · rename_i hb
      cases hp
      simp only [Bool.and_eq_true] at hb
      have hk : k = .i64 := by simpa using hb.1
      have hm : m < 100 := Nat.le_of_ble_eq_true hb.2
      subst hk
      cases vx
      refine (h0 m hm g.w).mono ?_
      rintro e w' ⟨rfl, rfl⟩
      refine ⟨_, g, rfl, rfl, .refl g, ?_, hS.enter.leave _ _⟩
      rw [← smallA_eq m hm]
      exact .str _
    · cases hp
  · cases hp

theorem spA_eq (b : UInt8) : spA b = Lib.isSp b := by
  have h : ∀ n : Fin 256, spA (UInt8.ofNat n.val) = Lib.isSp (UInt8.ofNat n.val) := by decide +kernel
  have := h ⟨b.toNat, b.toNat_lt⟩
  simpa using this

theorem fldGo_eq : ∀ (s cur : List UInt8), fldGo cur s = Lib.fieldsGo cur s
  | [], cur => by cases cur <;> rfl
  | b :: l, cur => by
    unfold fldGo Lib.fieldsGo
    rw [spA_eq]
    cases Lib.isSp b with
    | true => cases cur <;> simp [fldGo_eq l []]
    | false => simp [fldGo_eq l (cur ++ [b])]

theorem primf {tbl : Nat → Option AFunc} {n i : Nat} {args : List AV} {t t' : T} {r : AV} (hi : tbl i = some primFields) (h : callA tbl (ev tbl n) i args t = .ok r t') :
    ∃ x v u, args = [x] ∧ memFlds x t.enter = .ok v u ∧ r = v ∧ t' = u.leave false v := by
  unfold callA at h
  rw [hi] at h
  simp only [primFields] at h
  match args, h with
  | [x], h =>
    simp only [argsIn] at h
    cases n with
    | zero => cases h
    | succ n =>
      rw [ev_reg, runOps_one] at h
      have e : AOp.run (.mem .flds [.t (pth 3 0)]) (callA tbl (ev tbl n)) (Fr.nil.put (pth 3 0) x) t.enter = memFlds x t.enter := by
        show memStep .flds [(Fr.nil.put (pth 3 0) x).get (pth 3 0)] t.enter = _
        rw [Fr.get_put, if_pos rfl]
        rfl
      rw [e] at h
      cases hp : memFlds x t.enter with
      | fail => rw [hp] at h; cases h
      | ok v u =>
        rw [hp] at h
        simp only [afterBody, resultsOf, resultOf, packed] at h
        rw [Fr.get_put, if_pos rfl] at h
        cases h
        exact ⟨x, r, u, rfl, hp, rfl, rfl⟩
  | [], h => simp [argsIn] at h
  | _ :: _ :: _, h => simp [argsIn] at h

theorem prim_fields {i : Nat} (hgood : Good P (M.fm i)) {gb : Nat} {e : TypeId} (hk : ∀ c : Nat, c < 256 → M.kb gb c = some (.int .u8 (if Lib.isSp (UInt8.ofNat c) then 1 else 0)))
    (h0 : ∀ (s : ByteArray) (w : World), s.size < 4294967281 → (∀ (j : Nat) b, s.data.toList[j]? = some b → b.toNat < 128) → (∀ c : Nat, c < 256 → w.cell? ⟨gb, c, none⟩ = some (.int .u8 (if Lib.isSp (UInt8.ofNat c) then 1 else 0))) →
      Calls P (M.fm i) #[.string s] w fun ex w' => ex = .returned (.slice (some ⟨w.heap.size, 0, none⟩) (Lib.fields s.data.toList).length (Lib.fields s.data.toList).length) ∧
        w' = w.alloc (.cells ((Lib.fields s.data.toList).map fun l => Value.string ⟨l.toArray⟩).toArray e)) : PrimAt P M i primFields := by
  intro tbl n args t r t' hi hr
  obtain ⟨x, v, u, rfl, hp, rfl, rfl⟩ := primf hi hr
  refine ⟨hgood, fun g cargs hS hsz hv => ?_⟩
  have hsz1 : cargs.size = 1 := by simpa using hsz
  have vx := hv 0 (by simp)
  obtain ⟨cx, rfl⟩ : ∃ cx, cargs = #[cx] := ⟨cargs[0], by
    apply Array.ext
    · simp [hsz1]
    · intro j h1 h2
      match j, h2 with
      | 0, _ => rfl⟩
  simp only [List.getElem_cons_zero] at vx
  have vx : VR M g x cx := vx
  unfold memFlds at hp
  split at hp
  · rename_i s _
    split at hp
    · rename_i hcond
      cases hp
      simp only [Bool.and_eq_true] at hcond
      obtain ⟨⟨c1, c2⟩, -⟩ := hcond
      have c2 : s.length < 1000000 := Nat.le_of_ble_eq_true c2
      cases vx
      have hE : fldGo [] s = Lib.fields s := fldGo_eq s []
      rw [hE]
      have hS1 := hS.enter
      have hcall := h0 ⟨s.toArray⟩ g.w (by simp [ByteArray.size]; omega) (fun j b hb => by
          have hm := List.mem_of_getElem? hb
          have := List.all_eq_true.mp c1 b (by simpa using hm)
          exact Nat.le_of_ble_eq_true this)
        (fun c hc => (hS.kept gb c _ (hk c hc)).2.2)
      refine hcall.mono ?_
      rintro ex w' ⟨rfl, rfl⟩
      simp only []
      generalize hL : Lib.fields s = L
      have hrow : EsR M g 1 (L.map AV.str) (L.map fun l => Value.string ⟨l.toArray⟩).toArray := by
        refine ⟨by simp, fun i => .string ⟨(L.getD i []).toArray⟩, fun i hi => ?_, fun i hi => rfl, fun i j hi hj => ?_⟩
        · have hi' : i < L.length := by simpa using hi
          have e0 : (L.map AV.str)[i] = .str (L.getD i []) := by simp [List.getD, hi']
          rw [e0]
          exact .str _
        · have hi' : i < L.length := by simpa using hi
          have : j = 0 := by omega
          subst this
          simp [Value.cells, List.getD, hi']
      have hsl := EsR.slice hS.hok hrow e L.length 0 L.length true (by simp) (by simp)
      have hnew := hS1.newI (L.map fun l => Value.string ⟨l.toArray⟩).toArray e (L.length * 1) 1 0 (by simp)
      have e2 : (L.map AV.str).length * 1 = L.length * 1 := by simp
      rw [e2, show g.n = t.n from hS.n] at hsl
      have e3 : (L.map AV.str).length = L.length := by simp
      rw [e3] at hsl
      refine ⟨_, g.addRow (L.map fun l => Value.string ⟨l.toArray⟩).toArray e (L.length * 1) 0, rfl, ?_, g.le_addRow hS.hok _ _ _ _, ?_, hnew.leave _ _⟩
      · simp [G.addRow]
      · exact hsl
    · cases hp
  · cases hp

theorem cutGo_eq (c : UInt8) : ∀ (s cur : List UInt8), ∃ x r, Lib.splitK [c] 0 (Lib.count s [c]) s = x :: r ∧ cutGo c.toNat cur s = (cur ++ x) :: r
  | [], cur => ⟨[], [], by simp [Lib.count, Lib.countFrom, Lib.index, Lib.splitK], by simp [cutGo]⟩
  | b :: l, cur => by
    by_cases e : b = c
    · subst e
      obtain ⟨x, r, h1, h2⟩ := cutGo_eq b l []
      refine ⟨[], x :: r, ?_, ?_⟩
      · rw [Lib.count_cons_eq, Nat.add_comm]
        have hi : Lib.index (b :: l) [b] = 0 := by simp [Lib.index]
        unfold Lib.splitK
        rw [hi]
        simp [h1]
      · unfold cutGo
        rw [beq_true rfl]
        simp only [List.append_nil]
        rw [h2]
        simp
    · have en : ¬ b.toNat = c.toNat := fun q => e (UInt8.toNat_inj.mp q)
      obtain ⟨x, r, h1, h2⟩ := cutGo_eq c l (cur ++ [b])
      refine ⟨b :: x, r, ?_, ?_⟩
      · rw [Lib.count_cons_ne b c l e]
        have hp : List.isPrefixOf [c] (b :: l) = false := by
          simp only [List.isPrefixOf, Bool.and_true]
          exact beq_eq_false_iff_ne.mpr (fun q => e q.symm)
        cases hk : Lib.count l [c] with
        | zero =>
          rw [hk] at h1
          unfold Lib.splitK at h1 ⊢
          simp only [List.cons.injEq] at h1
          rw [← h1.1, ← h1.2]
        | succ k =>
          rw [hk] at h1
          have hne : ¬ Lib.index l [c] = -1 := fun q => by rw [Lib.count_miss q] at hk; cases hk
          have hge := Lib.index_ge l [c]
          unfold Lib.splitK at h1 ⊢
          have hb : (Lib.index l [c] == -1) = false := beq_eq_false_iff_ne.mpr hne
          have hi : Lib.index (b :: l) [c] = Lib.index l [c] + 1 := by
            rw [Lib.index, hp, hb]; rfl
          have hb2 : (Lib.index l [c] + 1 == -1) = false := beq_eq_false_iff_ne.mpr (by omega)
          rw [hb] at h1
          rw [hi, hb2]
          simp only [Bool.false_eq_true, if_false, List.cons.injEq, Nat.add_zero, List.length_cons, List.length_nil, Nat.zero_add] at h1 ⊢
          have ht : (Lib.index l [c] + 1).toNat = (Lib.index l [c]).toNat + 1 := by omega
          rw [ht]
          refine ⟨?_, ?_⟩
          · rw [List.take_succ_cons, h1.1]
          · rw [List.drop_succ_cons]; exact h1.2
      · unfold cutGo
        rw [beq_false en]
        simp only
        rw [h2]
        simp

theorem prim4 {tbl : Nat → Option AFunc} {n i : Nat} {args : List AV} {t t' : T} {r : AV} (hi : tbl i = some primSplit) (h : callA tbl (ev tbl n) i args t = .ok r t') :
    ∃ x y z q v u, args = [x, y, z, q] ∧ memSplt x y z q t.enter = .ok v u ∧ r = v ∧ t' = u.leave false v := by
  unfold callA at h
  rw [hi] at h
  simp only [primSplit] at h
  match args, h with
  | [x, y, z, q], h =>
    simp only [argsIn] at h
    cases n with
    | zero => cases h
    | succ n =>
      rw [ev_reg, runOps_one] at h
      have e : AOp.run (.mem .splt [.t (pth 3 0), .t (pth 3 1), .t (pth 3 2), .t (pth 3 3)]) (callA tbl (ev tbl n)) ((((Fr.nil.put (pth 3 0) x).put (pth 3 1) y).put (pth 3 2) z).put (pth 3 3) q) t.enter = memSplt x y z q t.enter := by
        show memStep .splt [((((Fr.nil.put (pth 3 0) x).put (pth 3 1) y).put (pth 3 2) z).put (pth 3 3) q).get (pth 3 0), ((((Fr.nil.put (pth 3 0) x).put (pth 3 1) y).put (pth 3 2) z).put (pth 3 3) q).get (pth 3 1), ((((Fr.nil.put (pth 3 0) x).put (pth 3 1) y).put (pth 3 2) z).put (pth 3 3) q).get (pth 3 2), ((((Fr.nil.put (pth 3 0) x).put (pth 3 1) y).put (pth 3 2) z).put (pth 3 3) q).get (pth 3 3)] t.enter = _
        have e1 : ¬ pth 3 3 = pth 3 0 := by decide
        have e2 : ¬ pth 3 3 = pth 3 1 := by decide
        have e3 : ¬ pth 3 3 = pth 3 2 := by decide
        have e4 : ¬ pth 3 2 = pth 3 0 := by decide
        have e5 : ¬ pth 3 2 = pth 3 1 := by decide
        have e6 : ¬ pth 3 1 = pth 3 0 := by decide
        simp only [Fr.get_put, if_true, if_neg e1, if_neg e2, if_neg e3, if_neg e4, if_neg e5, if_neg e6]
        rfl
      rw [e] at h
      cases hp : memSplt x y z q t.enter with
      | fail => rw [hp] at h; cases h
      | ok v u =>
        rw [hp] at h
        simp only [afterBody, resultsOf, resultOf, packed] at h
        rw [Fr.get_put, if_pos rfl] at h
        cases h
        exact ⟨x, y, z, q, r, u, rfl, hp, rfl, rfl⟩
  | [], h => simp [argsIn] at h
  | [_], h => simp [argsIn] at h
  | [_, _], h => simp [argsIn] at h
  | [_, _, _], h => simp [argsIn] at h
  | _ :: _ :: _ :: _ :: _ :: _, h => simp [argsIn] at h

/-- a row of texts, made -/
theorem strs_row {g : G} {t : T} (hS : SR M g t) (L : List (List UInt8)) (e : TypeId) :
    g.Le (g.addRow (L.map fun l => Value.string ⟨l.toArray⟩).toArray e (L.length * 1) 0) ∧
    VR M (g.addRow (L.map fun l => Value.string ⟨l.toArray⟩).toArray e (L.length * 1) 0) (.sl t.n 1 0 L.length true 0 (L.map AV.str)) (.slice (some ⟨g.w.heap.size, 0, none⟩) L.length L.length) ∧
    ∀ v, SR M (g.addRow (L.map fun l => Value.string ⟨l.toArray⟩).toArray e (L.length * 1) 0) ((t.enter.newI (L.length * 1) 1).leave false v) := by
  have hrow : EsR M g 1 (L.map AV.str) (L.map fun l => Value.string ⟨l.toArray⟩).toArray := by
    refine ⟨by simp, fun i => .string ⟨(L.getD i []).toArray⟩, fun i hi => ?_, fun i hi => rfl, fun i j hi hj => ?_⟩
    · have hi' : i < L.length := by simpa using hi
      have e0 : (L.map AV.str)[i] = .str (L.getD i []) := by simp [List.getD, hi']
      rw [e0]
      exact .str _
    · have hi' : i < L.length := by simpa using hi
      have : j = 0 := by omega
      subst this
      simp [Value.cells, List.getD, hi']
  have hsl := EsR.slice hS.hok hrow e L.length 0 L.length true (by simp) (by simp)
  have hnew := hS.enter.newI (L.map fun l => Value.string ⟨l.toArray⟩).toArray e (L.length * 1) 1 0 (by simp)
  have e2 : (L.map AV.str).length * 1 = L.length * 1 := by simp
  rw [e2, show g.n = t.n from hS.n] at hsl
  have e3 : (L.map AV.str).length = L.length := by simp
  rw [e3] at hsl
  exact ⟨g.le_addRow hS.hok _ _ _ _, hsl, fun v => hnew.leave _ _⟩

theorem prim_split {i : Nat} (hgood : Good P (M.fm i)) {e : TypeId}
    (h0 : ∀ (s : ByteArray) (c : UInt8) (N : Nat) (w : World), s.size < 4294967281 → (N : Int) = min ((Lib.countB s ⟨#[c]⟩ : Int) + 1) ((s.size : Int) + 1) →
      Calls P (M.fm i) #[.string s, .string ⟨#[c]⟩, .int .i64 0, .int .i64 (-1)] w fun ex w' => ex = .returned (.slice (some ⟨w.heap.size, 0, none⟩) (Lib.splitB ⟨#[c]⟩ 0 (N - 1) s).length N) ∧
        w' = w.alloc (.cells (Lib.cellsOf (Lib.splitB ⟨#[c]⟩ 0 (N - 1) s) N) e)) : PrimAt P M i primSplit := by
  intro tbl n args t r t' hi hr
  obtain ⟨x, y, z, q, v, u, rfl, hp, rfl, rfl⟩ := prim4 hi hr
  refine ⟨hgood, fun g cargs hS hsz hv => ?_⟩
  have hsz4 : cargs.size = 4 := by simpa using hsz
  have v0 := hv 0 (by simp)
  have v1 := hv 1 (by simp)
  have v2 := hv 2 (by simp)
  have v3 := hv 3 (by simp)
  obtain ⟨a, b, c, d, rfl⟩ : ∃ a b c d, cargs = #[a, b, c, d] := ⟨cargs[0], cargs[1], cargs[2], cargs[3], by
    apply Array.ext
    · simp [hsz4]
    · intro j h1 h2
      match j, h2 with
      | 0, _ => rfl
      | 1, _ => rfl
      | 2, _ => rfl
      | 3, _ => rfl⟩
  have v0 : VR M g x a := v0
  have v1 : VR M g y b := v1
  have v2 : VR M g z c := v2
  have v3 : VR M g q d := v3
  unfold memSplt at hp
  split at hp
  · rename_i s ch _ _ _ _
    split at hp
    · rename_i hcond
      cases hp
      have c2 : s.length < 1000000000 := Nat.le_of_ble_eq_true hcond
      cases v0
      cases v1
      cases v2
      cases v3
      have hcl := Lib.countB_le ⟨#[ch]⟩ (by simp [ByteArray.size]) _ ⟨s.toArray⟩ (Nat.le_refl _)
      have hcall := h0 ⟨s.toArray⟩ ch (Lib.countB ⟨s.toArray⟩ ⟨#[ch]⟩ + 1) g.w (by simp [ByteArray.size]; omega) (by omega)
      rw [Nat.add_sub_cancel] at hcall
      have hlen := Lib.splitB_all ⟨#[ch]⟩ (by simp [ByteArray.size]) 0 _ ⟨s.toArray⟩ rfl
      obtain ⟨x0, r0, k1, k2⟩ := cutGo_eq ch s []
      have hL : (Lib.splitB ⟨#[ch]⟩ 0 (Lib.countB ⟨s.toArray⟩ ⟨#[ch]⟩) ⟨s.toArray⟩).map (fun x => x.data.toList) = cutGo ch.toNat [] s := by
        rw [Lib.splitB_data, k2, List.nil_append, ← k1]
      have hL2 : (Lib.splitB ⟨#[ch]⟩ 0 (Lib.countB ⟨s.toArray⟩ ⟨#[ch]⟩) ⟨s.toArray⟩) = (cutGo ch.toNat [] s).map fun l => (⟨l.toArray⟩ : ByteArray) := by
        rw [← hL, List.map_map]
        simp [Function.comp_def]
      rw [← hlen, Lib.cellsOf_full, hL2, List.length_map, List.map_map] at hcall
      obtain ⟨q1, q2, q3⟩ := strs_row (M := M) hS (cutGo ch.toNat [] s) e
      refine hcall.mono ?_
      rintro ex w' ⟨rfl, rfl⟩
      exact ⟨_, _, rfl, by simp [G.addRow, Function.comp_def], q1, q2, q3 _⟩
    · cases hp
  · cases hp

def w_cell (w : World) (b o : Nat) : Option Value := w.cell? ⟨b, o, none⟩

theorem primj {tbl : Nat → Option AFunc} {n i : Nat} {args : List AV} {t t' : T} {r : AV} (hi : tbl i = some primJoinm) (h : callA tbl (ev tbl n) i args t = .ok r t') :
    ∃ x y v u, args = [x, y] ∧ memJoin x y t.enter = .ok v u ∧ r = v ∧ t' = u.leave false v := by
  unfold callA at h
  rw [hi] at h
  simp only [primJoinm] at h
  match args, h with
  | [x, y], h =>
    simp only [argsIn] at h
    cases n with
    | zero => cases h
    | succ n =>
      rw [ev_reg, runOps_one] at h
      have e : AOp.run (.mem .joinm [.t (pth 3 0), .t (pth 3 1)]) (callA tbl (ev tbl n)) ((Fr.nil.put (pth 3 0) x).put (pth 3 1) y) t.enter = memJoin x y t.enter := by
        show memStep .joinm [((Fr.nil.put (pth 3 0) x).put (pth 3 1) y).get (pth 3 0), ((Fr.nil.put (pth 3 0) x).put (pth 3 1) y).get (pth 3 1)] t.enter = _
        rw [Fr.get_put, Fr.get_put, Fr.get_put, if_pos rfl, if_pos rfl, if_neg (by decide)]
        rfl
      rw [e] at h
      cases hp : memJoin x y t.enter with
      | fail => rw [hp] at h; cases h
      | ok v u =>
        rw [hp] at h
        simp only [afterBody, resultsOf, resultOf, packed] at h
        rw [Fr.get_put, if_pos rfl] at h
        cases h
        exact ⟨x, y, r, u, rfl, hp, rfl, rfl⟩
  | [], h => simp [argsIn] at h
  | [_], h => simp [argsIn] at h
  | _ :: _ :: _ :: _, h => simp [argsIn] at h

theorem join_old {i : Nat} (hgood : Good P (M.fm i))
    (h0 : ∀ (a : Option Addr) (c : Nat) (sep : ByteArray) (w : World), Calls P (M.fm i) #[.slice a 0 c, .string sep] w fun e w' => e = .returned (.string ⟨#[]⟩) ∧ w' = w)
    (h1 : ∀ (bk o c : Nat) (xs : List ByteArray) (sep : ByteArray) (w : World), (∀ (j : Nat) x, xs[j]? = some x → w.cell? ⟨bk, o + j, none⟩ = some (.string x)) → bk < w.heap.size → xs.length ≤ 140737488355328 → xs.length ≤ c →
      (Lib.join (xs.map (·.data.toList)) sep.data.toList).length ≤ 140737488355328 →
      Calls P (M.fm i) #[.slice (some ⟨bk, o, none⟩) xs.length c, .string sep] w fun e w' => e = .returned (.string ⟨(Lib.join (xs.map (·.data.toList)) sep.data.toList).toArray⟩) ∧ Below w.heap.size w w')
    {x y r : AV} {t : T} (hp : primA 0 [x, y] = some r) {g : G} {cargs : Array Value} (hS : SR M g t) (hsz : cargs.size = 2) (hv : ∀ j (h : j < [x, y].length), VR M g [x, y][j] (cargs.getD j undef)) :
    Calls P (M.fm i) cargs g.w fun e w' => ∃ v g', e = .returned v ∧ g'.w = w' ∧ g.Le g' ∧ VR M g' r v ∧ SR M g' (t.enter.leave false r) := by
  have hP : PrimAt P M i primJoin := prim_join hgood h0 h1
  have hc : callA (fun _ => some primJoin) (ev (fun _ => some primJoin) 1) i [x, y] t = .ok r (t.enter.leave false r) := by
    unfold callA
    simp only [primJoin, argsIn]
    rw [ev_reg, runOps_one]
    have e : AOp.run (.mem (.prim 0) [.t (pth 3 0), .t (pth 3 1)]) (callA (fun _ => some primJoin) (ev (fun _ => some primJoin) 0)) ((Fr.nil.put (pth 3 0) x).put (pth 3 1) y) t.enter = (match primA 0 [x, y] with | some v => .ok v t.enter | none => .fail) := by
      show memStep (.prim 0) [((Fr.nil.put (pth 3 0) x).put (pth 3 1) y).get (pth 3 0), ((Fr.nil.put (pth 3 0) x).put (pth 3 1) y).get (pth 3 1)] t.enter = _
      rw [Fr.get_put, Fr.get_put, Fr.get_put, if_pos rfl, if_pos rfl, if_neg (by decide)]
      rfl
    simp only [primJoin] at e
    rw [e, hp]
    simp only [afterBody, resultsOf, resultOf, packed]
    rw [Fr.get_put, if_pos rfl]
  exact (hP (fun _ => some primJoin) 1 [x, y] t r _ rfl hc).2 g cargs hS (by simpa using hsz) hv

theorem prim_joinm {i : Nat} (hgood : Good P (M.fm i))
    (h0 : ∀ (a : Option Addr) (c : Nat) (sep : ByteArray) (w : World), Calls P (M.fm i) #[.slice a 0 c, .string sep] w fun e w' => e = .returned (.string ⟨#[]⟩) ∧ w' = w)
    (h1 : ∀ (bk o c : Nat) (xs : List ByteArray) (sep : ByteArray) (w : World), (∀ (j : Nat) x, xs[j]? = some x → w.cell? ⟨bk, o + j, none⟩ = some (.string x)) → bk < w.heap.size → xs.length ≤ 140737488355328 → xs.length ≤ c →
      (Lib.join (xs.map (·.data.toList)) sep.data.toList).length ≤ 140737488355328 →
      Calls P (M.fm i) #[.slice (some ⟨bk, o, none⟩) xs.length c, .string sep] w fun e w' => e = .returned (.string ⟨(Lib.join (xs.map (·.data.toList)) sep.data.toList).toArray⟩) ∧ Below w.heap.size w w') : PrimAt P M i primJoinm := by
  intro tbl n args t r t' hi hr
  obtain ⟨x, y, v, u, rfl, hp, rfl, rfl⟩ := primj hi hr
  refine ⟨hgood, fun g cargs hS hsz hv => ?_⟩
  have hsz2 : cargs.size = 2 := by simpa using hsz
  unfold memJoin at hp
  split at hp
  · rename_i yy e pos len cap
    split at hp
    · rename_i cs sp hlk
      split at hp
      · rename_i l hl
        split at hp
        · rename_i hb
          cases hp
          simp only [Bool.and_eq_true] at hb
          obtain ⟨⟨⟨⟨b1, b2⟩, b3⟩, b4⟩, b5⟩ := hb
          have b1 := Nat.eq_of_beq_eq_true b1
          have b2 := Nat.eq_of_beq_eq_true b2
          have b4 := Nat.le_of_ble_eq_true b4
          have b5 := Nat.le_of_ble_eq_true b5
          subst b1
          have hes := strsA_ok _ l hl
          have vx := hv 0 (by simp)
          have vy := hv 1 (by simp)
          obtain ⟨cx, cy, rfl⟩ : ∃ cx cy, cargs = #[cx, cy] := ⟨cargs[0], cargs[1], by
            apply Array.ext
            · simp [hsz2]
            · intro j h1 h2
              match j, h2 with
              | 0, _ => rfl
              | 1, _ => rfl⟩
          have vx : VR M g (.ms yy 1 pos len cap) cx := vx
          have vy : VR M g (.str sp) cy := vy
          obtain ⟨k1, k2, k3⟩ := hS.enter.var yy _ hlk
          cases vy
          generalize hbv : g.ν yy = b at *
          cases vx with
          | ms x e pos len cap ccap hxn hlen hcc hb2 hz =>
            cases k3 with
            | cells cs b c ty fz hh hzz hlc hvv =>
              have hall : ∀ j (hj : j < l.length), w_cell g.w b (pos + j) = some (.string ⟨l[j].toArray⟩) := by
                intro j hj
                have hj2 : pos + j < cs.length := by
                  have h3 := congrArg List.length hes
                  simp only [List.length_take, List.length_drop, List.length_map] at h3
                  omega
                have h4 := hvv (pos + j) hj2
                have h5 : ((cs.drop pos).take len)[j]? = some (.str l[j]) := by rw [hes]; simp [hj]
                rw [List.getElem?_take, if_pos (by omega), List.getElem?_drop, List.getElem?_eq_getElem hj2] at h5
                rw [Option.some.inj h5] at h4
                unfold w_cell
                rw [cells_cell hh (by omega)]
                generalize c.getD (pos + j) undef = vj at h4
                cases h4
                rfl
              have hcall := h1 b pos ccap (l.map fun s => ⟨s.toArray⟩) ⟨sp.toArray⟩ g.w (by
                intro j x hx
                rw [List.getElem?_map, Option.map_eq_some_iff] at hx
                obtain ⟨s, hs, rfl⟩ := hx
                obtain ⟨hj, rfl⟩ := List.getElem?_eq_some_iff.mp hs
                exact hall j hj) (by rw [← hbv]; rw [hbv]; exact (getElem?_some_iff.mp hh).1) (by simp; omega) (by simp; omega) (by
                rw [List.map_map]
                have : (l.map ((fun (x : ByteArray) => x.data.toList) ∘ fun s => (⟨s.toArray⟩ : ByteArray))) = l := by simp [Function.comp_def]
                rw [this, show (⟨sp.toArray⟩ : ByteArray).data.toList = sp by simp, ← joinA_eq]
                omega)
              rw [List.length_map, b2, ← hbv] at hcall
              refine hcall.mono ?_
              rintro e w' ⟨rfl, hw⟩
              refine ⟨_, g.grown w', rfl, rfl, le_grown hw, ?_, (sr_grown hw hS).enter.leave _ _⟩
              have : (l.map (fun s => (⟨s.toArray⟩ : ByteArray))).map (fun x => x.data.toList) = l := by simp [Function.comp_def]
              rw [this, show (⟨sp.toArray⟩ : ByteArray).data.toList = sp by simp, joinA_eq]
              exact .str _
        · cases hp
      · cases hp
    · cases hp
  · split at hp
    · rename_i v0 hv0
      cases hp
      exact join_old hgood h0 h1 hv0 hS hsz2 hv
    · cases hp

theorem Here.prim {im : FuncId → Option Nat} {i : Nat} {a : AFunc} (hd : a.depth = 77) (h : PrimAt P M i a) : Here P M im i a := .inr (.inl ⟨hd, h⟩)

end

end M2
end
section
/-
  DERIVED: THE SHELF's CONTRACTS AT THIS DUMP, IN PLAIN WORDS (tools/lay-plain.mjs out of 'TryzShelf.lean', which tools/lay-shelf.mjs wrote): THE SAME DECLARATIONS UNDER THE SAME NAMES: 'import', 'namespace', 'open', 'def', 'theorem' AND NOTHING ELSE: no command of the shelf's: FOR A HAND-IN. Each laying: the table of numbers ('.._ren') and one theorem, a field a fact of the dump's own or the kernel's comparison; each contract: ONE APPLICATION.
-/
namespace Go.Proofs
open Go.Shelf
def Tryz.lays156_ren : Go.Shelf.Ren := ⟨fun | 156 => 87 | 165 => 108 | 166 => 60 | 169 => 63 | 240 => 105 | 241 => 173 | 276 => 169 | 277 => 222 | n => n, fun | 31 => 22 | 9 => 9 | 3 => 3 | 4 => 4 | 0 => 0 | 20 => 20 | 72 => 118 | 76 => 121 | 70 => 115 | 37 => 116 | 75 => 120 | 127 => 179 | 164 => 225 | 5 => 5 | 80 => 125 | n => n, fun | n => n⟩
theorem Tryz.lays156 : Go.Proofs.Lays.n156 Tryz.prog Tryz.lays156_ren := {
  mixed := by kernel_rfl
  f156 := Tryz.func87.trans (congrArg some (by kernel_rfl))
  f165 := Tryz.func108.trans (congrArg some (by kernel_rfl))
  f166 := Tryz.func60.trans (congrArg some (by kernel_rfl))
  f169 := Tryz.func63.trans (congrArg some (by kernel_rfl))
  f240 := Tryz.func105.trans (congrArg some (by kernel_rfl))
  f241 := Tryz.func173.trans (congrArg some (by kernel_rfl))
  f276 := Tryz.func169.trans (congrArg some (by kernel_rfl))
  f277 := Tryz.func222.trans (congrArg some (by kernel_rfl))
  t0 := Tryz.underlying0
  a0 := Tryz.isAgg0
  z0 := Tryz.sizeOf0
  v0 := Tryz.zeroValue0
  t3 := Tryz.underlying3
  a3 := Tryz.isAgg3
  z3 := Tryz.sizeOf3
  v3 := Tryz.zeroValue3
  t4 := Tryz.underlying4
  a4 := Tryz.isAgg4
  z4 := Tryz.sizeOf4
  v4 := Tryz.zeroValue4
  t9 := Tryz.underlying9
  a9 := Tryz.isAgg9
  z9 := Tryz.sizeOf9
  v9 := Tryz.zeroValue9
  t20 := Tryz.underlying20
  a20 := Tryz.isAgg20
  z20 := Tryz.sizeOf20
  v20 := Tryz.zeroValue20
  t31 := Tryz.underlying22
  a31 := Tryz.isAgg22
  z31 := Tryz.sizeOf22
  v31 := Tryz.zeroValue22
  t37 := Tryz.underlying116
  a37 := Tryz.isAgg116
  z37 := Tryz.sizeOf116
  v37 := Tryz.zeroValue116
  t70 := Tryz.underlying115
  a70 := Tryz.isAgg115
  z70 := Tryz.sizeOf115
  v70 := Tryz.zeroValue115
  t72 := Tryz.underlying118
  a72 := Tryz.isAgg118
  z72 := Tryz.sizeOf118
  v72 := Tryz.zeroValue118
  t75 := Tryz.underlying120
  a75 := Tryz.isAgg120
  z75 := Tryz.sizeOf120
  v75 := Tryz.zeroValue120
  t76 := Tryz.underlying121
  a76 := Tryz.isAgg121
  z76 := Tryz.sizeOf121
  v76 := Tryz.zeroValue121
  t127 := Tryz.underlying179
  a127 := Tryz.isAgg179
  z127 := Tryz.sizeOf179
  v127 := Tryz.zeroValue179
  t164 := Tryz.underlying225
  a164 := Tryz.isAgg225
  z164 := Tryz.sizeOf225
  v164 := Tryz.zeroValue225 }
theorem Tryz.Builder_Extra_156 : Builder.Extra Tryz.prog Tryz.lays156_ren := {
  sizeBuilder := by kernel_rfl
  liesBuilder := by kernel_rfl
  t5 := Tryz.underlying5
  a5 := Tryz.isAgg5
  z5 := Tryz.sizeOf5
  v5 := Tryz.zeroValue5
  infoByte := by kernel_rfl
  cellsByte := by kernel_rfl
  sizeByte := by kernel_rfl
  neB5 := by decide }
open Go.RowKit in
/-- No element: the empty string; the world is as it was. (Whatever the slice's address and capacity: a nil slice too.) (LAID: no walk: one application.) -/
theorem Tryz.strings_Join_none (a : Option Addr) (c : Nat) (sep : ByteArray) (w : World) :
    Calls Tryz.prog 87 #[.slice a 0 c, .string sep] w fun e w' => e = .returned (.string ⟨#[]⟩) ∧ w' = w := Any.strings_Join_none Tryz.lays156 Tryz.Builder_Extra_156 a c sep w
open Go.RowKit in
/-- strings.Join: "Join concatenates the elements of its first argument to create a single string. The separator string sep is placed between elements in the resulting string.": HOWEVER MANY ELEMENTS. Below the heap's end the world is as it was. (LAID: no walk: one application.) -/
theorem Tryz.strings_Join (bk o c : Nat) (xs : List ByteArray) (sep : ByteArray) (w : World) (hcells : ∀ (j : Nat) x, xs[j]? = some x → w.cell? ⟨bk, o + j, none⟩ = some (.string x)) (hbk : bk < w.heap.size) (hN : xs.length ≤ 140737488355328) (hcap : xs.length ≤ c) (hlen : (Lib.join (xs.map (·.data.toList)) sep.data.toList).length ≤ 140737488355328) :
    Calls Tryz.prog 87 #[.slice (some ⟨bk, o, none⟩) xs.length c, .string sep] w fun e w' => e = .returned (.string ⟨(Lib.join (xs.map (·.data.toList)) sep.data.toList).toArray⟩) ∧ Below w.heap.size w w' := Any.strings_Join Tryz.lays156 Tryz.Builder_Extra_156 bk o c xs sep w hcells hbk hN hcap hlen
def Tryz.lays171_ren : Go.Shelf.Ren := ⟨fun | 171 => 110 | 243 => 174 | 246 => 223 | 283 => 247 | 284 => 248 | 285 => 249 | 286 => 250 | 129 => 131 | 317 => 266 | 318 => 267 | 319 => 268 | 320 => 269 | 337 => 275 | 338 => 276 | n => n, fun | 3 => 3 | 9 => 9 | 2 => 2 | 4 => 4 | 171 => 282 | 0 => 0 | 53 => 202 | 37 => 116 | 5 => 5 | 173 => 284 | 212 => 301 | 51 => 200 | 20 => 20 | 213 => 302 | 46 => 139 | 232 => 325 | 233 => 326 | n => n, fun | 17 => 6 | 18 => 8 | 19 => 9 | n => n⟩
theorem Tryz.lays171 : Go.Proofs.Lays.n171 Tryz.prog Tryz.lays171_ren := {
  mixed := by kernel_rfl
  f129 := Tryz.func131.trans (congrArg some (by kernel_rfl))
  f171 := Tryz.func110.trans (congrArg some (by kernel_rfl))
  f243 := Tryz.func174.trans (congrArg some (by kernel_rfl))
  f246 := Tryz.func223.trans (congrArg some (by kernel_rfl))
  f283 := Tryz.func247.trans (congrArg some (by kernel_rfl))
  f284 := Tryz.func248.trans (congrArg some (by kernel_rfl))
  f285 := Tryz.func249.trans (congrArg some (by kernel_rfl))
  f286 := Tryz.func250.trans (congrArg some (by kernel_rfl))
  f317 := Tryz.func266.trans (congrArg some (by kernel_rfl))
  f318 := Tryz.func267.trans (congrArg some (by kernel_rfl))
  f319 := Tryz.func268.trans (congrArg some (by kernel_rfl))
  f320 := Tryz.func269.trans (congrArg some (by kernel_rfl))
  f337 := Tryz.func275.trans (congrArg some (by kernel_rfl))
  f338 := Tryz.func276.trans (congrArg some (by kernel_rfl))
  t0 := Tryz.underlying0
  a0 := Tryz.isAgg0
  z0 := Tryz.sizeOf0
  v0 := Tryz.zeroValue0
  t2 := Tryz.underlying2
  a2 := Tryz.isAgg2
  z2 := Tryz.sizeOf2
  v2 := Tryz.zeroValue2
  t3 := Tryz.underlying3
  a3 := Tryz.isAgg3
  z3 := Tryz.sizeOf3
  v3 := Tryz.zeroValue3
  t4 := Tryz.underlying4
  a4 := Tryz.isAgg4
  z4 := Tryz.sizeOf4
  v4 := Tryz.zeroValue4
  t5 := Tryz.underlying5
  a5 := Tryz.isAgg5
  z5 := Tryz.sizeOf5
  v5 := Tryz.zeroValue5
  t9 := Tryz.underlying9
  a9 := Tryz.isAgg9
  z9 := Tryz.sizeOf9
  v9 := Tryz.zeroValue9
  t20 := Tryz.underlying20
  a20 := Tryz.isAgg20
  z20 := Tryz.sizeOf20
  v20 := Tryz.zeroValue20
  t37 := Tryz.underlying116
  a37 := Tryz.isAgg116
  z37 := Tryz.sizeOf116
  v37 := Tryz.zeroValue116
  t46 := Tryz.underlying139
  a46 := Tryz.isAgg139
  z46 := Tryz.sizeOf139
  v46 := Tryz.zeroValue139
  t51 := Tryz.underlying200
  a51 := Tryz.isAgg200
  z51 := Tryz.sizeOf200
  v51 := Tryz.zeroValue200
  t53 := Tryz.underlying202
  a53 := Tryz.isAgg202
  z53 := Tryz.sizeOf202
  v53 := Tryz.zeroValue202
  t171 := Tryz.underlying282
  a171 := Tryz.isAgg282
  z171 := Tryz.sizeOf282
  v171 := Tryz.zeroValue282
  t173 := Tryz.underlying284
  a173 := Tryz.isAgg284
  z173 := Tryz.sizeOf284
  v173 := Tryz.zeroValue284
  t212 := Tryz.underlying301
  a212 := Tryz.isAgg301
  z212 := Tryz.sizeOf301
  v212 := Tryz.zeroValue301
  t213 := Tryz.underlying302
  a213 := Tryz.isAgg302
  z213 := Tryz.sizeOf302
  t232 := Tryz.underlying325
  a232 := Tryz.isAgg325
  z232 := Tryz.sizeOf325
  v232 := Tryz.zeroValue325
  t233 := Tryz.underlying326
  a233 := Tryz.isAgg326
  z233 := Tryz.sizeOf326
  v233 := Tryz.zeroValue326
  g17 := by kernel_rfl
  g18 := by kernel_rfl
  g19 := by kernel_rfl }
open Go.RowKit Go.Sort Go.Lib in
/-- THE ROAD WITHOUT THE TABLE: 0 <= i < 100: NO PREMISE ON THE WORLD, AND THE WORLD IS AS IT WAS: a row that keeps its argument in that range need list no table ('laid = []'). (LAID: no walk: one application.) -/
theorem Tryz.strconv_Itoa_small (i : Nat) (hi : i < 100) (w : World) :
    Calls Tryz.prog 110 #[.int .i64 i] w fun e w' => e = .returned (.string ⟨(Lib.decDigits i).toArray⟩) ∧ w' = w := Any.strconv_Itoa_small Tryz.lays171 i hi w
def Tryz.lays146_ren : Go.Shelf.Ren := ⟨fun | 146 => 48 | 221 => 89 | 268 => 161 | 138 => 162 | 143 => 90 | 195 => 213 | 197 => 214 | 218 => 215 | 219 => 163 | 260 => 239 | 217 => 216 | 225 => 217 | 224 => 218 | 267 => 219 | 266 => 240 | 314 => 241 | n => n, fun | 9 => 9 | 31 => 22 | 3 => 3 | 4 => 4 | 0 => 0 | 105 => 257 | 21 => 21 | 5 => 5 | 46 => 139 | 119 => 289 | 139 => 294 | 138 => 293 | 146 => 227 | 51 => 200 | n => n, fun | 1 => 0 | 3 => 2 | 4 => 3 | n => n⟩
theorem Tryz.lays146 : Go.Proofs.Lays.n146 Tryz.prog Tryz.lays146_ren := {
  mixed := by kernel_rfl
  f138 := Tryz.func162.trans (congrArg some (by kernel_rfl))
  f143 := Tryz.func90.trans (congrArg some (by kernel_rfl))
  f146 := Tryz.func48.trans (congrArg some (by kernel_rfl))
  f195 := Tryz.func213.trans (congrArg some (by kernel_rfl))
  f197 := Tryz.func214.trans (congrArg some (by kernel_rfl))
  f217 := Tryz.func216.trans (congrArg some (by kernel_rfl))
  f218 := Tryz.func215.trans (congrArg some (by kernel_rfl))
  f219 := Tryz.func163.trans (congrArg some (by kernel_rfl))
  f221 := Tryz.func89.trans (congrArg some (by kernel_rfl))
  f224 := Tryz.func218.trans (congrArg some (by kernel_rfl))
  f225 := Tryz.func217.trans (congrArg some (by kernel_rfl))
  f260 := Tryz.func239.trans (congrArg some (by kernel_rfl))
  f266 := Tryz.func240.trans (congrArg some (by kernel_rfl))
  f267 := Tryz.func219.trans (congrArg some (by kernel_rfl))
  f268 := Tryz.func161.trans (congrArg some (by kernel_rfl))
  f314 := Tryz.func241.trans (congrArg some (by kernel_rfl))
  t0 := Tryz.underlying0
  a0 := Tryz.isAgg0
  z0 := Tryz.sizeOf0
  v0 := Tryz.zeroValue0
  t3 := Tryz.underlying3
  a3 := Tryz.isAgg3
  z3 := Tryz.sizeOf3
  v3 := Tryz.zeroValue3
  t4 := Tryz.underlying4
  a4 := Tryz.isAgg4
  z4 := Tryz.sizeOf4
  v4 := Tryz.zeroValue4
  t5 := Tryz.underlying5
  a5 := Tryz.isAgg5
  z5 := Tryz.sizeOf5
  v5 := Tryz.zeroValue5
  t9 := Tryz.underlying9
  a9 := Tryz.isAgg9
  z9 := Tryz.sizeOf9
  v9 := Tryz.zeroValue9
  t21 := Tryz.underlying21
  a21 := Tryz.isAgg21
  z21 := Tryz.sizeOf21
  v21 := Tryz.zeroValue21
  t31 := Tryz.underlying22
  a31 := Tryz.isAgg22
  z31 := Tryz.sizeOf22
  v31 := Tryz.zeroValue22
  t46 := Tryz.underlying139
  a46 := Tryz.isAgg139
  z46 := Tryz.sizeOf139
  v46 := Tryz.zeroValue139
  t51 := Tryz.underlying200
  a51 := Tryz.isAgg200
  z51 := Tryz.sizeOf200
  v51 := Tryz.zeroValue200
  t105 := Tryz.underlying257
  a105 := Tryz.isAgg257
  z105 := Tryz.sizeOf257
  v105 := Tryz.zeroValue257
  t119 := Tryz.underlying289
  a119 := Tryz.isAgg289
  z119 := Tryz.sizeOf289
  t138 := Tryz.underlying293
  a138 := Tryz.isAgg293
  z138 := Tryz.sizeOf293
  v138 := Tryz.zeroValue293
  t139 := Tryz.underlying294
  a139 := Tryz.isAgg294
  z139 := Tryz.sizeOf294
  v139 := Tryz.zeroValue294
  t146 := Tryz.underlying227
  a146 := Tryz.isAgg227
  z146 := Tryz.sizeOf227
  v146 := Tryz.zeroValue227
  g1 := by kernel_rfl
  g3 := by kernel_rfl
  g4 := by kernel_rfl }
open Go.RowKit Go.Lib in
/-- strings.Split. (LAID: no walk: one application.) -/
theorem Tryz.strings_Split (s sep : ByteArray) (m : Int) (w : World) (hs : s.size < 4294967281) (hm : w.cell? ⟨0, 0, none⟩ = some (.int .i64 m)) (h1 : 1 ≤ sep.size) :
    Calls Tryz.prog 48 #[.string s, .string sep] w fun e w' =>
      e = .returned (.slice (some ⟨w.heap.size, 0, none⟩) (Lib.countB s sep + 1) (Lib.countB s sep + 1)) ∧ w' = w.alloc (.cells ((Lib.splitB sep 0 (Lib.countB s sep) s).map Value.string).toArray 9) := Any.strings_Split Tryz.lays146 (by kernel_rfl) s sep m w hs hm h1
def Tryz.lays157_ren : Go.Shelf.Ren := ⟨fun | 157 => 228 | 229 => 258 | 199 => 259 | 261 => 274 | 311 => 279 | 312 => 280 | n => n, fun | 9 => 9 | 31 => 22 | 3 => 3 | 5 => 5 | 4 => 4 | 119 => 289 | 0 => 0 | 40 => 291 | 152 => 304 | 21 => 21 | 154 => 306 | 51 => 200 | 141 => 308 | 196 => 317 | 193 => 314 | 198 => 320 | 49 => 318 | 194 => 315 | 201 => 323 | 226 => 327 | 46 => 139 | 227 => 328 | n => n, fun | 0 => 1 | 6 => 7 | n => n⟩
theorem Tryz.lays157 : Go.Proofs.Lays.n157 Tryz.prog Tryz.lays157_ren := {
  mixed := by kernel_rfl
  f157 := Tryz.func228.trans (congrArg some (by kernel_rfl))
  f199 := Tryz.func259.trans (congrArg some (by kernel_rfl))
  f229 := Tryz.func258.trans (congrArg some (by kernel_rfl))
  f261 := Tryz.func274.trans (congrArg some (by kernel_rfl))
  f311 := Tryz.func279.trans (congrArg some (by kernel_rfl))
  f312 := Tryz.func280.trans (congrArg some (by kernel_rfl))
  t0 := Tryz.underlying0
  a0 := Tryz.isAgg0
  z0 := Tryz.sizeOf0
  v0 := Tryz.zeroValue0
  t3 := Tryz.underlying3
  a3 := Tryz.isAgg3
  z3 := Tryz.sizeOf3
  v3 := Tryz.zeroValue3
  t4 := Tryz.underlying4
  a4 := Tryz.isAgg4
  z4 := Tryz.sizeOf4
  v4 := Tryz.zeroValue4
  t5 := Tryz.underlying5
  a5 := Tryz.isAgg5
  z5 := Tryz.sizeOf5
  v5 := Tryz.zeroValue5
  t9 := Tryz.underlying9
  a9 := Tryz.isAgg9
  z9 := Tryz.sizeOf9
  v9 := Tryz.zeroValue9
  t21 := Tryz.underlying21
  a21 := Tryz.isAgg21
  z21 := Tryz.sizeOf21
  v21 := Tryz.zeroValue21
  t31 := Tryz.underlying22
  a31 := Tryz.isAgg22
  z31 := Tryz.sizeOf22
  v31 := Tryz.zeroValue22
  t40 := Tryz.underlying291
  a40 := Tryz.isAgg291
  z40 := Tryz.sizeOf291
  v40 := Tryz.zeroValue291
  t46 := Tryz.underlying139
  a46 := Tryz.isAgg139
  z46 := Tryz.sizeOf139
  v46 := Tryz.zeroValue139
  t49 := Tryz.underlying318
  a49 := Tryz.isAgg318
  z49 := Tryz.sizeOf318
  v49 := Tryz.zeroValue318
  t51 := Tryz.underlying200
  a51 := Tryz.isAgg200
  z51 := Tryz.sizeOf200
  v51 := Tryz.zeroValue200
  t119 := Tryz.underlying289
  a119 := Tryz.isAgg289
  z119 := Tryz.sizeOf289
  t141 := Tryz.underlying308
  a141 := Tryz.isAgg308
  z141 := Tryz.sizeOf308
  v141 := Tryz.zeroValue308
  t152 := Tryz.underlying304
  a152 := Tryz.isAgg304
  z152 := Tryz.sizeOf304
  v152 := Tryz.zeroValue304
  t154 := Tryz.underlying306
  a154 := Tryz.isAgg306
  z154 := Tryz.sizeOf306
  v154 := Tryz.zeroValue306
  t193 := Tryz.underlying314
  a193 := Tryz.isAgg314
  z193 := Tryz.sizeOf314
  v193 := Tryz.zeroValue314
  t194 := Tryz.underlying315
  a194 := Tryz.isAgg315
  z194 := Tryz.sizeOf315
  v194 := Tryz.zeroValue315
  t196 := Tryz.underlying317
  a196 := Tryz.isAgg317
  z196 := Tryz.sizeOf317
  v196 := Tryz.zeroValue317
  t198 := Tryz.underlying320
  a198 := Tryz.isAgg320
  z198 := Tryz.sizeOf320
  v198 := Tryz.zeroValue320
  t201 := Tryz.underlying323
  a201 := Tryz.isAgg323
  z201 := Tryz.sizeOf323
  v201 := Tryz.zeroValue323
  t226 := Tryz.underlying327
  a226 := Tryz.isAgg327
  z226 := Tryz.sizeOf327
  v226 := Tryz.zeroValue327
  t227 := Tryz.underlying328
  a227 := Tryz.isAgg328
  z227 := Tryz.sizeOf328
  v227 := Tryz.zeroValue328
  g0 := by kernel_rfl
  g6 := by kernel_rfl }
open Go.RowKit Go.Lib in
/-- strings.Fields, the table by 'Lib.TabIs' (as strings.TrimSpace's contract). 'hg': the table's number, by its name: at a dump 'by kernel_rfl'. (LAID: no walk: one application.) -/
theorem Tryz.strings_Fields (s : ByteArray) (w : World) (hs : s.size < 4294967281) (hascii : ∀ (j : Nat) b, s.data.toList[j]? = some b → b.toNat < 128) (htab : Lib.TabIs Tryz.prog w "strings.asciiSpace" .u8 Lib.asciiSpaceTab) :
    Calls Tryz.prog 228 #[.string s] w fun e w' =>
      e = .returned (.slice (some ⟨w.heap.size, 0, none⟩) (Lib.fields s.data.toList).length (Lib.fields s.data.toList).length) ∧ w' = w.alloc (.cells ((Lib.fields s.data.toList).map fun l => Value.string ⟨l.toArray⟩).toArray 9) := Any.strings_Fields Tryz.lays157 (by kernel_rfl) (by kernel_rfl) s w hs hascii htab
end Go.Proofs
end
section
namespace Go.Proofs.YtjeabbfdiiaaoaaGreatDoor
open Go M2

def ims : List Nat := [0, 1, 2, 342, 343, 344, 345, 346, 347, 348, 349, 139, 350, 134, 351, 352, 353, 354, 355, 356, 357, 280, 358, 180, 147, 48, 148, 143, 145, 359, 130, 360, 214, 216, 132, 361, 154, 362, 363, 364, 365, 172, 206, 366, 39, 367, 368, 369, 370, 283, 86, 284, 285, 150, 82, 64, 60, 53, 38, 141, 297, 371, 286, 298, 142, 372, 373, 374, 375, 376, 236, 237, 144, 175, 35, 36, 377, 378, 379, 380, 381, 382, 383, 384, 222, 385, 386, 290, 387, 388, 287, 85, 87, 95, 288, 88, 161, 94, 84, 77, 78, 79, 80, 149, 51, 306, 389, 292, 296, 390, 289, 151, 179, 30, 31, 391, 392, 274, 231, 393, 394, 250, 251, 252, 253, 254, 255, 256, 257, 258, 259, 260, 152, 153, 155, 156, 157, 158, 159, 160, 34, 46, 395, 396, 397, 398, 399, 400, 401, 402, 403, 404, 201, 405, 176, 406, 407, 408, 409, 410, 411, 412, 413, 291, 293, 294, 96, 65, 66, 318, 414, 415, 302, 307, 295, 162, 163, 164, 165, 166, 167, 168, 169, 170, 171, 182, 29, 181, 416, 263, 264, 265, 230, 275, 269, 270, 271, 272, 273, 268, 173, 55, 174, 57, 417, 242, 62, 418, 61, 419, 219, 420, 421, 422, 423, 424, 99, 299, 300, 301, 303, 304, 319, 305, 177, 178, 50, 52, 425, 276, 73, 74, 75, 76, 261, 262, 266, 83, 81, 426, 101, 308, 309, 310, 311, 312, 313, 314, 315, 316, 317, 63, 67, 68, 69, 70, 71, 72, 427, 428, 93, 54, 320, 321, 322, 323, 324, 325, 326, 327, 89, 90, 91, 92, 429, 328, 329, 97, 98, 430, 431, 100, 102, 103, 104, 105, 106, 107, 108, 109, 110, 111, 112, 113, 114, 115, 116, 330, 331, 332, 333, 117, 432, 433, 334, 335, 336, 337, 338, 339, 434, 340, 435, 436, 437, 438, 341, 1000000, 1000002, 1000004, 1000007, 1000009, 1000010, 1000012, 1000014, 1000016, 1000019, 1000020, 1000022, 1000024, 1000026, 1000028, 1000030, 1000032, 1000034, 1000036, 1000038, 1000040, 1000042, 1000044, 1000046, 1000048, 1000050, 1000052, 1000054, 1000056, 1000058, 1000060, 1000062, 1000064, 1000066, 1000068, 1000070, 1000072, 1000074, 1000076, 1000078, 1000080, 1000082, 1000084, 1000086, 1000088, 1000090, 1000092, 1000094, 1000096, 1000098, 1000100, 1000102, 1000104, 1000106, 1000108, 1000110, 1000112, 1000114, 1000116, 1000118, 1000120, 1000122, 1000124, 1000126, 1000128, 1000130, 1000132, 1000134, 1000136, 1000138, 1000140, 1000142, 1000144, 1000146, 1000148, 1000150, 1000152, 1000154, 1000156, 1000158, 1000160, 1000162, 1000164, 1000166, 1000168, 1000170, 1000172, 1000174, 1000176, 1000178, 1000180, 1000182, 1000184, 1000186, 1000188, 1000190, 1000192, 1000194, 1000196, 1000198, 1000200, 1000202, 1000204, 1000206, 1000208, 1000210, 1000212, 1000214, 1000216, 1000218, 1000220, 1000222, 1000224, 1000226, 1000228, 1000230, 1000232, 1000234, 1000236, 1000238, 1000240, 1000242, 1000244, 1000246, 1000248, 1000250, 1000252, 1000254, 1000256, 1000258, 1000260, 1000262, 1000264, 1000266, 1000268, 1000270, 1000272, 1000274, 1000276, 1000278, 1000280, 1000282, 1000284, 1000286, 1000288, 1000290, 1000292, 1000294, 1000296, 1000298, 1000300, 1000302, 1000304, 1000306, 1000308, 1000310, 1000312, 1000314, 1000316, 1000318, 1000320, 1000322, 1000324, 1000326, 1000328, 1000330, 1000332, 1000334, 1000336, 1000338, 1000340, 1000342, 1000344, 1000346, 1000348, 1000350, 1000352, 1000354, 1000356, 1000358, 1000360, 1000363, 1000364, 1000366, 1000368, 1000370, 1000372, 1000374, 1000376, 1000378, 1000380, 1000382, 1000384, 1000386, 1000388, 1000390, 1000392, 1000394, 1000396, 1000398, 1000400, 1000402, 1000404, 1000406, 1000408, 1000410, 1000412, 1000414, 1000416, 1000418, 1000420, 1000422, 1000424, 1000426, 1000428, 1000430, 1000432, 1000434, 1000436, 1000438, 1000440, 1000442, 1000444, 1000446, 1000448, 1000450, 1000452, 1000454, 1000456, 1000458, 1000460, 1000462, 1000464, 1000466, 1000468, 1000470, 1000472, 1000474, 1000476, 1000478, 1000480, 1000482, 1000484, 1000486, 1000488, 1000490, 1000492, 1000494, 1000496, 1000498, 1000500, 1000502, 1000504, 1000506, 1000508, 1000510, 1000512, 1000514, 1000516, 1000518, 1000520, 1000522, 1000524, 1000526, 1000528, 1000530, 1000532, 1000534, 1000536, 1000538, 1000540, 1000542, 1000544, 1000546, 1000548, 1000550, 1000552, 1000554, 1000556, 1000558, 1000560, 1000562, 1000564, 1000566, 1000568, 1000570, 1000572, 1000574, 1000576, 1000578, 1000580, 1000582, 1000584, 1000586, 1000588, 1000590, 1000592, 1000594, 1000596, 1000598, 1000600, 1000602, 1000604, 1000606, 1000608, 1000610, 1000612, 1000614, 1000616, 1000618, 1000620, 1000622, 1000624, 1000626, 1000628, 1000630, 1000632, 1000634, 1000636, 1000638, 1000640, 1000642, 1000644, 1000646, 1000648, 1000650, 1000652, 1000654, 1000656, 1000658, 1000660, 1000662, 1000664, 1000666, 1000668, 1000670, 1000672, 1000674, 1000676, 1000678, 1000680]
def im (f : Nat) : Option Nat := ims[f]?
/-- the table of blanks stays -/
def kb (b o : Nat) : Option Value := if b = 1 ∧ o < 256 then some (.int .u8 (if Lib.isSp (UInt8.ofNat o) then 1 else 0)) else none
def mp : Maps := mapsK ims kb

end Go.Proofs.YtjeabbfdiiaaoaaGreatDoor
end
section
/- The functions of the program compile to those. -/
namespace Go.Proofs.YtjeabbfdiiaaoaaGreatDoor
open Go M2

theorem c29 : cmpF Tryz.prog im 6 false Tryz.f186 = some a29 := by kernel_rfl
theorem c30 : cmpF Tryz.prog im 6 false Tryz.f113 = some a30 := by kernel_rfl
theorem c31 : cmpF Tryz.prog im 6 false Tryz.f114 = some a31 := by kernel_rfl
theorem c34 : cmpF Tryz.prog im 6 false Tryz.f140 = some a34 := by kernel_rfl
theorem c35 : cmpF Tryz.prog im 6 false Tryz.f74 = some a35 := by kernel_rfl
theorem c36 : cmpF Tryz.prog im 6 false Tryz.f75 = some a36 := by kernel_rfl
theorem c39 : cmpF Tryz.prog im 6 false Tryz.f44 = some a39 := by kernel_rfl
theorem c46 : cmpF Tryz.prog im 4 false Tryz.f141 = some a46 := by kernel_rfl
theorem c48 : cmpF Tryz.prog im 8 false Tryz.f25 = some a48 := by kernel_rfl
theorem c50 : cmpF Tryz.prog im 6 false Tryz.f226 = some a50 := by kernel_rfl
theorem c51 : cmpF Tryz.prog im 4 false Tryz.f104 = some a51 := by kernel_rfl
theorem c52 : cmpF Tryz.prog im 4 false Tryz.f227 = some a52 := by kernel_rfl
theorem c53 : cmpF Tryz.prog im 6 false Tryz.f57 = some a53 := by kernel_rfl
theorem c54 : cmpF Tryz.prog im 4 false Tryz.f261 = some a54 := by kernel_rfl
theorem c55 : cmpF Tryz.prog im 6 false Tryz.f201 = some a55 := by kernel_rfl
theorem c57 : cmpF Tryz.prog im 6 false Tryz.f203 = some a57 := by kernel_rfl
theorem c60 : cmpF Tryz.prog im 8 false Tryz.f56 = some a60 := by kernel_rfl
theorem c61 : cmpF Tryz.prog im 4 false Tryz.f208 = some a61 := by kernel_rfl
theorem c62 : cmpF Tryz.prog im 4 false Tryz.f206 = some a62 := by kernel_rfl
theorem c63 : cmpF Tryz.prog im 4 false Tryz.f251 = some a63 := by kernel_rfl
theorem c64 : cmpF Tryz.prog im 4 false Tryz.f55 = some a64 := by kernel_rfl
theorem c65 : cmpF Tryz.prog im 4 false Tryz.f167 = some a65 := by kernel_rfl
theorem c66 : cmpF Tryz.prog im 8 false Tryz.f168 = some a66 := by kernel_rfl
theorem c67 : cmpF Tryz.prog im 6 false Tryz.f252 = some a67 := by kernel_rfl
theorem c68 : cmpF Tryz.prog im 4 false Tryz.f253 = some a68 := by kernel_rfl
theorem c69 : cmpF Tryz.prog im 4 false Tryz.f254 = some a69 := by kernel_rfl
theorem c70 : cmpF Tryz.prog im 6 false Tryz.f255 = some a70 := by kernel_rfl
theorem c71 : cmpF Tryz.prog im 6 false Tryz.f256 = some a71 := by kernel_rfl
theorem c72 : cmpF Tryz.prog im 6 false Tryz.f257 = some a72 := by kernel_rfl
theorem c73 : cmpF Tryz.prog im 6 false Tryz.f230 = some a73 := by kernel_rfl
theorem c74 : cmpF Tryz.prog im 6 false Tryz.f231 = some a74 := by kernel_rfl
theorem c75 : cmpF Tryz.prog im 6 false Tryz.f232 = some a75 := by kernel_rfl
theorem c76 : cmpF Tryz.prog im 4 false Tryz.f233 = some a76 := by kernel_rfl
theorem c77 : cmpF Tryz.prog im 6 false Tryz.f99 = some a77 := by kernel_rfl
theorem c78 : cmpF Tryz.prog im 4 false Tryz.f100 = some a78 := by kernel_rfl
theorem c79 : cmpF Tryz.prog im 4 false Tryz.f101 = some a79 := by kernel_rfl
theorem c80 : cmpF Tryz.prog im 6 false Tryz.f102 = some a80 := by kernel_rfl
theorem c81 : cmpF Tryz.prog im 4 false Tryz.f238 = some a81 := by kernel_rfl
theorem c82 : cmpF Tryz.prog im 6 false Tryz.f54 = some a82 := by kernel_rfl
theorem c83 : cmpF Tryz.prog im 6 false Tryz.f237 = some a83 := by kernel_rfl
theorem c84 : cmpF Tryz.prog im 6 false Tryz.f98 = some a84 := by kernel_rfl
theorem c85 : cmpF Tryz.prog im 6 false Tryz.f91 = some a85 := by kernel_rfl
theorem c86 : cmpF Tryz.prog im 6 false Tryz.f50 = some a86 := by kernel_rfl
theorem c87 : cmpF Tryz.prog im 4 false Tryz.f92 = some a87 := by kernel_rfl
theorem c88 : cmpF Tryz.prog im 4 false Tryz.f95 = some a88 := by kernel_rfl
theorem c89 : cmpF Tryz.prog im 8 false Tryz.f270 = some a89 := by kernel_rfl
theorem c90 : cmpF Tryz.prog im 4 false Tryz.f271 = some a90 := by kernel_rfl
theorem c91 : cmpF Tryz.prog im 6 false Tryz.f272 = some a91 := by kernel_rfl
theorem c92 : cmpF Tryz.prog im 4 false Tryz.f273 = some a92 := by kernel_rfl
theorem c93 : cmpF Tryz.prog im 8 false Tryz.f260 = some a93 := by kernel_rfl
theorem c94 : cmpF Tryz.prog im 4 false Tryz.f97 = some a94 := by kernel_rfl
theorem c95 : cmpF Tryz.prog im 4 false Tryz.f93 = some a95 := by kernel_rfl
theorem c96 : cmpF Tryz.prog im 4 false Tryz.f166 = some a96 := by kernel_rfl
theorem c97 : cmpF Tryz.prog im 6 false Tryz.f277 = some a97 := by kernel_rfl
theorem c98 : cmpF Tryz.prog im 6 false Tryz.f278 = some a98 := by kernel_rfl
theorem c99 : cmpF Tryz.prog im 4 false Tryz.f216 = some a99 := by kernel_rfl
theorem c100 : cmpF Tryz.prog im 4 false Tryz.f281 = some a100 := by kernel_rfl
theorem c130 : cmpF Tryz.prog im 6 true Tryz.f30 = some a130 := by kernel_rfl
theorem c132 : cmpF Tryz.prog im 6 true Tryz.f34 = some a132 := by kernel_rfl
theorem c139 : cmpF Tryz.prog im 8 true Tryz.f11 = some a139 := by kernel_rfl
theorem c141 : cmpF Tryz.prog im 8 false Tryz.f59 = some a141 := by kernel_rfl
theorem c142 : cmpF Tryz.prog im 6 true Tryz.f64 = some a142 := by kernel_rfl
theorem c143 : cmpF Tryz.prog im 4 false Tryz.f27 = some a143 := by kernel_rfl
theorem c144 : cmpF Tryz.prog im 10 true Tryz.f72 = some a144 := by kernel_rfl
theorem c147 : cmpF Tryz.prog im 6 true Tryz.f24 = some a147 := by kernel_rfl
theorem c148 : cmpF Tryz.prog im 4 false Tryz.f26 = some a148 := by kernel_rfl
theorem c149 : cmpF Tryz.prog im 4 false Tryz.f103 = some a149 := by kernel_rfl
theorem c150 : cmpF Tryz.prog im 4 false Tryz.f53 = some a150 := by kernel_rfl
theorem c151 : cmpF Tryz.prog im 8 true Tryz.f111 = some a151 := by kernel_rfl

end Go.Proofs.YtjeabbfdiiaaoaaGreatDoor
end
