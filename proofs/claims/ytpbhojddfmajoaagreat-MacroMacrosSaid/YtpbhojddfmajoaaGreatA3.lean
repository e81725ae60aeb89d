/- General ground for the statement: an abstract machine that the program's code is shown to follow, and the contracts of the functions that the law reaches. Part 3. -/
import Derived.Test.YtpbhojddfmajoaaGreatA2
import Derived.KernelRfl
import Derived.Test.YtpbhojddfmajoaaGreatChecked
set_option linter.unusedVariables false
set_option linter.unusedSimpArgs false
section
/- Compiled functions, printed by a program of mine. -/
namespace M2
open Go

def p10n0 : Bits := .z p9n0
def p10n1 : Bits := .o p9n0
def p10n2 : Bits := .z p9n1
def p10n3 : Bits := .o p9n1
def p10n4 : Bits := .z p9n2
def p10n10 : Bits := .z p9n5
def p10n11 : Bits := .o p9n5
def p10n12 : Bits := .z p9n6
def p10n13 : Bits := .o p9n6
def p10n14 : Bits := .z p9n7
def p10n15 : Bits := .o p9n7
def p10n16 : Bits := .z p9n8
def p10n17 : Bits := .o p9n8
def p10n18 : Bits := .z p9n9
def p10n19 : Bits := .o p9n9
def p10n20 : Bits := .z p9n10
def p10n21 : Bits := .o p9n10
def p10n22 : Bits := .z p9n11
def p10n23 : Bits := .o p9n11
def p10n24 : Bits := .z p9n12
def p10n25 : Bits := .o p9n12
def p10n26 : Bits := .z p9n13
def p10n27 : Bits := .o p9n13
def p10n28 : Bits := .z p9n14
def p10n29 : Bits := .o p9n14
def p10n30 : Bits := .z p9n15
def p10n31 : Bits := .o p9n15
def p10n32 : Bits := .z p9n16
def p10n33 : Bits := .o p9n16
def p10n34 : Bits := .z p9n17
def p10n35 : Bits := .o p9n17
def p10n36 : Bits := .z p9n18
def p10n37 : Bits := .o p9n18
def p10n38 : Bits := .z p9n19
def p10n39 : Bits := .o p9n19
def p10n40 : Bits := .z p9n20
def p10n41 : Bits := .o p9n20
def p10n42 : Bits := .z p9n21
def p10n43 : Bits := .o p9n21
def p10n44 : Bits := .z p9n22
def p10n45 : Bits := .o p9n22
def p10n46 : Bits := .z p9n23
def p10n47 : Bits := .o p9n23
def p10n48 : Bits := .z p9n24
def p10n49 : Bits := .o p9n24
def p10n50 : Bits := .z p9n25
def p10n51 : Bits := .o p9n25
def p10n52 : Bits := .z p9n26
def p10n53 : Bits := .o p9n26
def p10n54 : Bits := .z p9n27
def p10n55 : Bits := .o p9n27
def p10n56 : Bits := .z p9n28
def p10n57 : Bits := .o p9n28
def p10n58 : Bits := .z p9n29
def p10n59 : Bits := .o p9n29
def p10n60 : Bits := .z p9n30
def p10n61 : Bits := .o p9n30
def p10n62 : Bits := .z p9n31
def p10n63 : Bits := .o p9n31
def p10n64 : Bits := .z p9n32
def p10n65 : Bits := .o p9n32
def p10n66 : Bits := .z p9n33
def p10n67 : Bits := .o p9n33
def p10n68 : Bits := .z p9n34
def p10n69 : Bits := .o p9n34
def p10n70 : Bits := .z p9n35
def p10n71 : Bits := .o p9n35
def p10n72 : Bits := .z p9n36
def p10n73 : Bits := .o p9n36
def p10n74 : Bits := .z p9n37
def p10n75 : Bits := .o p9n37
def p10n76 : Bits := .z p9n38
def p10n77 : Bits := .o p9n38
def p10n78 : Bits := .z p9n39
def p10n79 : Bits := .o p9n39
def p10n80 : Bits := .z p9n40
def p10n81 : Bits := .o p9n40
def p10n82 : Bits := .z p9n41
def p10n83 : Bits := .o p9n41
def p10n84 : Bits := .z p9n42
def p10n85 : Bits := .o p9n42
def p10n86 : Bits := .z p9n43
def p10n87 : Bits := .o p9n43
def p10n88 : Bits := .z p9n44
def p10n89 : Bits := .o p9n44
def p10n90 : Bits := .z p9n45
def p10n91 : Bits := .o p9n45
def p10n92 : Bits := .z p9n46
def p10n93 : Bits := .o p9n46
def p10n94 : Bits := .z p9n47
def p10n95 : Bits := .o p9n47
def p10n96 : Bits := .z p9n48
def p10n97 : Bits := .o p9n48
def p10n98 : Bits := .z p9n49
def p10n99 : Bits := .o p9n49
def p10n100 : Bits := .z p9n50
def p10n101 : Bits := .o p9n50
def p10n102 : Bits := .z p9n51
def p10n103 : Bits := .o p9n51
def p10n104 : Bits := .z p9n52
def p10n105 : Bits := .o p9n52
def p10n106 : Bits := .z p9n53
def p10n107 : Bits := .o p9n53
def p10n108 : Bits := .z p9n54
def p10n109 : Bits := .o p9n54
def p10n110 : Bits := .z p9n55
def p10n111 : Bits := .o p9n55
def p10n112 : Bits := .z p9n56
def p10n113 : Bits := .o p9n56
def p10n114 : Bits := .z p9n57
def p10n115 : Bits := .o p9n57
def p10n116 : Bits := .z p9n58
def p10n117 : Bits := .o p9n58
def p10n118 : Bits := .z p9n59
def p10n119 : Bits := .o p9n59
def p10n120 : Bits := .z p9n60
def p10n121 : Bits := .o p9n60
def p10n122 : Bits := .z p9n61
def p10n123 : Bits := .o p9n61
def p10n124 : Bits := .z p9n62
def p10n125 : Bits := .o p9n62
def p10n126 : Bits := .z p9n63
def p10n127 : Bits := .o p9n63
def p10n128 : Bits := .z p9n64
def p10n129 : Bits := .o p9n64
def p10n130 : Bits := .z p9n65
def p10n131 : Bits := .o p9n65
def p10n132 : Bits := .z p9n66
def p10n133 : Bits := .o p9n66
def p10n134 : Bits := .z p9n67
def p10n135 : Bits := .o p9n67
def p10n136 : Bits := .z p9n68
def p10n137 : Bits := .o p9n68
def p10n138 : Bits := .z p9n69
def p10n139 : Bits := .o p9n69
def p10n140 : Bits := .z p9n70
def p10n141 : Bits := .o p9n70
def p10n142 : Bits := .z p9n71
def p10n143 : Bits := .o p9n71
def p10n144 : Bits := .z p9n72
def p10n145 : Bits := .o p9n72
def p10n146 : Bits := .z p9n73
def p10n147 : Bits := .o p9n73
def p10n148 : Bits := .z p9n74
def p10n149 : Bits := .o p9n74
def p10n150 : Bits := .z p9n75
def p10n151 : Bits := .o p9n75
def p10n152 : Bits := .z p9n76
def p10n153 : Bits := .o p9n76
def p10n154 : Bits := .z p9n77
def p10n155 : Bits := .o p9n77
def p10n156 : Bits := .z p9n78
def p10n157 : Bits := .o p9n78
def p10n158 : Bits := .z p9n79
def p10n159 : Bits := .o p9n79
def p10n160 : Bits := .z p9n80
def p10n161 : Bits := .o p9n80
def p10n162 : Bits := .z p9n81
def p10n163 : Bits := .o p9n81
def p10n164 : Bits := .z p9n82
def p10n165 : Bits := .o p9n82
def p10n166 : Bits := .z p9n83
def p10n167 : Bits := .o p9n83
def p10n168 : Bits := .z p9n84
def p10n169 : Bits := .o p9n84
def p10n170 : Bits := .z p9n85
def p10n171 : Bits := .o p9n85
def p10n172 : Bits := .z p9n86
def p10n173 : Bits := .o p9n86
def p10n174 : Bits := .z p9n87
def p10n175 : Bits := .o p9n87
def p10n176 : Bits := .z p9n88
def p10n177 : Bits := .o p9n88
def p10n178 : Bits := .z p9n89
def p10n179 : Bits := .o p9n89
def p10n180 : Bits := .z p9n90
def p10n181 : Bits := .o p9n90
def p10n182 : Bits := .z p9n91
def p10n183 : Bits := .o p9n91
def p10n184 : Bits := .z p9n92
def p10n185 : Bits := .o p9n92
def p10n186 : Bits := .z p9n93
def p10n187 : Bits := .o p9n93
def p10n188 : Bits := .z p9n94
def p10n189 : Bits := .o p9n94
def p10n190 : Bits := .z p9n95
def p10n191 : Bits := .o p9n95
def p10n192 : Bits := .z p9n96
def p10n193 : Bits := .o p9n96
def p10n194 : Bits := .z p9n97
def p10n195 : Bits := .o p9n97
def p10n196 : Bits := .z p9n98
def p10n197 : Bits := .o p9n98
def p10n198 : Bits := .z p9n99
def p10n199 : Bits := .o p9n99
def p10n200 : Bits := .z p9n100
def p10n201 : Bits := .o p9n100
def p10n202 : Bits := .z p9n101
def p10n203 : Bits := .o p9n101
def p10n204 : Bits := .z p9n102
def p10n205 : Bits := .o p9n102
def p10n206 : Bits := .z p9n103
def p10n207 : Bits := .o p9n103
def p10n208 : Bits := .z p9n104
def p10n209 : Bits := .o p9n104
def p10n210 : Bits := .z p9n105
def p10n211 : Bits := .o p9n105
def p10n212 : Bits := .z p9n106
def p10n213 : Bits := .o p9n106
def p10n214 : Bits := .z p9n107
def p10n215 : Bits := .o p9n107
def p10n216 : Bits := .z p9n108
def p10n217 : Bits := .o p9n108
def p10n218 : Bits := .z p9n109
def p10n219 : Bits := .o p9n109
def p10n220 : Bits := .z p9n110
def p10n221 : Bits := .o p9n110
def p10n222 : Bits := .z p9n111
def p10n223 : Bits := .o p9n111
def p10n224 : Bits := .z p9n112
def p10n225 : Bits := .o p9n112
def p10n226 : Bits := .z p9n113
def p10n227 : Bits := .o p9n113
def p10n228 : Bits := .z p9n114
def p10n229 : Bits := .o p9n114
def p10n230 : Bits := .z p9n115
def p10n231 : Bits := .o p9n115
def p10n232 : Bits := .z p9n116
def p10n233 : Bits := .o p9n116
def p10n234 : Bits := .z p9n117
def p10n235 : Bits := .o p9n117
def p10n236 : Bits := .z p9n118
def p10n237 : Bits := .o p9n118
def p10n238 : Bits := .z p9n119
def p10n239 : Bits := .o p9n119
def p10n240 : Bits := .z p9n120
def p10n241 : Bits := .o p9n120
def p10n242 : Bits := .z p9n121
def p10n243 : Bits := .o p9n121
def p10n244 : Bits := .z p9n122
def p10n245 : Bits := .o p9n122
def p10n246 : Bits := .z p9n123
def p10n247 : Bits := .o p9n123
def p10n248 : Bits := .z p9n124
def p10n249 : Bits := .o p9n124
def p10n250 : Bits := .z p9n125
def p10n251 : Bits := .o p9n125
def p10n252 : Bits := .z p9n126
def p10n253 : Bits := .o p9n126
def p10n254 : Bits := .z p9n127
def p10n255 : Bits := .o p9n127
def p10n256 : Bits := .z p9n128
def p10n257 : Bits := .o p9n128
def p10n258 : Bits := .z p9n129
def p10n259 : Bits := .o p9n129
def p10n260 : Bits := .z p9n130
def p10n261 : Bits := .o p9n130
def p10n262 : Bits := .z p9n131
def p10n263 : Bits := .o p9n131
def p10n264 : Bits := .z p9n132
def p10n265 : Bits := .o p9n132
def p10n266 : Bits := .z p9n133
def p10n267 : Bits := .o p9n133
def p10n268 : Bits := .z p9n134
def p10n269 : Bits := .o p9n134
def p10n270 : Bits := .z p9n135
def p10n271 : Bits := .o p9n135
def p10n272 : Bits := .z p9n136
def p10n273 : Bits := .o p9n136
def p10n274 : Bits := .z p9n137
def p10n275 : Bits := .o p9n137
def p10n276 : Bits := .z p9n138
def p10n277 : Bits := .o p9n138
def p10n278 : Bits := .z p9n139
def p10n279 : Bits := .o p9n139
def p10n280 : Bits := .z p9n140
def p10n281 : Bits := .o p9n140
def p10n282 : Bits := .z p9n141
def p10n283 : Bits := .o p9n141
def p10n284 : Bits := .z p9n142
def p10n285 : Bits := .o p9n142
def p10n286 : Bits := .z p9n143
def p10n287 : Bits := .o p9n143
def p10n288 : Bits := .z p9n144
def p10n289 : Bits := .o p9n144
def p10n290 : Bits := .z p9n145
def p10n291 : Bits := .o p9n145
def p10n292 : Bits := .z p9n146
def p10n293 : Bits := .o p9n146
def p10n294 : Bits := .z p9n147
def p10n295 : Bits := .o p9n147
def p10n296 : Bits := .z p9n148
def p10n297 : Bits := .o p9n148
def p10n298 : Bits := .z p9n149
def p10n299 : Bits := .o p9n149
def p10n300 : Bits := .z p9n150
def p10n301 : Bits := .o p9n150
def p10n302 : Bits := .z p9n151
def p10n303 : Bits := .o p9n151
def p10n304 : Bits := .z p9n152
def p10n305 : Bits := .o p9n152
def p10n306 : Bits := .z p9n153
def p10n307 : Bits := .o p9n153
def p10n308 : Bits := .z p9n154
def p10n309 : Bits := .o p9n154
def p10n310 : Bits := .z p9n155
def p10n311 : Bits := .o p9n155
def p10n312 : Bits := .z p9n156
def p10n313 : Bits := .o p9n156
def p10n314 : Bits := .z p9n157
def p10n315 : Bits := .o p9n157
noncomputable def a129 : AFunc :=
  ⟨6, [p6n0], [(p6n2, none)], false, (.seq (.reg [⟨(some p6n2), none, (.mv (.c .nils))⟩]) (.seq (.reg [⟨(some p6n3), none, (.mv (.c .nils))⟩]) (.seq (.seq (.reg [⟨(some p6n4), none, (.mv (.c (.int .i64 (.ofNat 0))))⟩]) (.block 0 (.loop (.seq (.seq (.reg [⟨(some p6n5), none, (.mv (.t p6n4))⟩, ⟨(some p6n6), none, (.mv (.t p6n0))⟩, ⟨(some p6n7), none, (.len false (.t p6n6))⟩, ⟨(some p6n8), none, (.bin .lss (.t p6n5) (.t p6n7))⟩]) (.cond (.t p6n8) .skip (.exit 0))) (.seq (.block 1 (.reg [⟨(some p6n11), none, (.mv (.t p6n3))⟩, ⟨(some p6n12), none, (.mv (.t p6n0))⟩, ⟨(some p6n13), none, (.mv (.t p6n4))⟩, ⟨(some p6n14), none, (.iaddr 3 (.t p6n12) (.t p6n13))⟩, ⟨(some p6n15), none, (.ldA 3 (.t p6n14))⟩, ⟨(some p6n16), none, (.call 140 [(.t p6n15)])⟩, ⟨(some p6n17), none, (.buildS 3 1 (.agg [(.int .i64 (.ofNat 0)), (.str []), .nils]) [(0, (.t p6n16))])⟩, ⟨(some p6n18), none, (.app 3 48 (.agg [(.int .i64 (.ofNat 0)), (.str []), .nils]) (.t p6n11) (.t p6n17))⟩, ⟨(some p6n3), none, (.mv (.t p6n18))⟩])) (.reg [⟨(some p6n9), none, (.mv (.t p6n4))⟩, ⟨(some p6n10), none, (.bin .add (.t p6n9) (.c (.int .i64 (.ofNat 1))))⟩, ⟨(some p6n4), none, (.mv (.t p6n10))⟩])))))) (.seq (.reg [⟨(some p6n19), none, (.mv (.t p6n3))⟩, ⟨(some p6n2), none, (.mv (.t p6n19))⟩]) .ret))))⟩
noncomputable def a130 : AFunc :=
  ⟨6, [p6n0], [(p6n2, none), (p6n3, none), (p6n4, none), (p6n5, none)], true, (.seq (.reg [⟨(some p6n2), none, (.mv (.c .nils))⟩, ⟨(some p6n3), none, (.mv (.c .nils))⟩, ⟨(some p6n4), none, (.mv (.c (.int .i64 (.ofNat 0))))⟩, ⟨(some p6n5), none, (.mv (.c (.int .i64 (.ofNat 0))))⟩]) (.seq (.seq (.reg [⟨(some p6n7), none, (.mv (.t p6n0))⟩, ⟨(some p6n8), none, (.call 141 [(.t p6n7)])⟩, ⟨(some p6n9), none, (.un .not (.t p6n8))⟩]) (.cond (.t p6n9) (.seq (.reg [⟨(some p6n2), none, (.mv (.c .nils))⟩, ⟨(some p6n3), none, (.mv (.c .nils))⟩, ⟨(some p6n4), none, (.mv (.c (.int .i64 (.ofNat 0))))⟩, ⟨(some p6n5), none, (.mv (.c (.int .i64 (.ofNat 1))))⟩]) .ret) .skip)) (.seq (.reg [⟨(some p6n10), none, (.mem .mkmap [])⟩, ⟨(some p6n11), none, (.build [.nils, .nilm, .nils, (.int .i64 (.ofNat 0)), (.int .i64 (.ofNat 0))] [(1, (1, (.t p6n10)))])⟩, ⟨(some p6n12), none, (.box (.t p6n11))⟩, ⟨(some p6n13), none, (.mv (.t p6n0))⟩, ⟨(some p6n14), none, (.build [.nilp, .nils, (.int .i64 (.ofNat 0)), .nils, (.int .i64 (.ofNat 0)), (.int .i64 (.ofNat 0)), .nils] [(0, (1, (.t p6n12))), (1, (1, (.t p6n13)))])⟩, ⟨(some p6n15), none, (.box (.t p6n14))⟩, ⟨(some p6n6), none, (.mv (.t p6n15))⟩]) (.seq (.seq (.reg [⟨(some p6n16), none, (.mv (.t p6n6))⟩, ⟨(some p6n17), none, (.call 142 [(.t p6n16)])⟩, ⟨(some p6n5), none, (.mv (.t p6n17))⟩]) (.seq (.reg [⟨(some p6n18), none, (.mv (.t p6n5))⟩, ⟨(some p6n19), none, (.bin .neq (.t p6n18) (.c (.int .i64 (.ofNat 0))))⟩]) (.cond (.t p6n19) (.seq (.regd [(.pure, ⟨(some p6n20), none, (.mv (.t p6n6))⟩), (.pure, ⟨(some p6n21), none, (.nilck (.t p6n20))⟩), (.pure, ⟨(some p6n22), none, (.faddr 0 (.t p6n21))⟩), (.load, ⟨(some p6n23), none, (.ld1 (.t p6n22))⟩), (.pure, ⟨(some p6n24), none, (.nilck (.t p6n23))⟩), (.pure, ⟨(some p6n25), none, (.faddr 4 (.t p6n24))⟩), (.load, ⟨(some p6n26), none, (.ld1 (.t p6n25))⟩), (.pure, ⟨(some p6n27), none, (.mv (.t p6n5))⟩), (.pure, ⟨(some p6n2), none, (.mv (.c .nils))⟩), (.pure, ⟨(some p6n3), none, (.mv (.c .nils))⟩), (.pure, ⟨(some p6n4), none, (.mv (.t p6n26))⟩)] [⟨(some p6n5), none, (.mv (.t p6n27))⟩]) .ret) .skip))) (.seq (.regd [(.pure, ⟨(some p6n28), none, (.mv (.t p6n6))⟩), (.pure, ⟨(some p6n29), none, (.nilck (.t p6n28))⟩), (.pure, ⟨(some p6n30), none, (.faddr 0 (.t p6n29))⟩), (.load, ⟨(some p6n31), none, (.ld1 (.t p6n30))⟩), (.pure, ⟨(some p6n32), none, (.nilck (.t p6n31))⟩), (.pure, ⟨(some p6n33), none, (.faddr 2 (.t p6n32))⟩), (.load, ⟨(some p6n34), none, (.ld1 (.t p6n33))⟩), (.pure, ⟨(some p6n35), none, (.mv (.t p6n6))⟩), (.pure, ⟨(some p6n36), none, (.nilck (.t p6n35))⟩), (.pure, ⟨(some p6n37), none, (.faddr 0 (.t p6n36))⟩), (.load, ⟨(some p6n38), none, (.ld1 (.t p6n37))⟩), (.pure, ⟨(some p6n39), none, (.nilck (.t p6n38))⟩), (.pure, ⟨(some p6n40), none, (.faddr 0 (.t p6n39))⟩), (.load, ⟨(some p6n41), none, (.ld1 (.t p6n40))⟩), (.pure, ⟨(some p6n2), none, (.mv (.t p6n34))⟩)] [⟨(some p6n3), none, (.mv (.t p6n41))⟩, ⟨(some p6n4), none, (.mv (.c (.int .i64 (.ofNat 0))))⟩, ⟨(some p6n5), none, (.mv (.c (.int .i64 (.ofNat 0))))⟩]) .ret)))))⟩
noncomputable def a131 : AFunc :=
  ⟨8, [p8n0], [(p8n2, none)], false, (.seq (.reg [⟨(some p8n2), none, (.mv (.c (.bool false)))⟩]) (.seq (.seq (.reg [⟨(some p8n3), none, (.mv (.c (.int .i64 (.ofNat 0))))⟩]) (.block 0 (.loop (.seq (.seq (.reg [⟨(some p8n5), none, (.mv (.t p8n3))⟩, ⟨(some p8n6), none, (.mv (.t p8n0))⟩, ⟨(some p8n7), none, (.len false (.t p8n6))⟩, ⟨(some p8n8), none, (.bin .lss (.t p8n5) (.t p8n7))⟩, ⟨(some p8n9), none, (.mv (.t p8n8))⟩, ⟨(some p8n10), (some (p8n9, true)), (.mv (.t p8n3))⟩, ⟨(some p8n11), (some (p8n9, true)), (.bin .leq (.t p8n10) (.c (.int .i64 (.ofNat 300))))⟩, ⟨(some p8n12), none, (.pick (.t p8n9) (.t p8n11) (.c (.bool false)))⟩]) (.cond (.t p8n12) .skip (.exit 0))) (.seq (.block 1 (.seq (.seq (.regd [(.pure, ⟨(some p8n15), none, (.mv (.t p8n0))⟩), (.pure, ⟨(some p8n16), none, (.mv (.t p8n3))⟩), (.pure, ⟨(some p8n17), none, (.iaddr 3 (.t p8n15) (.t p8n16))⟩), (.pure, ⟨(some p8n18), none, (.faddr 1 (.t p8n17))⟩), (.load, ⟨(some p8n19), none, (.ld1 (.t p8n18))⟩), (.pure, ⟨(some p8n20), none, (.bin .neq (.t p8n19) (.c (.str [])))⟩), (.pure, ⟨(some p8n21), none, (.mv (.t p8n20))⟩), (.pure, ⟨(some p8n22), (some (p8n21, true)), (.mv (.t p8n0))⟩), (.pure, ⟨(some p8n23), (some (p8n21, true)), (.mv (.t p8n3))⟩), (.pure, ⟨(some p8n24), (some (p8n21, true)), (.iaddr 3 (.t p8n22) (.t p8n23))⟩), (.pure, ⟨(some p8n25), (some (p8n21, true)), (.faddr 2 (.t p8n24))⟩), (.load, ⟨(some p8n26), (some (p8n21, true)), (.ld1 (.t p8n25))⟩), (.pure, ⟨(some p8n27), (some (p8n21, true)), (.len false (.t p8n26))⟩), (.pure, ⟨(some p8n28), (some (p8n21, true)), (.bin .gtr (.t p8n27) (.c (.int .i64 (.ofNat 38))))⟩), (.pure, ⟨(some p8n29), none, (.pick (.t p8n21) (.t p8n28) (.c (.bool false)))⟩), (.pure, ⟨(some p8n30), none, (.mv (.t p8n29))⟩), (.pure, ⟨(some p8n31), (some (p8n30, false)), (.mv (.t p8n0))⟩), (.pure, ⟨(some p8n32), (some (p8n30, false)), (.mv (.t p8n3))⟩), (.pure, ⟨(some p8n33), (some (p8n30, false)), (.iaddr 3 (.t p8n31) (.t p8n32))⟩), (.pure, ⟨(some p8n34), (some (p8n30, false)), (.faddr 0 (.t p8n33))⟩), (.load, ⟨(some p8n35), (some (p8n30, false)), (.ld1 (.t p8n34))⟩), (.pure, ⟨(some p8n36), (some (p8n30, false)), (.bin .lss (.t p8n35) (.c (.int .i64 (.ofNat 1))))⟩), (.pure, ⟨(some p8n37), none, (.pick (.t p8n30) (.c (.bool true)) (.t p8n36))⟩), (.pure, ⟨(some p8n38), none, (.mv (.t p8n37))⟩), (.pure, ⟨(some p8n39), (some (p8n38, false)), (.mv (.t p8n3))⟩), (.pure, ⟨(some p8n40), (some (p8n38, false)), (.bin .gtr (.t p8n39) (.c (.int .i64 (.ofNat 0))))⟩), (.pure, ⟨(some p8n41), (some (p8n38, false)), (.mv (.t p8n40))⟩), (.pure, ⟨(some p8n42), (some (p8n41, true)), (.mv (.t p8n0))⟩), (.pure, ⟨(some p8n43), (some (p8n41, true)), (.mv (.t p8n3))⟩), (.pure, ⟨(some p8n44), (some (p8n41, true)), (.iaddr 3 (.t p8n42) (.t p8n43))⟩), (.pure, ⟨(some p8n45), (some (p8n41, true)), (.faddr 0 (.t p8n44))⟩), (.load, ⟨(some p8n46), (some (p8n41, true)), (.ld1 (.t p8n45))⟩), (.pure, ⟨(some p8n47), (some (p8n41, true)), (.mv (.t p8n0))⟩), (.pure, ⟨(some p8n48), (some (p8n41, true)), (.mv (.t p8n3))⟩), (.pure, ⟨(some p8n49), (some (p8n41, true)), (.bin .sub (.t p8n48) (.c (.int .i64 (.ofNat 1))))⟩), (.pure, ⟨(some p8n50), (some (p8n41, true)), (.iaddr 3 (.t p8n47) (.t p8n49))⟩), (.pure, ⟨(some p8n51), (some (p8n41, true)), (.faddr 0 (.t p8n50))⟩), (.load, ⟨(some p8n52), (some (p8n41, true)), (.ld1 (.t p8n51))⟩), (.pure, ⟨(some p8n53), (some (p8n41, true)), (.bin .leq (.t p8n46) (.t p8n52))⟩), (.pure, ⟨(some p8n54), (some (p8n38, false)), (.pick (.t p8n41) (.t p8n53) (.c (.bool false)))⟩), (.pure, ⟨(some p8n55), none, (.pick (.t p8n38) (.c (.bool true)) (.t p8n54))⟩), (.pure, ⟨(some p8n56), none, (.mv (.t p8n55))⟩), (.pure, ⟨(some p8n57), (some (p8n56, false)), (.mv (.t p8n0))⟩), (.pure, ⟨(some p8n58), (some (p8n56, false)), (.mv (.t p8n3))⟩), (.pure, ⟨(some p8n59), (some (p8n56, false)), (.iaddr 3 (.t p8n57) (.t p8n58))⟩), (.pure, ⟨(some p8n60), (some (p8n56, false)), (.faddr 1 (.t p8n59))⟩), (.load, ⟨(some p8n61), (some (p8n56, false)), (.ld1 (.t p8n60))⟩), (.pure, ⟨(some p8n62), (some (p8n56, false)), (.bin .neq (.t p8n61) (.c (.str [])))⟩), (.pure, ⟨(some p8n63), (some (p8n56, false)), (.mv (.t p8n62))⟩), (.pure, ⟨(some p8n64), (some (p8n63, true)), (.mv (.t p8n0))⟩), (.pure, ⟨(some p8n65), (some (p8n63, true)), (.mv (.t p8n3))⟩), (.pure, ⟨(some p8n66), (some (p8n63, true)), (.iaddr 3 (.t p8n64) (.t p8n65))⟩), (.pure, ⟨(some p8n67), (some (p8n63, true)), (.faddr 1 (.t p8n66))⟩), (.load, ⟨(some p8n68), (some (p8n63, true)), (.ld1 (.t p8n67))⟩), (.iso, ⟨(some p8n69), (some (p8n63, true)), (.call 53 [(.t p8n68)])⟩), (.pure, ⟨(some p8n70), (some (p8n63, true)), (.un .not (.t p8n69))⟩), (.pure, ⟨(some p8n71), (some (p8n56, false)), (.pick (.t p8n63) (.t p8n70) (.c (.bool false)))⟩), (.pure, ⟨(some p8n72), none, (.pick (.t p8n56) (.c (.bool true)) (.t p8n71))⟩), (.pure, ⟨(some p8n73), none, (.mv (.t p8n72))⟩), (.pure, ⟨(some p8n74), (some (p8n73, false)), (.mv (.t p8n0))⟩), (.pure, ⟨(some p8n75), (some (p8n73, false)), (.mv (.t p8n3))⟩), (.pure, ⟨(some p8n76), (some (p8n73, false)), (.iaddr 3 (.t p8n74) (.t p8n75))⟩), (.pure, ⟨(some p8n77), (some (p8n73, false)), (.faddr 1 (.t p8n76))⟩), (.load, ⟨(some p8n78), (some (p8n73, false)), (.ld1 (.t p8n77))⟩), (.pure, ⟨(some p8n79), (some (p8n73, false)), (.bin .eql (.t p8n78) (.c (.str [])))⟩), (.pure, ⟨(some p8n80), (some (p8n73, false)), (.mv (.t p8n79))⟩), (.pure, ⟨(some p8n81), (some (p8n80, true)), (.mv (.t p8n0))⟩), (.pure, ⟨(some p8n82), (some (p8n80, true)), (.mv (.t p8n3))⟩), (.pure, ⟨(some p8n83), (some (p8n80, true)), (.iaddr 3 (.t p8n81) (.t p8n82))⟩), (.pure, ⟨(some p8n84), (some (p8n80, true)), (.faddr 2 (.t p8n83))⟩), (.load, ⟨(some p8n85), (some (p8n80, true)), (.ld1 (.t p8n84))⟩), (.pure, ⟨(some p8n86), (some (p8n80, true)), (.len false (.t p8n85))⟩), (.pure, ⟨(some p8n87), (some (p8n80, true)), (.bin .eql (.t p8n86) (.c (.int .i64 (.ofNat 0))))⟩), (.pure, ⟨(some p8n88), (some (p8n73, false)), (.pick (.t p8n80) (.t p8n87) (.c (.bool false)))⟩), (.pure, ⟨(some p8n89), none, (.pick (.t p8n73) (.c (.bool true)) (.t p8n88))⟩), (.pure, ⟨(some p8n90), none, (.mv (.t p8n89))⟩), (.pure, ⟨(some p8n91), (some (p8n90, false)), (.mv (.t p8n0))⟩), (.pure, ⟨(some p8n92), (some (p8n90, false)), (.mv (.t p8n3))⟩)] [⟨(some p8n93), (some (p8n90, false)), (.iaddr 3 (.t p8n91) (.t p8n92))⟩, ⟨(some p8n94), (some (p8n90, false)), (.faddr 2 (.t p8n93))⟩, ⟨(some p8n95), (some (p8n90, false)), (.ld1 (.t p8n94))⟩, ⟨(some p8n96), (some (p8n90, false)), (.call 33 [(.t p8n95)])⟩, ⟨(some p8n97), (some (p8n90, false)), (.un .not (.t p8n96))⟩, ⟨(some p8n98), none, (.pick (.t p8n90) (.c (.bool true)) (.t p8n97))⟩]) (.cond (.t p8n98) (.seq (.reg [⟨(some p8n2), none, (.mv (.c (.bool false)))⟩]) .ret) .skip)) (.seq (.reg [⟨(some p8n4), none, (.mv (.c (.int .i64 (.ofNat 0))))⟩]) (.block 2 (.loop (.seq (.seq (.reg [⟨(some p8n99), none, (.mv (.t p8n4))⟩, ⟨(some p8n100), none, (.mv (.t p8n0))⟩, ⟨(some p8n101), none, (.mv (.t p8n3))⟩, ⟨(some p8n102), none, (.iaddr 3 (.t p8n100) (.t p8n101))⟩, ⟨(some p8n103), none, (.faddr 2 (.t p8n102))⟩, ⟨(some p8n104), none, (.ld1 (.t p8n103))⟩, ⟨(some p8n105), none, (.len false (.t p8n104))⟩, ⟨(some p8n106), none, (.bin .lss (.t p8n99) (.t p8n105))⟩]) (.cond (.t p8n106) .skip (.exit 2))) (.seq (.block 3 (.seq (.reg [⟨(some p8n109), none, (.mv (.t p8n0))⟩, ⟨(some p8n110), none, (.mv (.t p8n3))⟩, ⟨(some p8n111), none, (.iaddr 3 (.t p8n109) (.t p8n110))⟩, ⟨(some p8n112), none, (.faddr 2 (.t p8n111))⟩, ⟨(some p8n113), none, (.ld1 (.t p8n112))⟩, ⟨(some p8n114), none, (.mv (.t p8n4))⟩, ⟨(some p8n115), none, (.iaddr 4 (.t p8n113) (.t p8n114))⟩, ⟨(some p8n116), none, (.ldA 4 (.t p8n115))⟩, ⟨(some p8n117), none, (.call 143 [(.t p8n116), (.c (.str [58]))])⟩]) (.cond (.t p8n117) (.seq (.reg [⟨(some p8n2), none, (.mv (.c (.bool false)))⟩]) .ret) .skip))) (.reg [⟨(some p8n107), none, (.mv (.t p8n4))⟩, ⟨(some p8n108), none, (.bin .add (.t p8n107) (.c (.int .i64 (.ofNat 1))))⟩, ⟨(some p8n4), none, (.mv (.t p8n108))⟩])))))))) (.reg [⟨(some p8n13), none, (.mv (.t p8n3))⟩, ⟨(some p8n14), none, (.bin .add (.t p8n13) (.c (.int .i64 (.ofNat 1))))⟩, ⟨(some p8n3), none, (.mv (.t p8n14))⟩])))))) (.seq (.reg [⟨(some p8n118), none, (.mv (.t p8n0))⟩, ⟨(some p8n119), none, (.len false (.t p8n118))⟩, ⟨(some p8n120), none, (.bin .leq (.t p8n119) (.c (.int .i64 (.ofNat 300))))⟩, ⟨(some p8n121), none, (.mv (.t p8n120))⟩, ⟨(some p8n122), (some (p8n121, true)), (.mv (.t p8n0))⟩, ⟨(some p8n123), (some (p8n121, true)), (.len false (.t p8n122))⟩, ⟨(some p8n124), (some (p8n121, true)), (.bin .eql (.t p8n123) (.c (.int .i64 (.ofNat 0))))⟩, ⟨(some p8n125), (some (p8n121, true)), (.mv (.t p8n124))⟩, ⟨(some p8n126), (some (p8n125, false)), (.mv (.t p8n0))⟩, ⟨(some p8n127), (some (p8n125, false)), (.mv (.t p8n0))⟩, ⟨(some p8n128), (some (p8n125, false)), (.len false (.t p8n127))⟩, ⟨(some p8n129), (some (p8n125, false)), (.bin .sub (.t p8n128) (.c (.int .i64 (.ofNat 1))))⟩, ⟨(some p8n130), (some (p8n125, false)), (.iaddr 3 (.t p8n126) (.t p8n129))⟩, ⟨(some p8n131), (some (p8n125, false)), (.faddr 0 (.t p8n130))⟩, ⟨(some p8n132), (some (p8n125, false)), (.ld1 (.t p8n131))⟩, ⟨(some p8n133), (some (p8n125, false)), (.bin .leq (.t p8n132) (.c (.int .i64 (.ofNat 300))))⟩, ⟨(some p8n134), (some (p8n121, true)), (.pick (.t p8n125) (.c (.bool true)) (.t p8n133))⟩, ⟨(some p8n135), none, (.pick (.t p8n121) (.t p8n134) (.c (.bool false)))⟩, ⟨(some p8n2), none, (.mv (.t p8n135))⟩]) .ret)))⟩
noncomputable def a132 : AFunc :=
  ⟨6, [p6n0], [(p6n2, none), (p6n3, none), (p6n4, none), (p6n5, none)], true, (.seq (.reg [⟨(some p6n2), none, (.mv (.c .nils))⟩, ⟨(some p6n3), none, (.mv (.c .nils))⟩, ⟨(some p6n4), none, (.mv (.c (.int .i64 (.ofNat 0))))⟩, ⟨(some p6n5), none, (.mv (.c (.int .i64 (.ofNat 0))))⟩]) (.seq (.reg [⟨(some p6n7), none, (.build [.nils, .nils, .nils, (.int .i64 (.ofNat 0)), (.int .i64 (.ofNat 0)), (.int .i64 (.ofNat 0))] [])⟩, ⟨(some p6n8), none, (.box (.t p6n7))⟩, ⟨(some p6n6), none, (.mv (.t p6n8))⟩]) (.seq (.reg [⟨(some p6n9), none, (.mv (.t p6n6))⟩, ⟨(some p6n10), none, (.mv (.t p6n0))⟩, ⟨(some p6n11), none, (.call 144 [(.t p6n9), (.t p6n10), (.c (.int .i64 (.ofNat 0))), (.c (.int .i64 (.ofNat 0))), (.c .nils)])⟩]) (.seq (.seq (.reg [⟨(some p6n12), none, (.mv (.t p6n6))⟩, ⟨(some p6n13), none, (.nilck (.t p6n12))⟩, ⟨(some p6n14), none, (.faddr 4 (.t p6n13))⟩, ⟨(some p6n15), none, (.ld1 (.t p6n14))⟩, ⟨(some p6n16), none, (.bin .neq (.t p6n15) (.c (.int .i64 (.ofNat 0))))⟩]) (.cond (.t p6n16) (.seq (.regd [(.pure, ⟨(some p6n17), none, (.mv (.t p6n6))⟩), (.pure, ⟨(some p6n18), none, (.nilck (.t p6n17))⟩), (.pure, ⟨(some p6n19), none, (.faddr 5 (.t p6n18))⟩), (.load, ⟨(some p6n20), none, (.ld1 (.t p6n19))⟩), (.pure, ⟨(some p6n21), none, (.mv (.t p6n6))⟩), (.pure, ⟨(some p6n22), none, (.nilck (.t p6n21))⟩), (.pure, ⟨(some p6n23), none, (.faddr 4 (.t p6n22))⟩), (.load, ⟨(some p6n24), none, (.ld1 (.t p6n23))⟩), (.pure, ⟨(some p6n2), none, (.mv (.c .nils))⟩), (.pure, ⟨(some p6n3), none, (.mv (.c .nils))⟩), (.pure, ⟨(some p6n4), none, (.mv (.t p6n20))⟩)] [⟨(some p6n5), none, (.mv (.t p6n24))⟩]) .ret) .skip)) (.seq (.regd [(.pure, ⟨(some p6n25), none, (.mv (.t p6n6))⟩), (.pure, ⟨(some p6n26), none, (.nilck (.t p6n25))⟩), (.pure, ⟨(some p6n27), none, (.faddr 2 (.t p6n26))⟩), (.load, ⟨(some p6n28), none, (.ld1 (.t p6n27))⟩), (.pure, ⟨(some p6n29), none, (.mv (.t p6n6))⟩), (.pure, ⟨(some p6n30), none, (.nilck (.t p6n29))⟩), (.pure, ⟨(some p6n31), none, (.faddr 1 (.t p6n30))⟩), (.load, ⟨(some p6n32), none, (.ld1 (.t p6n31))⟩), (.pure, ⟨(some p6n2), none, (.mv (.t p6n28))⟩)] [⟨(some p6n3), none, (.mv (.t p6n32))⟩, ⟨(some p6n4), none, (.mv (.c (.int .i64 (.ofNat 0))))⟩, ⟨(some p6n5), none, (.mv (.c (.int .i64 (.ofNat 0))))⟩]) .ret)))))⟩
noncomputable def a133 : AFunc :=
  ⟨4, [p4n0], [(p4n2, none)], false, (.seq (.reg [⟨(some p4n2), none, (.mv (.c (.int .i64 (.ofNat 0))))⟩]) (.seq (.reg [⟨(some p4n3), none, (.mv (.t p4n0))⟩, ⟨(some p4n2), none, (.mv (.t p4n3))⟩]) .ret))⟩
noncomputable def a134 : AFunc :=
  ⟨6, [p6n0, p6n1], [(p6n4, none)], false, (.seq (.reg [⟨(some p6n4), none, (.mv (.c (.bool false)))⟩]) (.seq (.seq (.reg [⟨(some p6n6), none, (.mv (.t p6n0))⟩, ⟨(some p6n7), none, (.len false (.t p6n6))⟩, ⟨(some p6n8), none, (.mv (.t p6n1))⟩, ⟨(some p6n9), none, (.len false (.t p6n8))⟩, ⟨(some p6n10), none, (.bin .neq (.t p6n7) (.t p6n9))⟩]) (.cond (.t p6n10) (.seq (.reg [⟨(some p6n4), none, (.mv (.c (.bool false)))⟩]) .ret) .skip)) (.seq (.seq (.reg [⟨(some p6n5), none, (.mv (.c (.int .i64 (.ofNat 0))))⟩]) (.block 0 (.loop (.seq (.seq (.reg [⟨(some p6n11), none, (.mv (.t p6n5))⟩, ⟨(some p6n12), none, (.mv (.t p6n0))⟩, ⟨(some p6n13), none, (.len false (.t p6n12))⟩, ⟨(some p6n14), none, (.bin .lss (.t p6n11) (.t p6n13))⟩]) (.cond (.t p6n14) .skip (.exit 0))) (.seq (.block 1 (.seq (.regd [(.pure, ⟨(some p6n17), none, (.mv (.t p6n0))⟩), (.pure, ⟨(some p6n18), none, (.mv (.t p6n5))⟩), (.pure, ⟨(some p6n19), none, (.iaddr 3 (.t p6n17) (.t p6n18))⟩), (.load, ⟨(some p6n20), none, (.ldA 3 (.t p6n19))⟩), (.pure, ⟨(some p6n21), none, (.mv (.t p6n1))⟩), (.pure, ⟨(some p6n22), none, (.mv (.t p6n5))⟩), (.pure, ⟨(some p6n23), none, (.iaddr 3 (.t p6n21) (.t p6n22))⟩), (.load, ⟨(some p6n24), none, (.ldA 3 (.t p6n23))⟩)] [⟨(some p6n25), none, (.call 145 [(.t p6n20), (.t p6n24)])⟩, ⟨(some p6n26), none, (.un .not (.t p6n25))⟩]) (.cond (.t p6n26) (.seq (.reg [⟨(some p6n4), none, (.mv (.c (.bool false)))⟩]) .ret) .skip))) (.reg [⟨(some p6n15), none, (.mv (.t p6n5))⟩, ⟨(some p6n16), none, (.bin .add (.t p6n15) (.c (.int .i64 (.ofNat 1))))⟩, ⟨(some p6n5), none, (.mv (.t p6n16))⟩])))))) (.seq (.reg [⟨(some p6n4), none, (.mv (.c (.bool true)))⟩]) .ret))))⟩
noncomputable def a135 : AFunc :=
  ⟨6, [p6n0], [], false, (.seq (.reg [⟨(some p6n2), none, (.mv (.c (.int .i64 (.ofNat 0))))⟩]) (.block 0 (.loop (.seq (.seq (.reg [⟨(some p6n3), none, (.mv (.t p6n2))⟩, ⟨(some p6n4), none, (.mv (.t p6n0))⟩, ⟨(some p6n5), none, (.len false (.t p6n4))⟩, ⟨(some p6n6), none, (.bin .lss (.t p6n3) (.t p6n5))⟩]) (.cond (.t p6n6) .skip (.exit 0))) (.seq (.block 1 (.seq (.reg [⟨(some p6n9), none, (.mv (.t p6n0))⟩, ⟨(some p6n10), none, (.mv (.t p6n2))⟩, ⟨(some p6n11), none, (.iaddr 3 (.t p6n9) (.t p6n10))⟩, ⟨(some p6n12), none, (.faddr 2 (.t p6n11))⟩, ⟨(some p6n13), none, (.ld1 (.t p6n12))⟩, ⟨(some p6n14), none, (.call 146 [(.t p6n13)])⟩]) (.reg [⟨(some p6n15), none, (.mv (.t p6n0))⟩, ⟨(some p6n16), none, (.mv (.t p6n2))⟩, ⟨(some p6n17), none, (.build [(.int .i64 (.ofNat 0)), (.str []), .nils] [(0, (1, (.c (.int .i64 (.negSucc 8)))))])⟩, ⟨(some p6n18), none, (.iaddr 3 (.t p6n15) (.t p6n16))⟩, ⟨none, none, (.st 3 (.t p6n18) (.t p6n17))⟩]))) (.reg [⟨(some p6n7), none, (.mv (.t p6n2))⟩, ⟨(some p6n8), none, (.bin .add (.t p6n7) (.c (.int .i64 (.ofNat 1))))⟩, ⟨(some p6n2), none, (.mv (.t p6n8))⟩]))))))⟩
noncomputable def a136 : AFunc :=
  ⟨6, [], [(p6n0, none)], false, (.seq (.reg [⟨(some p6n0), none, (.mv (.c (.bool false)))⟩]) (.seq (.reg [⟨(some p6n9), none, (.call 139 [(.c (.str [46, 105, 102, 32, 48, 10, 120, 10, 46, 101, 108, 115, 101, 10, 121, 10, 46, 101, 110, 100, 105, 102, 10, 46, 101, 113, 117, 32, 97, 44, 32, 51]))])⟩, ⟨(some p6n8), none, (.mv (.t p6n9))⟩, ⟨(some p6n10), none, (.ext (.t p6n8) 0)⟩, ⟨(some p6n11), none, (.ext (.t p6n8) 1)⟩, ⟨(some p6n12), none, (.ext (.t p6n8) 2)⟩, ⟨(some p6n1), none, (.mv (.t p6n10))⟩, ⟨(some p6n2), none, (.mv (.t p6n11))⟩, ⟨(some p6n3), none, (.mv (.t p6n12))⟩]) (.seq (.reg [⟨(some p6n14), none, (.mv (.t p6n1))⟩, ⟨(some p6n15), none, (.call 130 [(.t p6n14)])⟩, ⟨(some p6n13), none, (.mv (.t p6n15))⟩, ⟨(some p6n16), none, (.ext (.t p6n13) 0)⟩, ⟨(some p6n17), none, (.ext (.t p6n13) 1)⟩, ⟨(some p6n18), none, (.ext (.t p6n13) 2)⟩, ⟨(some p6n19), none, (.ext (.t p6n13) 3)⟩, ⟨(some p6n4), none, (.mv (.t p6n16))⟩, ⟨(some p6n5), none, (.mv (.t p6n17))⟩, ⟨(some p6n6), none, (.mv (.t p6n18))⟩, ⟨(some p6n7), none, (.mv (.t p6n19))⟩]) (.seq (.reg [⟨(some p6n20), none, (.mv (.t p6n7))⟩, ⟨(some p6n21), none, (.call 133 [(.t p6n20)])⟩, ⟨(some p6n22), none, (.bin .eql (.t p6n21) (.c (.int .i64 (.ofNat 0))))⟩, ⟨(some p6n23), none, (.mv (.t p6n22))⟩, ⟨(some p6n24), (some (p6n23, true)), (.mv (.t p6n4))⟩, ⟨(some p6n25), (some (p6n23, true)), (.len false (.t p6n24))⟩, ⟨(some p6n26), (some (p6n23, true)), (.bin .eql (.t p6n25) (.c (.int .i64 (.ofNat 1))))⟩, ⟨(some p6n27), none, (.pick (.t p6n23) (.t p6n26) (.c (.bool false)))⟩, ⟨(some p6n28), none, (.mv (.t p6n27))⟩, ⟨(some p6n29), (some (p6n28, true)), (.mv (.t p6n4))⟩, ⟨(some p6n30), (some (p6n28, true)), (.iaddr 3 (.t p6n29) (.c (.int .i64 (.ofNat 0))))⟩, ⟨(some p6n31), (some (p6n28, true)), (.faddr 0 (.t p6n30))⟩, ⟨(some p6n32), (some (p6n28, true)), (.ld1 (.t p6n31))⟩, ⟨(some p6n33), (some (p6n28, true)), (.bin .eql (.t p6n32) (.c (.int .i64 (.ofNat 4))))⟩, ⟨(some p6n34), none, (.pick (.t p6n28) (.t p6n33) (.c (.bool false)))⟩, ⟨(some p6n35), none, (.mv (.t p6n34))⟩, ⟨(some p6n36), (some (p6n35, true)), (.mv (.t p6n5))⟩, ⟨(some p6n37), (some (p6n35, true)), (.len false (.t p6n36))⟩, ⟨(some p6n38), (some (p6n35, true)), (.bin .eql (.t p6n37) (.c (.int .i64 (.ofNat 1))))⟩, ⟨(some p6n39), none, (.pick (.t p6n35) (.t p6n38) (.c (.bool false)))⟩, ⟨(some p6n40), none, (.mv (.t p6n39))⟩, ⟨(some p6n41), (some (p6n40, true)), (.mv (.t p6n5))⟩, ⟨(some p6n42), (some (p6n40, true)), (.iaddr 2 (.t p6n41) (.c (.int .i64 (.ofNat 0))))⟩, ⟨(some p6n43), (some (p6n40, true)), (.faddr 1 (.t p6n42))⟩, ⟨(some p6n44), (some (p6n40, true)), (.ld1 (.t p6n43))⟩, ⟨(some p6n45), (some (p6n40, true)), (.bin .eql (.t p6n44) (.c (.int .i64 (.ofNat 3))))⟩, ⟨(some p6n46), none, (.pick (.t p6n40) (.t p6n45) (.c (.bool false)))⟩, ⟨(some p6n0), none, (.mv (.t p6n46))⟩]) .ret))))⟩
noncomputable def a137 : AFunc :=
  ⟨8, [p8n0], [(p8n2, none)], false, (.seq (.reg [⟨(some p8n2), none, (.mv (.c (.bool false)))⟩]) (.seq (.seq (.reg [⟨(some p8n3), none, (.mv (.c (.int .i64 (.ofNat 0))))⟩]) (.block 0 (.loop (.seq (.seq (.reg [⟨(some p8n15), none, (.mv (.t p8n3))⟩, ⟨(some p8n16), none, (.mv (.t p8n0))⟩, ⟨(some p8n17), none, (.len false (.t p8n16))⟩, ⟨(some p8n18), none, (.bin .lss (.t p8n15) (.t p8n17))⟩]) (.cond (.t p8n18) .skip (.exit 0))) (.seq (.block 1 (.seq (.reg [⟨(some p8n22), none, (.mv (.t p8n0))⟩, ⟨(some p8n23), none, (.mv (.t p8n3))⟩, ⟨(some p8n24), none, (.iaddr 1 (.t p8n22) (.t p8n23))⟩, ⟨(some p8n25), none, (.ld1 (.t p8n24))⟩, ⟨(some p8n26), none, (.call 139 [(.t p8n25)])⟩, ⟨(some p8n21), none, (.mv (.t p8n26))⟩, ⟨(some p8n27), none, (.ext (.t p8n21) 0)⟩, ⟨(some p8n28), none, (.ext (.t p8n21) 1)⟩, ⟨(some p8n29), none, (.ext (.t p8n21) 2)⟩, ⟨(some p8n4), none, (.mv (.t p8n27))⟩, ⟨(some p8n5), none, (.mv (.t p8n28))⟩, ⟨(some p8n6), none, (.mv (.t p8n29))⟩]) (.seq (.seq (.reg [⟨(some p8n30), none, (.mv (.t p8n6))⟩, ⟨(some p8n31), none, (.bin .neq (.t p8n30) (.c (.int .i64 (.ofNat 0))))⟩]) (.cond (.t p8n31) (.seq (.reg [⟨(some p8n2), none, (.mv (.c (.bool false)))⟩]) .ret) .skip)) (.seq (.reg [⟨(some p8n33), none, (.mv (.t p8n4))⟩, ⟨(some p8n34), none, (.call 130 [(.t p8n33)])⟩, ⟨(some p8n32), none, (.mv (.t p8n34))⟩, ⟨(some p8n35), none, (.ext (.t p8n32) 0)⟩, ⟨(some p8n36), none, (.ext (.t p8n32) 1)⟩, ⟨(some p8n37), none, (.ext (.t p8n32) 2)⟩, ⟨(some p8n38), none, (.ext (.t p8n32) 3)⟩, ⟨(some p8n7), none, (.mv (.t p8n35))⟩, ⟨(some p8n8), none, (.mv (.t p8n36))⟩, ⟨(some p8n9), none, (.mv (.t p8n37))⟩, ⟨(some p8n10), none, (.mv (.t p8n38))⟩]) (.seq (.reg [⟨(some p8n40), none, (.mv (.t p8n4))⟩, ⟨(some p8n41), none, (.call 132 [(.t p8n40)])⟩, ⟨(some p8n39), none, (.mv (.t p8n41))⟩, ⟨(some p8n42), none, (.ext (.t p8n39) 0)⟩, ⟨(some p8n43), none, (.ext (.t p8n39) 1)⟩, ⟨(some p8n44), none, (.ext (.t p8n39) 2)⟩, ⟨(some p8n45), none, (.ext (.t p8n39) 3)⟩, ⟨(some p8n11), none, (.mv (.t p8n42))⟩, ⟨(some p8n12), none, (.mv (.t p8n43))⟩, ⟨(some p8n13), none, (.mv (.t p8n44))⟩, ⟨(some p8n14), none, (.mv (.t p8n45))⟩]) (.seq (.reg [⟨(some p8n46), none, (.mv (.t p8n10))⟩, ⟨(some p8n47), none, (.call 133 [(.t p8n46)])⟩, ⟨(some p8n48), none, (.mv (.t p8n14))⟩, ⟨(some p8n49), none, (.bin .neq (.t p8n47) (.t p8n48))⟩, ⟨(some p8n50), none, (.mv (.t p8n49))⟩, ⟨(some p8n51), (some (p8n50, false)), (.mv (.t p8n9))⟩, ⟨(some p8n52), (some (p8n50, false)), (.mv (.t p8n13))⟩, ⟨(some p8n53), (some (p8n50, false)), (.bin .neq (.t p8n51) (.t p8n52))⟩, ⟨(some p8n54), none, (.pick (.t p8n50) (.c (.bool true)) (.t p8n53))⟩, ⟨(some p8n55), none, (.mv (.t p8n54))⟩, ⟨(some p8n56), (some (p8n55, false)), (.mv (.t p8n7))⟩, ⟨(some p8n57), (some (p8n55, false)), (.mv (.t p8n11))⟩, ⟨(some p8n58), (some (p8n55, false)), (.call 134 [(.t p8n56), (.t p8n57)])⟩, ⟨(some p8n59), (some (p8n55, false)), (.un .not (.t p8n58))⟩, ⟨(some p8n60), none, (.pick (.t p8n55) (.c (.bool true)) (.t p8n59))⟩, ⟨(some p8n61), none, (.mv (.t p8n60))⟩, ⟨(some p8n62), (some (p8n61, false)), (.mv (.t p8n8))⟩, ⟨(some p8n63), (some (p8n61, false)), (.mv (.t p8n12))⟩, ⟨(some p8n64), (some (p8n61, false)), (.call 39 [(.t p8n62), (.t p8n63)])⟩, ⟨(some p8n65), (some (p8n61, false)), (.un .not (.t p8n64))⟩, ⟨(some p8n66), none, (.pick (.t p8n61) (.c (.bool true)) (.t p8n65))⟩]) (.cond (.t p8n66) (.seq (.reg [⟨(some p8n2), none, (.mv (.c (.bool false)))⟩]) .ret) .skip))))))) (.reg [⟨(some p8n19), none, (.mv (.t p8n3))⟩, ⟨(some p8n20), none, (.bin .add (.t p8n19) (.c (.int .i64 (.ofNat 1))))⟩, ⟨(some p8n3), none, (.mv (.t p8n20))⟩])))))) (.seq (.reg [⟨(some p8n67), none, (.call 136 [])⟩, ⟨(some p8n2), none, (.mv (.t p8n67))⟩]) .ret)))⟩
noncomputable def a138 : AFunc :=
  ⟨6, [p6n0], [(p6n2, none)], false, (.seq (.reg [⟨(some p6n2), none, (.mv (.c (.int .i64 (.ofNat 0))))⟩]) (.seq (.reg [⟨(some p6n5), none, (.mv (.t p6n0))⟩, ⟨(some p6n6), none, (.len false (.t p6n5))⟩, ⟨(some p6n3), none, (.mv (.t p6n6))⟩]) (.seq (.seq (.reg [⟨(some p6n4), none, (.mv (.c (.int .i64 (.ofNat 0))))⟩]) (.block 0 (.loop (.seq (.seq (.reg [⟨(some p6n7), none, (.mv (.t p6n4))⟩, ⟨(some p6n8), none, (.mv (.t p6n0))⟩, ⟨(some p6n9), none, (.len false (.t p6n8))⟩, ⟨(some p6n10), none, (.bin .lss (.t p6n7) (.t p6n9))⟩, ⟨(some p6n11), none, (.mv (.t p6n10))⟩, ⟨(some p6n12), (some (p6n11, true)), (.mv (.t p6n3))⟩, ⟨(some p6n13), (some (p6n11, true)), (.bin .lss (.t p6n12) (.c (.int .i64 (.ofNat 1048576))))⟩, ⟨(some p6n14), none, (.pick (.t p6n11) (.t p6n13) (.c (.bool false)))⟩]) (.cond (.t p6n14) .skip (.exit 0))) (.seq (.block 1 (.regd [(.pure, ⟨(some p6n17), none, (.mv (.t p6n3))⟩), (.pure, ⟨(some p6n18), none, (.mv (.t p6n0))⟩), (.pure, ⟨(some p6n19), none, (.mv (.t p6n4))⟩), (.pure, ⟨(some p6n20), none, (.iaddr 3 (.t p6n18) (.t p6n19))⟩), (.pure, ⟨(some p6n21), none, (.faddr 2 (.t p6n20))⟩), (.load, ⟨(some p6n22), none, (.ld1 (.t p6n21))⟩), (.iso, ⟨(some p6n23), none, (.call 59 [(.t p6n22)])⟩), (.pure, ⟨(some p6n24), none, (.bin .add (.t p6n17) (.t p6n23))⟩), (.pure, ⟨(some p6n25), none, (.mv (.t p6n0))⟩), (.pure, ⟨(some p6n26), none, (.mv (.t p6n4))⟩), (.pure, ⟨(some p6n27), none, (.iaddr 3 (.t p6n25) (.t p6n26))⟩), (.pure, ⟨(some p6n28), none, (.faddr 1 (.t p6n27))⟩), (.load, ⟨(some p6n29), none, (.ld1 (.t p6n28))⟩), (.pure, ⟨(some p6n30), none, (.len true (.t p6n29))⟩), (.pure, ⟨(some p6n31), none, (.bin .quo (.t p6n30) (.c (.int .i64 (.ofNat 4))))⟩)] [⟨(some p6n32), none, (.bin .add (.t p6n24) (.t p6n31))⟩, ⟨(some p6n3), none, (.mv (.t p6n32))⟩])) (.reg [⟨(some p6n15), none, (.mv (.t p6n4))⟩, ⟨(some p6n16), none, (.bin .add (.t p6n15) (.c (.int .i64 (.ofNat 1))))⟩, ⟨(some p6n4), none, (.mv (.t p6n16))⟩])))))) (.seq (.reg [⟨(some p6n33), none, (.mv (.t p6n3))⟩, ⟨(some p6n2), none, (.mv (.t p6n33))⟩]) .ret))))⟩
noncomputable def a139 : AFunc :=
  ⟨8, [p8n0], [(p8n2, none), (p8n3, none), (p8n4, none)], true, (.seq (.reg [⟨(some p8n2), none, (.mv (.c .nils))⟩, ⟨(some p8n3), none, (.mv (.c (.int .i64 (.ofNat 0))))⟩, ⟨(some p8n4), none, (.mv (.c (.int .i64 (.ofNat 0))))⟩]) (.seq (.reg [⟨(some p8n15), none, (.mv (.t p8n0))⟩, ⟨(some p8n16), none, (.call 147 [(.t p8n15)])⟩, ⟨(some p8n14), none, (.mv (.t p8n16))⟩, ⟨(some p8n17), none, (.ext (.t p8n14) 0)⟩, ⟨(some p8n18), none, (.ext (.t p8n14) 1)⟩, ⟨(some p8n5), none, (.mv (.t p8n17))⟩, ⟨(some p8n6), none, (.mv (.t p8n18))⟩]) (.seq (.seq (.reg [⟨(some p8n19), none, (.mv (.t p8n6))⟩, ⟨(some p8n20), none, (.un .not (.t p8n19))⟩]) (.cond (.t p8n20) (.seq (.reg [⟨(some p8n2), none, (.mv (.c .nils))⟩, ⟨(some p8n3), none, (.mv (.c (.int .i64 (.ofNat 0))))⟩, ⟨(some p8n4), none, (.mv (.c (.int .i64 (.ofNat 2))))⟩]) .ret) .skip)) (.seq (.reg [⟨(some p8n7), none, (.mv (.c .nils))⟩]) (.seq (.seq (.reg [⟨(some p8n8), none, (.mv (.c (.int .i64 (.ofNat 0))))⟩]) (.block 0 (.loop (.seq (.seq (.reg [⟨(some p8n21), none, (.mv (.t p8n8))⟩, ⟨(some p8n22), none, (.mv (.t p8n5))⟩, ⟨(some p8n23), none, (.len false (.t p8n22))⟩, ⟨(some p8n24), none, (.bin .lss (.t p8n21) (.t p8n23))⟩]) (.cond (.t p8n24) .skip (.exit 0))) (.seq (.block 1 (.seq (.reg [⟨(some p8n28), none, (.mv (.t p8n5))⟩, ⟨(some p8n29), none, (.mv (.t p8n8))⟩, ⟨(some p8n30), none, (.iaddr 1 (.t p8n28) (.t p8n29))⟩, ⟨(some p8n31), none, (.ld1 (.t p8n30))⟩, ⟨(some p8n32), none, (.call 48 [(.t p8n31)])⟩, ⟨(some p8n27), none, (.mv (.t p8n32))⟩, ⟨(some p8n33), none, (.ext (.t p8n27) 0)⟩, ⟨(some p8n34), none, (.ext (.t p8n27) 1)⟩, ⟨(some p8n35), none, (.ext (.t p8n27) 2)⟩, ⟨(some p8n9), none, (.mv (.t p8n33))⟩, ⟨(some p8n10), none, (.mv (.t p8n34))⟩, ⟨(some p8n11), none, (.mv (.t p8n35))⟩]) (.seq (.seq (.reg [⟨(some p8n36), none, (.mv (.t p8n11))⟩, ⟨(some p8n37), none, (.bin .neq (.t p8n36) (.c (.int .i64 (.ofNat 0))))⟩]) (.cond (.t p8n37) (.seq (.reg [⟨(some p8n38), none, (.mv (.t p8n8))⟩, ⟨(some p8n39), none, (.bin .add (.t p8n38) (.c (.int .i64 (.ofNat 1))))⟩, ⟨(some p8n40), none, (.mv (.t p8n11))⟩, ⟨(some p8n2), none, (.mv (.c .nils))⟩, ⟨(some p8n3), none, (.mv (.t p8n39))⟩, ⟨(some p8n4), none, (.mv (.t p8n40))⟩]) .ret) .skip)) (.seq (.reg [⟨(some p8n41), none, (.mv (.t p8n8))⟩, ⟨(some p8n42), none, (.bin .add (.t p8n41) (.c (.int .i64 (.ofNat 1))))⟩, ⟨(some p8n43), none, (.build [(.int .i64 (.ofNat 0)), (.str []), .nils] [(0, (1, (.t p8n42)))])⟩, ⟨(some p8n12), none, (.alloc [(.int .i64 (.ofNat 0)), (.str []), .nils])⟩, ⟨none, none, (.st 3 (.t p8n12) (.t p8n43))⟩]) (.seq (.seq (.reg [⟨(some p8n44), none, (.mv (.t p8n9))⟩, ⟨(some p8n45), none, (.len false (.t p8n44))⟩, ⟨(some p8n46), none, (.bin .gtr (.t p8n45) (.c (.int .i64 (.ofNat 1))))⟩, ⟨(some p8n47), none, (.mv (.t p8n46))⟩, ⟨(some p8n48), (some (p8n47, true)), (.mv (.t p8n9))⟩, ⟨(some p8n49), (some (p8n47, true)), (.iaddr 4 (.t p8n48) (.c (.int .i64 (.ofNat 0))))⟩, ⟨(some p8n50), (some (p8n47, true)), (.ldA 4 (.t p8n49))⟩, ⟨(some p8n51), (some (p8n47, true)), (.call 148 [(.t p8n50)])⟩, ⟨(some p8n52), none, (.pick (.t p8n47) (.t p8n51) (.c (.bool false)))⟩, ⟨(some p8n53), none, (.mv (.t p8n52))⟩, ⟨(some p8n54), (some (p8n53, true)), (.mv (.t p8n9))⟩, ⟨(some p8n55), (some (p8n53, true)), (.iaddr 4 (.t p8n54) (.c (.int .i64 (.ofNat 1))))⟩, ⟨(some p8n56), (some (p8n53, true)), (.ldA 4 (.t p8n55))⟩, ⟨(some p8n57), (some (p8n53, true)), (.call 143 [(.t p8n56), (.c (.str [58]))])⟩, ⟨(some p8n58), none, (.pick (.t p8n53) (.t p8n57) (.c (.bool false)))⟩]) (.cond (.t p8n58) (.regd [(.pure, ⟨(some p8n59), none, (.mv (.t p8n9))⟩), (.pure, ⟨(some p8n60), none, (.iaddr 4 (.t p8n59) (.c (.int .i64 (.ofNat 0))))⟩), (.pure, ⟨(some p8n61), none, (.faddr 1 (.t p8n60))⟩), ((.loadm 3 7), ⟨(some p8n62), none, (.ld1 (.t p8n61))⟩), (.pure, ⟨(some p8n63), none, (.mv (.t p8n9))⟩), (.pure, ⟨(some p8n64), none, (.slL 4 (.t p8n63) (some (.c (.int .i64 (.ofNat 2)))) none none)⟩), (.pure, ⟨(some p8n65), none, (.faddr 1 (.t p8n12))⟩), ((.sto 7 79), ⟨none, none, (.st 1 (.t p8n65) (.t p8n62))⟩)] [⟨(some p8n9), none, (.mv (.t p8n64))⟩]) .skip)) (.seq (.seq (.reg [⟨(some p8n13), none, (.mv (.c (.int .i64 (.ofNat 0))))⟩]) (.block 2 (.loop (.seq (.seq (.reg [⟨(some p8n66), none, (.mv (.t p8n13))⟩, ⟨(some p8n67), none, (.mv (.t p8n9))⟩, ⟨(some p8n68), none, (.len false (.t p8n67))⟩, ⟨(some p8n69), none, (.bin .lss (.t p8n66) (.t p8n68))⟩]) (.cond (.t p8n69) .skip (.exit 2))) (.seq (.block 3 (.seq (.reg [⟨(some p8n72), none, (.mv (.t p8n9))⟩, ⟨(some p8n73), none, (.mv (.t p8n13))⟩, ⟨(some p8n74), none, (.iaddr 4 (.t p8n72) (.t p8n73))⟩, ⟨(some p8n75), none, (.ldA 4 (.t p8n74))⟩, ⟨(some p8n76), none, (.call 143 [(.t p8n75), (.c (.str [58]))])⟩]) (.cond (.t p8n76) (.seq (.reg [⟨(some p8n77), none, (.mv (.t p8n8))⟩, ⟨(some p8n78), none, (.bin .add (.t p8n77) (.c (.int .i64 (.ofNat 1))))⟩, ⟨(some p8n2), none, (.mv (.c .nils))⟩, ⟨(some p8n3), none, (.mv (.t p8n78))⟩, ⟨(some p8n4), none, (.mv (.c (.int .i64 (.ofNat 3))))⟩]) .ret) .skip))) (.reg [⟨(some p8n70), none, (.mv (.t p8n13))⟩, ⟨(some p8n71), none, (.bin .add (.t p8n70) (.c (.int .i64 (.ofNat 1))))⟩, ⟨(some p8n13), none, (.mv (.t p8n71))⟩])))))) (.seq (.reg [⟨(some p8n79), none, (.mv (.t p8n9))⟩, ⟨(some p8n80), none, (.faddr 2 (.t p8n12))⟩, ⟨none, none, (.st 1 (.t p8n80) (.t p8n79))⟩]) (.seq (.reg [⟨(some p8n81), none, (.faddr 1 (.t p8n12))⟩, ⟨(some p8n82), none, (.ld1 (.t p8n81))⟩, ⟨(some p8n83), none, (.bin .neq (.t p8n82) (.c (.str [])))⟩, ⟨(some p8n84), none, (.mv (.t p8n83))⟩, ⟨(some p8n85), (some (p8n84, false)), (.mv (.t p8n9))⟩, ⟨(some p8n86), (some (p8n84, false)), (.len false (.t p8n85))⟩, ⟨(some p8n87), (some (p8n84, false)), (.bin .gtr (.t p8n86) (.c (.int .i64 (.ofNat 0))))⟩, ⟨(some p8n88), none, (.pick (.t p8n84) (.c (.bool true)) (.t p8n87))⟩]) (.cond (.t p8n88) (.reg [⟨(some p8n89), none, (.mv (.t p8n7))⟩, ⟨(some p8n90), none, (.ldA 3 (.t p8n12))⟩, ⟨(some p8n91), none, (.buildS 3 1 (.agg [(.int .i64 (.ofNat 0)), (.str []), .nils]) [(0, (.t p8n90))])⟩, ⟨(some p8n92), none, (.app 3 48 (.agg [(.int .i64 (.ofNat 0)), (.str []), .nils]) (.t p8n89) (.t p8n91))⟩, ⟨(some p8n7), none, (.mv (.t p8n92))⟩]) .skip))))))))) (.reg [⟨(some p8n25), none, (.mv (.t p8n8))⟩, ⟨(some p8n26), none, (.bin .add (.t p8n25) (.c (.int .i64 (.ofNat 1))))⟩, ⟨(some p8n8), none, (.mv (.t p8n26))⟩])))))) (.seq (.reg [⟨(some p8n93), none, (.mv (.t p8n7))⟩, ⟨(some p8n2), none, (.mv (.t p8n93))⟩, ⟨(some p8n3), none, (.mv (.c (.int .i64 (.ofNat 0))))⟩, ⟨(some p8n4), none, (.mv (.c (.int .i64 (.ofNat 0))))⟩]) .ret))))))⟩
noncomputable def a140 : AFunc :=
  ⟨4, [p4n0], [(p4n2, (some (3, true)))], false, (.seq (.reg [⟨(some p4n1), none, (.box (.t p4n0))⟩, ⟨(some p4n2), none, (.alloc [(.int .i64 (.ofNat 0)), (.str []), .nils])⟩]) (.seq (.reg [⟨(some p4n4), none, (.ldA 3 (.t p4n1))⟩, ⟨(some p4n3), none, (.alloc [(.int .i64 (.ofNat 0)), (.str []), .nils])⟩, ⟨none, none, (.st 3 (.t p4n3) (.t p4n4))⟩]) (.seq (.reg [⟨(some p4n5), none, (.faddr 2 (.t p4n1))⟩, ⟨(some p4n6), none, (.ld1 (.t p4n5))⟩, ⟨(some p4n7), none, (.call 27 [(.t p4n6)])⟩, ⟨(some p4n8), none, (.faddr 2 (.t p4n3))⟩, ⟨none, none, (.st 1 (.t p4n8) (.t p4n7))⟩]) (.seq (.reg [⟨(some p4n9), none, (.ldA 3 (.t p4n3))⟩, ⟨none, none, (.st 3 (.t p4n2) (.t p4n9))⟩]) .ret))))⟩
noncomputable def a141 : AFunc :=
  ⟨8, [p8n0], [(p8n2, none)], false, (.seq (.reg [⟨(some p8n2), none, (.mv (.c (.bool false)))⟩]) (.seq (.reg [⟨(some p8n3), none, (.mv (.c (.int .i64 (.ofNat 0))))⟩]) (.seq (.seq (.reg [⟨(some p8n6), none, (.mv (.t p8n0))⟩, ⟨(some p8n7), none, (.len false (.t p8n6))⟩, ⟨(some p8n8), none, (.mv (.c (.int .i64 (.ofNat 0))))⟩]) (.block 0 (.loop (.seq (.reg [⟨(some p8n9), none, (.bin .lss (.t p8n8) (.t p8n7))⟩]) (.seq (.cond (.t p8n9) .skip (.exit 0)) (.seq (.block 1 (.seq (.reg [⟨(some p8n10), none, (.iaddr 3 (.t p8n6) (.t p8n8))⟩, ⟨(some p8n11), none, (.ldA 3 (.t p8n10))⟩, ⟨(some p8n5), none, (.alloc [(.int .i64 (.ofNat 0)), (.str []), .nils])⟩, ⟨none, none, (.st 3 (.t p8n5) (.t p8n11))⟩]) (.seq (.seq (.regd [(.pure, ⟨(some p8n12), none, (.faddr 2 (.t p8n5))⟩), (.load, ⟨(some p8n13), none, (.ld1 (.t p8n12))⟩), (.pure, ⟨(some p8n14), none, (.len false (.t p8n13))⟩), (.load, ⟨(some p8n15), none, (.ldA 3 (.t p8n5))⟩), (.iso, ⟨(some p8n16), none, (.call 149 [(.t p8n15)])⟩), (.pure, ⟨(some p8n17), none, (.bin .gtr (.t p8n14) (.t p8n16))⟩), (.pure, ⟨(some p8n18), none, (.mv (.t p8n17))⟩), (.pure, ⟨(some p8n19), (some (p8n18, false)), (.faddr 0 (.t p8n5))⟩), (.load, ⟨(some p8n20), (some (p8n18, false)), (.ld1 (.t p8n19))⟩), (.pure, ⟨(some p8n21), (some (p8n18, false)), (.mv (.t p8n3))⟩)] [⟨(some p8n22), (some (p8n18, false)), (.bin .leq (.t p8n20) (.t p8n21))⟩, ⟨(some p8n23), none, (.pick (.t p8n18) (.c (.bool true)) (.t p8n22))⟩, ⟨(some p8n24), none, (.mv (.t p8n23))⟩, ⟨(some p8n25), (some (p8n24, false)), (.faddr 0 (.t p8n5))⟩, ⟨(some p8n26), (some (p8n24, false)), (.ld1 (.t p8n25))⟩, ⟨(some p8n27), (some (p8n24, false)), (.bin .gtr (.t p8n26) (.c (.int .i64 (.ofNat 300))))⟩, ⟨(some p8n28), none, (.pick (.t p8n24) (.c (.bool true)) (.t p8n27))⟩, ⟨(some p8n29), none, (.mv (.t p8n28))⟩, ⟨(some p8n30), (some (p8n29, false)), (.faddr 1 (.t p8n5))⟩, ⟨(some p8n31), (some (p8n29, false)), (.ld1 (.t p8n30))⟩, ⟨(some p8n32), (some (p8n29, false)), (.bin .neq (.t p8n31) (.c (.str [])))⟩, ⟨(some p8n33), (some (p8n29, false)), (.mv (.t p8n32))⟩, ⟨(some p8n34), (some (p8n33, true)), (.faddr 1 (.t p8n5))⟩, ⟨(some p8n35), (some (p8n33, true)), (.ld1 (.t p8n34))⟩, ⟨(some p8n36), (some (p8n33, true)), (.call 82 [(.t p8n35)])⟩, ⟨(some p8n37), (some (p8n33, true)), (.un .not (.t p8n36))⟩, ⟨(some p8n38), (some (p8n29, false)), (.pick (.t p8n33) (.t p8n37) (.c (.bool false)))⟩, ⟨(some p8n39), none, (.pick (.t p8n29) (.c (.bool true)) (.t p8n38))⟩]) (.cond (.t p8n39) (.seq (.reg [⟨(some p8n2), none, (.mv (.c (.bool false)))⟩]) .ret) .skip)) (.seq (.seq (.reg [⟨(some p8n40), none, (.faddr 1 (.t p8n5))⟩, ⟨(some p8n41), none, (.ld1 (.t p8n40))⟩, ⟨(some p8n42), none, (.bin .eql (.t p8n41) (.c (.str [])))⟩, ⟨(some p8n43), none, (.mv (.t p8n42))⟩, ⟨(some p8n44), (some (p8n43, true)), (.faddr 2 (.t p8n5))⟩, ⟨(some p8n45), (some (p8n43, true)), (.ld1 (.t p8n44))⟩, ⟨(some p8n46), (some (p8n43, true)), (.len false (.t p8n45))⟩, ⟨(some p8n47), (some (p8n43, true)), (.bin .eql (.t p8n46) (.c (.int .i64 (.ofNat 0))))⟩, ⟨(some p8n48), none, (.pick (.t p8n43) (.t p8n47) (.c (.bool false)))⟩, ⟨(some p8n49), none, (.mv (.t p8n48))⟩, ⟨(some p8n50), (some (p8n49, false)), (.faddr 2 (.t p8n5))⟩, ⟨(some p8n51), (some (p8n49, false)), (.ld1 (.t p8n50))⟩, ⟨(some p8n52), (some (p8n49, false)), (.call 51 [(.t p8n51)])⟩, ⟨(some p8n53), (some (p8n49, false)), (.un .not (.t p8n52))⟩, ⟨(some p8n54), none, (.pick (.t p8n49) (.c (.bool true)) (.t p8n53))⟩, ⟨(some p8n55), none, (.mv (.t p8n54))⟩, ⟨(some p8n56), (some (p8n55, false)), (.faddr 2 (.t p8n5))⟩, ⟨(some p8n57), (some (p8n55, false)), (.ld1 (.t p8n56))⟩, ⟨(some p8n58), (some (p8n55, false)), (.call 64 [(.t p8n57), (.c (.fn 150 [] []))])⟩, ⟨(some p8n59), none, (.pick (.t p8n55) (.c (.bool true)) (.t p8n58))⟩]) (.cond (.t p8n59) (.seq (.reg [⟨(some p8n2), none, (.mv (.c (.bool false)))⟩]) .ret) .skip)) (.reg [⟨(some p8n60), none, (.faddr 0 (.t p8n5))⟩, ⟨(some p8n61), none, (.ld1 (.t p8n60))⟩, ⟨(some p8n3), none, (.mv (.t p8n61))⟩]))))) (.reg [⟨(some p8n62), none, (.bin .add (.t p8n8) (.c (.int .i64 (.ofNat 1))))⟩, ⟨(some p8n8), none, (.mv (.t p8n62))⟩]))))))) (.seq (.reg [⟨(some p8n63), none, (.mv (.t p8n0))⟩, ⟨(some p8n64), none, (.len false (.t p8n63))⟩, ⟨(some p8n65), none, (.bin .leq (.t p8n64) (.c (.int .i64 (.ofNat 300))))⟩, ⟨(some p8n2), none, (.mv (.t p8n65))⟩]) .ret))))⟩
noncomputable def a142 : AFunc :=
  ⟨6, [p6n0], [(p6n2, none)], true, (.seq (.reg [⟨(some p6n2), none, (.mv (.c (.int .i64 (.ofNat 0))))⟩]) (.seq (.seq (.reg [⟨(some p6n5), none, (.mv (.t p6n0))⟩, ⟨(some p6n6), none, (.nilck (.t p6n5))⟩, ⟨(some p6n7), none, (.faddr 5 (.t p6n6))⟩, ⟨none, none, (.st 1 (.t p6n7) (.c (.int .i64 (.ofNat 0))))⟩]) (.block 0 (.loop (.seq (.seq (.regd [(.pure, ⟨(some p6n8), none, (.mv (.t p6n0))⟩), (.pure, ⟨(some p6n9), none, (.nilck (.t p6n8))⟩), (.pure, ⟨(some p6n10), none, (.faddr 5 (.t p6n9))⟩), (.load, ⟨(some p6n11), none, (.ld1 (.t p6n10))⟩), (.pure, ⟨(some p6n12), none, (.mv (.t p6n0))⟩), (.pure, ⟨(some p6n13), none, (.nilck (.t p6n12))⟩), (.pure, ⟨(some p6n14), none, (.faddr 1 (.t p6n13))⟩), (.load, ⟨(some p6n15), none, (.ld1 (.t p6n14))⟩), (.pure, ⟨(some p6n16), none, (.len false (.t p6n15))⟩)] [⟨(some p6n17), none, (.bin .lss (.t p6n11) (.t p6n16))⟩]) (.cond (.t p6n17) .skip (.exit 0))) (.seq (.block 1 (.seq (.reg [⟨(some p6n25), none, (.mv (.t p6n0))⟩, ⟨(some p6n26), none, (.call 151 [(.t p6n25)])⟩, ⟨(some p6n3), none, (.mv (.t p6n26))⟩]) (.seq (.reg [⟨(some p6n27), none, (.mv (.t p6n3))⟩, ⟨(some p6n28), none, (.bin .neq (.t p6n27) (.c (.int .i64 (.ofNat 0))))⟩]) (.cond (.t p6n28) (.seq (.reg [⟨(some p6n29), none, (.mv (.t p6n3))⟩, ⟨(some p6n2), none, (.mv (.t p6n29))⟩]) .ret) .skip)))) (.reg [⟨(some p6n18), none, (.mv (.t p6n0))⟩, ⟨(some p6n19), none, (.nilck (.t p6n18))⟩, ⟨(some p6n20), none, (.faddr 5 (.t p6n19))⟩, ⟨(some p6n21), none, (.ld1 (.t p6n20))⟩, ⟨(some p6n22), none, (.bin .add (.t p6n21) (.c (.int .i64 (.ofNat 1))))⟩, ⟨(some p6n23), none, (.nilck (.t p6n18))⟩, ⟨(some p6n24), none, (.faddr 5 (.t p6n23))⟩, ⟨none, none, (.st 1 (.t p6n24) (.t p6n22))⟩])))))) (.seq (.seq (.reg [⟨(some p6n30), none, (.mv (.t p6n0))⟩, ⟨(some p6n31), none, (.nilck (.t p6n30))⟩, ⟨(some p6n32), none, (.faddr 6 (.t p6n31))⟩, ⟨(some p6n33), none, (.ld1 (.t p6n32))⟩, ⟨(some p6n34), none, (.len false (.t p6n33))⟩, ⟨(some p6n35), none, (.bin .sub (.t p6n34) (.c (.int .i64 (.ofNat 1))))⟩, ⟨(some p6n4), none, (.mv (.t p6n35))⟩]) (.seq (.reg [⟨(some p6n36), none, (.mv (.t p6n4))⟩, ⟨(some p6n37), none, (.bin .geq (.t p6n36) (.c (.int .i64 (.ofNat 0))))⟩]) (.cond (.t p6n37) (.seq (.regd [(.pure, ⟨(some p6n38), none, (.mv (.t p6n0))⟩), (.pure, ⟨(some p6n39), none, (.nilck (.t p6n38))⟩), (.pure, ⟨(some p6n40), none, (.faddr 0 (.t p6n39))⟩), (.load, ⟨(some p6n41), none, (.ld1 (.t p6n40))⟩), (.pure, ⟨(some p6n42), none, (.mv (.t p6n0))⟩), (.pure, ⟨(some p6n43), none, (.nilck (.t p6n42))⟩), (.pure, ⟨(some p6n44), none, (.faddr 6 (.t p6n43))⟩), (.load, ⟨(some p6n45), none, (.ld1 (.t p6n44))⟩), (.pure, ⟨(some p6n46), none, (.mv (.t p6n4))⟩), (.pure, ⟨(some p6n47), none, (.iaddr 3 (.t p6n45) (.t p6n46))⟩), (.pure, ⟨(some p6n48), none, (.faddr 0 (.t p6n47))⟩), (.load, ⟨(some p6n49), none, (.ld1 (.t p6n48))⟩)] [⟨(some p6n50), none, (.nilck (.t p6n41))⟩, ⟨(some p6n51), none, (.faddr 4 (.t p6n50))⟩, ⟨none, none, (.st 1 (.t p6n51) (.t p6n49))⟩]) (.seq (.reg [⟨(some p6n2), none, (.mv (.c (.int .i64 (.ofNat 3))))⟩]) .ret)) .skip))) (.seq (.reg [⟨(some p6n2), none, (.mv (.c (.int .i64 (.ofNat 0))))⟩]) .ret))))⟩
noncomputable def a143 : AFunc :=
  ⟨4, [p4n0, p4n1], [(p4n4, none)], false, (.seq (.reg [⟨(some p4n2), none, (.box (.t p4n0))⟩, ⟨(some p4n4), none, (.mv (.c (.bool false)))⟩]) (.seq (.reg [⟨(some p4n5), none, (.faddr 0 (.t p4n2))⟩, ⟨(some p4n6), none, (.ld1 (.t p4n5))⟩, ⟨(some p4n7), none, (.bin .eql (.t p4n6) (.c (.int .i64 (.ofNat 3))))⟩, ⟨(some p4n8), none, (.mv (.t p4n7))⟩, ⟨(some p4n9), (some (p4n8, true)), (.faddr 1 (.t p4n2))⟩, ⟨(some p4n10), (some (p4n8, true)), (.ld1 (.t p4n9))⟩, ⟨(some p4n11), (some (p4n8, true)), (.mv (.t p4n1))⟩, ⟨(some p4n12), (some (p4n8, true)), (.bin .eql (.t p4n10) (.t p4n11))⟩, ⟨(some p4n13), none, (.pick (.t p4n8) (.t p4n12) (.c (.bool false)))⟩, ⟨(some p4n4), none, (.mv (.t p4n13))⟩]) .ret))⟩
noncomputable def a144 : AFunc :=
  ⟨10, [p10n0, p10n1, p10n2, p10n3, p10n4], [], true, (.seq (.reg [⟨(some p10n10), none, (.mv (.c .nils))⟩]) (.seq (.reg [⟨(some p10n11), none, (.mv (.c .nils))⟩]) (.seq (.seq (.reg [⟨(some p10n12), none, (.mv (.c (.int .i64 (.ofNat 0))))⟩]) (.block 0 (.loop (.seq (.seq (.reg [⟨(some p10n19), none, (.mv (.t p10n12))⟩, ⟨(some p10n20), none, (.mv (.t p10n1))⟩, ⟨(some p10n21), none, (.len false (.t p10n20))⟩, ⟨(some p10n22), none, (.bin .lss (.t p10n19) (.t p10n21))⟩, ⟨(some p10n23), none, (.mv (.t p10n22))⟩, ⟨(some p10n24), (some (p10n23, true)), (.mv (.t p10n0))⟩, ⟨(some p10n25), (some (p10n23, true)), (.nilck (.t p10n24))⟩, ⟨(some p10n26), (some (p10n23, true)), (.faddr 4 (.t p10n25))⟩, ⟨(some p10n27), (some (p10n23, true)), (.ld1 (.t p10n26))⟩, ⟨(some p10n28), (some (p10n23, true)), (.bin .eql (.t p10n27) (.c (.int .i64 (.ofNat 0))))⟩, ⟨(some p10n29), none, (.pick (.t p10n23) (.t p10n28) (.c (.bool false)))⟩]) (.cond (.t p10n29) .skip (.exit 0))) (.seq (.block 1 (.seq (.reg [⟨(some p10n32), none, (.mv (.t p10n1))⟩, ⟨(some p10n33), none, (.mv (.t p10n12))⟩, ⟨(some p10n34), none, (.iaddr 3 (.t p10n32) (.t p10n33))⟩, ⟨(some p10n35), none, (.ldA 3 (.t p10n34))⟩, ⟨(some p10n36), none, (.mv (.t p10n2))⟩, ⟨(some p10n37), none, (.call 152 [(.t p10n35), (.t p10n36)])⟩, ⟨(some p10n13), none, (.mv (.t p10n37))⟩]) (.seq (.reg [⟨(some p10n38), none, (.mv (.t p10n1))⟩, ⟨(some p10n39), none, (.mv (.t p10n12))⟩, ⟨(some p10n40), none, (.iaddr 3 (.t p10n38) (.t p10n39))⟩, ⟨(some p10n41), none, (.ldA 3 (.t p10n40))⟩, ⟨(some p10n14), none, (.alloc [(.int .i64 (.ofNat 0)), (.str []), .nils])⟩, ⟨none, none, (.st 3 (.t p10n14) (.t p10n41))⟩]) (.seq (.seq (.reg [⟨(some p10n42), none, (.mv (.t p10n2))⟩, ⟨(some p10n43), none, (.bin .gtr (.t p10n42) (.c (.int .i64 (.ofNat 0))))⟩]) (.cond (.t p10n43) (.seq (.reg [⟨(some p10n44), none, (.mv (.t p10n0))⟩, ⟨(some p10n45), none, (.mv (.t p10n1))⟩, ⟨(some p10n46), none, (.mv (.t p10n12))⟩, ⟨(some p10n47), none, (.iaddr 3 (.t p10n45) (.t p10n46))⟩, ⟨(some p10n48), none, (.ldA 3 (.t p10n47))⟩, ⟨(some p10n49), none, (.mv (.t p10n4))⟩, ⟨(some p10n50), none, (.mv (.t p10n13))⟩, ⟨(some p10n51), none, (.call 153 [(.t p10n44), (.t p10n48), (.t p10n49), (.t p10n50)])⟩, ⟨none, none, (.st 3 (.t p10n14) (.t p10n51))⟩]) (.seq (.reg [⟨(some p10n52), none, (.mv (.t p10n0))⟩, ⟨(some p10n53), none, (.nilck (.t p10n52))⟩, ⟨(some p10n54), none, (.faddr 4 (.t p10n53))⟩, ⟨(some p10n55), none, (.ld1 (.t p10n54))⟩, ⟨(some p10n56), none, (.bin .neq (.t p10n55) (.c (.int .i64 (.ofNat 0))))⟩]) (.cond (.t p10n56) .ret .skip))) .skip)) (.seq (.reg [⟨(some p10n57), none, (.mv (.t p10n13))⟩, ⟨(some p10n58), none, (.faddr 0 (.t p10n14))⟩, ⟨none, none, (.st 1 (.t p10n58) (.t p10n57))⟩]) (.seq (.reg [⟨(some p10n59), none, (.ldA 3 (.t p10n14))⟩, ⟨(some p10n60), none, (.call 154 [(.t p10n59)])⟩, ⟨(some p10n15), none, (.mv (.t p10n60))⟩]) (.seq (.seq (.reg [⟨(some p10n61), none, (.mv (.t p10n15))⟩, ⟨(some p10n62), none, (.call 155 [(.t p10n61)])⟩, ⟨(some p10n63), none, (.mv (.t p10n62))⟩, ⟨(some p10n64), (some (p10n63, true)), (.faddr 1 (.t p10n14))⟩, ⟨(some p10n65), (some (p10n63, true)), (.ld1 (.t p10n64))⟩, ⟨(some p10n66), (some (p10n63, true)), (.bin .neq (.t p10n65) (.c (.str [])))⟩, ⟨(some p10n67), (some (p10n63, true)), (.mv (.t p10n66))⟩, ⟨(some p10n68), (some (p10n67, false)), (.mv (.t p10n15))⟩, ⟨(some p10n69), (some (p10n67, false)), (.bin .eql (.t p10n68) (.c (.str [46, 101, 110, 100, 109])))⟩, ⟨(some p10n70), (some (p10n67, false)), (.mv (.t p10n69))⟩, ⟨(some p10n71), (some (p10n70, false)), (.mv (.t p10n15))⟩, ⟨(some p10n72), (some (p10n70, false)), (.bin .eql (.t p10n71) (.c (.str [46, 101, 108, 115, 101])))⟩, ⟨(some p10n73), (some (p10n67, false)), (.pick (.t p10n70) (.c (.bool true)) (.t p10n72))⟩, ⟨(some p10n74), (some (p10n67, false)), (.mv (.t p10n73))⟩, ⟨(some p10n75), (some (p10n74, false)), (.mv (.t p10n15))⟩, ⟨(some p10n76), (some (p10n74, false)), (.bin .eql (.t p10n75) (.c (.str [46, 101, 110, 100, 105, 102])))⟩, ⟨(some p10n77), (some (p10n67, false)), (.pick (.t p10n74) (.c (.bool true)) (.t p10n76))⟩, ⟨(some p10n78), (some (p10n67, false)), (.mv (.t p10n77))⟩, ⟨(some p10n79), (some (p10n78, true)), (.faddr 2 (.t p10n14))⟩, ⟨(some p10n80), (some (p10n78, true)), (.ld1 (.t p10n79))⟩, ⟨(some p10n81), (some (p10n78, true)), (.len false (.t p10n80))⟩, ⟨(some p10n82), (some (p10n78, true)), (.bin .gtr (.t p10n81) (.c (.int .i64 (.ofNat 1))))⟩, ⟨(some p10n83), (some (p10n67, false)), (.pick (.t p10n78) (.t p10n82) (.c (.bool false)))⟩, ⟨(some p10n84), (some (p10n63, true)), (.pick (.t p10n67) (.c (.bool true)) (.t p10n83))⟩, ⟨(some p10n85), none, (.pick (.t p10n63) (.t p10n84) (.c (.bool false)))⟩]) (.cond (.t p10n85) (.seq (.reg [⟨(some p10n86), none, (.mv (.t p10n0))⟩, ⟨(some p10n87), none, (.mv (.t p10n13))⟩, ⟨(some p10n88), none, (.call 156 [(.t p10n86), (.c (.int .i64 (.ofNat 3))), (.t p10n87)])⟩]) .ret) .skip)) (.seq (.reg [⟨(some p10n89), none, (.mv (.t p10n10))⟩, ⟨(some p10n90), none, (.len false (.t p10n89))⟩, ⟨(some p10n16), none, (.mv (.t p10n90))⟩]) (.seq (.reg [⟨(some p10n91), none, (.mv (.t p10n15))⟩]) (.block 2 (.seq (.reg [⟨(some p10n97), none, (.bin .eql (.t p10n91) (.c (.str [46, 109, 97, 99, 114, 111])))⟩, ⟨(some p10n96), none, (.mv (.t p10n97))⟩]) (.cond (.t p10n96) (.reg [⟨(some p10n98), none, (.mv (.t p10n0))⟩, ⟨(some p10n99), none, (.mv (.t p10n1))⟩, ⟨(some p10n100), none, (.mv (.t p10n12))⟩, ⟨(some p10n101), none, (.ldA 3 (.t p10n14))⟩, ⟨(some p10n102), none, (.mv (.t p10n2))⟩, ⟨(some p10n103), none, (.call 157 [(.t p10n98), (.t p10n99), (.t p10n100), (.t p10n101), (.t p10n102)])⟩, ⟨(some p10n12), none, (.mv (.t p10n103))⟩]) (.seq (.reg [⟨(some p10n105), none, (.bin .eql (.t p10n91) (.c (.str [46, 101, 110, 100, 109])))⟩, ⟨(some p10n104), none, (.mv (.t p10n105))⟩]) (.cond (.t p10n104) (.reg [⟨(some p10n106), none, (.mv (.t p10n0))⟩, ⟨(some p10n107), none, (.mv (.t p10n13))⟩, ⟨(some p10n108), none, (.call 156 [(.t p10n106), (.c (.int .i64 (.ofNat 3))), (.t p10n107)])⟩]) (.seq (.reg [⟨(some p10n110), none, (.bin .eql (.t p10n91) (.c (.str [46, 105, 102])))⟩, ⟨(some p10n109), none, (.mv (.t p10n110))⟩]) (.cond (.t p10n109) (.seq (.seq (.reg [⟨(some p10n111), none, (.mv (.t p10n16))⟩, ⟨(some p10n112), none, (.bin .geq (.t p10n111) (.c (.int .i64 (.ofNat 8))))⟩]) (.cond (.t p10n112) (.seq (.reg [⟨(some p10n113), none, (.mv (.t p10n0))⟩, ⟨(some p10n114), none, (.mv (.t p10n13))⟩, ⟨(some p10n115), none, (.call 156 [(.t p10n113), (.c (.int .i64 (.ofNat 2))), (.t p10n114)])⟩]) .ret) .skip)) (.seq (.regd [(.pure, ⟨(some p10n117), none, (.mv (.t p10n0))⟩), (.pure, ⟨(some p10n118), none, (.nilck (.t p10n117))⟩), (.pure, ⟨(some p10n119), none, (.faddr 1 (.t p10n118))⟩), (.load, ⟨(some p10n120), none, (.ld1 (.t p10n119))⟩), (.pure, ⟨(some p10n121), none, (.faddr 2 (.t p10n14))⟩), (.load, ⟨(some p10n122), none, (.ld1 (.t p10n121))⟩), (.pure, ⟨(some p10n123), none, (.slL 4 (.t p10n122) (some (.c (.int .i64 (.ofNat 1)))) none none)⟩), (.iso, ⟨(some p10n124), none, (.call 36 [(.t p10n120), (.t p10n123)])⟩), (.pure, ⟨(some p10n116), none, (.mv (.t p10n124))⟩), (.pure, ⟨(some p10n125), none, (.ext (.t p10n116) 0)⟩), (.pure, ⟨(some p10n126), none, (.ext (.t p10n116) 1)⟩), (.pure, ⟨(some p10n17), none, (.mv (.t p10n125))⟩)] [⟨(some p10n18), none, (.mv (.t p10n126))⟩]) (.seq (.seq (.reg [⟨(some p10n127), none, (.mv (.t p10n18))⟩, ⟨(some p10n128), none, (.bin .neq (.t p10n127) (.c (.int .i64 (.ofNat 0))))⟩]) (.cond (.t p10n128) (.seq (.reg [⟨(some p10n129), none, (.mv (.t p10n0))⟩, ⟨(some p10n130), none, (.mv (.t p10n18))⟩, ⟨(some p10n131), none, (.mv (.t p10n13))⟩, ⟨(some p10n132), none, (.call 156 [(.t p10n129), (.t p10n130), (.t p10n131)])⟩]) .ret) .skip)) (.seq (.seq (.reg [⟨(some p10n133), none, (.mv (.t p10n17))⟩, ⟨(some p10n134), none, (.bin .neq (.t p10n133) (.c (.int .i64 (.ofNat 0))))⟩]) (.cond (.t p10n134) (.seq (.reg [⟨(some p10n135), none, (.mv (.t p10n10))⟩, ⟨(some p10n136), none, (.mv (.t p10n13))⟩, ⟨(some p10n137), none, (.buildS 1 1 (.int .i64 (.ofNat 0)) [(0, (.t p10n136))])⟩, ⟨(some p10n138), none, (.mem (.app 1 8 (.int .i64 (.ofNat 0))) [(.t p10n135), (.t p10n137)])⟩, ⟨(some p10n139), none, (.mv (.t p10n11))⟩, ⟨(some p10n140), none, (.buildS 1 1 (.bool false) [(0, (.c (.bool false)))])⟩, ⟨(some p10n141), none, (.mem (.app 1 1 (.bool false)) [(.t p10n139), (.t p10n140)])⟩, ⟨(some p10n10), none, (.mv (.t p10n138))⟩, ⟨(some p10n11), none, (.mv (.t p10n141))⟩]) (.exit 1)) .skip)) (.seq (.reg [⟨(some p10n142), none, (.mv (.t p10n0))⟩, ⟨(some p10n143), none, (.mv (.t p10n1))⟩, ⟨(some p10n144), none, (.mv (.t p10n12))⟩, ⟨(some p10n145), none, (.bin .add (.t p10n144) (.c (.int .i64 (.ofNat 1))))⟩, ⟨(some p10n146), none, (.mv (.t p10n13))⟩, ⟨(some p10n147), none, (.mv (.t p10n2))⟩, ⟨(some p10n148), none, (.call 158 [(.t p10n142), (.t p10n143), (.t p10n145), (.t p10n146), (.t p10n147), (.c (.bool false))])⟩, ⟨(some p10n12), none, (.mv (.t p10n148))⟩]) (.seq (.reg [⟨(some p10n149), none, (.mv (.t p10n0))⟩, ⟨(some p10n150), none, (.nilck (.t p10n149))⟩, ⟨(some p10n151), none, (.faddr 4 (.t p10n150))⟩, ⟨(some p10n152), none, (.ld1 (.t p10n151))⟩, ⟨(some p10n153), none, (.bin .eql (.t p10n152) (.c (.int .i64 (.ofNat 0))))⟩, ⟨(some p10n154), none, (.mv (.t p10n153))⟩, ⟨(some p10n155), (some (p10n154, true)), (.mv (.t p10n1))⟩, ⟨(some p10n156), (some (p10n154, true)), (.mv (.t p10n12))⟩, ⟨(some p10n157), (some (p10n154, true)), (.iaddr 3 (.t p10n155) (.t p10n156))⟩, ⟨(some p10n158), (some (p10n154, true)), (.ldA 3 (.t p10n157))⟩, ⟨(some p10n159), (some (p10n154, true)), (.call 154 [(.t p10n158)])⟩, ⟨(some p10n160), (some (p10n154, true)), (.bin .eql (.t p10n159) (.c (.str [46, 101, 108, 115, 101])))⟩, ⟨(some p10n161), none, (.pick (.t p10n154) (.t p10n160) (.c (.bool false)))⟩]) (.cond (.t p10n161) (.seq (.seq (.reg [⟨(some p10n162), none, (.mv (.t p10n1))⟩, ⟨(some p10n163), none, (.mv (.t p10n12))⟩, ⟨(some p10n164), none, (.iaddr 3 (.t p10n162) (.t p10n163))⟩, ⟨(some p10n165), none, (.faddr 1 (.t p10n164))⟩, ⟨(some p10n166), none, (.ld1 (.t p10n165))⟩, ⟨(some p10n167), none, (.bin .neq (.t p10n166) (.c (.str [])))⟩, ⟨(some p10n168), none, (.mv (.t p10n167))⟩, ⟨(some p10n169), (some (p10n168, false)), (.mv (.t p10n1))⟩, ⟨(some p10n170), (some (p10n168, false)), (.mv (.t p10n12))⟩, ⟨(some p10n171), (some (p10n168, false)), (.iaddr 3 (.t p10n169) (.t p10n170))⟩, ⟨(some p10n172), (some (p10n168, false)), (.faddr 2 (.t p10n171))⟩, ⟨(some p10n173), (some (p10n168, false)), (.ld1 (.t p10n172))⟩, ⟨(some p10n174), (some (p10n168, false)), (.len false (.t p10n173))⟩, ⟨(some p10n175), (some (p10n168, false)), (.bin .gtr (.t p10n174) (.c (.int .i64 (.ofNat 1))))⟩, ⟨(some p10n176), none, (.pick (.t p10n168) (.c (.bool true)) (.t p10n175))⟩]) (.cond (.t p10n176) (.reg [⟨(some p10n177), none, (.mv (.t p10n0))⟩, ⟨(some p10n178), none, (.mv (.t p10n1))⟩, ⟨(some p10n179), none, (.mv (.t p10n12))⟩, ⟨(some p10n180), none, (.iaddr 3 (.t p10n178) (.t p10n179))⟩, ⟨(some p10n181), none, (.ldA 3 (.t p10n180))⟩, ⟨(some p10n182), none, (.mv (.t p10n2))⟩, ⟨(some p10n183), none, (.call 152 [(.t p10n181), (.t p10n182)])⟩, ⟨(some p10n184), none, (.call 156 [(.t p10n177), (.c (.int .i64 (.ofNat 3))), (.t p10n183)])⟩]) .skip)) (.reg [⟨(some p10n185), none, (.mv (.t p10n10))⟩, ⟨(some p10n186), none, (.mv (.t p10n13))⟩, ⟨(some p10n187), none, (.buildS 1 1 (.int .i64 (.ofNat 0)) [(0, (.t p10n186))])⟩, ⟨(some p10n188), none, (.mem (.app 1 8 (.int .i64 (.ofNat 0))) [(.t p10n185), (.t p10n187)])⟩, ⟨(some p10n189), none, (.mv (.t p10n11))⟩, ⟨(some p10n190), none, (.buildS 1 1 (.bool false) [(0, (.c (.bool true)))])⟩, ⟨(some p10n191), none, (.mem (.app 1 1 (.bool false)) [(.t p10n189), (.t p10n190)])⟩, ⟨(some p10n10), none, (.mv (.t p10n188))⟩, ⟨(some p10n11), none, (.mv (.t p10n191))⟩])) (.seq (.reg [⟨(some p10n192), none, (.mv (.t p10n0))⟩, ⟨(some p10n193), none, (.nilck (.t p10n192))⟩, ⟨(some p10n194), none, (.faddr 4 (.t p10n193))⟩, ⟨(some p10n195), none, (.ld1 (.t p10n194))⟩, ⟨(some p10n196), none, (.bin .eql (.t p10n195) (.c (.int .i64 (.ofNat 0))))⟩, ⟨(some p10n197), none, (.mv (.t p10n196))⟩, ⟨(some p10n198), (some (p10n197, true)), (.mv (.t p10n1))⟩, ⟨(some p10n199), (some (p10n197, true)), (.mv (.t p10n12))⟩, ⟨(some p10n200), (some (p10n197, true)), (.iaddr 3 (.t p10n198) (.t p10n199))⟩, ⟨(some p10n201), (some (p10n197, true)), (.faddr 1 (.t p10n200))⟩, ⟨(some p10n202), (some (p10n197, true)), (.ld1 (.t p10n201))⟩, ⟨(some p10n203), (some (p10n197, true)), (.bin .neq (.t p10n202) (.c (.str [])))⟩, ⟨(some p10n204), (some (p10n197, true)), (.mv (.t p10n203))⟩, ⟨(some p10n205), (some (p10n204, false)), (.mv (.t p10n1))⟩, ⟨(some p10n206), (some (p10n204, false)), (.mv (.t p10n12))⟩, ⟨(some p10n207), (some (p10n204, false)), (.iaddr 3 (.t p10n205) (.t p10n206))⟩, ⟨(some p10n208), (some (p10n204, false)), (.faddr 2 (.t p10n207))⟩, ⟨(some p10n209), (some (p10n204, false)), (.ld1 (.t p10n208))⟩, ⟨(some p10n210), (some (p10n204, false)), (.len false (.t p10n209))⟩, ⟨(some p10n211), (some (p10n204, false)), (.bin .gtr (.t p10n210) (.c (.int .i64 (.ofNat 1))))⟩, ⟨(some p10n212), (some (p10n197, true)), (.pick (.t p10n204) (.c (.bool true)) (.t p10n211))⟩, ⟨(some p10n213), none, (.pick (.t p10n197) (.t p10n212) (.c (.bool false)))⟩]) (.cond (.t p10n213) (.reg [⟨(some p10n214), none, (.mv (.t p10n0))⟩, ⟨(some p10n215), none, (.mv (.t p10n1))⟩, ⟨(some p10n216), none, (.mv (.t p10n12))⟩, ⟨(some p10n217), none, (.iaddr 3 (.t p10n215) (.t p10n216))⟩, ⟨(some p10n218), none, (.ldA 3 (.t p10n217))⟩, ⟨(some p10n219), none, (.mv (.t p10n2))⟩, ⟨(some p10n220), none, (.call 152 [(.t p10n218), (.t p10n219)])⟩, ⟨(some p10n221), none, (.call 156 [(.t p10n214), (.c (.int .i64 (.ofNat 3))), (.t p10n220)])⟩]) .skip))))))))) (.seq (.reg [⟨(some p10n223), none, (.bin .eql (.t p10n91) (.c (.str [46, 101, 108, 115, 101])))⟩, ⟨(some p10n222), none, (.mv (.t p10n223))⟩]) (.cond (.t p10n222) (.seq (.seq (.reg [⟨(some p10n224), none, (.mv (.t p10n16))⟩, ⟨(some p10n225), none, (.bin .eql (.t p10n224) (.c (.int .i64 (.ofNat 0))))⟩, ⟨(some p10n226), none, (.mv (.t p10n225))⟩, ⟨(some p10n227), (some (p10n226, false)), (.mv (.t p10n11))⟩, ⟨(some p10n228), (some (p10n226, false)), (.mv (.t p10n16))⟩, ⟨(some p10n229), (some (p10n226, false)), (.bin .sub (.t p10n228) (.c (.int .i64 (.ofNat 1))))⟩, ⟨(some p10n230), (some (p10n226, false)), (.iaddr 1 (.t p10n227) (.t p10n229))⟩, ⟨(some p10n231), (some (p10n226, false)), (.ld1 (.t p10n230))⟩, ⟨(some p10n232), none, (.pick (.t p10n226) (.c (.bool true)) (.t p10n231))⟩]) (.cond (.t p10n232) (.seq (.reg [⟨(some p10n233), none, (.mv (.t p10n0))⟩, ⟨(some p10n234), none, (.mv (.t p10n13))⟩, ⟨(some p10n235), none, (.call 156 [(.t p10n233), (.c (.int .i64 (.ofNat 3))), (.t p10n234)])⟩]) .ret) .skip)) (.seq (.reg [⟨(some p10n236), none, (.mv (.t p10n0))⟩, ⟨(some p10n237), none, (.mv (.t p10n1))⟩, ⟨(some p10n238), none, (.mv (.t p10n12))⟩, ⟨(some p10n239), none, (.bin .add (.t p10n238) (.c (.int .i64 (.ofNat 1))))⟩, ⟨(some p10n240), none, (.mv (.t p10n10))⟩, ⟨(some p10n241), none, (.mv (.t p10n16))⟩, ⟨(some p10n242), none, (.bin .sub (.t p10n241) (.c (.int .i64 (.ofNat 1))))⟩, ⟨(some p10n243), none, (.iaddr 1 (.t p10n240) (.t p10n242))⟩, ⟨(some p10n244), none, (.ld1 (.t p10n243))⟩, ⟨(some p10n245), none, (.mv (.t p10n2))⟩, ⟨(some p10n246), none, (.call 158 [(.t p10n236), (.t p10n237), (.t p10n239), (.t p10n244), (.t p10n245), (.c (.bool true))])⟩, ⟨(some p10n12), none, (.mv (.t p10n246))⟩]) (.seq (.seq (.reg [⟨(some p10n247), none, (.mv (.t p10n0))⟩, ⟨(some p10n248), none, (.nilck (.t p10n247))⟩, ⟨(some p10n249), none, (.faddr 4 (.t p10n248))⟩, ⟨(some p10n250), none, (.ld1 (.t p10n249))⟩, ⟨(some p10n251), none, (.bin .eql (.t p10n250) (.c (.int .i64 (.ofNat 0))))⟩, ⟨(some p10n252), none, (.mv (.t p10n251))⟩, ⟨(some p10n253), (some (p10n252, true)), (.mv (.t p10n1))⟩, ⟨(some p10n254), (some (p10n252, true)), (.mv (.t p10n12))⟩, ⟨(some p10n255), (some (p10n252, true)), (.iaddr 3 (.t p10n253) (.t p10n254))⟩, ⟨(some p10n256), (some (p10n252, true)), (.faddr 1 (.t p10n255))⟩, ⟨(some p10n257), (some (p10n252, true)), (.ld1 (.t p10n256))⟩, ⟨(some p10n258), (some (p10n252, true)), (.bin .neq (.t p10n257) (.c (.str [])))⟩, ⟨(some p10n259), (some (p10n252, true)), (.mv (.t p10n258))⟩, ⟨(some p10n260), (some (p10n259, false)), (.mv (.t p10n1))⟩, ⟨(some p10n261), (some (p10n259, false)), (.mv (.t p10n12))⟩, ⟨(some p10n262), (some (p10n259, false)), (.iaddr 3 (.t p10n260) (.t p10n261))⟩, ⟨(some p10n263), (some (p10n259, false)), (.faddr 2 (.t p10n262))⟩, ⟨(some p10n264), (some (p10n259, false)), (.ld1 (.t p10n263))⟩, ⟨(some p10n265), (some (p10n259, false)), (.len false (.t p10n264))⟩, ⟨(some p10n266), (some (p10n259, false)), (.bin .gtr (.t p10n265) (.c (.int .i64 (.ofNat 1))))⟩, ⟨(some p10n267), (some (p10n252, true)), (.pick (.t p10n259) (.c (.bool true)) (.t p10n266))⟩, ⟨(some p10n268), none, (.pick (.t p10n252) (.t p10n267) (.c (.bool false)))⟩]) (.cond (.t p10n268) (.reg [⟨(some p10n269), none, (.mv (.t p10n0))⟩, ⟨(some p10n270), none, (.mv (.t p10n1))⟩, ⟨(some p10n271), none, (.mv (.t p10n12))⟩, ⟨(some p10n272), none, (.iaddr 3 (.t p10n270) (.t p10n271))⟩, ⟨(some p10n273), none, (.ldA 3 (.t p10n272))⟩, ⟨(some p10n274), none, (.mv (.t p10n2))⟩, ⟨(some p10n275), none, (.call 152 [(.t p10n273), (.t p10n274)])⟩, ⟨(some p10n276), none, (.call 156 [(.t p10n269), (.c (.int .i64 (.ofNat 3))), (.t p10n275)])⟩]) .skip)) (.regd [(.pure, ⟨(some p10n277), none, (.mv (.t p10n10))⟩), (.pure, ⟨(some p10n278), none, (.mv (.t p10n16))⟩), (.pure, ⟨(some p10n279), none, (.bin .sub (.t p10n278) (.c (.int .i64 (.ofNat 1))))⟩), (.pure, ⟨(some p10n280), none, (.slL 1 (.t p10n277) none (some (.t p10n279)) none)⟩), (.pure, ⟨(some p10n281), none, (.mv (.t p10n11))⟩), (.pure, ⟨(some p10n282), none, (.mv (.t p10n16))⟩), (.pure, ⟨(some p10n283), none, (.bin .sub (.t p10n282) (.c (.int .i64 (.ofNat 1))))⟩), (.pure, ⟨(some p10n284), none, (.slL 1 (.t p10n281) none (some (.t p10n283)) none)⟩), (.pure, ⟨(some p10n10), none, (.mv (.t p10n280))⟩)] [⟨(some p10n11), none, (.mv (.t p10n284))⟩])))) (.seq (.reg [⟨(some p10n286), none, (.bin .eql (.t p10n91) (.c (.str [46, 101, 110, 100, 105, 102])))⟩, ⟨(some p10n285), none, (.mv (.t p10n286))⟩]) (.cond (.t p10n285) (.seq (.seq (.reg [⟨(some p10n287), none, (.mv (.t p10n16))⟩, ⟨(some p10n288), none, (.bin .eql (.t p10n287) (.c (.int .i64 (.ofNat 0))))⟩]) (.cond (.t p10n288) (.seq (.reg [⟨(some p10n289), none, (.mv (.t p10n0))⟩, ⟨(some p10n290), none, (.mv (.t p10n13))⟩, ⟨(some p10n291), none, (.call 156 [(.t p10n289), (.c (.int .i64 (.ofNat 3))), (.t p10n290)])⟩]) .ret) .skip)) (.regd [(.pure, ⟨(some p10n292), none, (.mv (.t p10n10))⟩), (.pure, ⟨(some p10n293), none, (.mv (.t p10n16))⟩), (.pure, ⟨(some p10n294), none, (.bin .sub (.t p10n293) (.c (.int .i64 (.ofNat 1))))⟩), (.pure, ⟨(some p10n295), none, (.slL 1 (.t p10n292) none (some (.t p10n294)) none)⟩), (.pure, ⟨(some p10n296), none, (.mv (.t p10n11))⟩), (.pure, ⟨(some p10n297), none, (.mv (.t p10n16))⟩), (.pure, ⟨(some p10n298), none, (.bin .sub (.t p10n297) (.c (.int .i64 (.ofNat 1))))⟩), (.pure, ⟨(some p10n299), none, (.slL 1 (.t p10n296) none (some (.t p10n298)) none)⟩), (.pure, ⟨(some p10n10), none, (.mv (.t p10n295))⟩)] [⟨(some p10n11), none, (.mv (.t p10n299))⟩])) (.seq (.reg [⟨(some p10n301), none, (.bin .eql (.t p10n91) (.c (.str [46, 101, 113, 117])))⟩, ⟨(some p10n300), none, (.mv (.t p10n301))⟩]) (.cond (.t p10n300) (.reg [⟨(some p10n302), none, (.mv (.t p10n0))⟩, ⟨(some p10n303), none, (.ldA 3 (.t p10n14))⟩, ⟨(some p10n304), none, (.call 159 [(.t p10n302), (.t p10n303)])⟩]) (.reg [⟨(some p10n92), none, (.mv (.t p10n0))⟩, ⟨(some p10n93), none, (.ldA 3 (.t p10n14))⟩, ⟨(some p10n94), none, (.mv (.t p10n3))⟩, ⟨(some p10n95), none, (.call 160 [(.t p10n92), (.t p10n93), (.t p10n94)])⟩]))))))))))))))))))))))) (.reg [⟨(some p10n30), none, (.mv (.t p10n12))⟩, ⟨(some p10n31), none, (.bin .add (.t p10n30) (.c (.int .i64 (.ofNat 1))))⟩, ⟨(some p10n12), none, (.mv (.t p10n31))⟩])))))) (.seq (.reg [⟨(some p10n305), none, (.mv (.t p10n10))⟩, ⟨(some p10n306), none, (.len false (.t p10n305))⟩, ⟨(some p10n307), none, (.bin .gtr (.t p10n306) (.c (.int .i64 (.ofNat 0))))⟩]) (.cond (.t p10n307) (.reg [⟨(some p10n308), none, (.mv (.t p10n0))⟩, ⟨(some p10n309), none, (.mv (.t p10n10))⟩, ⟨(some p10n310), none, (.mv (.t p10n10))⟩, ⟨(some p10n311), none, (.len false (.t p10n310))⟩, ⟨(some p10n312), none, (.bin .sub (.t p10n311) (.c (.int .i64 (.ofNat 1))))⟩, ⟨(some p10n313), none, (.iaddr 1 (.t p10n309) (.t p10n312))⟩, ⟨(some p10n314), none, (.ld1 (.t p10n313))⟩, ⟨(some p10n315), none, (.call 156 [(.t p10n308), (.c (.int .i64 (.ofNat 3))), (.t p10n314)])⟩]) .skip)))))⟩
noncomputable def a145 : AFunc :=
  ⟨6, [p6n0, p6n1], [(p6n4, none)], false, (.seq (.reg [⟨(some p6n2), none, (.box (.t p6n0))⟩, ⟨(some p6n3), none, (.box (.t p6n1))⟩, ⟨(some p6n4), none, (.mv (.c (.bool false)))⟩]) (.seq (.reg [⟨(some p6n5), none, (.faddr 0 (.t p6n2))⟩, ⟨(some p6n6), none, (.ld1 (.t p6n5))⟩, ⟨(some p6n7), none, (.faddr 0 (.t p6n3))⟩, ⟨(some p6n8), none, (.ld1 (.t p6n7))⟩, ⟨(some p6n9), none, (.bin .eql (.t p6n6) (.t p6n8))⟩, ⟨(some p6n10), none, (.mv (.t p6n9))⟩, ⟨(some p6n11), (some (p6n10, true)), (.faddr 1 (.t p6n2))⟩, ⟨(some p6n12), (some (p6n10, true)), (.ld1 (.t p6n11))⟩, ⟨(some p6n13), (some (p6n10, true)), (.faddr 1 (.t p6n3))⟩, ⟨(some p6n14), (some (p6n10, true)), (.ld1 (.t p6n13))⟩, ⟨(some p6n15), (some (p6n10, true)), (.bin .eql (.t p6n12) (.t p6n14))⟩, ⟨(some p6n16), none, (.pick (.t p6n10) (.t p6n15) (.c (.bool false)))⟩, ⟨(some p6n17), none, (.mv (.t p6n16))⟩, ⟨(some p6n18), (some (p6n17, true)), (.faddr 2 (.t p6n2))⟩, ⟨(some p6n19), (some (p6n17, true)), (.ld1 (.t p6n18))⟩, ⟨(some p6n20), (some (p6n17, true)), (.faddr 2 (.t p6n3))⟩, ⟨(some p6n21), (some (p6n17, true)), (.ld1 (.t p6n20))⟩, ⟨(some p6n22), (some (p6n17, true)), (.call 38 [(.t p6n19), (.t p6n21)])⟩, ⟨(some p6n23), none, (.pick (.t p6n17) (.t p6n22) (.c (.bool false)))⟩, ⟨(some p6n4), none, (.mv (.t p6n23))⟩]) .ret))⟩
noncomputable def a146 : AFunc :=
  ⟨4, [p4n0], [], false, (.seq (.reg [⟨(some p4n2), none, (.mv (.c (.int .i64 (.ofNat 0))))⟩]) (.block 0 (.loop (.seq (.seq (.reg [⟨(some p4n3), none, (.mv (.t p4n2))⟩, ⟨(some p4n4), none, (.mv (.t p4n0))⟩, ⟨(some p4n5), none, (.len false (.t p4n4))⟩, ⟨(some p4n6), none, (.bin .lss (.t p4n3) (.t p4n5))⟩]) (.cond (.t p4n6) .skip (.exit 0))) (.seq (.block 1 (.reg [⟨(some p4n9), none, (.mv (.t p4n0))⟩, ⟨(some p4n10), none, (.mv (.t p4n2))⟩, ⟨(some p4n11), none, (.build [(.int .i64 (.ofNat 0)), (.str []), (.int .i64 (.ofNat 0)), (.int .i64 (.ofNat 0))] [(0, (1, (.c (.int .i64 (.negSucc 8)))))])⟩, ⟨(some p4n12), none, (.iaddr 4 (.t p4n9) (.t p4n10))⟩, ⟨none, none, (.st 4 (.t p4n12) (.t p4n11))⟩])) (.reg [⟨(some p4n7), none, (.mv (.t p4n2))⟩, ⟨(some p4n8), none, (.bin .add (.t p4n7) (.c (.int .i64 (.ofNat 1))))⟩, ⟨(some p4n2), none, (.mv (.t p4n8))⟩]))))))⟩
noncomputable def a147 : AFunc :=
  ⟨6, [p6n0], [(p6n2, none), (p6n3, none)], false, (.seq (.reg [⟨(some p6n2), none, (.mv (.c .nils))⟩, ⟨(some p6n3), none, (.mv (.c (.bool false)))⟩]) (.seq (.seq (.reg [⟨(some p6n7), none, (.mv (.t p6n0))⟩, ⟨(some p6n8), none, (.len true (.t p6n7))⟩, ⟨(some p6n9), none, (.bin .gtr (.t p6n8) (.c (.int .i64 (.ofNat 4000))))⟩]) (.cond (.t p6n9) (.seq (.reg [⟨(some p6n2), none, (.mv (.c .nils))⟩, ⟨(some p6n3), none, (.mv (.c (.bool false)))⟩]) .ret) .skip)) (.seq (.reg [⟨(some p6n4), none, (.mv (.c .nils))⟩]) (.seq (.reg [⟨(some p6n5), none, (.mv (.c (.int .i64 (.ofNat 0))))⟩]) (.seq (.seq (.reg [⟨(some p6n6), none, (.mv (.c (.int .i64 (.ofNat 0))))⟩]) (.block 0 (.loop (.seq (.seq (.reg [⟨(some p6n10), none, (.mv (.t p6n6))⟩, ⟨(some p6n11), none, (.mv (.t p6n0))⟩, ⟨(some p6n12), none, (.len true (.t p6n11))⟩, ⟨(some p6n13), none, (.bin .lss (.t p6n10) (.t p6n12))⟩]) (.cond (.t p6n13) .skip (.exit 0))) (.seq (.block 1 (.seq (.reg [⟨(some p6n16), none, (.mv (.t p6n0))⟩, ⟨(some p6n17), none, (.mv (.t p6n6))⟩, ⟨(some p6n18), none, (.idxS (.t p6n16) (.t p6n17))⟩, ⟨(some p6n19), none, (.bin .eql (.t p6n18) (.c (.int .u8 (.ofNat 10))))⟩]) (.cond (.t p6n19) (.seq (.reg [⟨(some p6n20), none, (.mv (.t p6n4))⟩, ⟨(some p6n21), none, (.mv (.t p6n0))⟩, ⟨(some p6n22), none, (.mv (.t p6n5))⟩, ⟨(some p6n23), none, (.mv (.t p6n6))⟩, ⟨(some p6n24), none, (.slS (.t p6n21) (some (.t p6n22)) (some (.t p6n23)))⟩, ⟨(some p6n25), none, (.buildS 1 1 (.str []) [(0, (.t p6n24))])⟩, ⟨(some p6n26), none, (.app 1 16 (.str []) (.t p6n20) (.t p6n25))⟩, ⟨(some p6n4), none, (.mv (.t p6n26))⟩]) (.reg [⟨(some p6n27), none, (.mv (.t p6n6))⟩, ⟨(some p6n28), none, (.bin .add (.t p6n27) (.c (.int .i64 (.ofNat 1))))⟩, ⟨(some p6n5), none, (.mv (.t p6n28))⟩])) .skip))) (.reg [⟨(some p6n14), none, (.mv (.t p6n6))⟩, ⟨(some p6n15), none, (.bin .add (.t p6n14) (.c (.int .i64 (.ofNat 1))))⟩, ⟨(some p6n6), none, (.mv (.t p6n15))⟩])))))) (.seq (.reg [⟨(some p6n29), none, (.mv (.t p6n4))⟩, ⟨(some p6n30), none, (.mv (.t p6n0))⟩, ⟨(some p6n31), none, (.mv (.t p6n5))⟩, ⟨(some p6n32), none, (.slS (.t p6n30) (some (.t p6n31)) none)⟩, ⟨(some p6n33), none, (.buildS 1 1 (.str []) [(0, (.t p6n32))])⟩, ⟨(some p6n34), none, (.app 1 16 (.str []) (.t p6n29) (.t p6n33))⟩, ⟨(some p6n4), none, (.mv (.t p6n34))⟩]) (.seq (.reg [⟨(some p6n35), none, (.mv (.t p6n4))⟩, ⟨(some p6n36), none, (.mv (.t p6n4))⟩, ⟨(some p6n37), none, (.len false (.t p6n36))⟩, ⟨(some p6n38), none, (.bin .leq (.t p6n37) (.c (.int .i64 (.ofNat 300))))⟩, ⟨(some p6n2), none, (.mv (.t p6n35))⟩, ⟨(some p6n3), none, (.mv (.t p6n38))⟩]) .ret)))))))⟩
noncomputable def a148 : AFunc :=
  ⟨4, [p4n0], [(p4n2, none)], false, (.seq (.reg [⟨(some p4n1), none, (.box (.t p4n0))⟩, ⟨(some p4n2), none, (.mv (.c (.bool false)))⟩]) (.seq (.reg [⟨(some p4n3), none, (.faddr 0 (.t p4n1))⟩, ⟨(some p4n4), none, (.ld1 (.t p4n3))⟩, ⟨(some p4n5), none, (.bin .eql (.t p4n4) (.c (.int .i64 (.ofNat 1))))⟩, ⟨(some p4n6), none, (.mv (.t p4n5))⟩, ⟨(some p4n7), (some (p4n6, true)), (.faddr 1 (.t p4n1))⟩, ⟨(some p4n8), (some (p4n6, true)), (.ld1 (.t p4n7))⟩, ⟨(some p4n9), (some (p4n6, true)), (.call 53 [(.t p4n8)])⟩, ⟨(some p4n10), none, (.pick (.t p4n6) (.t p4n9) (.c (.bool false)))⟩, ⟨(some p4n2), none, (.mv (.t p4n10))⟩]) .ret))⟩
noncomputable def a149 : AFunc :=
  ⟨4, [p4n0], [(p4n2, none)], false, (.seq (.reg [⟨(some p4n1), none, (.box (.t p4n0))⟩, ⟨(some p4n2), none, (.mv (.c (.int .i64 (.ofNat 0))))⟩]) (.seq (.seq (.reg [⟨(some p4n3), none, (.faddr 1 (.t p4n1))⟩, ⟨(some p4n4), none, (.ld1 (.t p4n3))⟩, ⟨(some p4n5), none, (.bin .neq (.t p4n4) (.c (.str [])))⟩]) (.cond (.t p4n5) (.seq (.reg [⟨(some p4n2), none, (.mv (.c (.int .i64 (.ofNat 38))))⟩]) .ret) .skip)) (.seq (.reg [⟨(some p4n2), none, (.mv (.c (.int .i64 (.ofNat 40))))⟩]) .ret)))⟩
noncomputable def a150 : AFunc :=
  ⟨4, [p4n0], [(p4n2, none)], false, (.seq (.reg [⟨(some p4n1), none, (.box (.t p4n0))⟩, ⟨(some p4n2), none, (.mv (.c (.bool false)))⟩]) (.seq (.reg [⟨(some p4n3), none, (.ldA 4 (.t p4n1))⟩, ⟨(some p4n4), none, (.call 161 [(.t p4n3), (.c (.str [58]))])⟩, ⟨(some p4n2), none, (.mv (.t p4n4))⟩]) .ret))⟩
noncomputable def a151 : AFunc :=
  ⟨8, [p8n0], [(p8n2, none)], true, (.seq (.reg [⟨(some p8n2), none, (.mv (.c (.int .i64 (.ofNat 0))))⟩]) (.seq (.regd [(.pure, ⟨(some p8n8), none, (.mv (.t p8n0))⟩), (.pure, ⟨(some p8n9), none, (.nilck (.t p8n8))⟩), (.pure, ⟨(some p8n10), none, (.faddr 1 (.t p8n9))⟩), (.load, ⟨(some p8n11), none, (.ld1 (.t p8n10))⟩), (.pure, ⟨(some p8n12), none, (.mv (.t p8n0))⟩), (.pure, ⟨(some p8n13), none, (.nilck (.t p8n12))⟩), (.pure, ⟨(some p8n14), none, (.faddr 5 (.t p8n13))⟩), (.load, ⟨(some p8n15), none, (.ld1 (.t p8n14))⟩), (.pure, ⟨(some p8n16), none, (.iaddr 3 (.t p8n11) (.t p8n15))⟩), (.load, ⟨(some p8n17), none, (.ldA 3 (.t p8n16))⟩), (.pure, ⟨(some p8n3), none, (.alloc [(.int .i64 (.ofNat 0)), (.str []), .nils])⟩)] [⟨none, none, (.st 3 (.t p8n3) (.t p8n17))⟩]) (.seq (.reg [⟨(some p8n18), none, (.mv (.t p8n0))⟩, ⟨(some p8n19), none, (.mv (.t p8n0))⟩, ⟨(some p8n20), none, (.nilck (.t p8n19))⟩, ⟨(some p8n21), none, (.faddr 5 (.t p8n20))⟩, ⟨(some p8n22), none, (.ld1 (.t p8n21))⟩, ⟨(some p8n23), none, (.call 162 [(.t p8n18), (.t p8n22)])⟩, ⟨(some p8n24), none, (.faddr 0 (.t p8n3))⟩, ⟨none, none, (.st 1 (.t p8n24) (.t p8n23))⟩]) (.seq (.regd [(.pure, ⟨(some p8n25), none, (.mv (.t p8n0))⟩), (.pure, ⟨(some p8n26), none, (.nilck (.t p8n25))⟩), (.pure, ⟨(some p8n27), none, (.faddr 0 (.t p8n26))⟩), (.load, ⟨(some p8n28), none, (.ld1 (.t p8n27))⟩), (.pure, ⟨(some p8n29), none, (.faddr 0 (.t p8n3))⟩), (.load, ⟨(some p8n30), none, (.ld1 (.t p8n29))⟩)] [⟨(some p8n31), none, (.nilck (.t p8n28))⟩, ⟨(some p8n32), none, (.faddr 4 (.t p8n31))⟩, ⟨none, none, (.st 1 (.t p8n32) (.t p8n30))⟩]) (.seq (.seq (.reg [⟨(some p8n33), none, (.mv (.t p8n0))⟩, ⟨(some p8n34), none, (.nilck (.t p8n33))⟩, ⟨(some p8n35), none, (.faddr 4 (.t p8n34))⟩, ⟨(some p8n36), none, (.ld1 (.t p8n35))⟩, ⟨(some p8n37), none, (.bin .gtr (.t p8n36) (.c (.int .i64 (.ofNat 0))))⟩]) (.cond (.t p8n37) (.seq (.reg [⟨(some p8n4), none, (.mv (.c (.int .i64 (.ofNat 0))))⟩]) (.seq (.seq (.reg [⟨(some p8n39), none, (.mv (.t p8n0))⟩, ⟨(some p8n40), none, (.faddr 2 (.t p8n3))⟩, ⟨(some p8n41), none, (.ld1 (.t p8n40))⟩, ⟨(some p8n42), none, (.call 163 [(.t p8n39), (.t p8n41)])⟩, ⟨(some p8n38), none, (.mv (.t p8n42))⟩, ⟨(some p8n43), none, (.ext (.t p8n38) 0)⟩, ⟨(some p8n44), none, (.ext (.t p8n38) 1)⟩, ⟨(some p8n45), none, (.faddr 2 (.t p8n3))⟩, ⟨none, none, (.st 1 (.t p8n45) (.t p8n43))⟩, ⟨(some p8n4), none, (.mv (.t p8n44))⟩]) (.seq (.reg [⟨(some p8n46), none, (.mv (.t p8n4))⟩, ⟨(some p8n47), none, (.bin .neq (.t p8n46) (.c (.int .i64 (.ofNat 0))))⟩]) (.cond (.t p8n47) (.seq (.reg [⟨(some p8n48), none, (.mv (.t p8n4))⟩, ⟨(some p8n2), none, (.mv (.t p8n48))⟩]) .ret) .skip))) (.seq (.reg [⟨(some p8n49), none, (.faddr 1 (.t p8n3))⟩, ⟨(some p8n50), none, (.ld1 (.t p8n49))⟩, ⟨(some p8n51), none, (.bin .eql (.t p8n50) (.c (.str [])))⟩, ⟨(some p8n52), none, (.mv (.t p8n51))⟩, ⟨(some p8n53), (some (p8n52, true)), (.faddr 2 (.t p8n3))⟩, ⟨(some p8n54), (some (p8n52, true)), (.ld1 (.t p8n53))⟩, ⟨(some p8n55), (some (p8n52, true)), (.len false (.t p8n54))⟩, ⟨(some p8n56), (some (p8n52, true)), (.bin .eql (.t p8n55) (.c (.int .i64 (.ofNat 0))))⟩, ⟨(some p8n57), none, (.pick (.t p8n52) (.t p8n56) (.c (.bool false)))⟩]) (.cond (.t p8n57) (.seq (.reg [⟨(some p8n2), none, (.mv (.c (.int .i64 (.ofNat 0))))⟩]) .ret) .skip)))) .skip)) (.seq (.reg [⟨(some p8n58), none, (.ldA 3 (.t p8n3))⟩, ⟨(some p8n59), none, (.call 164 [(.t p8n58)])⟩, ⟨(some p8n5), none, (.mv (.t p8n59))⟩]) (.seq (.seq (.reg [⟨(some p8n60), none, (.mv (.t p8n5))⟩, ⟨(some p8n61), none, (.call 165 [(.t p8n60)])⟩, ⟨(some p8n62), none, (.mv (.t p8n61))⟩, ⟨(some p8n63), (some (p8n62, true)), (.faddr 1 (.t p8n3))⟩, ⟨(some p8n64), (some (p8n62, true)), (.ld1 (.t p8n63))⟩, ⟨(some p8n65), (some (p8n62, true)), (.bin .neq (.t p8n64) (.c (.str [])))⟩, ⟨(some p8n66), none, (.pick (.t p8n62) (.t p8n65) (.c (.bool false)))⟩]) (.cond (.t p8n66) (.seq (.reg [⟨(some p8n2), none, (.mv (.c (.int .i64 (.ofNat 3))))⟩]) .ret) .skip)) (.seq (.seq (.reg [⟨(some p8n67), none, (.mv (.t p8n5))⟩]) (.block 0 (.seq (.reg [⟨(some p8n69), none, (.bin .eql (.t p8n67) (.c (.str [46, 109, 97, 99, 114, 111])))⟩, ⟨(some p8n68), none, (.mv (.t p8n69))⟩]) (.cond (.t p8n68) (.seq (.reg [⟨(some p8n70), none, (.mv (.t p8n0))⟩, ⟨(some p8n71), none, (.ldA 3 (.t p8n3))⟩, ⟨(some p8n72), none, (.call 166 [(.t p8n70), (.t p8n71)])⟩, ⟨(some p8n2), none, (.mv (.t p8n72))⟩]) .ret) (.seq (.reg [⟨(some p8n74), none, (.bin .eql (.t p8n67) (.c (.str [46, 101, 110, 100, 109])))⟩, ⟨(some p8n73), none, (.mv (.t p8n74))⟩]) (.cond (.t p8n73) (.seq (.reg [⟨(some p8n2), none, (.mv (.c (.int .i64 (.ofNat 3))))⟩]) .ret) (.seq (.reg [⟨(some p8n76), none, (.bin .eql (.t p8n67) (.c (.str [46, 105, 102])))⟩, ⟨(some p8n75), none, (.mv (.t p8n76))⟩]) (.cond (.t p8n75) (.seq (.reg [⟨(some p8n77), none, (.mv (.t p8n0))⟩, ⟨(some p8n78), none, (.ldA 3 (.t p8n3))⟩, ⟨(some p8n79), none, (.call 167 [(.t p8n77), (.t p8n78)])⟩, ⟨(some p8n2), none, (.mv (.t p8n79))⟩]) .ret) (.seq (.seq (.reg [⟨(some p8n81), none, (.bin .eql (.t p8n67) (.c (.str [46, 101, 108, 115, 101])))⟩, ⟨(some p8n80), none, (.mv (.t p8n81))⟩]) (.cond (.t p8n80) .skip (.reg [⟨(some p8n82), none, (.bin .eql (.t p8n67) (.c (.str [46, 101, 110, 100, 105, 102])))⟩, ⟨(some p8n80), none, (.mv (.t p8n82))⟩]))) (.cond (.t p8n80) (.seq (.reg [⟨(some p8n83), none, (.mv (.t p8n0))⟩, ⟨(some p8n84), none, (.ldA 3 (.t p8n3))⟩, ⟨(some p8n85), none, (.call 168 [(.t p8n83), (.t p8n84)])⟩, ⟨(some p8n2), none, (.mv (.t p8n85))⟩]) .ret) (.seq (.reg [⟨(some p8n87), none, (.bin .eql (.t p8n67) (.c (.str [46, 101, 113, 117])))⟩, ⟨(some p8n86), none, (.mv (.t p8n87))⟩]) (.cond (.t p8n86) (.seq (.reg [⟨(some p8n88), none, (.mv (.t p8n0))⟩, ⟨(some p8n89), none, (.ldA 3 (.t p8n3))⟩, ⟨(some p8n90), none, (.call 169 [(.t p8n88), (.t p8n89)])⟩, ⟨(some p8n2), none, (.mv (.t p8n90))⟩]) .ret) .skip)))))))))))) (.seq (.seq (.reg [⟨(some p8n92), none, (.mv (.t p8n0))⟩, ⟨(some p8n93), none, (.nilck (.t p8n92))⟩, ⟨(some p8n94), none, (.faddr 0 (.t p8n93))⟩, ⟨(some p8n95), none, (.ld1 (.t p8n94))⟩, ⟨(some p8n96), none, (.nilck (.t p8n95))⟩, ⟨(some p8n97), none, (.faddr 1 (.t p8n96))⟩, ⟨(some p8n98), none, (.ld1 (.t p8n97))⟩, ⟨(some p8n99), none, (.mv (.t p8n5))⟩, ⟨(some p8n100), none, (.mem (.lkp .str .nils true) [(.t p8n98), (.t p8n99)])⟩, ⟨(some p8n91), none, (.mv (.t p8n100))⟩, ⟨(some p8n101), none, (.ext (.t p8n91) 0)⟩, ⟨(some p8n102), none, (.ext (.t p8n91) 1)⟩, ⟨(some p8n6), none, (.mv (.t p8n101))⟩, ⟨(some p8n7), none, (.mv (.t p8n102))⟩]) (.seq (.reg [⟨(some p8n103), none, (.mv (.t p8n7))⟩]) (.cond (.t p8n103) (.seq (.reg [⟨(some p8n104), none, (.mv (.t p8n0))⟩, ⟨(some p8n105), none, (.ldA 3 (.t p8n3))⟩, ⟨(some p8n106), none, (.mv (.t p8n6))⟩, ⟨(some p8n107), none, (.call 170 [(.t p8n104), (.t p8n105), (.t p8n106)])⟩, ⟨(some p8n2), none, (.mv (.t p8n107))⟩]) .ret) .skip))) (.seq (.regd [(.pure, ⟨(some p8n108), none, (.mv (.t p8n0))⟩), (.pure, ⟨(some p8n109), none, (.nilck (.t p8n108))⟩), (.pure, ⟨(some p8n110), none, (.faddr 0 (.t p8n109))⟩), (.load, ⟨(some p8n111), none, (.ld1 (.t p8n110))⟩), (.load, ⟨(some p8n112), none, (.ldA 3 (.t p8n3))⟩)] [⟨(some p8n113), none, (.call 171 [(.t p8n111), (.t p8n112)])⟩, ⟨(some p8n2), none, (.mv (.t p8n113))⟩]) .ret))))))))))⟩
noncomputable def a152 : AFunc :=
  ⟨4, [p4n0, p4n1], [(p4n4, none)], false, (.seq (.reg [⟨(some p4n2), none, (.box (.t p4n0))⟩, ⟨(some p4n4), none, (.mv (.c (.int .i64 (.ofNat 0))))⟩]) (.seq (.seq (.reg [⟨(some p4n5), none, (.mv (.t p4n1))⟩, ⟨(some p4n6), none, (.bin .gtr (.t p4n5) (.c (.int .i64 (.ofNat 0))))⟩]) (.cond (.t p4n6) (.seq (.reg [⟨(some p4n7), none, (.mv (.t p4n1))⟩, ⟨(some p4n4), none, (.mv (.t p4n7))⟩]) .ret) .skip)) (.seq (.reg [⟨(some p4n8), none, (.faddr 0 (.t p4n2))⟩, ⟨(some p4n9), none, (.ld1 (.t p4n8))⟩, ⟨(some p4n4), none, (.mv (.t p4n9))⟩]) .ret)))⟩
noncomputable def a153 : AFunc :=
  ⟨8, [p8n0, p8n1, p8n2, p8n3], [(p8n8, (some (3, true)))], false, (.seq (.reg [⟨(some p8n5), none, (.box (.t p8n1))⟩, ⟨(some p8n8), none, (.alloc [(.int .i64 (.ofNat 0)), (.str []), .nils])⟩]) (.seq (.reg [⟨(some p8n9), none, (.mv (.c .nils))⟩]) (.seq (.seq (.reg [⟨(some p8n10), none, (.mv (.c (.int .i64 (.ofNat 0))))⟩]) (.block 0 (.loop (.seq (.seq (.reg [⟨(some p8n12), none, (.mv (.t p8n10))⟩, ⟨(some p8n13), none, (.faddr 2 (.t p8n5))⟩, ⟨(some p8n14), none, (.ld1 (.t p8n13))⟩, ⟨(some p8n15), none, (.len false (.t p8n14))⟩, ⟨(some p8n16), none, (.bin .lss (.t p8n12) (.t p8n15))⟩]) (.cond (.t p8n16) .skip (.exit 0))) (.seq (.block 1 (.seq (.reg [⟨(some p8n19), none, (.faddr 2 (.t p8n5))⟩, ⟨(some p8n20), none, (.ld1 (.t p8n19))⟩, ⟨(some p8n21), none, (.mv (.t p8n10))⟩, ⟨(some p8n22), none, (.iaddr 4 (.t p8n20) (.t p8n21))⟩, ⟨(some p8n23), none, (.ldA 4 (.t p8n22))⟩, ⟨(some p8n11), none, (.alloc [(.int .i64 (.ofNat 0)), (.str []), (.int .i64 (.ofNat 0)), (.int .i64 (.ofNat 0))])⟩, ⟨none, none, (.st 4 (.t p8n11) (.t p8n23))⟩]) (.seq (.seq (.reg [⟨(some p8n24), none, (.ldA 4 (.t p8n11))⟩, ⟨(some p8n25), none, (.call 143 [(.t p8n24), (.c (.str [64]))])⟩, ⟨(some p8n26), none, (.un .not (.t p8n25))⟩]) (.cond (.t p8n26) (.seq (.reg [⟨(some p8n27), none, (.mv (.t p8n9))⟩, ⟨(some p8n28), none, (.ldA 4 (.t p8n11))⟩, ⟨(some p8n29), none, (.buildS 4 1 (.agg [(.int .i64 (.ofNat 0)), (.str []), (.int .i64 (.ofNat 0)), (.int .i64 (.ofNat 0))]) [(0, (.t p8n28))])⟩, ⟨(some p8n30), none, (.app 4 40 (.agg [(.int .i64 (.ofNat 0)), (.str []), (.int .i64 (.ofNat 0)), (.int .i64 (.ofNat 0))]) (.t p8n27) (.t p8n29))⟩, ⟨(some p8n9), none, (.mv (.t p8n30))⟩]) (.exit 1)) .skip)) (.seq (.reg [⟨(some p8n31), none, (.mv (.t p8n10))⟩, ⟨(some p8n32), none, (.bin .add (.t p8n31) (.c (.int .i64 (.ofNat 1))))⟩, ⟨(some p8n10), none, (.mv (.t p8n32))⟩]) (.seq (.seq (.reg [⟨(some p8n33), none, (.mv (.t p8n10))⟩, ⟨(some p8n34), none, (.faddr 2 (.t p8n5))⟩, ⟨(some p8n35), none, (.ld1 (.t p8n34))⟩, ⟨(some p8n36), none, (.len false (.t p8n35))⟩, ⟨(some p8n37), none, (.bin .geq (.t p8n33) (.t p8n36))⟩, ⟨(some p8n38), none, (.mv (.t p8n37))⟩, ⟨(some p8n39), (some (p8n38, false)), (.faddr 2 (.t p8n5))⟩, ⟨(some p8n40), (some (p8n38, false)), (.ld1 (.t p8n39))⟩, ⟨(some p8n41), (some (p8n38, false)), (.mv (.t p8n10))⟩, ⟨(some p8n42), (some (p8n38, false)), (.iaddr 4 (.t p8n40) (.t p8n41))⟩, ⟨(some p8n43), (some (p8n38, false)), (.faddr 0 (.t p8n42))⟩, ⟨(some p8n44), (some (p8n38, false)), (.ld1 (.t p8n43))⟩, ⟨(some p8n45), (some (p8n38, false)), (.bin .neq (.t p8n44) (.c (.int .i64 (.ofNat 2))))⟩, ⟨(some p8n46), none, (.pick (.t p8n38) (.c (.bool true)) (.t p8n45))⟩, ⟨(some p8n47), none, (.mv (.t p8n46))⟩, ⟨(some p8n48), (some (p8n47, false)), (.faddr 2 (.t p8n5))⟩, ⟨(some p8n49), (some (p8n47, false)), (.ld1 (.t p8n48))⟩, ⟨(some p8n50), (some (p8n47, false)), (.mv (.t p8n10))⟩, ⟨(some p8n51), (some (p8n47, false)), (.iaddr 4 (.t p8n49) (.t p8n50))⟩, ⟨(some p8n52), (some (p8n47, false)), (.faddr 2 (.t p8n51))⟩, ⟨(some p8n53), (some (p8n47, false)), (.ld1 (.t p8n52))⟩, ⟨(some p8n54), (some (p8n47, false)), (.call 46 [(.t p8n53), (.c (.int .i64 (.ofNat 1))), (.c (.int .i64 (.ofNat 9)))])⟩, ⟨(some p8n55), (some (p8n47, false)), (.un .not (.t p8n54))⟩, ⟨(some p8n56), none, (.pick (.t p8n47) (.c (.bool true)) (.t p8n55))⟩, ⟨(some p8n57), none, (.mv (.t p8n56))⟩, ⟨(some p8n58), (some (p8n57, false)), (.faddr 2 (.t p8n5))⟩, ⟨(some p8n59), (some (p8n57, false)), (.ld1 (.t p8n58))⟩, ⟨(some p8n60), (some (p8n57, false)), (.mv (.t p8n10))⟩, ⟨(some p8n61), (some (p8n57, false)), (.iaddr 4 (.t p8n59) (.t p8n60))⟩, ⟨(some p8n62), (some (p8n57, false)), (.faddr 2 (.t p8n61))⟩, ⟨(some p8n63), (some (p8n57, false)), (.ld1 (.t p8n62))⟩, ⟨(some p8n64), (some (p8n57, false)), (.mv (.t p8n2))⟩, ⟨(some p8n65), (some (p8n57, false)), (.len false (.t p8n64))⟩, ⟨(some p8n66), (some (p8n57, false)), (.bin .gtr (.t p8n63) (.t p8n65))⟩, ⟨(some p8n67), none, (.pick (.t p8n57) (.c (.bool true)) (.t p8n66))⟩]) (.cond (.t p8n67) (.seq (.reg [⟨(some p8n68), none, (.mv (.t p8n0))⟩, ⟨(some p8n69), none, (.mv (.t p8n3))⟩, ⟨(some p8n70), none, (.call 156 [(.t p8n68), (.c (.int .i64 (.ofNat 3))), (.t p8n69)])⟩]) (.seq (.reg [⟨(some p8n71), none, (.ldA 3 (.t p8n5))⟩, ⟨none, none, (.st 3 (.t p8n8) (.t p8n71))⟩]) .ret)) .skip)) (.reg [⟨(some p8n72), none, (.mv (.t p8n9))⟩, ⟨(some p8n73), none, (.mv (.t p8n2))⟩, ⟨(some p8n74), none, (.faddr 2 (.t p8n5))⟩, ⟨(some p8n75), none, (.ld1 (.t p8n74))⟩, ⟨(some p8n76), none, (.mv (.t p8n10))⟩, ⟨(some p8n77), none, (.iaddr 4 (.t p8n75) (.t p8n76))⟩, ⟨(some p8n78), none, (.faddr 2 (.t p8n77))⟩, ⟨(some p8n79), none, (.ld1 (.t p8n78))⟩, ⟨(some p8n80), none, (.bin .sub (.t p8n79) (.c (.int .i64 (.ofNat 1))))⟩, ⟨(some p8n81), none, (.iaddr 1 (.t p8n73) (.t p8n80))⟩, ⟨(some p8n82), none, (.ld1 (.t p8n81))⟩, ⟨(some p8n83), none, (.app 4 40 (.agg [(.int .i64 (.ofNat 0)), (.str []), (.int .i64 (.ofNat 0)), (.int .i64 (.ofNat 0))]) (.t p8n72) (.t p8n82))⟩, ⟨(some p8n9), none, (.mv (.t p8n83))⟩])))))) (.reg [⟨(some p8n17), none, (.mv (.t p8n10))⟩, ⟨(some p8n18), none, (.bin .add (.t p8n17) (.c (.int .i64 (.ofNat 1))))⟩, ⟨(some p8n10), none, (.mv (.t p8n18))⟩])))))) (.seq (.seq (.reg [⟨(some p8n84), none, (.mv (.t p8n9))⟩, ⟨(some p8n85), none, (.len false (.t p8n84))⟩, ⟨(some p8n86), none, (.bin .gtr (.t p8n85) (.c (.int .i64 (.ofNat 40))))⟩]) (.cond (.t p8n86) (.reg [⟨(some p8n87), none, (.mv (.t p8n0))⟩, ⟨(some p8n88), none, (.mv (.t p8n3))⟩, ⟨(some p8n89), none, (.call 156 [(.t p8n87), (.c (.int .i64 (.ofNat 2))), (.t p8n88)])⟩]) .skip)) (.seq (.reg [⟨(some p8n90), none, (.faddr 0 (.t p8n5))⟩, ⟨(some p8n91), none, (.ld1 (.t p8n90))⟩, ⟨(some p8n92), none, (.faddr 1 (.t p8n5))⟩, ⟨(some p8n93), none, (.ld1 (.t p8n92))⟩, ⟨(some p8n94), none, (.mv (.t p8n9))⟩, ⟨(some p8n95), none, (.build [(.int .i64 (.ofNat 0)), (.str []), .nils] [(0, (1, (.t p8n91))), (1, (1, (.t p8n93))), (2, (1, (.t p8n94)))])⟩, ⟨none, none, (.st 3 (.t p8n8) (.t p8n95))⟩]) .ret)))))⟩
noncomputable def a154 : AFunc :=
  ⟨6, [p6n0], [(p6n2, none)], false, (.seq (.reg [⟨(some p6n1), none, (.box (.t p6n0))⟩, ⟨(some p6n2), none, (.mv (.c (.str [])))⟩]) (.seq (.seq (.reg [⟨(some p6n3), none, (.faddr 2 (.t p6n1))⟩, ⟨(some p6n4), none, (.ld1 (.t p6n3))⟩, ⟨(some p6n5), none, (.len false (.t p6n4))⟩, ⟨(some p6n6), none, (.bin .gtr (.t p6n5) (.c (.int .i64 (.ofNat 0))))⟩, ⟨(some p6n7), none, (.mv (.t p6n6))⟩, ⟨(some p6n8), (some (p6n7, true)), (.faddr 2 (.t p6n1))⟩, ⟨(some p6n9), (some (p6n7, true)), (.ld1 (.t p6n8))⟩, ⟨(some p6n10), (some (p6n7, true)), (.iaddr 4 (.t p6n9) (.c (.int .i64 (.ofNat 0))))⟩, ⟨(some p6n11), (some (p6n7, true)), (.faddr 0 (.t p6n10))⟩, ⟨(some p6n12), (some (p6n7, true)), (.ld1 (.t p6n11))⟩, ⟨(some p6n13), (some (p6n7, true)), (.bin .eql (.t p6n12) (.c (.int .i64 (.ofNat 1))))⟩, ⟨(some p6n14), none, (.pick (.t p6n7) (.t p6n13) (.c (.bool false)))⟩]) (.cond (.t p6n14) (.seq (.reg [⟨(some p6n15), none, (.faddr 2 (.t p6n1))⟩, ⟨(some p6n16), none, (.ld1 (.t p6n15))⟩, ⟨(some p6n17), none, (.iaddr 4 (.t p6n16) (.c (.int .i64 (.ofNat 0))))⟩, ⟨(some p6n18), none, (.faddr 1 (.t p6n17))⟩, ⟨(some p6n19), none, (.ld1 (.t p6n18))⟩, ⟨(some p6n2), none, (.mv (.t p6n19))⟩]) .ret) .skip)) (.seq (.reg [⟨(some p6n2), none, (.mv (.c (.str [])))⟩]) .ret)))⟩
noncomputable def a155 : AFunc :=
  ⟨4, [p4n0], [(p4n2, none)], false, (.seq (.reg [⟨(some p4n2), none, (.mv (.c (.bool false)))⟩]) (.seq (.reg [⟨(some p4n3), none, (.buildS 1 6 (.str []) [(0, (.c (.str [46, 109, 97, 99, 114, 111]))), (1, (.c (.str [46, 101, 110, 100, 109]))), (2, (.c (.str [46, 105, 102]))), (3, (.c (.str [46, 101, 108, 115, 101]))), (4, (.c (.str [46, 101, 110, 100, 105, 102]))), (5, (.c (.str [46, 101, 113, 117])))])⟩, ⟨(some p4n4), none, (.mv (.t p4n0))⟩, ⟨(some p4n5), none, (.call 172 [(.t p4n3), (.t p4n4)])⟩, ⟨(some p4n6), none, (.bin .geq (.t p4n5) (.c (.int .i64 (.ofNat 0))))⟩, ⟨(some p4n2), none, (.mv (.t p4n6))⟩]) .ret))⟩
noncomputable def a156 : AFunc :=
  ⟨6, [p6n0, p6n1, p6n2], [], false, (.seq (.reg [⟨(some p6n6), none, (.mv (.t p6n0))⟩, ⟨(some p6n7), none, (.nilck (.t p6n6))⟩, ⟨(some p6n8), none, (.faddr 4 (.t p6n7))⟩, ⟨(some p6n9), none, (.ld1 (.t p6n8))⟩, ⟨(some p6n10), none, (.bin .eql (.t p6n9) (.c (.int .i64 (.ofNat 0))))⟩]) (.cond (.t p6n10) (.reg [⟨(some p6n11), none, (.mv (.t p6n0))⟩, ⟨(some p6n12), none, (.mv (.t p6n0))⟩, ⟨(some p6n13), none, (.mv (.t p6n1))⟩, ⟨(some p6n14), none, (.mv (.t p6n2))⟩, ⟨(some p6n15), none, (.nilck (.t p6n11))⟩, ⟨(some p6n16), none, (.faddr 4 (.t p6n15))⟩, ⟨none, none, (.st 1 (.t p6n16) (.t p6n13))⟩, ⟨(some p6n17), none, (.nilck (.t p6n12))⟩, ⟨(some p6n18), none, (.faddr 5 (.t p6n17))⟩, ⟨none, none, (.st 1 (.t p6n18) (.t p6n14))⟩]) .skip))⟩
noncomputable def a157 : AFunc :=
  ⟨8, [p8n0, p8n1, p8n2, p8n3, p8n4], [(p8n10, none)], true, (.seq (.reg [⟨(some p8n8), none, (.box (.t p8n3))⟩, ⟨(some p8n10), none, (.mv (.c (.int .i64 (.ofNat 0))))⟩]) (.seq (.seq (.reg [⟨(some p8n13), none, (.faddr 2 (.t p8n8))⟩, ⟨(some p8n14), none, (.ld1 (.t p8n13))⟩, ⟨(some p8n15), none, (.len false (.t p8n14))⟩, ⟨(some p8n16), none, (.bin .neq (.t p8n15) (.c (.int .i64 (.ofNat 2))))⟩, ⟨(some p8n17), none, (.mv (.t p8n16))⟩, ⟨(some p8n18), (some (p8n17, false)), (.faddr 2 (.t p8n8))⟩, ⟨(some p8n19), (some (p8n17, false)), (.ld1 (.t p8n18))⟩, ⟨(some p8n20), (some (p8n17, false)), (.iaddr 4 (.t p8n19) (.c (.int .i64 (.ofNat 1))))⟩, ⟨(some p8n21), (some (p8n17, false)), (.ldA 4 (.t p8n20))⟩, ⟨(some p8n22), (some (p8n17, false)), (.call 148 [(.t p8n21)])⟩, ⟨(some p8n23), (some (p8n17, false)), (.un .not (.t p8n22))⟩, ⟨(some p8n24), none, (.pick (.t p8n17) (.c (.bool true)) (.t p8n23))⟩]) (.cond (.t p8n24) (.seq (.reg [⟨(some p8n25), none, (.mv (.t p8n0))⟩, ⟨(some p8n26), none, (.faddr 0 (.t p8n8))⟩, ⟨(some p8n27), none, (.ld1 (.t p8n26))⟩, ⟨(some p8n28), none, (.call 156 [(.t p8n25), (.c (.int .i64 (.ofNat 3))), (.t p8n27)])⟩]) (.seq (.reg [⟨(some p8n29), none, (.mv (.t p8n2))⟩, ⟨(some p8n10), none, (.mv (.t p8n29))⟩]) .ret)) .skip)) (.seq (.seq (.reg [⟨(some p8n30), none, (.mv (.t p8n0))⟩, ⟨(some p8n31), none, (.faddr 2 (.t p8n8))⟩, ⟨(some p8n32), none, (.ld1 (.t p8n31))⟩, ⟨(some p8n33), none, (.iaddr 4 (.t p8n32) (.c (.int .i64 (.ofNat 1))))⟩, ⟨(some p8n34), none, (.faddr 1 (.t p8n33))⟩, ⟨(some p8n35), none, (.ld1 (.t p8n34))⟩, ⟨(some p8n36), none, (.call 173 [(.t p8n30), (.t p8n35)])⟩, ⟨(some p8n37), none, (.bin .geq (.t p8n36) (.c (.int .i64 (.ofNat 0))))⟩]) (.cond (.t p8n37) (.seq (.reg [⟨(some p8n38), none, (.mv (.t p8n0))⟩, ⟨(some p8n39), none, (.faddr 0 (.t p8n8))⟩, ⟨(some p8n40), none, (.ld1 (.t p8n39))⟩, ⟨(some p8n41), none, (.call 156 [(.t p8n38), (.c (.int .i64 (.ofNat 5))), (.t p8n40)])⟩]) (.seq (.reg [⟨(some p8n42), none, (.mv (.t p8n2))⟩, ⟨(some p8n10), none, (.mv (.t p8n42))⟩]) .ret)) .skip)) (.seq (.seq (.reg [⟨(some p8n43), none, (.mv (.t p8n2))⟩, ⟨(some p8n44), none, (.bin .add (.t p8n43) (.c (.int .i64 (.ofNat 1))))⟩, ⟨(some p8n11), none, (.mv (.t p8n44))⟩]) (.block 0 (.loop (.seq (.seq (.reg [⟨(some p8n45), none, (.mv (.t p8n11))⟩, ⟨(some p8n46), none, (.mv (.t p8n1))⟩, ⟨(some p8n47), none, (.len false (.t p8n46))⟩, ⟨(some p8n48), none, (.bin .lss (.t p8n45) (.t p8n47))⟩]) (.cond (.t p8n48) .skip (.exit 0))) (.seq (.block 1 (.seq (.reg [⟨(some p8n51), none, (.mv (.t p8n1))⟩, ⟨(some p8n52), none, (.mv (.t p8n11))⟩, ⟨(some p8n53), none, (.iaddr 3 (.t p8n51) (.t p8n52))⟩, ⟨(some p8n54), none, (.ldA 3 (.t p8n53))⟩, ⟨(some p8n55), none, (.call 154 [(.t p8n54)])⟩, ⟨(some p8n12), none, (.mv (.t p8n55))⟩]) (.seq (.seq (.reg [⟨(some p8n56), none, (.mv (.t p8n12))⟩, ⟨(some p8n57), none, (.bin .eql (.t p8n56) (.c (.str [46, 109, 97, 99, 114, 111])))⟩, ⟨(some p8n58), none, (.mv (.t p8n57))⟩, ⟨(some p8n59), (some (p8n58, false)), (.mv (.t p8n12))⟩, ⟨(some p8n60), (some (p8n58, false)), (.bin .eql (.t p8n59) (.c (.str [46, 101, 110, 100, 109])))⟩, ⟨(some p8n61), (some (p8n58, false)), (.mv (.t p8n60))⟩, ⟨(some p8n62), (some (p8n61, true)), (.mv (.t p8n1))⟩, ⟨(some p8n63), (some (p8n61, true)), (.mv (.t p8n11))⟩, ⟨(some p8n64), (some (p8n61, true)), (.iaddr 3 (.t p8n62) (.t p8n63))⟩, ⟨(some p8n65), (some (p8n61, true)), (.faddr 1 (.t p8n64))⟩, ⟨(some p8n66), (some (p8n61, true)), (.ld1 (.t p8n65))⟩, ⟨(some p8n67), (some (p8n61, true)), (.bin .neq (.t p8n66) (.c (.str [])))⟩, ⟨(some p8n68), (some (p8n61, true)), (.mv (.t p8n67))⟩, ⟨(some p8n69), (some (p8n68, false)), (.mv (.t p8n1))⟩, ⟨(some p8n70), (some (p8n68, false)), (.mv (.t p8n11))⟩, ⟨(some p8n71), (some (p8n68, false)), (.iaddr 3 (.t p8n69) (.t p8n70))⟩, ⟨(some p8n72), (some (p8n68, false)), (.faddr 2 (.t p8n71))⟩, ⟨(some p8n73), (some (p8n68, false)), (.ld1 (.t p8n72))⟩, ⟨(some p8n74), (some (p8n68, false)), (.len false (.t p8n73))⟩, ⟨(some p8n75), (some (p8n68, false)), (.bin .gtr (.t p8n74) (.c (.int .i64 (.ofNat 1))))⟩, ⟨(some p8n76), (some (p8n61, true)), (.pick (.t p8n68) (.c (.bool true)) (.t p8n75))⟩, ⟨(some p8n77), (some (p8n58, false)), (.pick (.t p8n61) (.t p8n76) (.c (.bool false)))⟩, ⟨(some p8n78), none, (.pick (.t p8n58) (.c (.bool true)) (.t p8n77))⟩]) (.cond (.t p8n78) (.seq (.reg [⟨(some p8n79), none, (.mv (.t p8n0))⟩, ⟨(some p8n80), none, (.mv (.t p8n1))⟩, ⟨(some p8n81), none, (.mv (.t p8n11))⟩, ⟨(some p8n82), none, (.iaddr 3 (.t p8n80) (.t p8n81))⟩, ⟨(some p8n83), none, (.ldA 3 (.t p8n82))⟩, ⟨(some p8n84), none, (.mv (.t p8n4))⟩, ⟨(some p8n85), none, (.call 152 [(.t p8n83), (.t p8n84)])⟩, ⟨(some p8n86), none, (.call 156 [(.t p8n79), (.c (.int .i64 (.ofNat 3))), (.t p8n85)])⟩]) (.seq (.reg [⟨(some p8n87), none, (.mv (.t p8n11))⟩, ⟨(some p8n10), none, (.mv (.t p8n87))⟩]) .ret)) .skip)) (.seq (.reg [⟨(some p8n88), none, (.mv (.t p8n12))⟩, ⟨(some p8n89), none, (.bin .eql (.t p8n88) (.c (.str [46, 101, 110, 100, 109])))⟩]) (.cond (.t p8n89) (.seq (.regd [(.pure, ⟨(some p8n90), none, (.mv (.t p8n0))⟩), (.pure, ⟨(some p8n91), none, (.mv (.t p8n0))⟩), (.pure, ⟨(some p8n92), none, (.nilck (.t p8n91))⟩), (.pure, ⟨(some p8n93), none, (.faddr 0 (.t p8n92))⟩), (.load, ⟨(some p8n94), none, (.ld1 (.t p8n93))⟩), (.pure, ⟨(some p8n95), none, (.faddr 2 (.t p8n8))⟩), (.load, ⟨(some p8n96), none, (.ld1 (.t p8n95))⟩), (.pure, ⟨(some p8n97), none, (.iaddr 4 (.t p8n96) (.c (.int .i64 (.ofNat 1))))⟩), (.pure, ⟨(some p8n98), none, (.faddr 1 (.t p8n97))⟩), (.load, ⟨(some p8n99), none, (.ld1 (.t p8n98))⟩), (.pure, ⟨(some p8n100), none, (.mv (.t p8n1))⟩), (.pure, ⟨(some p8n101), none, (.mv (.t p8n2))⟩), (.pure, ⟨(some p8n102), none, (.bin .add (.t p8n101) (.c (.int .i64 (.ofNat 1))))⟩), (.pure, ⟨(some p8n103), none, (.mv (.t p8n11))⟩), (.pure, ⟨(some p8n104), none, (.slL 3 (.t p8n100) (some (.t p8n102)) (some (.t p8n103)) none)⟩), (.pure, ⟨(some p8n105), none, (.build [(.str []), .nils] [(0, (1, (.t p8n99))), (1, (1, (.t p8n104)))])⟩), (.pure, ⟨(some p8n106), none, (.buildS 2 1 (.agg [(.str []), .nils]) [(0, (.t p8n105))])⟩)] [⟨(some p8n107), none, (.app 2 40 (.agg [(.str []), .nils]) (.t p8n94) (.t p8n106))⟩, ⟨(some p8n108), none, (.nilck (.t p8n90))⟩, ⟨(some p8n109), none, (.faddr 0 (.t p8n108))⟩, ⟨none, none, (.st 1 (.t p8n109) (.t p8n107))⟩]) (.seq (.reg [⟨(some p8n110), none, (.mv (.t p8n11))⟩, ⟨(some p8n10), none, (.mv (.t p8n110))⟩]) .ret)) .skip))))) (.reg [⟨(some p8n49), none, (.mv (.t p8n11))⟩, ⟨(some p8n50), none, (.bin .add (.t p8n49) (.c (.int .i64 (.ofNat 1))))⟩, ⟨(some p8n11), none, (.mv (.t p8n50))⟩])))))) (.seq (.reg [⟨(some p8n111), none, (.mv (.t p8n0))⟩, ⟨(some p8n112), none, (.faddr 0 (.t p8n8))⟩, ⟨(some p8n113), none, (.ld1 (.t p8n112))⟩, ⟨(some p8n114), none, (.call 156 [(.t p8n111), (.c (.int .i64 (.ofNat 3))), (.t p8n113)])⟩]) (.seq (.reg [⟨(some p8n115), none, (.mv (.t p8n2))⟩, ⟨(some p8n10), none, (.mv (.t p8n115))⟩]) .ret))))))⟩
noncomputable def a158 : AFunc :=
  ⟨6, [p6n0, p6n1, p6n2, p6n3, p6n4, p6n5], [(p6n12, none)], false, (.seq (.reg [⟨(some p6n12), none, (.mv (.c (.int .i64 (.ofNat 0))))⟩]) (.seq (.reg [⟨(some p6n13), none, (.mv (.c (.int .i64 (.ofNat 0))))⟩]) (.seq (.seq (.reg [⟨(some p6n15), none, (.mv (.t p6n2))⟩, ⟨(some p6n14), none, (.mv (.t p6n15))⟩]) (.block 0 (.loop (.seq (.seq (.reg [⟨(some p6n16), none, (.mv (.t p6n14))⟩, ⟨(some p6n17), none, (.mv (.t p6n1))⟩, ⟨(some p6n18), none, (.len false (.t p6n17))⟩, ⟨(some p6n19), none, (.bin .lss (.t p6n16) (.t p6n18))⟩]) (.cond (.t p6n19) .skip (.exit 0))) (.seq (.block 1 (.seq (.reg [⟨(some p6n22), none, (.mv (.t p6n1))⟩, ⟨(some p6n23), none, (.mv (.t p6n14))⟩, ⟨(some p6n24), none, (.iaddr 3 (.t p6n22) (.t p6n23))⟩, ⟨(some p6n25), none, (.ldA 3 (.t p6n24))⟩, ⟨(some p6n26), none, (.call 154 [(.t p6n25)])⟩]) (.block 2 (.seq (.reg [⟨(some p6n28), none, (.bin .eql (.t p6n26) (.c (.str [46, 105, 102])))⟩, ⟨(some p6n27), none, (.mv (.t p6n28))⟩]) (.cond (.t p6n27) (.reg [⟨(some p6n29), none, (.mv (.t p6n13))⟩, ⟨(some p6n30), none, (.bin .add (.t p6n29) (.c (.int .i64 (.ofNat 1))))⟩, ⟨(some p6n13), none, (.mv (.t p6n30))⟩]) (.seq (.reg [⟨(some p6n32), none, (.bin .eql (.t p6n26) (.c (.str [46, 101, 110, 100, 105, 102])))⟩, ⟨(some p6n31), none, (.mv (.t p6n32))⟩]) (.cond (.t p6n31) (.seq (.seq (.reg [⟨(some p6n33), none, (.mv (.t p6n13))⟩, ⟨(some p6n34), none, (.bin .eql (.t p6n33) (.c (.int .i64 (.ofNat 0))))⟩]) (.cond (.t p6n34) (.seq (.reg [⟨(some p6n35), none, (.mv (.t p6n14))⟩, ⟨(some p6n12), none, (.mv (.t p6n35))⟩]) .ret) .skip)) (.reg [⟨(some p6n36), none, (.mv (.t p6n13))⟩, ⟨(some p6n37), none, (.bin .sub (.t p6n36) (.c (.int .i64 (.ofNat 1))))⟩, ⟨(some p6n13), none, (.mv (.t p6n37))⟩])) (.seq (.reg [⟨(some p6n39), none, (.bin .eql (.t p6n26) (.c (.str [46, 101, 108, 115, 101])))⟩, ⟨(some p6n38), none, (.mv (.t p6n39))⟩]) (.cond (.t p6n38) (.seq (.reg [⟨(some p6n40), none, (.mv (.t p6n13))⟩, ⟨(some p6n41), none, (.bin .eql (.t p6n40) (.c (.int .i64 (.ofNat 0))))⟩]) (.cond (.t p6n41) (.seq (.seq (.reg [⟨(some p6n42), none, (.mv (.t p6n5))⟩]) (.cond (.t p6n42) (.reg [⟨(some p6n43), none, (.mv (.t p6n0))⟩, ⟨(some p6n44), none, (.mv (.t p6n1))⟩, ⟨(some p6n45), none, (.mv (.t p6n14))⟩, ⟨(some p6n46), none, (.iaddr 3 (.t p6n44) (.t p6n45))⟩, ⟨(some p6n47), none, (.ldA 3 (.t p6n46))⟩, ⟨(some p6n48), none, (.mv (.t p6n4))⟩, ⟨(some p6n49), none, (.call 152 [(.t p6n47), (.t p6n48)])⟩, ⟨(some p6n50), none, (.call 156 [(.t p6n43), (.c (.int .i64 (.ofNat 3))), (.t p6n49)])⟩]) .skip)) (.seq (.reg [⟨(some p6n51), none, (.mv (.t p6n14))⟩, ⟨(some p6n12), none, (.mv (.t p6n51))⟩]) .ret)) .skip)) .skip))))))))) (.reg [⟨(some p6n20), none, (.mv (.t p6n14))⟩, ⟨(some p6n21), none, (.bin .add (.t p6n20) (.c (.int .i64 (.ofNat 1))))⟩, ⟨(some p6n14), none, (.mv (.t p6n21))⟩])))))) (.seq (.reg [⟨(some p6n52), none, (.mv (.t p6n0))⟩, ⟨(some p6n53), none, (.mv (.t p6n3))⟩, ⟨(some p6n54), none, (.call 156 [(.t p6n52), (.c (.int .i64 (.ofNat 3))), (.t p6n53)])⟩]) (.seq (.reg [⟨(some p6n55), none, (.mv (.t p6n1))⟩, ⟨(some p6n56), none, (.len false (.t p6n55))⟩, ⟨(some p6n12), none, (.mv (.t p6n56))⟩]) .ret)))))⟩
noncomputable def a159 : AFunc :=
  ⟨8, [p8n0, p8n1], [], true, (.seq (.reg [⟨(some p8n3), none, (.box (.t p8n1))⟩]) (.seq (.seq (.reg [⟨(some p8n6), none, (.faddr 2 (.t p8n3))⟩, ⟨(some p8n7), none, (.ld1 (.t p8n6))⟩, ⟨(some p8n8), none, (.len false (.t p8n7))⟩, ⟨(some p8n9), none, (.bin .lss (.t p8n8) (.c (.int .i64 (.ofNat 3))))⟩, ⟨(some p8n10), none, (.mv (.t p8n9))⟩, ⟨(some p8n11), (some (p8n10, false)), (.faddr 2 (.t p8n3))⟩, ⟨(some p8n12), (some (p8n10, false)), (.ld1 (.t p8n11))⟩, ⟨(some p8n13), (some (p8n10, false)), (.iaddr 4 (.t p8n12) (.c (.int .i64 (.ofNat 1))))⟩, ⟨(some p8n14), (some (p8n10, false)), (.ldA 4 (.t p8n13))⟩, ⟨(some p8n15), (some (p8n10, false)), (.call 148 [(.t p8n14)])⟩, ⟨(some p8n16), (some (p8n10, false)), (.un .not (.t p8n15))⟩, ⟨(some p8n17), none, (.pick (.t p8n10) (.c (.bool true)) (.t p8n16))⟩, ⟨(some p8n18), none, (.mv (.t p8n17))⟩, ⟨(some p8n19), (some (p8n18, false)), (.faddr 2 (.t p8n3))⟩, ⟨(some p8n20), (some (p8n18, false)), (.ld1 (.t p8n19))⟩, ⟨(some p8n21), (some (p8n18, false)), (.iaddr 4 (.t p8n20) (.c (.int .i64 (.ofNat 2))))⟩, ⟨(some p8n22), (some (p8n18, false)), (.ldA 4 (.t p8n21))⟩, ⟨(some p8n23), (some (p8n18, false)), (.call 143 [(.t p8n22), (.c (.str [44]))])⟩, ⟨(some p8n24), (some (p8n18, false)), (.un .not (.t p8n23))⟩, ⟨(some p8n25), none, (.pick (.t p8n18) (.c (.bool true)) (.t p8n24))⟩]) (.cond (.t p8n25) (.seq (.reg [⟨(some p8n26), none, (.mv (.t p8n0))⟩, ⟨(some p8n27), none, (.faddr 0 (.t p8n3))⟩, ⟨(some p8n28), none, (.ld1 (.t p8n27))⟩, ⟨(some p8n29), none, (.call 156 [(.t p8n26), (.c (.int .i64 (.ofNat 3))), (.t p8n28)])⟩]) .ret) .skip)) (.seq (.seq (.regd [(.pure, ⟨(some p8n30), none, (.mv (.t p8n0))⟩), (.pure, ⟨(some p8n31), none, (.nilck (.t p8n30))⟩), (.pure, ⟨(some p8n32), none, (.faddr 1 (.t p8n31))⟩), (.load, ⟨(some p8n33), none, (.ld1 (.t p8n32))⟩), (.pure, ⟨(some p8n34), none, (.faddr 2 (.t p8n3))⟩), (.load, ⟨(some p8n35), none, (.ld1 (.t p8n34))⟩), (.pure, ⟨(some p8n36), none, (.iaddr 4 (.t p8n35) (.c (.int .i64 (.ofNat 1))))⟩), (.pure, ⟨(some p8n37), none, (.faddr 1 (.t p8n36))⟩), (.load, ⟨(some p8n38), none, (.ld1 (.t p8n37))⟩)] [⟨(some p8n39), none, (.call 55 [(.t p8n33), (.t p8n38)])⟩, ⟨(some p8n40), none, (.bin .geq (.t p8n39) (.c (.int .i64 (.ofNat 0))))⟩]) (.cond (.t p8n40) (.seq (.reg [⟨(some p8n41), none, (.mv (.t p8n0))⟩, ⟨(some p8n42), none, (.faddr 0 (.t p8n3))⟩, ⟨(some p8n43), none, (.ld1 (.t p8n42))⟩, ⟨(some p8n44), none, (.call 156 [(.t p8n41), (.c (.int .i64 (.ofNat 5))), (.t p8n43)])⟩]) .ret) .skip)) (.seq (.regd [(.pure, ⟨(some p8n46), none, (.mv (.t p8n0))⟩), (.pure, ⟨(some p8n47), none, (.nilck (.t p8n46))⟩), (.pure, ⟨(some p8n48), none, (.faddr 1 (.t p8n47))⟩), (.load, ⟨(some p8n49), none, (.ld1 (.t p8n48))⟩), (.pure, ⟨(some p8n50), none, (.faddr 2 (.t p8n3))⟩), (.load, ⟨(some p8n51), none, (.ld1 (.t p8n50))⟩), (.pure, ⟨(some p8n52), none, (.slL 4 (.t p8n51) (some (.c (.int .i64 (.ofNat 3)))) none none)⟩), (.iso, ⟨(some p8n53), none, (.call 36 [(.t p8n49), (.t p8n52)])⟩), (.pure, ⟨(some p8n45), none, (.mv (.t p8n53))⟩), (.pure, ⟨(some p8n54), none, (.ext (.t p8n45) 0)⟩), (.pure, ⟨(some p8n55), none, (.ext (.t p8n45) 1)⟩), (.pure, ⟨(some p8n4), none, (.mv (.t p8n54))⟩)] [⟨(some p8n5), none, (.mv (.t p8n55))⟩]) (.seq (.seq (.reg [⟨(some p8n56), none, (.mv (.t p8n5))⟩, ⟨(some p8n57), none, (.bin .eql (.t p8n56) (.c (.int .i64 (.ofNat 0))))⟩, ⟨(some p8n58), none, (.mv (.t p8n57))⟩, ⟨(some p8n59), (some (p8n58, true)), (.mv (.t p8n0))⟩, ⟨(some p8n60), (some (p8n58, true)), (.nilck (.t p8n59))⟩, ⟨(some p8n61), (some (p8n58, true)), (.faddr 1 (.t p8n60))⟩, ⟨(some p8n62), (some (p8n58, true)), (.ld1 (.t p8n61))⟩, ⟨(some p8n63), (some (p8n58, true)), (.len false (.t p8n62))⟩, ⟨(some p8n64), (some (p8n58, true)), (.bin .geq (.t p8n63) (.c (.int .i64 (.ofNat 60))))⟩, ⟨(some p8n65), none, (.pick (.t p8n58) (.t p8n64) (.c (.bool false)))⟩]) (.cond (.t p8n65) (.reg [⟨(some p8n5), none, (.mv (.c (.int .i64 (.ofNat 2))))⟩]) .skip)) (.seq (.seq (.reg [⟨(some p8n66), none, (.mv (.t p8n5))⟩, ⟨(some p8n67), none, (.bin .neq (.t p8n66) (.c (.int .i64 (.ofNat 0))))⟩]) (.cond (.t p8n67) (.seq (.reg [⟨(some p8n68), none, (.mv (.t p8n0))⟩, ⟨(some p8n69), none, (.mv (.t p8n5))⟩, ⟨(some p8n70), none, (.faddr 0 (.t p8n3))⟩, ⟨(some p8n71), none, (.ld1 (.t p8n70))⟩, ⟨(some p8n72), none, (.call 156 [(.t p8n68), (.t p8n69), (.t p8n71)])⟩]) .ret) .skip)) (.regd [(.pure, ⟨(some p8n73), none, (.mv (.t p8n0))⟩), (.pure, ⟨(some p8n74), none, (.mv (.t p8n0))⟩), (.pure, ⟨(some p8n75), none, (.nilck (.t p8n74))⟩), (.pure, ⟨(some p8n76), none, (.faddr 1 (.t p8n75))⟩), (.load, ⟨(some p8n77), none, (.ld1 (.t p8n76))⟩), (.pure, ⟨(some p8n78), none, (.faddr 2 (.t p8n3))⟩), (.load, ⟨(some p8n79), none, (.ld1 (.t p8n78))⟩), (.pure, ⟨(some p8n80), none, (.iaddr 4 (.t p8n79) (.c (.int .i64 (.ofNat 1))))⟩), (.pure, ⟨(some p8n81), none, (.faddr 1 (.t p8n80))⟩), (.load, ⟨(some p8n82), none, (.ld1 (.t p8n81))⟩), (.pure, ⟨(some p8n83), none, (.mv (.t p8n4))⟩), (.pure, ⟨(some p8n84), none, (.build [(.str []), (.int .i64 (.ofNat 0))] [(0, (1, (.t p8n82))), (1, (1, (.t p8n83)))])⟩), (.pure, ⟨(some p8n85), none, (.buildS 2 1 (.agg [(.str []), (.int .i64 (.ofNat 0))]) [(0, (.t p8n84))])⟩)] [⟨(some p8n86), none, (.app 2 24 (.agg [(.str []), (.int .i64 (.ofNat 0))]) (.t p8n77) (.t p8n85))⟩, ⟨(some p8n87), none, (.nilck (.t p8n73))⟩, ⟨(some p8n88), none, (.faddr 1 (.t p8n87))⟩, ⟨none, none, (.st 1 (.t p8n88) (.t p8n86))⟩])))))))⟩
noncomputable def a160 : AFunc :=
  ⟨8, [p8n0, p8n1, p8n2], [], true, (.seq (.reg [⟨(some p8n4), none, (.box (.t p8n1))⟩]) (.seq (.reg [⟨(some p8n7), none, (.mv (.t p8n0))⟩, ⟨(some p8n8), none, (.ldA 3 (.t p8n4))⟩, ⟨(some p8n9), none, (.call 154 [(.t p8n8)])⟩, ⟨(some p8n10), none, (.call 173 [(.t p8n7), (.t p8n9)])⟩, ⟨(some p8n6), none, (.mv (.t p8n10))⟩]) (.seq (.seq (.reg [⟨(some p8n11), none, (.mv (.t p8n6))⟩, ⟨(some p8n12), none, (.bin .lss (.t p8n11) (.c (.int .i64 (.ofNat 0))))⟩, ⟨(some p8n13), none, (.mv (.t p8n12))⟩, ⟨(some p8n14), (some (p8n13, false)), (.ldA 3 (.t p8n4))⟩, ⟨(some p8n15), (some (p8n13, false)), (.call 154 [(.t p8n14)])⟩, ⟨(some p8n16), (some (p8n13, false)), (.bin .eql (.t p8n15) (.c (.str [])))⟩, ⟨(some p8n17), none, (.pick (.t p8n13) (.c (.bool true)) (.t p8n16))⟩]) (.cond (.t p8n17) (.seq (.seq (.reg [⟨(some p8n18), none, (.faddr 1 (.t p8n4))⟩, ⟨(some p8n19), none, (.ld1 (.t p8n18))⟩, ⟨(some p8n20), none, (.bin .neq (.t p8n19) (.c (.str [])))⟩, ⟨(some p8n21), none, (.mv (.t p8n20))⟩, ⟨(some p8n22), (some (p8n21, false)), (.faddr 2 (.t p8n4))⟩, ⟨(some p8n23), (some (p8n21, false)), (.ld1 (.t p8n22))⟩, ⟨(some p8n24), (some (p8n21, false)), (.len false (.t p8n23))⟩, ⟨(some p8n25), (some (p8n21, false)), (.bin .gtr (.t p8n24) (.c (.int .i64 (.ofNat 0))))⟩, ⟨(some p8n26), none, (.pick (.t p8n21) (.c (.bool true)) (.t p8n25))⟩]) (.cond (.t p8n26) (.reg [⟨(some p8n27), none, (.mv (.t p8n0))⟩, ⟨(some p8n28), none, (.ldA 3 (.t p8n4))⟩, ⟨(some p8n29), none, (.call 174 [(.t p8n27), (.t p8n28)])⟩]) .skip)) .ret) .skip)) (.seq (.seq (.reg [⟨(some p8n30), none, (.mv (.t p8n2))⟩, ⟨(some p8n31), none, (.bin .geq (.t p8n30) (.c (.int .i64 (.ofNat 8))))⟩, ⟨(some p8n32), none, (.mv (.t p8n31))⟩, ⟨(some p8n33), (some (p8n32, false)), (.mv (.t p8n0))⟩, ⟨(some p8n34), (some (p8n32, false)), (.nilck (.t p8n33))⟩, ⟨(some p8n35), (some (p8n32, false)), (.faddr 3 (.t p8n34))⟩, ⟨(some p8n36), (some (p8n32, false)), (.ld1 (.t p8n35))⟩, ⟨(some p8n37), (some (p8n32, false)), (.bin .geq (.t p8n36) (.c (.int .i64 (.ofNat 500))))⟩, ⟨(some p8n38), none, (.pick (.t p8n32) (.c (.bool true)) (.t p8n37))⟩]) (.cond (.t p8n38) (.seq (.reg [⟨(some p8n39), none, (.mv (.t p8n0))⟩, ⟨(some p8n40), none, (.faddr 0 (.t p8n4))⟩, ⟨(some p8n41), none, (.ld1 (.t p8n40))⟩, ⟨(some p8n42), none, (.call 156 [(.t p8n39), (.c (.int .i64 (.ofNat 2))), (.t p8n41)])⟩]) .ret) .skip)) (.seq (.reg [⟨(some p8n43), none, (.mv (.t p8n0))⟩, ⟨(some p8n44), none, (.nilck (.t p8n43))⟩, ⟨(some p8n45), none, (.faddr 3 (.t p8n44))⟩, ⟨(some p8n46), none, (.ld1 (.t p8n45))⟩, ⟨(some p8n47), none, (.bin .add (.t p8n46) (.c (.int .i64 (.ofNat 1))))⟩, ⟨(some p8n48), none, (.nilck (.t p8n43))⟩, ⟨(some p8n49), none, (.faddr 3 (.t p8n48))⟩, ⟨none, none, (.st 1 (.t p8n49) (.t p8n47))⟩]) (.seq (.seq (.reg [⟨(some p8n50), none, (.faddr 1 (.t p8n4))⟩, ⟨(some p8n51), none, (.ld1 (.t p8n50))⟩, ⟨(some p8n52), none, (.bin .neq (.t p8n51) (.c (.str [])))⟩]) (.cond (.t p8n52) (.reg [⟨(some p8n53), none, (.mv (.t p8n0))⟩, ⟨(some p8n54), none, (.faddr 0 (.t p8n4))⟩, ⟨(some p8n55), none, (.ld1 (.t p8n54))⟩, ⟨(some p8n56), none, (.faddr 1 (.t p8n4))⟩, ⟨(some p8n57), none, (.ld1 (.t p8n56))⟩, ⟨(some p8n58), none, (.build [(.int .i64 (.ofNat 0)), (.str []), .nils] [(0, (1, (.t p8n55))), (1, (1, (.t p8n57)))])⟩, ⟨(some p8n59), none, (.call 174 [(.t p8n53), (.t p8n58)])⟩]) .skip)) (.regd [(.pure, ⟨(some p8n60), none, (.mv (.t p8n0))⟩), (.pure, ⟨(some p8n61), none, (.mv (.t p8n0))⟩), (.pure, ⟨(some p8n62), none, (.nilck (.t p8n61))⟩), (.pure, ⟨(some p8n63), none, (.faddr 0 (.t p8n62))⟩), (.load, ⟨(some p8n64), none, (.ld1 (.t p8n63))⟩), (.pure, ⟨(some p8n65), none, (.mv (.t p8n6))⟩), (.pure, ⟨(some p8n66), none, (.iaddr 2 (.t p8n64) (.t p8n65))⟩), (.pure, ⟨(some p8n67), none, (.faddr 1 (.t p8n66))⟩), (.load, ⟨(some p8n68), none, (.ld1 (.t p8n67))⟩), (.pure, ⟨(some p8n69), none, (.faddr 0 (.t p8n4))⟩), (.load, ⟨(some p8n70), none, (.ld1 (.t p8n69))⟩), (.pure, ⟨(some p8n71), none, (.mv (.t p8n2))⟩), (.pure, ⟨(some p8n72), none, (.bin .add (.t p8n71) (.c (.int .i64 (.ofNat 1))))⟩), (.pure, ⟨(some p8n73), none, (.faddr 2 (.t p8n4))⟩), (.load, ⟨(some p8n74), none, (.ld1 (.t p8n73))⟩), (.pure, ⟨(some p8n75), none, (.slL 4 (.t p8n74) (some (.c (.int .i64 (.ofNat 1)))) none none)⟩), (.iso, ⟨(some p8n76), none, (.call 175 [(.t p8n75)])⟩)] [⟨(some p8n77), none, (.call 144 [(.t p8n60), (.t p8n68), (.t p8n70), (.t p8n72), (.t p8n76)])⟩])))))))⟩
noncomputable def a161 : AFunc :=
  ⟨4, [p4n0, p4n1], [(p4n4, none)], false, (.seq (.reg [⟨(some p4n2), none, (.box (.t p4n0))⟩, ⟨(some p4n4), none, (.mv (.c (.bool false)))⟩]) (.seq (.reg [⟨(some p4n5), none, (.faddr 0 (.t p4n2))⟩, ⟨(some p4n6), none, (.ld1 (.t p4n5))⟩, ⟨(some p4n7), none, (.bin .eql (.t p4n6) (.c (.int .i64 (.ofNat 3))))⟩, ⟨(some p4n8), none, (.mv (.t p4n7))⟩, ⟨(some p4n9), (some (p4n8, true)), (.faddr 1 (.t p4n2))⟩, ⟨(some p4n10), (some (p4n8, true)), (.ld1 (.t p4n9))⟩, ⟨(some p4n11), (some (p4n8, true)), (.mv (.t p4n1))⟩, ⟨(some p4n12), (some (p4n8, true)), (.bin .eql (.t p4n10) (.t p4n11))⟩, ⟨(some p4n13), none, (.pick (.t p4n8) (.t p4n12) (.c (.bool false)))⟩, ⟨(some p4n4), none, (.mv (.t p4n13))⟩]) .ret))⟩
noncomputable def a162 : AFunc :=
  ⟨6, [p6n0, p6n1], [(p6n4, none)], false, (.seq (.reg [⟨(some p6n4), none, (.mv (.c (.int .i64 (.ofNat 0))))⟩]) (.seq (.seq (.reg [⟨(some p6n5), none, (.mv (.t p6n0))⟩, ⟨(some p6n6), none, (.nilck (.t p6n5))⟩, ⟨(some p6n7), none, (.faddr 4 (.t p6n6))⟩, ⟨(some p6n8), none, (.ld1 (.t p6n7))⟩, ⟨(some p6n9), none, (.bin .gtr (.t p6n8) (.c (.int .i64 (.ofNat 0))))⟩]) (.cond (.t p6n9) (.seq (.reg [⟨(some p6n10), none, (.mv (.t p6n0))⟩, ⟨(some p6n11), none, (.nilck (.t p6n10))⟩, ⟨(some p6n12), none, (.faddr 2 (.t p6n11))⟩, ⟨(some p6n13), none, (.ld1 (.t p6n12))⟩, ⟨(some p6n4), none, (.mv (.t p6n13))⟩]) .ret) .skip)) (.seq (.reg [⟨(some p6n14), none, (.mv (.t p6n0))⟩, ⟨(some p6n15), none, (.nilck (.t p6n14))⟩, ⟨(some p6n16), none, (.faddr 1 (.t p6n15))⟩, ⟨(some p6n17), none, (.ld1 (.t p6n16))⟩, ⟨(some p6n18), none, (.mv (.t p6n1))⟩, ⟨(some p6n19), none, (.iaddr 3 (.t p6n17) (.t p6n18))⟩, ⟨(some p6n20), none, (.faddr 0 (.t p6n19))⟩, ⟨(some p6n21), none, (.ld1 (.t p6n20))⟩, ⟨(some p6n4), none, (.mv (.t p6n21))⟩]) .ret)))⟩
noncomputable def a163 : AFunc :=
  ⟨8, [p8n0, p8n1], [(p8n4, none), (p8n5, none)], false, (.seq (.reg [⟨(some p8n4), none, (.mv (.c .nils))⟩, ⟨(some p8n5), none, (.mv (.c (.int .i64 (.ofNat 0))))⟩]) (.seq (.seq (.reg [⟨(some p8n6), none, (.mv (.c (.int .i64 (.ofNat 0))))⟩]) (.block 0 (.loop (.seq (.seq (.reg [⟨(some p8n7), none, (.mv (.t p8n6))⟩, ⟨(some p8n8), none, (.mv (.t p8n1))⟩, ⟨(some p8n9), none, (.len false (.t p8n8))⟩, ⟨(some p8n10), none, (.bin .lss (.t p8n7) (.t p8n9))⟩]) (.cond (.t p8n10) .skip (.exit 0))) (.seq (.block 1 (.seq (.seq (.reg [⟨(some p8n13), none, (.mv (.t p8n1))⟩, ⟨(some p8n14), none, (.mv (.t p8n6))⟩, ⟨(some p8n15), none, (.iaddr 4 (.t p8n13) (.t p8n14))⟩, ⟨(some p8n16), none, (.ldA 4 (.t p8n15))⟩, ⟨(some p8n17), none, (.call 161 [(.t p8n16), (.c (.str [64]))])⟩, ⟨(some p8n18), none, (.un .not (.t p8n17))⟩]) (.cond (.t p8n18) (.seq (.reg [⟨(some p8n19), none, (.mv (.t p8n4))⟩, ⟨(some p8n20), none, (.mv (.t p8n1))⟩, ⟨(some p8n21), none, (.mv (.t p8n6))⟩, ⟨(some p8n22), none, (.iaddr 4 (.t p8n20) (.t p8n21))⟩, ⟨(some p8n23), none, (.ldA 4 (.t p8n22))⟩, ⟨(some p8n24), none, (.buildS 4 1 (.agg [(.int .i64 (.ofNat 0)), (.str []), (.int .i64 (.ofNat 0)), (.int .i64 (.ofNat 0))]) [(0, (.t p8n23))])⟩, ⟨(some p8n25), none, (.app 4 40 (.agg [(.int .i64 (.ofNat 0)), (.str []), (.int .i64 (.ofNat 0)), (.int .i64 (.ofNat 0))]) (.t p8n19) (.t p8n24))⟩, ⟨(some p8n4), none, (.mv (.t p8n25))⟩]) (.exit 1)) .skip)) (.seq (.reg [⟨(some p8n26), none, (.mv (.t p8n6))⟩, ⟨(some p8n27), none, (.bin .add (.t p8n26) (.c (.int .i64 (.ofNat 1))))⟩, ⟨(some p8n6), none, (.mv (.t p8n27))⟩]) (.seq (.seq (.regd [(.pure, ⟨(some p8n28), none, (.mv (.t p8n6))⟩), (.pure, ⟨(some p8n29), none, (.mv (.t p8n1))⟩), (.pure, ⟨(some p8n30), none, (.len false (.t p8n29))⟩), (.pure, ⟨(some p8n31), none, (.bin .eql (.t p8n28) (.t p8n30))⟩), (.pure, ⟨(some p8n32), none, (.mv (.t p8n31))⟩), (.pure, ⟨(some p8n33), (some (p8n32, false)), (.mv (.t p8n1))⟩), (.pure, ⟨(some p8n34), (some (p8n32, false)), (.mv (.t p8n6))⟩), (.pure, ⟨(some p8n35), (some (p8n32, false)), (.iaddr 4 (.t p8n33) (.t p8n34))⟩), (.pure, ⟨(some p8n36), (some (p8n32, false)), (.faddr 0 (.t p8n35))⟩), (.load, ⟨(some p8n37), (some (p8n32, false)), (.ld1 (.t p8n36))⟩), (.pure, ⟨(some p8n38), (some (p8n32, false)), (.bin .neq (.t p8n37) (.c (.int .i64 (.ofNat 2))))⟩), (.pure, ⟨(some p8n39), none, (.pick (.t p8n32) (.c (.bool true)) (.t p8n38))⟩), (.pure, ⟨(some p8n40), none, (.mv (.t p8n39))⟩), (.pure, ⟨(some p8n41), (some (p8n40, false)), (.mv (.t p8n1))⟩), (.pure, ⟨(some p8n42), (some (p8n40, false)), (.mv (.t p8n6))⟩), (.pure, ⟨(some p8n43), (some (p8n40, false)), (.iaddr 4 (.t p8n41) (.t p8n42))⟩), (.pure, ⟨(some p8n44), (some (p8n40, false)), (.faddr 2 (.t p8n43))⟩), (.load, ⟨(some p8n45), (some (p8n40, false)), (.ld1 (.t p8n44))⟩), (.pure, ⟨(some p8n46), (some (p8n40, false)), (.bin .lss (.t p8n45) (.c (.int .i64 (.ofNat 1))))⟩), (.pure, ⟨(some p8n47), none, (.pick (.t p8n40) (.c (.bool true)) (.t p8n46))⟩), (.pure, ⟨(some p8n48), none, (.mv (.t p8n47))⟩), (.pure, ⟨(some p8n49), (some (p8n48, false)), (.mv (.t p8n1))⟩), (.pure, ⟨(some p8n50), (some (p8n48, false)), (.mv (.t p8n6))⟩), (.pure, ⟨(some p8n51), (some (p8n48, false)), (.iaddr 4 (.t p8n49) (.t p8n50))⟩), (.pure, ⟨(some p8n52), (some (p8n48, false)), (.faddr 2 (.t p8n51))⟩), (.load, ⟨(some p8n53), (some (p8n48, false)), (.ld1 (.t p8n52))⟩), (.pure, ⟨(some p8n54), (some (p8n48, false)), (.mv (.t p8n0))⟩), (.pure, ⟨(some p8n55), (some (p8n48, false)), (.nilck (.t p8n54))⟩), (.pure, ⟨(some p8n56), (some (p8n48, false)), (.faddr 3 (.t p8n55))⟩), (.load, ⟨(some p8n57), (some (p8n48, false)), (.ld1 (.t p8n56))⟩), (.pure, ⟨(some p8n58), (some (p8n48, false)), (.len false (.t p8n57))⟩), (.pure, ⟨(some p8n59), (some (p8n48, false)), (.mnx false (.c (.int .i64 (.ofNat 9))) (.t p8n58))⟩)] [⟨(some p8n60), (some (p8n48, false)), (.bin .gtr (.t p8n53) (.t p8n59))⟩, ⟨(some p8n61), none, (.pick (.t p8n48) (.c (.bool true)) (.t p8n60))⟩]) (.cond (.t p8n61) (.seq (.reg [⟨(some p8n4), none, (.mv (.c .nils))⟩, ⟨(some p8n5), none, (.mv (.c (.int .i64 (.ofNat 3))))⟩]) .ret) .skip)) (.regd [(.pure, ⟨(some p8n62), none, (.mv (.t p8n4))⟩), (.pure, ⟨(some p8n63), none, (.mv (.t p8n0))⟩), (.pure, ⟨(some p8n64), none, (.nilck (.t p8n63))⟩), (.pure, ⟨(some p8n65), none, (.faddr 3 (.t p8n64))⟩), (.load, ⟨(some p8n66), none, (.ld1 (.t p8n65))⟩), (.pure, ⟨(some p8n67), none, (.mv (.t p8n1))⟩), (.pure, ⟨(some p8n68), none, (.mv (.t p8n6))⟩), (.pure, ⟨(some p8n69), none, (.iaddr 4 (.t p8n67) (.t p8n68))⟩), (.pure, ⟨(some p8n70), none, (.faddr 2 (.t p8n69))⟩), (.load, ⟨(some p8n71), none, (.ld1 (.t p8n70))⟩), (.pure, ⟨(some p8n72), none, (.bin .sub (.t p8n71) (.c (.int .i64 (.ofNat 1))))⟩)] [⟨(some p8n73), none, (.iaddr 1 (.t p8n66) (.t p8n72))⟩, ⟨(some p8n74), none, (.ld1 (.t p8n73))⟩, ⟨(some p8n75), none, (.app 4 40 (.agg [(.int .i64 (.ofNat 0)), (.str []), (.int .i64 (.ofNat 0)), (.int .i64 (.ofNat 0))]) (.t p8n62) (.t p8n74))⟩, ⟨(some p8n4), none, (.mv (.t p8n75))⟩]))))) (.reg [⟨(some p8n11), none, (.mv (.t p8n6))⟩, ⟨(some p8n12), none, (.bin .add (.t p8n11) (.c (.int .i64 (.ofNat 1))))⟩, ⟨(some p8n6), none, (.mv (.t p8n12))⟩])))))) (.seq (.seq (.reg [⟨(some p8n76), none, (.mv (.t p8n4))⟩, ⟨(some p8n77), none, (.len false (.t p8n76))⟩, ⟨(some p8n78), none, (.bin .gtr (.t p8n77) (.c (.int .i64 (.ofNat 40))))⟩]) (.cond (.t p8n78) (.seq (.reg [⟨(some p8n4), none, (.mv (.c .nils))⟩, ⟨(some p8n5), none, (.mv (.c (.int .i64 (.ofNat 2))))⟩]) .ret) .skip)) (.seq (.reg [⟨(some p8n79), none, (.mv (.t p8n4))⟩, ⟨(some p8n4), none, (.mv (.t p8n79))⟩, ⟨(some p8n5), none, (.mv (.c (.int .i64 (.ofNat 0))))⟩]) .ret))))⟩
noncomputable def a164 : AFunc :=
  ⟨6, [p6n0], [(p6n2, none)], false, (.seq (.reg [⟨(some p6n1), none, (.box (.t p6n0))⟩, ⟨(some p6n2), none, (.mv (.c (.str [])))⟩]) (.seq (.seq (.reg [⟨(some p6n3), none, (.faddr 2 (.t p6n1))⟩, ⟨(some p6n4), none, (.ld1 (.t p6n3))⟩, ⟨(some p6n5), none, (.len false (.t p6n4))⟩, ⟨(some p6n6), none, (.bin .eql (.t p6n5) (.c (.int .i64 (.ofNat 0))))⟩, ⟨(some p6n7), none, (.mv (.t p6n6))⟩, ⟨(some p6n8), (some (p6n7, false)), (.faddr 2 (.t p6n1))⟩, ⟨(some p6n9), (some (p6n7, false)), (.ld1 (.t p6n8))⟩, ⟨(some p6n10), (some (p6n7, false)), (.iaddr 4 (.t p6n9) (.c (.int .i64 (.ofNat 0))))⟩, ⟨(some p6n11), (some (p6n7, false)), (.faddr 0 (.t p6n10))⟩, ⟨(some p6n12), (some (p6n7, false)), (.ld1 (.t p6n11))⟩, ⟨(some p6n13), (some (p6n7, false)), (.bin .neq (.t p6n12) (.c (.int .i64 (.ofNat 1))))⟩, ⟨(some p6n14), none, (.pick (.t p6n7) (.c (.bool true)) (.t p6n13))⟩]) (.cond (.t p6n14) (.seq (.reg [⟨(some p6n2), none, (.mv (.c (.str [])))⟩]) .ret) .skip)) (.seq (.reg [⟨(some p6n15), none, (.faddr 2 (.t p6n1))⟩, ⟨(some p6n16), none, (.ld1 (.t p6n15))⟩, ⟨(some p6n17), none, (.iaddr 4 (.t p6n16) (.c (.int .i64 (.ofNat 0))))⟩, ⟨(some p6n18), none, (.faddr 1 (.t p6n17))⟩, ⟨(some p6n19), none, (.ld1 (.t p6n18))⟩, ⟨(some p6n2), none, (.mv (.t p6n19))⟩]) .ret)))⟩
noncomputable def a165 : AFunc :=
  ⟨4, [p4n0], [(p4n2, none)], false, (.seq (.reg [⟨(some p4n2), none, (.mv (.c (.bool false)))⟩]) (.seq (.reg [⟨(some p4n3), none, (.buildS 1 6 (.str []) [(0, (.c (.str [46, 109, 97, 99, 114, 111]))), (1, (.c (.str [46, 101, 110, 100, 109]))), (2, (.c (.str [46, 105, 102]))), (3, (.c (.str [46, 101, 108, 115, 101]))), (4, (.c (.str [46, 101, 110, 100, 105, 102]))), (5, (.c (.str [46, 101, 113, 117])))])⟩, ⟨(some p4n4), none, (.mv (.t p4n0))⟩, ⟨(some p4n5), none, (.call 176 [(.t p4n3), (.t p4n4)])⟩, ⟨(some p4n2), none, (.mv (.t p4n5))⟩]) .ret))⟩
noncomputable def a166 : AFunc :=
  ⟨9, [p9n0, p9n1], [(p9n4, none)], true, (.seq (.reg [⟨(some p9n3), none, (.box (.t p9n1))⟩, ⟨(some p9n4), none, (.mv (.c (.int .i64 (.ofNat 0))))⟩]) (.seq (.seq (.reg [⟨(some p9n9), none, (.faddr 2 (.t p9n3))⟩, ⟨(some p9n10), none, (.ld1 (.t p9n9))⟩, ⟨(some p9n11), none, (.len false (.t p9n10))⟩, ⟨(some p9n12), none, (.bin .neq (.t p9n11) (.c (.int .i64 (.ofNat 2))))⟩, ⟨(some p9n13), none, (.mv (.t p9n12))⟩, ⟨(some p9n14), (some (p9n13, false)), (.faddr 2 (.t p9n3))⟩, ⟨(some p9n15), (some (p9n13, false)), (.ld1 (.t p9n14))⟩, ⟨(some p9n16), (some (p9n13, false)), (.iaddr 4 (.t p9n15) (.c (.int .i64 (.ofNat 1))))⟩, ⟨(some p9n17), (some (p9n13, false)), (.faddr 0 (.t p9n16))⟩, ⟨(some p9n18), (some (p9n13, false)), (.ld1 (.t p9n17))⟩, ⟨(some p9n19), (some (p9n13, false)), (.bin .neq (.t p9n18) (.c (.int .i64 (.ofNat 1))))⟩, ⟨(some p9n20), none, (.pick (.t p9n13) (.c (.bool true)) (.t p9n19))⟩, ⟨(some p9n21), none, (.mv (.t p9n20))⟩, ⟨(some p9n22), (some (p9n21, false)), (.faddr 2 (.t p9n3))⟩, ⟨(some p9n23), (some (p9n21, false)), (.ld1 (.t p9n22))⟩, ⟨(some p9n24), (some (p9n21, false)), (.iaddr 4 (.t p9n23) (.c (.int .i64 (.ofNat 1))))⟩, ⟨(some p9n25), (some (p9n21, false)), (.faddr 1 (.t p9n24))⟩, ⟨(some p9n26), (some (p9n21, false)), (.ld1 (.t p9n25))⟩, ⟨(some p9n27), (some (p9n21, false)), (.call 82 [(.t p9n26)])⟩, ⟨(some p9n28), (some (p9n21, false)), (.un .not (.t p9n27))⟩, ⟨(some p9n29), none, (.pick (.t p9n21) (.c (.bool true)) (.t p9n28))⟩]) (.cond (.t p9n29) (.seq (.reg [⟨(some p9n4), none, (.mv (.c (.int .i64 (.ofNat 3))))⟩]) .ret) .skip)) (.seq (.reg [⟨(some p9n30), none, (.faddr 2 (.t p9n3))⟩, ⟨(some p9n31), none, (.ld1 (.t p9n30))⟩, ⟨(some p9n32), none, (.iaddr 4 (.t p9n31) (.c (.int .i64 (.ofNat 1))))⟩, ⟨(some p9n33), none, (.faddr 1 (.t p9n32))⟩, ⟨(some p9n34), none, (.ld1 (.t p9n33))⟩, ⟨(some p9n5), none, (.mv (.t p9n34))⟩]) (.seq (.seq (.reg [⟨(some p9n36), none, (.mv (.t p9n0))⟩, ⟨(some p9n37), none, (.nilck (.t p9n36))⟩, ⟨(some p9n38), none, (.faddr 0 (.t p9n37))⟩, ⟨(some p9n39), none, (.ld1 (.t p9n38))⟩, ⟨(some p9n40), none, (.nilck (.t p9n39))⟩, ⟨(some p9n41), none, (.faddr 1 (.t p9n40))⟩, ⟨(some p9n42), none, (.ld1 (.t p9n41))⟩, ⟨(some p9n43), none, (.mv (.t p9n5))⟩, ⟨(some p9n44), none, (.mem (.lkp .str .nils true) [(.t p9n42), (.t p9n43)])⟩, ⟨(some p9n35), none, (.mv (.t p9n44))⟩, ⟨(some p9n45), none, (.ext (.t p9n35) 0)⟩, ⟨(some p9n46), none, (.ext (.t p9n35) 1)⟩, ⟨(some p9n6), none, (.mv (.t p9n45))⟩, ⟨(some p9n7), none, (.mv (.t p9n46))⟩]) (.seq (.reg [⟨(some p9n47), none, (.mv (.t p9n7))⟩]) (.cond (.t p9n47) (.seq (.reg [⟨(some p9n4), none, (.mv (.c (.int .i64 (.ofNat 5))))⟩]) .ret) .skip))) (.seq (.seq (.reg [⟨(some p9n48), none, (.mv (.t p9n0))⟩, ⟨(some p9n49), none, (.nilck (.t p9n48))⟩, ⟨(some p9n50), none, (.faddr 5 (.t p9n49))⟩, ⟨(some p9n51), none, (.ld1 (.t p9n50))⟩, ⟨(some p9n52), none, (.bin .add (.t p9n51) (.c (.int .i64 (.ofNat 1))))⟩, ⟨(some p9n8), none, (.mv (.t p9n52))⟩]) (.block 0 (.loop (.seq (.seq (.reg [⟨(some p9n53), none, (.mv (.t p9n8))⟩, ⟨(some p9n54), none, (.mv (.t p9n0))⟩, ⟨(some p9n55), none, (.nilck (.t p9n54))⟩, ⟨(some p9n56), none, (.faddr 1 (.t p9n55))⟩, ⟨(some p9n57), none, (.ld1 (.t p9n56))⟩, ⟨(some p9n58), none, (.len false (.t p9n57))⟩, ⟨(some p9n59), none, (.bin .lss (.t p9n53) (.t p9n58))⟩]) (.cond (.t p9n59) .skip (.exit 0))) (.seq (.block 1 (.seq (.reg [⟨(some p9n62), none, (.mv (.t p9n0))⟩, ⟨(some p9n63), none, (.nilck (.t p9n62))⟩, ⟨(some p9n64), none, (.faddr 1 (.t p9n63))⟩, ⟨(some p9n65), none, (.ld1 (.t p9n64))⟩, ⟨(some p9n66), none, (.mv (.t p9n8))⟩, ⟨(some p9n67), none, (.iaddr 3 (.t p9n65) (.t p9n66))⟩, ⟨(some p9n68), none, (.ldA 3 (.t p9n67))⟩, ⟨(some p9n69), none, (.call 164 [(.t p9n68)])⟩]) (.block 2 (.seq (.reg [⟨(some p9n71), none, (.bin .eql (.t p9n69) (.c (.str [46, 109, 97, 99, 114, 111])))⟩, ⟨(some p9n70), none, (.mv (.t p9n71))⟩]) (.cond (.t p9n70) (.seq (.regx 1023 [(0, (0, (true, ⟨(some p9n72), none, (.mv (.t p9n0))⟩))), (1, (1, (true, ⟨(some p9n73), none, (.nilck (.t p9n72))⟩))), (2, (2, (true, ⟨(some p9n74), none, (.faddr 0 (.t p9n73))⟩))), (3, (4, (false, ⟨(some p9n75), none, (.ld1 (.t p9n74))⟩))), (4, (0, (true, ⟨(some p9n76), none, (.mv (.t p9n0))⟩))), (5, (0, (true, ⟨(some p9n77), none, (.mv (.t p9n8))⟩))), (6, (48, (false, ⟨(some p9n78), none, (.call 162 [(.t p9n76), (.t p9n77)])⟩))), (7, (127, (true, ⟨(some p9n79), none, (.nilck (.t p9n75))⟩))), (8, (255, (true, ⟨(some p9n80), none, (.faddr 4 (.t p9n79))⟩))), (9, (383, (false, ⟨none, none, (.st 1 (.t p9n80) (.t p9n78))⟩)))]) (.seq (.reg [⟨(some p9n4), none, (.mv (.c (.int .i64 (.ofNat 3))))⟩]) .ret)) (.seq (.reg [⟨(some p9n82), none, (.bin .eql (.t p9n69) (.c (.str [46, 101, 110, 100, 109])))⟩, ⟨(some p9n81), none, (.mv (.t p9n82))⟩]) (.cond (.t p9n81) (.seq (.seq (.reg [⟨(some p9n83), none, (.mv (.t p9n0))⟩, ⟨(some p9n84), none, (.nilck (.t p9n83))⟩, ⟨(some p9n85), none, (.faddr 1 (.t p9n84))⟩, ⟨(some p9n86), none, (.ld1 (.t p9n85))⟩, ⟨(some p9n87), none, (.mv (.t p9n8))⟩, ⟨(some p9n88), none, (.iaddr 3 (.t p9n86) (.t p9n87))⟩, ⟨(some p9n89), none, (.faddr 1 (.t p9n88))⟩, ⟨(some p9n90), none, (.ld1 (.t p9n89))⟩, ⟨(some p9n91), none, (.bin .neq (.t p9n90) (.c (.str [])))⟩, ⟨(some p9n92), none, (.mv (.t p9n91))⟩, ⟨(some p9n93), (some (p9n92, false)), (.mv (.t p9n0))⟩, ⟨(some p9n94), (some (p9n92, false)), (.nilck (.t p9n93))⟩, ⟨(some p9n95), (some (p9n92, false)), (.faddr 1 (.t p9n94))⟩, ⟨(some p9n96), (some (p9n92, false)), (.ld1 (.t p9n95))⟩, ⟨(some p9n97), (some (p9n92, false)), (.mv (.t p9n8))⟩, ⟨(some p9n98), (some (p9n92, false)), (.iaddr 3 (.t p9n96) (.t p9n97))⟩, ⟨(some p9n99), (some (p9n92, false)), (.faddr 2 (.t p9n98))⟩, ⟨(some p9n100), (some (p9n92, false)), (.ld1 (.t p9n99))⟩, ⟨(some p9n101), (some (p9n92, false)), (.len false (.t p9n100))⟩, ⟨(some p9n102), (some (p9n92, false)), (.bin .gtr (.t p9n101) (.c (.int .i64 (.ofNat 1))))⟩, ⟨(some p9n103), none, (.pick (.t p9n92) (.c (.bool true)) (.t p9n102))⟩]) (.cond (.t p9n103) (.seq (.regx 1023 [(0, (0, (true, ⟨(some p9n104), none, (.mv (.t p9n0))⟩))), (1, (1, (true, ⟨(some p9n105), none, (.nilck (.t p9n104))⟩))), (2, (2, (true, ⟨(some p9n106), none, (.faddr 0 (.t p9n105))⟩))), (3, (4, (false, ⟨(some p9n107), none, (.ld1 (.t p9n106))⟩))), (4, (0, (true, ⟨(some p9n108), none, (.mv (.t p9n0))⟩))), (5, (0, (true, ⟨(some p9n109), none, (.mv (.t p9n8))⟩))), (6, (48, (false, ⟨(some p9n110), none, (.call 162 [(.t p9n108), (.t p9n109)])⟩))), (7, (127, (true, ⟨(some p9n111), none, (.nilck (.t p9n107))⟩))), (8, (255, (true, ⟨(some p9n112), none, (.faddr 4 (.t p9n111))⟩))), (9, (383, (false, ⟨none, none, (.st 1 (.t p9n112) (.t p9n110))⟩)))]) (.seq (.reg [⟨(some p9n4), none, (.mv (.c (.int .i64 (.ofNat 3))))⟩]) .ret)) .skip)) (.seq (.regx 1048575 [(0, (0, (true, ⟨(some p9n113), none, (.mv (.t p9n0))⟩))), (1, (1, (true, ⟨(some p9n114), none, (.nilck (.t p9n113))⟩))), (2, (2, (true, ⟨(some p9n115), none, (.faddr 0 (.t p9n114))⟩))), (3, (4, (false, ⟨(some p9n116), none, (.ld1 (.t p9n115))⟩))), (4, (8, (true, ⟨(some p9n117), none, (.nilck (.t p9n116))⟩))), (5, (16, (true, ⟨(some p9n118), none, (.faddr 1 (.t p9n117))⟩))), (6, (32, (false, ⟨(some p9n119), none, (.ld1 (.t p9n118))⟩))), (7, (0, (true, ⟨(some p9n120), none, (.mv (.t p9n5))⟩))), (8, (0, (true, ⟨(some p9n121), none, (.mv (.t p9n0))⟩))), (9, (256, (true, ⟨(some p9n122), none, (.nilck (.t p9n121))⟩))), (10, (512, (true, ⟨(some p9n123), none, (.faddr 1 (.t p9n122))⟩))), (11, (1024, (false, ⟨(some p9n124), none, (.ld1 (.t p9n123))⟩))), (12, (0, (true, ⟨(some p9n125), none, (.mv (.t p9n0))⟩))), (13, (4096, (true, ⟨(some p9n126), none, (.nilck (.t p9n125))⟩))), (14, (8192, (true, ⟨(some p9n127), none, (.faddr 5 (.t p9n126))⟩))), (15, (16384, (false, ⟨(some p9n128), none, (.ld1 (.t p9n127))⟩))), (16, (32768, (false, ⟨(some p9n129), none, (.bin .add (.t p9n128) (.c (.int .i64 (.ofNat 1))))⟩))), (17, (0, (true, ⟨(some p9n130), none, (.mv (.t p9n8))⟩))), (18, (198656, (false, ⟨(some p9n131), none, (.slL 3 (.t p9n124) (some (.t p9n129)) (some (.t p9n130)) none)⟩))), (19, (524287, (false, ⟨none, none, (.mem (.mup .str) [(.t p9n119), (.t p9n120), (.t p9n131)])⟩)))]) (.seq (.reg [⟨(some p9n132), none, (.mv (.t p9n0))⟩, ⟨(some p9n133), none, (.mv (.t p9n8))⟩, ⟨(some p9n134), none, (.nilck (.t p9n132))⟩, ⟨(some p9n135), none, (.faddr 5 (.t p9n134))⟩, ⟨none, none, (.st 1 (.t p9n135) (.t p9n133))⟩]) (.seq (.reg [⟨(some p9n4), none, (.mv (.c (.int .i64 (.ofNat 0))))⟩]) .ret)))) .skip))))))) (.reg [⟨(some p9n60), none, (.mv (.t p9n8))⟩, ⟨(some p9n61), none, (.bin .add (.t p9n60) (.c (.int .i64 (.ofNat 1))))⟩, ⟨(some p9n8), none, (.mv (.t p9n61))⟩])))))) (.seq (.reg [⟨(some p9n4), none, (.mv (.c (.int .i64 (.ofNat 3))))⟩]) .ret))))))⟩
noncomputable def a167 : AFunc :=
  ⟨6, [p6n0, p6n1], [(p6n4, none)], true, (.seq (.reg [⟨(some p6n3), none, (.box (.t p6n1))⟩, ⟨(some p6n4), none, (.mv (.c (.int .i64 (.ofNat 0))))⟩]) (.seq (.seq (.reg [⟨(some p6n7), none, (.mv (.t p6n0))⟩, ⟨(some p6n8), none, (.nilck (.t p6n7))⟩, ⟨(some p6n9), none, (.faddr 6 (.t p6n8))⟩, ⟨(some p6n10), none, (.ld1 (.t p6n9))⟩, ⟨(some p6n11), none, (.len false (.t p6n10))⟩, ⟨(some p6n12), none, (.bin .geq (.t p6n11) (.c (.int .i64 (.ofNat 8))))⟩]) (.cond (.t p6n12) (.seq (.reg [⟨(some p6n4), none, (.mv (.c (.int .i64 (.ofNat 2))))⟩]) .ret) .skip)) (.seq (.regd [(.pure, ⟨(some p6n14), none, (.mv (.t p6n0))⟩), (.pure, ⟨(some p6n15), none, (.nilck (.t p6n14))⟩), (.pure, ⟨(some p6n16), none, (.faddr 0 (.t p6n15))⟩), (.load, ⟨(some p6n17), none, (.ld1 (.t p6n16))⟩), (.pure, ⟨(some p6n18), none, (.nilck (.t p6n17))⟩), (.pure, ⟨(some p6n19), none, (.faddr 0 (.t p6n18))⟩), (.load, ⟨(some p6n20), none, (.ld1 (.t p6n19))⟩), (.pure, ⟨(some p6n21), none, (.faddr 2 (.t p6n3))⟩), (.load, ⟨(some p6n22), none, (.ld1 (.t p6n21))⟩), (.pure, ⟨(some p6n23), none, (.slL 4 (.t p6n22) (some (.c (.int .i64 (.ofNat 1)))) none none)⟩), (.iso, ⟨(some p6n24), none, (.call 31 [(.t p6n20), (.t p6n23)])⟩), (.pure, ⟨(some p6n13), none, (.mv (.t p6n24))⟩), (.pure, ⟨(some p6n25), none, (.ext (.t p6n13) 0)⟩), (.pure, ⟨(some p6n26), none, (.ext (.t p6n13) 1)⟩), (.pure, ⟨(some p6n5), none, (.mv (.t p6n25))⟩)] [⟨(some p6n6), none, (.mv (.t p6n26))⟩]) (.seq (.seq (.reg [⟨(some p6n27), none, (.mv (.t p6n6))⟩, ⟨(some p6n28), none, (.bin .neq (.t p6n27) (.c (.int .i64 (.ofNat 0))))⟩]) (.cond (.t p6n28) (.seq (.reg [⟨(some p6n29), none, (.mv (.t p6n6))⟩, ⟨(some p6n4), none, (.mv (.t p6n29))⟩]) .ret) .skip)) (.seq (.regd [(.pure, ⟨(some p6n30), none, (.mv (.t p6n0))⟩), (.pure, ⟨(some p6n31), none, (.mv (.t p6n0))⟩), (.pure, ⟨(some p6n32), none, (.nilck (.t p6n31))⟩), (.pure, ⟨(some p6n33), none, (.faddr 6 (.t p6n32))⟩), (.load, ⟨(some p6n34), none, (.ld1 (.t p6n33))⟩), (.pure, ⟨(some p6n35), none, (.faddr 0 (.t p6n3))⟩), (.load, ⟨(some p6n36), none, (.ld1 (.t p6n35))⟩), (.pure, ⟨(some p6n37), none, (.mv (.t p6n5))⟩), (.pure, ⟨(some p6n38), none, (.bin .neq (.t p6n37) (.c (.int .i64 (.ofNat 0))))⟩), (.pure, ⟨(some p6n39), none, (.build [(.int .i64 (.ofNat 0)), (.bool false), (.bool false)] [(0, (1, (.t p6n36))), (2, (1, (.t p6n38)))])⟩), (.pure, ⟨(some p6n40), none, (.buildS 3 1 (.agg [(.int .i64 (.ofNat 0)), (.bool false), (.bool false)]) [(0, (.t p6n39))])⟩)] [⟨(some p6n41), none, (.mem (.app 3 16 (.agg [(.int .i64 (.ofNat 0)), (.bool false), (.bool false)])) [(.t p6n34), (.t p6n40)])⟩, ⟨(some p6n42), none, (.nilck (.t p6n30))⟩, ⟨(some p6n43), none, (.faddr 6 (.t p6n42))⟩, ⟨none, none, (.st 1 (.t p6n43) (.t p6n41))⟩]) (.seq (.seq (.reg [⟨(some p6n44), none, (.mv (.t p6n5))⟩, ⟨(some p6n45), none, (.bin .eql (.t p6n44) (.c (.int .i64 (.ofNat 0))))⟩]) (.cond (.t p6n45) (.seq (.reg [⟨(some p6n46), none, (.mv (.t p6n0))⟩, ⟨(some p6n47), none, (.call 177 [(.t p6n46)])⟩, ⟨(some p6n4), none, (.mv (.t p6n47))⟩]) .ret) .skip)) (.seq (.reg [⟨(some p6n4), none, (.mv (.c (.int .i64 (.ofNat 0))))⟩]) .ret)))))))⟩
noncomputable def a168 : AFunc :=
  ⟨8, [p8n0, p8n1], [(p8n4, none)], true, (.seq (.reg [⟨(some p8n3), none, (.box (.t p8n1))⟩, ⟨(some p8n4), none, (.mv (.c (.int .i64 (.ofNat 0))))⟩]) (.seq (.reg [⟨(some p8n8), none, (.mv (.t p8n0))⟩, ⟨(some p8n9), none, (.nilck (.t p8n8))⟩, ⟨(some p8n10), none, (.faddr 6 (.t p8n9))⟩, ⟨(some p8n11), none, (.ld1 (.t p8n10))⟩, ⟨(some p8n12), none, (.len false (.t p8n11))⟩, ⟨(some p8n13), none, (.bin .sub (.t p8n12) (.c (.int .i64 (.ofNat 1))))⟩, ⟨(some p8n5), none, (.mv (.t p8n13))⟩]) (.seq (.seq (.reg [⟨(some p8n14), none, (.ldA 3 (.t p8n3))⟩, ⟨(some p8n15), none, (.call 164 [(.t p8n14)])⟩, ⟨(some p8n6), none, (.mv (.t p8n15))⟩]) (.block 0 (.seq (.reg [⟨(some p8n17), none, (.faddr 1 (.t p8n3))⟩, ⟨(some p8n18), none, (.ld1 (.t p8n17))⟩, ⟨(some p8n19), none, (.bin .neq (.t p8n18) (.c (.str [])))⟩, ⟨(some p8n20), none, (.mv (.t p8n19))⟩, ⟨(some p8n21), (some (p8n20, false)), (.faddr 2 (.t p8n3))⟩, ⟨(some p8n22), (some (p8n20, false)), (.ld1 (.t p8n21))⟩, ⟨(some p8n23), (some (p8n20, false)), (.len false (.t p8n22))⟩, ⟨(some p8n24), (some (p8n20, false)), (.bin .gtr (.t p8n23) (.c (.int .i64 (.ofNat 1))))⟩, ⟨(some p8n25), none, (.pick (.t p8n20) (.c (.bool true)) (.t p8n24))⟩, ⟨(some p8n26), none, (.mv (.t p8n25))⟩, ⟨(some p8n27), (some (p8n26, false)), (.mv (.t p8n5))⟩, ⟨(some p8n28), (some (p8n26, false)), (.bin .lss (.t p8n27) (.c (.int .i64 (.ofNat 0))))⟩, ⟨(some p8n29), none, (.pick (.t p8n26) (.c (.bool true)) (.t p8n28))⟩, ⟨(some p8n30), none, (.mv (.t p8n29))⟩, ⟨(some p8n31), (some (p8n30, false)), (.mv (.t p8n6))⟩, ⟨(some p8n32), (some (p8n30, false)), (.bin .eql (.t p8n31) (.c (.str [46, 101, 108, 115, 101])))⟩, ⟨(some p8n33), (some (p8n30, false)), (.mv (.t p8n32))⟩, ⟨(some p8n34), (some (p8n33, true)), (.mv (.t p8n0))⟩, ⟨(some p8n35), (some (p8n33, true)), (.nilck (.t p8n34))⟩, ⟨(some p8n36), (some (p8n33, true)), (.faddr 6 (.t p8n35))⟩, ⟨(some p8n37), (some (p8n33, true)), (.ld1 (.t p8n36))⟩, ⟨(some p8n38), (some (p8n33, true)), (.mv (.t p8n5))⟩, ⟨(some p8n39), (some (p8n33, true)), (.iaddr 3 (.t p8n37) (.t p8n38))⟩, ⟨(some p8n40), (some (p8n33, true)), (.faddr 1 (.t p8n39))⟩, ⟨(some p8n41), (some (p8n33, true)), (.ld1 (.t p8n40))⟩, ⟨(some p8n42), (some (p8n30, false)), (.pick (.t p8n33) (.t p8n41) (.c (.bool false)))⟩, ⟨(some p8n43), none, (.pick (.t p8n30) (.c (.bool true)) (.t p8n42))⟩, ⟨(some p8n16), none, (.mv (.t p8n43))⟩]) (.cond (.t p8n16) (.seq (.reg [⟨(some p8n4), none, (.mv (.c (.int .i64 (.ofNat 3))))⟩]) .ret) (.seq (.reg [⟨(some p8n45), none, (.mv (.t p8n6))⟩, ⟨(some p8n46), none, (.bin .eql (.t p8n45) (.c (.str [46, 101, 110, 100, 105, 102])))⟩, ⟨(some p8n44), none, (.mv (.t p8n46))⟩]) (.cond (.t p8n44) (.seq (.reg [⟨(some p8n47), none, (.mv (.t p8n0))⟩, ⟨(some p8n48), none, (.mv (.t p8n0))⟩, ⟨(some p8n49), none, (.nilck (.t p8n48))⟩, ⟨(some p8n50), none, (.faddr 6 (.t p8n49))⟩, ⟨(some p8n51), none, (.ld1 (.t p8n50))⟩, ⟨(some p8n52), none, (.mv (.t p8n5))⟩, ⟨(some p8n53), none, (.slL 3 (.t p8n51) none (some (.t p8n52)) none)⟩, ⟨(some p8n54), none, (.nilck (.t p8n47))⟩, ⟨(some p8n55), none, (.faddr 6 (.t p8n54))⟩, ⟨none, none, (.st 1 (.t p8n55) (.t p8n53))⟩]) (.seq (.reg [⟨(some p8n4), none, (.mv (.c (.int .i64 (.ofNat 0))))⟩]) .ret)) .skip)))))) (.seq (.reg [⟨(some p8n56), none, (.mv (.t p8n0))⟩, ⟨(some p8n57), none, (.nilck (.t p8n56))⟩, ⟨(some p8n58), none, (.faddr 6 (.t p8n57))⟩, ⟨(some p8n59), none, (.ld1 (.t p8n58))⟩, ⟨(some p8n60), none, (.mv (.t p8n5))⟩, ⟨(some p8n61), none, (.iaddr 3 (.t p8n59) (.t p8n60))⟩, ⟨(some p8n7), none, (.mv (.t p8n61))⟩]) (.seq (.reg [⟨(some p8n62), none, (.mv (.t p8n7))⟩, ⟨(some p8n63), none, (.mv (.t p8n7))⟩, ⟨(some p8n64), none, (.mv (.t p8n7))⟩, ⟨(some p8n65), none, (.nilck (.t p8n64))⟩, ⟨(some p8n66), none, (.faddr 2 (.t p8n65))⟩, ⟨(some p8n67), none, (.ld1 (.t p8n66))⟩, ⟨(some p8n68), none, (.un .not (.t p8n67))⟩, ⟨(some p8n69), none, (.nilck (.t p8n62))⟩, ⟨(some p8n70), none, (.faddr 1 (.t p8n69))⟩, ⟨none, none, (.st 1 (.t p8n70) (.c (.bool true)))⟩, ⟨(some p8n71), none, (.nilck (.t p8n63))⟩, ⟨(some p8n72), none, (.faddr 2 (.t p8n71))⟩, ⟨none, none, (.st 1 (.t p8n72) (.t p8n68))⟩]) (.seq (.seq (.reg [⟨(some p8n73), none, (.mv (.t p8n7))⟩, ⟨(some p8n74), none, (.nilck (.t p8n73))⟩, ⟨(some p8n75), none, (.faddr 2 (.t p8n74))⟩, ⟨(some p8n76), none, (.ld1 (.t p8n75))⟩, ⟨(some p8n77), none, (.un .not (.t p8n76))⟩]) (.cond (.t p8n77) (.seq (.reg [⟨(some p8n78), none, (.mv (.t p8n0))⟩, ⟨(some p8n79), none, (.call 177 [(.t p8n78)])⟩, ⟨(some p8n4), none, (.mv (.t p8n79))⟩]) .ret) .skip)) (.seq (.reg [⟨(some p8n4), none, (.mv (.c (.int .i64 (.ofNat 0))))⟩]) .ret)))))))⟩
noncomputable def a169 : AFunc :=
  ⟨8, [p8n0, p8n1], [(p8n4, none)], true, (.seq (.reg [⟨(some p8n3), none, (.box (.t p8n1))⟩, ⟨(some p8n4), none, (.mv (.c (.int .i64 (.ofNat 0))))⟩]) (.seq (.reg [⟨(some p8n9), none, (.faddr 2 (.t p8n3))⟩, ⟨(some p8n10), none, (.ld1 (.t p8n9))⟩, ⟨(some p8n5), none, (.mv (.t p8n10))⟩]) (.seq (.seq (.reg [⟨(some p8n11), none, (.mv (.t p8n5))⟩, ⟨(some p8n12), none, (.len false (.t p8n11))⟩, ⟨(some p8n13), none, (.bin .lss (.t p8n12) (.c (.int .i64 (.ofNat 3))))⟩, ⟨(some p8n14), none, (.mv (.t p8n13))⟩, ⟨(some p8n15), (some (p8n14, false)), (.mv (.t p8n5))⟩, ⟨(some p8n16), (some (p8n14, false)), (.iaddr 4 (.t p8n15) (.c (.int .i64 (.ofNat 1))))⟩, ⟨(some p8n17), (some (p8n14, false)), (.faddr 0 (.t p8n16))⟩, ⟨(some p8n18), (some (p8n14, false)), (.ld1 (.t p8n17))⟩, ⟨(some p8n19), (some (p8n14, false)), (.bin .neq (.t p8n18) (.c (.int .i64 (.ofNat 1))))⟩, ⟨(some p8n20), none, (.pick (.t p8n14) (.c (.bool true)) (.t p8n19))⟩, ⟨(some p8n21), none, (.mv (.t p8n20))⟩, ⟨(some p8n22), (some (p8n21, false)), (.mv (.t p8n5))⟩, ⟨(some p8n23), (some (p8n21, false)), (.iaddr 4 (.t p8n22) (.c (.int .i64 (.ofNat 1))))⟩, ⟨(some p8n24), (some (p8n21, false)), (.faddr 1 (.t p8n23))⟩, ⟨(some p8n25), (some (p8n21, false)), (.ld1 (.t p8n24))⟩, ⟨(some p8n26), (some (p8n21, false)), (.call 82 [(.t p8n25)])⟩, ⟨(some p8n27), (some (p8n21, false)), (.un .not (.t p8n26))⟩, ⟨(some p8n28), none, (.pick (.t p8n21) (.c (.bool true)) (.t p8n27))⟩, ⟨(some p8n29), none, (.mv (.t p8n28))⟩, ⟨(some p8n30), (some (p8n29, false)), (.mv (.t p8n5))⟩, ⟨(some p8n31), (some (p8n29, false)), (.iaddr 4 (.t p8n30) (.c (.int .i64 (.ofNat 2))))⟩, ⟨(some p8n32), (some (p8n29, false)), (.ldA 4 (.t p8n31))⟩, ⟨(some p8n33), (some (p8n29, false)), (.call 161 [(.t p8n32), (.c (.str [44]))])⟩, ⟨(some p8n34), (some (p8n29, false)), (.un .not (.t p8n33))⟩, ⟨(some p8n35), none, (.pick (.t p8n29) (.c (.bool true)) (.t p8n34))⟩]) (.cond (.t p8n35) (.seq (.reg [⟨(some p8n4), none, (.mv (.c (.int .i64 (.ofNat 3))))⟩]) .ret) .skip)) (.seq (.reg [⟨(some p8n36), none, (.mv (.t p8n5))⟩, ⟨(some p8n37), none, (.iaddr 4 (.t p8n36) (.c (.int .i64 (.ofNat 1))))⟩, ⟨(some p8n38), none, (.faddr 1 (.t p8n37))⟩, ⟨(some p8n39), none, (.ld1 (.t p8n38))⟩, ⟨(some p8n6), none, (.alloc [(.str [])])⟩, ⟨none, none, (.st 1 (.t p8n6) (.t p8n39))⟩]) (.seq (.seq (.reg [⟨(some p8n40), none, (.mv (.t p8n0))⟩, ⟨(some p8n41), none, (.nilck (.t p8n40))⟩, ⟨(some p8n42), none, (.faddr 0 (.t p8n41))⟩, ⟨(some p8n43), none, (.ld1 (.t p8n42))⟩, ⟨(some p8n44), none, (.nilck (.t p8n43))⟩, ⟨(some p8n45), none, (.faddr 0 (.t p8n44))⟩, ⟨(some p8n46), none, (.ld1 (.t p8n45))⟩, ⟨(some p8n47), none, (.mkfn 178 [] [(.t p8n6)])⟩, ⟨(some p8n48), none, (.call 62 [(.t p8n46), (.t p8n47)])⟩]) (.cond (.t p8n48) (.seq (.reg [⟨(some p8n4), none, (.mv (.c (.int .i64 (.ofNat 5))))⟩]) .ret) .skip)) (.seq (.regd [(.pure, ⟨(some p8n50), none, (.mv (.t p8n0))⟩), (.pure, ⟨(some p8n51), none, (.nilck (.t p8n50))⟩), (.pure, ⟨(some p8n52), none, (.faddr 0 (.t p8n51))⟩), (.load, ⟨(some p8n53), none, (.ld1 (.t p8n52))⟩), (.pure, ⟨(some p8n54), none, (.nilck (.t p8n53))⟩), (.pure, ⟨(some p8n55), none, (.faddr 0 (.t p8n54))⟩), (.load, ⟨(some p8n56), none, (.ld1 (.t p8n55))⟩), (.pure, ⟨(some p8n57), none, (.mv (.t p8n5))⟩), (.pure, ⟨(some p8n58), none, (.slL 4 (.t p8n57) (some (.c (.int .i64 (.ofNat 3)))) none none)⟩), (.iso, ⟨(some p8n59), none, (.call 31 [(.t p8n56), (.t p8n58)])⟩), (.pure, ⟨(some p8n49), none, (.mv (.t p8n59))⟩), (.pure, ⟨(some p8n60), none, (.ext (.t p8n49) 0)⟩), (.pure, ⟨(some p8n61), none, (.ext (.t p8n49) 1)⟩), (.pure, ⟨(some p8n7), none, (.mv (.t p8n60))⟩)] [⟨(some p8n8), none, (.mv (.t p8n61))⟩]) (.seq (.block 0 (.seq (.reg [⟨(some p8n63), none, (.mv (.t p8n8))⟩, ⟨(some p8n64), none, (.bin .neq (.t p8n63) (.c (.int .i64 (.ofNat 0))))⟩, ⟨(some p8n62), none, (.mv (.t p8n64))⟩]) (.cond (.t p8n62) (.seq (.reg [⟨(some p8n65), none, (.mv (.t p8n8))⟩, ⟨(some p8n4), none, (.mv (.t p8n65))⟩]) .ret) (.seq (.reg [⟨(some p8n67), none, (.mv (.t p8n0))⟩, ⟨(some p8n68), none, (.nilck (.t p8n67))⟩, ⟨(some p8n69), none, (.faddr 0 (.t p8n68))⟩, ⟨(some p8n70), none, (.ld1 (.t p8n69))⟩, ⟨(some p8n71), none, (.nilck (.t p8n70))⟩, ⟨(some p8n72), none, (.faddr 0 (.t p8n71))⟩, ⟨(some p8n73), none, (.ld1 (.t p8n72))⟩, ⟨(some p8n74), none, (.len false (.t p8n73))⟩, ⟨(some p8n75), none, (.bin .geq (.t p8n74) (.c (.int .i64 (.ofNat 60))))⟩, ⟨(some p8n66), none, (.mv (.t p8n75))⟩]) (.cond (.t p8n66) (.seq (.reg [⟨(some p8n4), none, (.mv (.c (.int .i64 (.ofNat 2))))⟩]) .ret) .skip))))) (.seq (.regd [(.pure, ⟨(some p8n76), none, (.mv (.t p8n0))⟩), (.pure, ⟨(some p8n77), none, (.nilck (.t p8n76))⟩), (.pure, ⟨(some p8n78), none, (.faddr 0 (.t p8n77))⟩), (.load, ⟨(some p8n79), none, (.ld1 (.t p8n78))⟩), (.pure, ⟨(some p8n80), none, (.mv (.t p8n0))⟩), (.pure, ⟨(some p8n81), none, (.nilck (.t p8n80))⟩), (.pure, ⟨(some p8n82), none, (.faddr 0 (.t p8n81))⟩), (.load, ⟨(some p8n83), none, (.ld1 (.t p8n82))⟩), (.pure, ⟨(some p8n84), none, (.nilck (.t p8n83))⟩), (.pure, ⟨(some p8n85), none, (.faddr 0 (.t p8n84))⟩), (.load, ⟨(some p8n86), none, (.ld1 (.t p8n85))⟩), (.load, ⟨(some p8n87), none, (.ld1 (.t p8n6))⟩), (.pure, ⟨(some p8n88), none, (.mv (.t p8n7))⟩), (.pure, ⟨(some p8n89), none, (.build [(.str []), (.int .i64 (.ofNat 0))] [(0, (1, (.t p8n87))), (1, (1, (.t p8n88)))])⟩), (.pure, ⟨(some p8n90), none, (.buildS 2 1 (.agg [(.str []), (.int .i64 (.ofNat 0))]) [(0, (.t p8n89))])⟩), (.iso, ⟨(some p8n91), none, (.app 2 24 (.agg [(.str []), (.int .i64 (.ofNat 0))]) (.t p8n86) (.t p8n90))⟩)] [⟨(some p8n92), none, (.nilck (.t p8n79))⟩, ⟨(some p8n93), none, (.faddr 0 (.t p8n92))⟩, ⟨none, none, (.st 1 (.t p8n93) (.t p8n91))⟩]) (.seq (.reg [⟨(some p8n4), none, (.mv (.c (.int .i64 (.ofNat 0))))⟩]) .ret)))))))))⟩
noncomputable def a170 : AFunc :=
  ⟨8, [p8n0, p8n1, p8n2], [(p8n6, none)], true, (.seq (.reg [⟨(some p8n4), none, (.box (.t p8n1))⟩, ⟨(some p8n6), none, (.mv (.c (.int .i64 (.ofNat 0))))⟩]) (.seq (.seq (.reg [⟨(some p8n9), none, (.mv (.t p8n0))⟩, ⟨(some p8n10), none, (.nilck (.t p8n9))⟩, ⟨(some p8n11), none, (.faddr 4 (.t p8n10))⟩, ⟨(some p8n12), none, (.ld1 (.t p8n11))⟩, ⟨(some p8n13), none, (.bin .geq (.t p8n12) (.c (.int .i64 (.ofNat 8))))⟩, ⟨(some p8n14), none, (.mv (.t p8n13))⟩, ⟨(some p8n15), (some (p8n14, false)), (.mv (.t p8n0))⟩, ⟨(some p8n16), (some (p8n14, false)), (.nilck (.t p8n15))⟩, ⟨(some p8n17), (some (p8n14, false)), (.faddr 0 (.t p8n16))⟩, ⟨(some p8n18), (some (p8n14, false)), (.ld1 (.t p8n17))⟩, ⟨(some p8n19), (some (p8n14, false)), (.nilck (.t p8n18))⟩, ⟨(some p8n20), (some (p8n14, false)), (.faddr 3 (.t p8n19))⟩, ⟨(some p8n21), (some (p8n14, false)), (.ld1 (.t p8n20))⟩, ⟨(some p8n22), (some (p8n14, false)), (.bin .geq (.t p8n21) (.c (.int .i64 (.ofNat 500))))⟩, ⟨(some p8n23), none, (.pick (.t p8n14) (.c (.bool true)) (.t p8n22))⟩]) (.cond (.t p8n23) (.seq (.reg [⟨(some p8n6), none, (.mv (.c (.int .i64 (.ofNat 2))))⟩]) .ret) .skip)) (.seq (.reg [⟨(some p8n24), none, (.mv (.t p8n0))⟩, ⟨(some p8n25), none, (.nilck (.t p8n24))⟩, ⟨(some p8n26), none, (.faddr 0 (.t p8n25))⟩, ⟨(some p8n27), none, (.ld1 (.t p8n26))⟩, ⟨(some p8n28), none, (.nilck (.t p8n27))⟩, ⟨(some p8n29), none, (.faddr 3 (.t p8n28))⟩, ⟨(some p8n30), none, (.ld1 (.t p8n29))⟩, ⟨(some p8n31), none, (.bin .add (.t p8n30) (.c (.int .i64 (.ofNat 1))))⟩, ⟨(some p8n32), none, (.nilck (.t p8n27))⟩, ⟨(some p8n33), none, (.faddr 3 (.t p8n32))⟩, ⟨none, none, (.st 1 (.t p8n33) (.t p8n31))⟩]) (.seq (.seq (.reg [⟨(some p8n34), none, (.faddr 1 (.t p8n4))⟩, ⟨(some p8n35), none, (.ld1 (.t p8n34))⟩, ⟨(some p8n36), none, (.bin .neq (.t p8n35) (.c (.str [])))⟩]) (.cond (.t p8n36) (.seq (.regd [(.pure, ⟨(some p8n37), none, (.mv (.t p8n0))⟩), (.pure, ⟨(some p8n38), none, (.nilck (.t p8n37))⟩), (.pure, ⟨(some p8n39), none, (.faddr 0 (.t p8n38))⟩), (.load, ⟨(some p8n40), none, (.ld1 (.t p8n39))⟩), (.pure, ⟨(some p8n41), none, (.faddr 0 (.t p8n4))⟩), (.load, ⟨(some p8n42), none, (.ld1 (.t p8n41))⟩), (.pure, ⟨(some p8n43), none, (.faddr 1 (.t p8n4))⟩), (.load, ⟨(some p8n44), none, (.ld1 (.t p8n43))⟩), (.pure, ⟨(some p8n45), none, (.build [(.int .i64 (.ofNat 0)), (.str []), .nils] [(0, (1, (.t p8n42))), (1, (1, (.t p8n44)))])⟩)] [⟨(some p8n46), none, (.call 171 [(.t p8n40), (.t p8n45)])⟩, ⟨(some p8n7), none, (.mv (.t p8n46))⟩]) (.seq (.reg [⟨(some p8n47), none, (.mv (.t p8n7))⟩, ⟨(some p8n48), none, (.bin .neq (.t p8n47) (.c (.int .i64 (.ofNat 0))))⟩]) (.cond (.t p8n48) (.seq (.reg [⟨(some p8n49), none, (.mv (.t p8n7))⟩, ⟨(some p8n6), none, (.mv (.t p8n49))⟩]) .ret) .skip))) .skip)) (.seq (.regd [(.pure, ⟨(some p8n50), none, (.mv (.t p8n0))⟩), (.pure, ⟨(some p8n51), none, (.nilck (.t p8n50))⟩), (.pure, ⟨(some p8n52), none, (.faddr 0 (.t p8n51))⟩), (.load, ⟨(some p8n53), none, (.ld1 (.t p8n52))⟩), (.pure, ⟨(some p8n54), none, (.mv (.t p8n2))⟩), (.pure, ⟨(some p8n55), none, (.faddr 0 (.t p8n4))⟩), (.load, ⟨(some p8n56), none, (.ld1 (.t p8n55))⟩), (.pure, ⟨(some p8n57), none, (.faddr 2 (.t p8n4))⟩), (.load, ⟨(some p8n58), none, (.ld1 (.t p8n57))⟩), (.pure, ⟨(some p8n59), none, (.slL 4 (.t p8n58) (some (.c (.int .i64 (.ofNat 1)))) none none)⟩), (.iso, ⟨(some p8n60), none, (.call 179 [(.t p8n59)])⟩), (.pure, ⟨(some p8n61), none, (.mv (.t p8n0))⟩), (.pure, ⟨(some p8n62), none, (.nilck (.t p8n61))⟩), (.pure, ⟨(some p8n63), none, (.faddr 4 (.t p8n62))⟩), (.load, ⟨(some p8n64), none, (.ld1 (.t p8n63))⟩), (.pure, ⟨(some p8n65), none, (.bin .add (.t p8n64) (.c (.int .i64 (.ofNat 1))))⟩)] [⟨(some p8n66), none, (.build [.nilp, .nils, (.int .i64 (.ofNat 0)), .nils, (.int .i64 (.ofNat 0)), (.int .i64 (.ofNat 0)), .nils] [(0, (1, (.t p8n53))), (1, (1, (.t p8n54))), (2, (1, (.t p8n56))), (3, (1, (.t p8n60))), (4, (1, (.t p8n65)))])⟩, ⟨(some p8n67), none, (.box (.t p8n66))⟩, ⟨(some p8n8), none, (.mv (.t p8n67))⟩]) (.seq (.reg [⟨(some p8n68), none, (.mv (.t p8n8))⟩, ⟨(some p8n69), none, (.call 142 [(.t p8n68)])⟩, ⟨(some p8n6), none, (.mv (.t p8n69))⟩]) .ret))))))⟩
noncomputable def a171 : AFunc :=
  ⟨6, [p6n0, p6n1], [(p6n4, none)], true, (.seq (.reg [⟨(some p6n3), none, (.box (.t p6n1))⟩, ⟨(some p6n4), none, (.mv (.c (.int .i64 (.ofNat 0))))⟩]) (.seq (.seq (.reg [⟨(some p6n5), none, (.mv (.t p6n0))⟩, ⟨(some p6n6), none, (.nilck (.t p6n5))⟩, ⟨(some p6n7), none, (.faddr 2 (.t p6n6))⟩, ⟨(some p6n8), none, (.ld1 (.t p6n7))⟩, ⟨(some p6n9), none, (.len false (.t p6n8))⟩, ⟨(some p6n10), none, (.bin .geq (.t p6n9) (.c (.int .i64 (.ofNat 300))))⟩]) (.cond (.t p6n10) (.seq (.reg [⟨(some p6n4), none, (.mv (.c (.int .i64 (.ofNat 2))))⟩]) .ret) .skip)) (.seq (.reg [⟨(some p6n11), none, (.faddr 2 (.t p6n3))⟩, ⟨(some p6n12), none, (.ld1 (.t p6n11))⟩, ⟨(some p6n13), none, (.call 180 [(.t p6n12)])⟩, ⟨(some p6n14), none, (.faddr 2 (.t p6n3))⟩, ⟨none, none, (.st 1 (.t p6n14) (.t p6n13))⟩]) (.seq (.regd [(.pure, ⟨(some p6n15), none, (.mv (.t p6n0))⟩), (.pure, ⟨(some p6n16), none, (.mv (.t p6n0))⟩), (.pure, ⟨(some p6n17), none, (.nilck (.t p6n16))⟩), (.pure, ⟨(some p6n18), none, (.faddr 2 (.t p6n17))⟩), (.load, ⟨(some p6n19), none, (.ld1 (.t p6n18))⟩), (.load, ⟨(some p6n20), none, (.ldA 3 (.t p6n3))⟩), (.pure, ⟨(some p6n21), none, (.buildS 3 1 (.agg [(.int .i64 (.ofNat 0)), (.str []), .nils]) [(0, (.t p6n20))])⟩)] [⟨(some p6n22), none, (.app 3 48 (.agg [(.int .i64 (.ofNat 0)), (.str []), .nils]) (.t p6n19) (.t p6n21))⟩, ⟨(some p6n23), none, (.nilck (.t p6n15))⟩, ⟨(some p6n24), none, (.faddr 2 (.t p6n23))⟩, ⟨none, none, (.st 1 (.t p6n24) (.t p6n22))⟩]) (.seq (.reg [⟨(some p6n4), none, (.mv (.c (.int .i64 (.ofNat 0))))⟩]) .ret)))))⟩
noncomputable def a172 : AFunc :=
  ⟨6, [p6n0, p6n1], [(p6n4, none)], false, (.seq (.reg [⟨(some p6n4), none, (.mv (.c (.int .i64 (.ofNat 0))))⟩]) (.seq (.seq (.reg [⟨(some p6n5), none, (.mv (.c (.int .i64 (.ofNat 0))))⟩]) (.block 0 (.loop (.seq (.seq (.reg [⟨(some p6n6), none, (.mv (.t p6n5))⟩, ⟨(some p6n7), none, (.mv (.t p6n0))⟩, ⟨(some p6n8), none, (.len false (.t p6n7))⟩, ⟨(some p6n9), none, (.bin .lss (.t p6n6) (.t p6n8))⟩]) (.cond (.t p6n9) .skip (.exit 0))) (.seq (.block 1 (.seq (.reg [⟨(some p6n12), none, (.mv (.t p6n0))⟩, ⟨(some p6n13), none, (.mv (.t p6n5))⟩, ⟨(some p6n14), none, (.iaddr 1 (.t p6n12) (.t p6n13))⟩, ⟨(some p6n15), none, (.ld1 (.t p6n14))⟩, ⟨(some p6n16), none, (.mv (.t p6n1))⟩, ⟨(some p6n17), none, (.bin .eql (.t p6n15) (.t p6n16))⟩]) (.cond (.t p6n17) (.seq (.reg [⟨(some p6n18), none, (.mv (.t p6n5))⟩, ⟨(some p6n4), none, (.mv (.t p6n18))⟩]) .ret) .skip))) (.reg [⟨(some p6n10), none, (.mv (.t p6n5))⟩, ⟨(some p6n11), none, (.bin .add (.t p6n10) (.c (.int .i64 (.ofNat 1))))⟩, ⟨(some p6n5), none, (.mv (.t p6n11))⟩])))))) (.seq (.reg [⟨(some p6n4), none, (.mv (.c (.int .i64 (.negSucc 0))))⟩]) .ret)))⟩
noncomputable def a173 : AFunc :=
  ⟨6, [p6n0, p6n1], [(p6n4, none)], false, (.seq (.reg [⟨(some p6n4), none, (.mv (.c (.int .i64 (.ofNat 0))))⟩]) (.seq (.seq (.reg [⟨(some p6n5), none, (.mv (.c (.int .i64 (.ofNat 0))))⟩]) (.block 0 (.loop (.seq (.seq (.reg [⟨(some p6n6), none, (.mv (.t p6n5))⟩, ⟨(some p6n7), none, (.mv (.t p6n0))⟩, ⟨(some p6n8), none, (.nilck (.t p6n7))⟩, ⟨(some p6n9), none, (.faddr 0 (.t p6n8))⟩, ⟨(some p6n10), none, (.ld1 (.t p6n9))⟩, ⟨(some p6n11), none, (.len false (.t p6n10))⟩, ⟨(some p6n12), none, (.bin .lss (.t p6n6) (.t p6n11))⟩]) (.cond (.t p6n12) .skip (.exit 0))) (.seq (.block 1 (.seq (.reg [⟨(some p6n15), none, (.mv (.t p6n0))⟩, ⟨(some p6n16), none, (.nilck (.t p6n15))⟩, ⟨(some p6n17), none, (.faddr 0 (.t p6n16))⟩, ⟨(some p6n18), none, (.ld1 (.t p6n17))⟩, ⟨(some p6n19), none, (.mv (.t p6n5))⟩, ⟨(some p6n20), none, (.iaddr 2 (.t p6n18) (.t p6n19))⟩, ⟨(some p6n21), none, (.faddr 0 (.t p6n20))⟩, ⟨(some p6n22), none, (.ld1 (.t p6n21))⟩, ⟨(some p6n23), none, (.mv (.t p6n1))⟩, ⟨(some p6n24), none, (.bin .eql (.t p6n22) (.t p6n23))⟩]) (.cond (.t p6n24) (.seq (.reg [⟨(some p6n25), none, (.mv (.t p6n5))⟩, ⟨(some p6n4), none, (.mv (.t p6n25))⟩]) .ret) .skip))) (.reg [⟨(some p6n13), none, (.mv (.t p6n5))⟩, ⟨(some p6n14), none, (.bin .add (.t p6n13) (.c (.int .i64 (.ofNat 1))))⟩, ⟨(some p6n5), none, (.mv (.t p6n14))⟩])))))) (.seq (.reg [⟨(some p6n4), none, (.mv (.c (.int .i64 (.negSucc 0))))⟩]) .ret)))⟩
noncomputable def a174 : AFunc :=
  ⟨6, [p6n0, p6n1], [], true, (.seq (.reg [⟨(some p6n3), none, (.box (.t p6n1))⟩]) (.seq (.seq (.reg [⟨(some p6n4), none, (.mv (.t p6n0))⟩, ⟨(some p6n5), none, (.nilck (.t p6n4))⟩, ⟨(some p6n6), none, (.faddr 4 (.t p6n5))⟩, ⟨(some p6n7), none, (.ld1 (.t p6n6))⟩, ⟨(some p6n8), none, (.bin .neq (.t p6n7) (.c (.int .i64 (.ofNat 0))))⟩]) (.cond (.t p6n8) .ret .skip)) (.seq (.seq (.reg [⟨(some p6n9), none, (.mv (.t p6n0))⟩, ⟨(some p6n10), none, (.nilck (.t p6n9))⟩, ⟨(some p6n11), none, (.faddr 2 (.t p6n10))⟩, ⟨(some p6n12), none, (.ld1 (.t p6n11))⟩, ⟨(some p6n13), none, (.len false (.t p6n12))⟩, ⟨(some p6n14), none, (.bin .geq (.t p6n13) (.c (.int .i64 (.ofNat 300))))⟩]) (.cond (.t p6n14) (.seq (.reg [⟨(some p6n15), none, (.mv (.t p6n0))⟩, ⟨(some p6n16), none, (.faddr 0 (.t p6n3))⟩, ⟨(some p6n17), none, (.ld1 (.t p6n16))⟩, ⟨(some p6n18), none, (.call 156 [(.t p6n15), (.c (.int .i64 (.ofNat 2))), (.t p6n17)])⟩]) .ret) .skip)) (.regd [(.pure, ⟨(some p6n19), none, (.mv (.t p6n0))⟩), (.pure, ⟨(some p6n20), none, (.mv (.t p6n0))⟩), (.pure, ⟨(some p6n21), none, (.nilck (.t p6n20))⟩), (.pure, ⟨(some p6n22), none, (.faddr 2 (.t p6n21))⟩), (.load, ⟨(some p6n23), none, (.ld1 (.t p6n22))⟩), (.load, ⟨(some p6n24), none, (.ldA 3 (.t p6n3))⟩), (.pure, ⟨(some p6n25), none, (.buildS 3 1 (.agg [(.int .i64 (.ofNat 0)), (.str []), .nils]) [(0, (.t p6n24))])⟩)] [⟨(some p6n26), none, (.app 3 48 (.agg [(.int .i64 (.ofNat 0)), (.str []), .nils]) (.t p6n23) (.t p6n25))⟩, ⟨(some p6n27), none, (.nilck (.t p6n19))⟩, ⟨(some p6n28), none, (.faddr 2 (.t p6n27))⟩, ⟨none, none, (.st 1 (.t p6n28) (.t p6n26))⟩]))))⟩
noncomputable def a175 : AFunc :=
  ⟨6, [p6n0], [(p6n2, none)], false, (.seq (.reg [⟨(some p6n2), none, (.mv (.c .nils))⟩]) (.seq (.seq (.reg [⟨(some p6n6), none, (.mv (.t p6n0))⟩, ⟨(some p6n7), none, (.len false (.t p6n6))⟩, ⟨(some p6n8), none, (.bin .eql (.t p6n7) (.c (.int .i64 (.ofNat 0))))⟩]) (.cond (.t p6n8) (.seq (.reg [⟨(some p6n2), none, (.mv (.c .nils))⟩]) .ret) .skip)) (.seq (.reg [⟨(some p6n3), none, (.mv (.c .nils))⟩]) (.seq (.reg [⟨(some p6n4), none, (.mv (.c .nils))⟩]) (.seq (.seq (.reg [⟨(some p6n5), none, (.mv (.c (.int .i64 (.ofNat 0))))⟩]) (.block 0 (.loop (.seq (.seq (.reg [⟨(some p6n9), none, (.mv (.t p6n5))⟩, ⟨(some p6n10), none, (.mv (.t p6n0))⟩, ⟨(some p6n11), none, (.len false (.t p6n10))⟩, ⟨(some p6n12), none, (.bin .lss (.t p6n9) (.t p6n11))⟩]) (.cond (.t p6n12) .skip (.exit 0))) (.seq (.block 1 (.seq (.reg [⟨(some p6n15), none, (.mv (.t p6n0))⟩, ⟨(some p6n16), none, (.mv (.t p6n5))⟩, ⟨(some p6n17), none, (.iaddr 4 (.t p6n15) (.t p6n16))⟩, ⟨(some p6n18), none, (.ldA 4 (.t p6n17))⟩, ⟨(some p6n19), none, (.call 143 [(.t p6n18), (.c (.str [44]))])⟩]) (.cond (.t p6n19) (.seq (.reg [⟨(some p6n20), none, (.mv (.t p6n3))⟩, ⟨(some p6n21), none, (.mv (.t p6n4))⟩, ⟨(some p6n22), none, (.buildS 1 1 .nils [(0, (.t p6n21))])⟩, ⟨(some p6n23), none, (.app 1 24 .nils (.t p6n20) (.t p6n22))⟩, ⟨(some p6n3), none, (.mv (.t p6n23))⟩]) (.reg [⟨(some p6n4), none, (.mv (.c .nils))⟩])) (.reg [⟨(some p6n24), none, (.mv (.t p6n4))⟩, ⟨(some p6n25), none, (.mv (.t p6n0))⟩, ⟨(some p6n26), none, (.mv (.t p6n5))⟩, ⟨(some p6n27), none, (.iaddr 4 (.t p6n25) (.t p6n26))⟩, ⟨(some p6n28), none, (.ldA 4 (.t p6n27))⟩, ⟨(some p6n29), none, (.buildS 4 1 (.agg [(.int .i64 (.ofNat 0)), (.str []), (.int .i64 (.ofNat 0)), (.int .i64 (.ofNat 0))]) [(0, (.t p6n28))])⟩, ⟨(some p6n30), none, (.app 4 40 (.agg [(.int .i64 (.ofNat 0)), (.str []), (.int .i64 (.ofNat 0)), (.int .i64 (.ofNat 0))]) (.t p6n24) (.t p6n29))⟩, ⟨(some p6n4), none, (.mv (.t p6n30))⟩])))) (.reg [⟨(some p6n13), none, (.mv (.t p6n5))⟩, ⟨(some p6n14), none, (.bin .add (.t p6n13) (.c (.int .i64 (.ofNat 1))))⟩, ⟨(some p6n5), none, (.mv (.t p6n14))⟩])))))) (.seq (.reg [⟨(some p6n31), none, (.mv (.t p6n3))⟩, ⟨(some p6n32), none, (.mv (.t p6n4))⟩, ⟨(some p6n33), none, (.buildS 1 1 .nils [(0, (.t p6n32))])⟩, ⟨(some p6n34), none, (.app 1 24 .nils (.t p6n31) (.t p6n33))⟩, ⟨(some p6n2), none, (.mv (.t p6n34))⟩]) .ret))))))⟩
noncomputable def a176 : AFunc :=
  ⟨4, [p4n0, p4n1], [(p4n4, none)], false, (.seq (.reg [⟨(some p4n4), none, (.mv (.c (.bool false)))⟩]) (.seq (.reg [⟨(some p4n5), none, (.mv (.t p4n0))⟩, ⟨(some p4n6), none, (.mv (.t p4n1))⟩, ⟨(some p4n7), none, (.call 181 [(.t p4n5), (.t p4n6)])⟩, ⟨(some p4n8), none, (.bin .geq (.t p4n7) (.c (.int .i64 (.ofNat 0))))⟩, ⟨(some p4n4), none, (.mv (.t p4n8))⟩]) .ret))⟩

end M2
end
section
/- Compiled functions, printed by a program of mine. -/
namespace M2
open Go

noncomputable def a177 : AFunc :=
  ⟨7, [p7n0], [(p7n2, none)], true, (.seq (.reg [⟨(some p7n2), none, (.mv (.c (.int .i64 (.ofNat 0))))⟩]) (.seq (.reg [⟨(some p7n3), none, (.mv (.c (.int .i64 (.ofNat 0))))⟩]) (.seq (.seq (.reg [⟨(some p7n6), none, (.mv (.t p7n0))⟩, ⟨(some p7n7), none, (.nilck (.t p7n6))⟩, ⟨(some p7n8), none, (.faddr 5 (.t p7n7))⟩, ⟨(some p7n9), none, (.ld1 (.t p7n8))⟩, ⟨(some p7n10), none, (.bin .add (.t p7n9) (.c (.int .i64 (.ofNat 1))))⟩, ⟨(some p7n4), none, (.mv (.t p7n10))⟩]) (.block 0 (.loop (.seq (.seq (.reg [⟨(some p7n11), none, (.mv (.t p7n4))⟩, ⟨(some p7n12), none, (.mv (.t p7n0))⟩, ⟨(some p7n13), none, (.nilck (.t p7n12))⟩, ⟨(some p7n14), none, (.faddr 1 (.t p7n13))⟩, ⟨(some p7n15), none, (.ld1 (.t p7n14))⟩, ⟨(some p7n16), none, (.len false (.t p7n15))⟩, ⟨(some p7n17), none, (.bin .lss (.t p7n11) (.t p7n16))⟩]) (.cond (.t p7n17) .skip (.exit 0))) (.seq (.block 1 (.seq (.reg [⟨(some p7n20), none, (.mv (.t p7n0))⟩, ⟨(some p7n21), none, (.nilck (.t p7n20))⟩, ⟨(some p7n22), none, (.faddr 1 (.t p7n21))⟩, ⟨(some p7n23), none, (.ld1 (.t p7n22))⟩, ⟨(some p7n24), none, (.mv (.t p7n4))⟩, ⟨(some p7n25), none, (.iaddr 3 (.t p7n23) (.t p7n24))⟩, ⟨(some p7n26), none, (.ldA 3 (.t p7n25))⟩, ⟨(some p7n27), none, (.call 164 [(.t p7n26)])⟩, ⟨(some p7n5), none, (.mv (.t p7n27))⟩]) (.block 2 (.seq (.reg [⟨(some p7n29), none, (.mv (.t p7n5))⟩, ⟨(some p7n30), none, (.bin .eql (.t p7n29) (.c (.str [46, 105, 102])))⟩, ⟨(some p7n28), none, (.mv (.t p7n30))⟩]) (.cond (.t p7n28) (.reg [⟨(some p7n31), none, (.mv (.t p7n3))⟩, ⟨(some p7n32), none, (.bin .add (.t p7n31) (.c (.int .i64 (.ofNat 1))))⟩, ⟨(some p7n3), none, (.mv (.t p7n32))⟩]) (.seq (.reg [⟨(some p7n34), none, (.mv (.t p7n3))⟩, ⟨(some p7n35), none, (.bin .eql (.t p7n34) (.c (.int .i64 (.ofNat 0))))⟩, ⟨(some p7n36), none, (.mv (.t p7n35))⟩, ⟨(some p7n37), (some (p7n36, true)), (.mv (.t p7n5))⟩, ⟨(some p7n38), (some (p7n36, true)), (.bin .eql (.t p7n37) (.c (.str [46, 101, 108, 115, 101])))⟩, ⟨(some p7n39), (some (p7n36, true)), (.mv (.t p7n38))⟩, ⟨(some p7n40), (some (p7n39, false)), (.mv (.t p7n5))⟩, ⟨(some p7n41), (some (p7n39, false)), (.bin .eql (.t p7n40) (.c (.str [46, 101, 110, 100, 105, 102])))⟩, ⟨(some p7n42), (some (p7n36, true)), (.pick (.t p7n39) (.c (.bool true)) (.t p7n41))⟩, ⟨(some p7n43), none, (.pick (.t p7n36) (.t p7n42) (.c (.bool false)))⟩, ⟨(some p7n33), none, (.mv (.t p7n43))⟩]) (.cond (.t p7n33) (.seq (.regx 32767 [(0, (0, (true, ⟨(some p7n44), none, (.mv (.t p7n0))⟩))), (1, (0, (true, ⟨(some p7n45), none, (.mv (.t p7n0))⟩))), (2, (2, (true, ⟨(some p7n46), none, (.nilck (.t p7n45))⟩))), (3, (4, (true, ⟨(some p7n47), none, (.faddr 0 (.t p7n46))⟩))), (4, (8, (false, ⟨(some p7n48), none, (.ld1 (.t p7n47))⟩))), (5, (0, (true, ⟨(some p7n49), none, (.mv (.t p7n4))⟩))), (6, (0, (true, ⟨(some p7n50), none, (.mv (.t p7n0))⟩))), (7, (0, (true, ⟨(some p7n51), none, (.mv (.t p7n4))⟩))), (8, (192, (false, ⟨(some p7n52), none, (.call 162 [(.t p7n50), (.t p7n51)])⟩))), (9, (305, (true, ⟨(some p7n53), none, (.nilck (.t p7n44))⟩))), (10, (817, (true, ⟨(some p7n54), none, (.faddr 5 (.t p7n53))⟩))), (11, (1329, (false, ⟨none, none, (.st 1 (.t p7n54) (.t p7n49))⟩))), (12, (4095, (true, ⟨(some p7n55), none, (.nilck (.t p7n48))⟩))), (13, (8191, (true, ⟨(some p7n56), none, (.faddr 4 (.t p7n55))⟩))), (14, (12287, (false, ⟨none, none, (.st 1 (.t p7n56) (.t p7n52))⟩)))]) (.seq (.reg [⟨(some p7n57), none, (.mv (.t p7n0))⟩, ⟨(some p7n58), none, (.mv (.t p7n0))⟩, ⟨(some p7n59), none, (.nilck (.t p7n58))⟩, ⟨(some p7n60), none, (.faddr 1 (.t p7n59))⟩, ⟨(some p7n61), none, (.ld1 (.t p7n60))⟩, ⟨(some p7n62), none, (.mv (.t p7n4))⟩, ⟨(some p7n63), none, (.iaddr 3 (.t p7n61) (.t p7n62))⟩, ⟨(some p7n64), none, (.ldA 3 (.t p7n63))⟩, ⟨(some p7n65), none, (.call 168 [(.t p7n57), (.t p7n64)])⟩, ⟨(some p7n2), none, (.mv (.t p7n65))⟩]) .ret)) (.seq (.reg [⟨(some p7n67), none, (.mv (.t p7n5))⟩, ⟨(some p7n68), none, (.bin .eql (.t p7n67) (.c (.str [46, 101, 110, 100, 105, 102])))⟩, ⟨(some p7n66), none, (.mv (.t p7n68))⟩]) (.cond (.t p7n66) (.reg [⟨(some p7n69), none, (.mv (.t p7n3))⟩, ⟨(some p7n70), none, (.bin .sub (.t p7n69) (.c (.int .i64 (.ofNat 1))))⟩, ⟨(some p7n3), none, (.mv (.t p7n70))⟩]) .skip))))))))) (.reg [⟨(some p7n18), none, (.mv (.t p7n4))⟩, ⟨(some p7n19), none, (.bin .add (.t p7n18) (.c (.int .i64 (.ofNat 1))))⟩, ⟨(some p7n4), none, (.mv (.t p7n19))⟩])))))) (.seq (.regx 1048575 [(0, (0, (true, ⟨(some p7n71), none, (.mv (.t p7n0))⟩))), (1, (1, (true, ⟨(some p7n72), none, (.nilck (.t p7n71))⟩))), (2, (2, (true, ⟨(some p7n73), none, (.faddr 0 (.t p7n72))⟩))), (3, (4, (false, ⟨(some p7n74), none, (.ld1 (.t p7n73))⟩))), (4, (0, (true, ⟨(some p7n75), none, (.mv (.t p7n0))⟩))), (5, (16, (true, ⟨(some p7n76), none, (.nilck (.t p7n75))⟩))), (6, (32, (true, ⟨(some p7n77), none, (.faddr 6 (.t p7n76))⟩))), (7, (64, (false, ⟨(some p7n78), none, (.ld1 (.t p7n77))⟩))), (8, (0, (true, ⟨(some p7n79), none, (.mv (.t p7n0))⟩))), (9, (256, (true, ⟨(some p7n80), none, (.nilck (.t p7n79))⟩))), (10, (512, (true, ⟨(some p7n81), none, (.faddr 6 (.t p7n80))⟩))), (11, (1024, (false, ⟨(some p7n82), none, (.ld1 (.t p7n81))⟩))), (12, (2048, (false, ⟨(some p7n83), none, (.len false (.t p7n82))⟩))), (13, (4096, (false, ⟨(some p7n84), none, (.bin .sub (.t p7n83) (.c (.int .i64 (.ofNat 1))))⟩))), (14, (8320, (false, ⟨(some p7n85), none, (.iaddr 3 (.t p7n78) (.t p7n84))⟩))), (15, (16384, (true, ⟨(some p7n86), none, (.faddr 0 (.t p7n85))⟩))), (16, (32768, (false, ⟨(some p7n87), none, (.ld1 (.t p7n86))⟩))), (17, (131071, (true, ⟨(some p7n88), none, (.nilck (.t p7n74))⟩))), (18, (262143, (true, ⟨(some p7n89), none, (.faddr 4 (.t p7n88))⟩))), (19, (393215, (false, ⟨none, none, (.st 1 (.t p7n89) (.t p7n87))⟩)))]) (.seq (.reg [⟨(some p7n2), none, (.mv (.c (.int .i64 (.ofNat 3))))⟩]) .ret)))))⟩
noncomputable def a178 : AFunc :=
  ⟨4, [p4n0, p4n1], [(p4n3, none)], false, (.seq (.reg [⟨(some p4n2), none, (.box (.t p4n0))⟩, ⟨(some p4n3), none, (.mv (.c (.bool false)))⟩]) (.seq (.reg [⟨(some p4n4), none, (.faddr 0 (.t p4n2))⟩, ⟨(some p4n5), none, (.ld1 (.t p4n4))⟩, ⟨(some p4n6), none, (.ld1 (.t p4n1))⟩, ⟨(some p4n7), none, (.bin .eql (.t p4n5) (.t p4n6))⟩, ⟨(some p4n3), none, (.mv (.t p4n7))⟩]) .ret))⟩
noncomputable def a179 : AFunc :=
  ⟨6, [p6n0], [(p6n2, none)], false, (.seq (.reg [⟨(some p6n2), none, (.mv (.c .nils))⟩]) (.seq (.seq (.reg [⟨(some p6n4), none, (.mv (.t p6n0))⟩, ⟨(some p6n5), none, (.len false (.t p6n4))⟩, ⟨(some p6n6), none, (.bin .eql (.t p6n5) (.c (.int .i64 (.ofNat 0))))⟩]) (.cond (.t p6n6) (.seq (.reg [⟨(some p6n2), none, (.mv (.c .nils))⟩]) .ret) .skip)) (.block 0 (.loop (.block 1 (.seq (.reg [⟨(some p6n7), none, (.mv (.t p6n0))⟩, ⟨(some p6n8), none, (.call 84 [(.t p6n7), (.c (.fn 182 [] []))])⟩, ⟨(some p6n3), none, (.mv (.t p6n8))⟩]) (.seq (.seq (.reg [⟨(some p6n9), none, (.mv (.t p6n3))⟩, ⟨(some p6n10), none, (.bin .lss (.t p6n9) (.c (.int .i64 (.ofNat 0))))⟩]) (.cond (.t p6n10) (.seq (.reg [⟨(some p6n11), none, (.mv (.t p6n2))⟩, ⟨(some p6n12), none, (.mv (.t p6n0))⟩, ⟨(some p6n13), none, (.call 180 [(.t p6n12)])⟩, ⟨(some p6n14), none, (.buildS 1 1 .nils [(0, (.t p6n13))])⟩, ⟨(some p6n15), none, (.app 1 24 .nils (.t p6n11) (.t p6n14))⟩, ⟨(some p6n2), none, (.mv (.t p6n15))⟩]) .ret) .skip)) (.seq (.reg [⟨(some p6n16), none, (.mv (.t p6n2))⟩, ⟨(some p6n17), none, (.mv (.t p6n0))⟩, ⟨(some p6n18), none, (.mv (.t p6n3))⟩, ⟨(some p6n19), none, (.slL 4 (.t p6n17) none (some (.t p6n18)) none)⟩, ⟨(some p6n20), none, (.call 180 [(.t p6n19)])⟩, ⟨(some p6n21), none, (.buildS 1 1 .nils [(0, (.t p6n20))])⟩, ⟨(some p6n22), none, (.app 1 24 .nils (.t p6n16) (.t p6n21))⟩, ⟨(some p6n2), none, (.mv (.t p6n22))⟩]) (.reg [⟨(some p6n23), none, (.mv (.t p6n0))⟩, ⟨(some p6n24), none, (.mv (.t p6n3))⟩, ⟨(some p6n25), none, (.bin .add (.t p6n24) (.c (.int .i64 (.ofNat 1))))⟩, ⟨(some p6n26), none, (.slL 4 (.t p6n23) (some (.t p6n25)) none none)⟩, ⟨(some p6n0), none, (.mv (.t p6n26))⟩])))))))))⟩
noncomputable def a180 : AFunc :=
  ⟨4, [p4n0], [(p4n2, none)], false, (.seq (.reg [⟨(some p4n2), none, (.mv (.c .nils))⟩]) (.seq (.seq (.reg [⟨(some p4n3), none, (.mv (.t p4n0))⟩, ⟨(some p4n4), none, (.eqk .slice false (.t p4n3) (.c .nils))⟩]) (.cond (.t p4n4) (.seq (.reg [⟨(some p4n2), none, (.mv (.c .nils))⟩]) .ret) .skip)) (.seq (.reg [⟨(some p4n5), none, (.buildS 4 0 (.agg [(.int .i64 (.ofNat 0)), (.str []), (.int .i64 (.ofNat 0)), (.int .i64 (.ofNat 0))]) [])⟩, ⟨(some p4n6), none, (.mv (.t p4n0))⟩, ⟨(some p4n7), none, (.app 4 40 (.agg [(.int .i64 (.ofNat 0)), (.str []), (.int .i64 (.ofNat 0)), (.int .i64 (.ofNat 0))]) (.t p4n5) (.t p4n6))⟩, ⟨(some p4n2), none, (.mv (.t p4n7))⟩]) .ret)))⟩
noncomputable def a181 : AFunc :=
  ⟨6, [p6n0, p6n1], [(p6n4, none)], false, (.seq (.reg [⟨(some p6n4), none, (.mv (.c (.int .i64 (.ofNat 0))))⟩]) (.seq (.seq (.reg [⟨(some p6n6), none, (.mv (.t p6n0))⟩, ⟨(some p6n7), none, (.len false (.t p6n6))⟩, ⟨(some p6n8), none, (.mv (.c (.int .i64 (.ofNat 0))))⟩]) (.block 0 (.loop (.seq (.reg [⟨(some p6n9), none, (.bin .lss (.t p6n8) (.t p6n7))⟩]) (.seq (.cond (.t p6n9) .skip (.exit 0)) (.seq (.block 1 (.seq (.reg [⟨(some p6n10), none, (.mv (.t p6n8))⟩, ⟨(some p6n5), none, (.mv (.t p6n10))⟩]) (.seq (.reg [⟨(some p6n11), none, (.mv (.t p6n1))⟩, ⟨(some p6n12), none, (.mv (.t p6n0))⟩, ⟨(some p6n13), none, (.mv (.t p6n5))⟩, ⟨(some p6n14), none, (.iaddr 1 (.t p6n12) (.t p6n13))⟩, ⟨(some p6n15), none, (.ld1 (.t p6n14))⟩, ⟨(some p6n16), none, (.bin .eql (.t p6n11) (.t p6n15))⟩]) (.cond (.t p6n16) (.seq (.reg [⟨(some p6n17), none, (.mv (.t p6n5))⟩, ⟨(some p6n4), none, (.mv (.t p6n17))⟩]) .ret) .skip)))) (.reg [⟨(some p6n18), none, (.bin .add (.t p6n8) (.c (.int .i64 (.ofNat 1))))⟩, ⟨(some p6n8), none, (.mv (.t p6n18))⟩]))))))) (.seq (.reg [⟨(some p6n4), none, (.mv (.c (.int .i64 (.negSucc 0))))⟩]) .ret)))⟩
noncomputable def a182 : AFunc :=
  ⟨4, [p4n0], [(p4n2, none)], false, (.seq (.reg [⟨(some p4n1), none, (.box (.t p4n0))⟩, ⟨(some p4n2), none, (.mv (.c (.bool false)))⟩]) (.seq (.reg [⟨(some p4n3), none, (.ldA 4 (.t p4n1))⟩, ⟨(some p4n4), none, (.call 161 [(.t p4n3), (.c (.str [44]))])⟩, ⟨(some p4n2), none, (.mv (.t p4n4))⟩]) .ret))⟩

end M2
end
section
namespace M2
open Go

noncomputable def tab : Tr := (.node 99 a99 (.node 67 a67 (.node 51 a51 (.node 36 a36 (.node 31 a31 (.node 29 a29 (.node 27 a27 (.node 2 a2 .leaf .leaf) .leaf) (.node 30 a30 .leaf .leaf)) (.node 34 a34 (.node 33 a33 .leaf .leaf) (.node 35 a35 .leaf .leaf))) (.node 47 a47 (.node 39 a39 (.node 38 a38 .leaf .leaf) (.node 46 a46 .leaf .leaf)) (.node 49 a49 (.node 48 a48 .leaf .leaf) (.node 50 a50 .leaf .leaf)))) (.node 59 a59 (.node 55 a55 (.node 53 a53 (.node 52 a52 .leaf .leaf) (.node 54 a54 .leaf .leaf)) (.node 57 a57 (.node 56 a56 .leaf .leaf) (.node 58 a58 .leaf .leaf))) (.node 63 a63 (.node 61 a61 (.node 60 a60 .leaf .leaf) (.node 62 a62 .leaf .leaf)) (.node 65 a65 (.node 64 a64 .leaf .leaf) (.node 66 a66 .leaf .leaf))))) (.node 83 a83 (.node 75 a75 (.node 71 a71 (.node 69 a69 (.node 68 a68 .leaf .leaf) (.node 70 a70 .leaf .leaf)) (.node 73 a73 (.node 72 a72 .leaf .leaf) (.node 74 a74 .leaf .leaf))) (.node 79 a79 (.node 77 a77 (.node 76 a76 .leaf .leaf) (.node 78 a78 .leaf .leaf)) (.node 81 a81 (.node 80 a80 .leaf .leaf) (.node 82 a82 .leaf .leaf)))) (.node 91 a91 (.node 87 a87 (.node 85 a85 (.node 84 a84 .leaf .leaf) (.node 86 a86 .leaf .leaf)) (.node 89 a89 (.node 88 a88 .leaf .leaf) (.node 90 a90 .leaf .leaf))) (.node 95 a95 (.node 93 a93 (.node 92 a92 .leaf .leaf) (.node 94 a94 .leaf .leaf)) (.node 97 a97 (.node 96 a96 .leaf .leaf) (.node 98 a98 .leaf .leaf)))))) (.node 151 a151 (.node 135 a135 (.node 127 a127 (.node 123 a123 (.node 121 a121 (.node 100 a100 .leaf .leaf) (.node 122 a122 .leaf .leaf)) (.node 125 a125 (.node 124 a124 .leaf .leaf) (.node 126 a126 .leaf .leaf))) (.node 131 a131 (.node 129 a129 (.node 128 a128 .leaf .leaf) (.node 130 a130 .leaf .leaf)) (.node 133 a133 (.node 132 a132 .leaf .leaf) (.node 134 a134 .leaf .leaf)))) (.node 143 a143 (.node 139 a139 (.node 137 a137 (.node 136 a136 .leaf .leaf) (.node 138 a138 .leaf .leaf)) (.node 141 a141 (.node 140 a140 .leaf .leaf) (.node 142 a142 .leaf .leaf))) (.node 147 a147 (.node 145 a145 (.node 144 a144 .leaf .leaf) (.node 146 a146 .leaf .leaf)) (.node 149 a149 (.node 148 a148 .leaf .leaf) (.node 150 a150 .leaf .leaf))))) (.node 167 a167 (.node 159 a159 (.node 155 a155 (.node 153 a153 (.node 152 a152 .leaf .leaf) (.node 154 a154 .leaf .leaf)) (.node 157 a157 (.node 156 a156 .leaf .leaf) (.node 158 a158 .leaf .leaf))) (.node 163 a163 (.node 161 a161 (.node 160 a160 .leaf .leaf) (.node 162 a162 .leaf .leaf)) (.node 165 a165 (.node 164 a164 .leaf .leaf) (.node 166 a166 .leaf .leaf)))) (.node 175 a175 (.node 171 a171 (.node 169 a169 (.node 168 a168 .leaf .leaf) (.node 170 a170 .leaf .leaf)) (.node 173 a173 (.node 172 a172 .leaf .leaf) (.node 174 a174 .leaf .leaf))) (.node 179 a179 (.node 177 a177 (.node 176 a176 .leaf .leaf) (.node 178 a178 .leaf .leaf)) (.node 181 a181 (.node 180 a180 .leaf .leaf) (.node 182 a182 .leaf .leaf)))))))

end M2
end
section
namespace Go.Proofs.YtpbhojddfmajoaaGreat
open Go M2

def ims : List Nat := [0, 1, 2, 121, 122, 123, 124, 125, 126, 127, 128, 129, 130, 131, 132, 133, 134, 39, 135, 136, 137, 138, 47, 139, 49, 140, 141, 142, 53, 33, 143, 144, 145, 146, 59, 58, 147, 48, 148, 27, 149, 82, 51, 64, 150, 151, 56, 152, 153, 154, 155, 156, 157, 36, 158, 159, 160, 38, 60, 94, 65, 66, 84, 161, 162, 163, 164, 165, 166, 167, 168, 169, 170, 171, 46, 172, 173, 35, 55, 174, 175, 77, 78, 79, 80, 85, 86, 87, 88, 176, 31, 177, 62, 178, 179, 180, 34, 95, 96, 181, 30, 83, 182, 57, 99, 29, 73, 74, 75, 76, 101, 50, 52, 93, 54, 61, 63, 67, 68, 69, 70, 71, 72, 81, 89, 90, 91, 92, 97, 98, 100, 102, 103, 104, 105, 106, 107, 108, 109, 110, 111, 112, 113, 114, 115, 116, 117, 1000000, 1000002, 1000004, 1000007, 1000009, 1000010, 1000012, 1000014, 1000016, 1000018, 1000020, 1000022, 1000024, 1000026, 1000028, 1000030, 1000032, 1000034, 1000036, 1000038, 1000040, 1000042, 1000044, 1000046, 1000048, 1000050, 1000052, 1000054, 1000056, 1000058, 1000060, 1000062, 1000064, 1000066, 1000068, 1000070, 1000072, 1000074, 1000076, 1000078, 1000080, 1000082, 1000084, 1000086, 1000088, 1000090, 1000092, 1000094, 1000096, 1000098, 1000100, 1000102, 1000104, 1000106, 1000108, 1000110, 1000112, 1000114, 1000116, 1000118, 1000120, 1000122, 1000124, 1000126, 1000128, 1000130, 1000132, 1000134, 1000136, 1000138, 1000140, 1000142, 1000144, 1000146, 1000148, 1000150, 1000152, 1000154, 1000156, 1000158, 1000160, 1000162, 1000164, 1000166, 1000168, 1000170, 1000172, 1000174, 1000176, 1000178, 1000180, 1000183, 1000184, 1000186, 1000188, 1000190, 1000192, 1000194, 1000196, 1000198, 1000200, 1000202, 1000204, 1000206, 1000208, 1000210, 1000212, 1000214, 1000216, 1000218, 1000220, 1000222, 1000224, 1000226, 1000228, 1000230, 1000232, 1000234, 1000236, 1000238, 1000240, 1000242, 1000244, 1000246, 1000248, 1000250, 1000252, 1000254, 1000256, 1000258, 1000260, 1000262, 1000264, 1000266, 1000268, 1000270, 1000272, 1000274, 1000276, 1000278, 1000280, 1000282, 1000284, 1000286, 1000288, 1000290, 1000292, 1000294, 1000296, 1000298, 1000300, 1000302, 1000304, 1000306, 1000308, 1000310, 1000312, 1000314, 1000316, 1000318, 1000320, 1000322, 1000324, 1000326, 1000328, 1000330, 1000332, 1000334, 1000336, 1000338, 1000340, 1000342, 1000344, 1000346, 1000348]
def im (f : Nat) : Option Nat := ims[f]?

end Go.Proofs.YtpbhojddfmajoaaGreat
end
section
/- The functions of the program compile to those. -/
namespace Go.Proofs.YtpbhojddfmajoaaGreat
open Go M2

theorem c2 : cmpF Tryz.prog im 4 false Tryz.f2 = some a2 := by kernel_rfl
theorem c27 : cmpF Tryz.prog im 6 false Tryz.f39 = some a27 := by kernel_rfl
theorem c29 : cmpF Tryz.prog im 6 false Tryz.f105 = some a29 := by kernel_rfl
theorem c30 : cmpF Tryz.prog im 6 false Tryz.f100 = some a30 := by kernel_rfl
theorem c31 : cmpF Tryz.prog im 6 false Tryz.f90 = some a31 := by kernel_rfl
theorem c33 : cmpF Tryz.prog im 6 false Tryz.f29 = some a33 := by kernel_rfl
theorem c34 : cmpF Tryz.prog im 6 false Tryz.f96 = some a34 := by kernel_rfl
theorem c35 : cmpF Tryz.prog im 6 false Tryz.f77 = some a35 := by kernel_rfl
theorem c36 : cmpF Tryz.prog im 6 false Tryz.f53 = some a36 := by kernel_rfl
theorem c38 : cmpF Tryz.prog im 6 false Tryz.f57 = some a38 := by kernel_rfl
theorem c39 : cmpF Tryz.prog im 6 false Tryz.f17 = some a39 := by kernel_rfl
theorem c46 : cmpF Tryz.prog im 4 false Tryz.f74 = some a46 := by kernel_rfl
theorem c47 : cmpF Tryz.prog im 6 false Tryz.f22 = some a47 := by kernel_rfl
theorem c48 : cmpF Tryz.prog im 8 false Tryz.f37 = some a48 := by kernel_rfl
theorem c49 : cmpF Tryz.prog im 4 false Tryz.f24 = some a49 := by kernel_rfl
theorem c50 : cmpF Tryz.prog im 6 false Tryz.f111 = some a50 := by kernel_rfl
theorem c51 : cmpF Tryz.prog im 4 false Tryz.f42 = some a51 := by kernel_rfl
theorem c52 : cmpF Tryz.prog im 4 false Tryz.f112 = some a52 := by kernel_rfl
theorem c53 : cmpF Tryz.prog im 6 false Tryz.f28 = some a53 := by kernel_rfl
theorem c54 : cmpF Tryz.prog im 4 false Tryz.f114 = some a54 := by kernel_rfl
theorem c55 : cmpF Tryz.prog im 6 false Tryz.f78 = some a55 := by kernel_rfl
theorem c56 : cmpF Tryz.prog im 8 false Tryz.f46 = some a56 := by kernel_rfl
theorem c57 : cmpF Tryz.prog im 6 false Tryz.f103 = some a57 := by kernel_rfl
theorem c58 : cmpF Tryz.prog im 6 false Tryz.f35 = some a58 := by kernel_rfl
theorem c59 : cmpF Tryz.prog im 6 false Tryz.f34 = some a59 := by kernel_rfl
theorem c60 : cmpF Tryz.prog im 8 false Tryz.f58 = some a60 := by kernel_rfl
theorem c61 : cmpF Tryz.prog im 4 false Tryz.f115 = some a61 := by kernel_rfl
theorem c62 : cmpF Tryz.prog im 4 false Tryz.f92 = some a62 := by kernel_rfl
theorem c63 : cmpF Tryz.prog im 4 false Tryz.f116 = some a63 := by kernel_rfl
theorem c64 : cmpF Tryz.prog im 4 false Tryz.f43 = some a64 := by kernel_rfl
theorem c65 : cmpF Tryz.prog im 4 false Tryz.f60 = some a65 := by kernel_rfl
theorem c66 : cmpF Tryz.prog im 8 false Tryz.f61 = some a66 := by kernel_rfl
theorem c67 : cmpF Tryz.prog im 6 false Tryz.f117 = some a67 := by kernel_rfl
theorem c68 : cmpF Tryz.prog im 4 false Tryz.f118 = some a68 := by kernel_rfl
theorem c69 : cmpF Tryz.prog im 4 false Tryz.f119 = some a69 := by kernel_rfl
theorem c70 : cmpF Tryz.prog im 6 false Tryz.f120 = some a70 := by kernel_rfl
theorem c71 : cmpF Tryz.prog im 6 false Tryz.f121 = some a71 := by kernel_rfl
theorem c72 : cmpF Tryz.prog im 6 false Tryz.f122 = some a72 := by kernel_rfl
theorem c73 : cmpF Tryz.prog im 6 false Tryz.f106 = some a73 := by kernel_rfl
theorem c74 : cmpF Tryz.prog im 6 false Tryz.f107 = some a74 := by kernel_rfl
theorem c75 : cmpF Tryz.prog im 6 false Tryz.f108 = some a75 := by kernel_rfl
theorem c76 : cmpF Tryz.prog im 4 false Tryz.f109 = some a76 := by kernel_rfl
theorem c77 : cmpF Tryz.prog im 6 false Tryz.f81 = some a77 := by kernel_rfl
theorem c78 : cmpF Tryz.prog im 4 false Tryz.f82 = some a78 := by kernel_rfl
theorem c79 : cmpF Tryz.prog im 4 false Tryz.f83 = some a79 := by kernel_rfl
theorem c80 : cmpF Tryz.prog im 6 false Tryz.f84 = some a80 := by kernel_rfl
theorem c81 : cmpF Tryz.prog im 4 false Tryz.f123 = some a81 := by kernel_rfl
theorem c82 : cmpF Tryz.prog im 6 false Tryz.f41 = some a82 := by kernel_rfl
theorem c83 : cmpF Tryz.prog im 6 false Tryz.f101 = some a83 := by kernel_rfl
theorem c84 : cmpF Tryz.prog im 6 false Tryz.f62 = some a84 := by kernel_rfl
theorem c85 : cmpF Tryz.prog im 6 false Tryz.f85 = some a85 := by kernel_rfl
theorem c86 : cmpF Tryz.prog im 6 false Tryz.f86 = some a86 := by kernel_rfl
theorem c87 : cmpF Tryz.prog im 4 false Tryz.f87 = some a87 := by kernel_rfl
theorem c88 : cmpF Tryz.prog im 4 false Tryz.f88 = some a88 := by kernel_rfl
theorem c89 : cmpF Tryz.prog im 8 false Tryz.f124 = some a89 := by kernel_rfl
theorem c90 : cmpF Tryz.prog im 4 false Tryz.f125 = some a90 := by kernel_rfl
theorem c91 : cmpF Tryz.prog im 6 false Tryz.f126 = some a91 := by kernel_rfl
theorem c92 : cmpF Tryz.prog im 4 false Tryz.f127 = some a92 := by kernel_rfl
theorem c93 : cmpF Tryz.prog im 8 false Tryz.f113 = some a93 := by kernel_rfl
theorem c94 : cmpF Tryz.prog im 4 false Tryz.f59 = some a94 := by kernel_rfl
theorem c95 : cmpF Tryz.prog im 4 false Tryz.f97 = some a95 := by kernel_rfl
theorem c96 : cmpF Tryz.prog im 4 false Tryz.f98 = some a96 := by kernel_rfl
theorem c97 : cmpF Tryz.prog im 6 false Tryz.f128 = some a97 := by kernel_rfl
theorem c98 : cmpF Tryz.prog im 6 false Tryz.f129 = some a98 := by kernel_rfl
theorem c99 : cmpF Tryz.prog im 4 false Tryz.f104 = some a99 := by kernel_rfl
theorem c100 : cmpF Tryz.prog im 4 false Tryz.f130 = some a100 := by kernel_rfl
theorem c121 : cmpF Tryz.prog im 8 false Tryz.f3 = some a121 := by kernel_rfl
theorem c122 : cmpF Tryz.prog im 4 false Tryz.f4 = some a122 := by kernel_rfl
theorem c123 : cmpF Tryz.prog im 4 false Tryz.f5 = some a123 := by kernel_rfl
theorem c124 : cmpF Tryz.prog im 4 false Tryz.f6 = some a124 := by kernel_rfl
theorem c125 : cmpF Tryz.prog im 4 false Tryz.f7 = some a125 := by kernel_rfl
theorem c126 : cmpF Tryz.prog im 8 false Tryz.f8 = some a126 := by kernel_rfl
theorem c127 : cmpF Tryz.prog im 6 false Tryz.f9 = some a127 := by kernel_rfl
theorem c128 : cmpF Tryz.prog im 8 false Tryz.f10 = some a128 := by kernel_rfl

end Go.Proofs.YtpbhojddfmajoaaGreat
end
section
/- The functions of the program compile to those. -/
namespace Go.Proofs.YtpbhojddfmajoaaGreat
open Go M2

theorem c129 : cmpF Tryz.prog im 6 false Tryz.f11 = some a129 := by kernel_rfl
theorem c130 : cmpF Tryz.prog im 6 true Tryz.f12 = some a130 := by kernel_rfl
theorem c131 : cmpF Tryz.prog im 8 false Tryz.f13 = some a131 := by kernel_rfl
theorem c132 : cmpF Tryz.prog im 6 true Tryz.f14 = some a132 := by kernel_rfl
theorem c133 : cmpF Tryz.prog im 4 false Tryz.f15 = some a133 := by kernel_rfl
theorem c134 : cmpF Tryz.prog im 6 false Tryz.f16 = some a134 := by kernel_rfl
theorem c135 : cmpF Tryz.prog im 6 false Tryz.f18 = some a135 := by kernel_rfl
theorem c136 : cmpF Tryz.prog im 6 false Tryz.f19 = some a136 := by kernel_rfl
theorem c137 : cmpF Tryz.prog im 8 false Tryz.f20 = some a137 := by kernel_rfl
theorem c138 : cmpF Tryz.prog im 6 false Tryz.f21 = some a138 := by kernel_rfl
theorem c139 : cmpF Tryz.prog im 8 true Tryz.f23 = some a139 := by kernel_rfl
theorem c140 : cmpF Tryz.prog im 4 false Tryz.f25 = some a140 := by kernel_rfl
theorem c141 : cmpF Tryz.prog im 8 false Tryz.f26 = some a141 := by kernel_rfl
theorem c142 : cmpF Tryz.prog im 6 true Tryz.f27 = some a142 := by kernel_rfl
theorem c143 : cmpF Tryz.prog im 4 false Tryz.f30 = some a143 := by kernel_rfl
theorem c144 : cmpF Tryz.prog im 10 true Tryz.f31 = some a144 := by kernel_rfl
theorem c145 : cmpF Tryz.prog im 6 false Tryz.f32 = some a145 := by kernel_rfl
theorem c146 : cmpF Tryz.prog im 4 false Tryz.f33 = some a146 := by kernel_rfl
theorem c147 : cmpF Tryz.prog im 6 false Tryz.f36 = some a147 := by kernel_rfl
theorem c148 : cmpF Tryz.prog im 4 false Tryz.f38 = some a148 := by kernel_rfl
theorem c149 : cmpF Tryz.prog im 4 false Tryz.f40 = some a149 := by kernel_rfl
theorem c150 : cmpF Tryz.prog im 4 false Tryz.f44 = some a150 := by kernel_rfl
theorem c151 : cmpF Tryz.prog im 8 true Tryz.f45 = some a151 := by kernel_rfl
theorem c152 : cmpF Tryz.prog im 4 false Tryz.f47 = some a152 := by kernel_rfl
theorem c153 : cmpF Tryz.prog im 8 false Tryz.f48 = some a153 := by kernel_rfl
theorem c154 : cmpF Tryz.prog im 6 false Tryz.f49 = some a154 := by kernel_rfl
theorem c155 : cmpF Tryz.prog im 4 false Tryz.f50 = some a155 := by kernel_rfl
theorem c156 : cmpF Tryz.prog im 6 false Tryz.f51 = some a156 := by kernel_rfl
theorem c157 : cmpF Tryz.prog im 8 true Tryz.f52 = some a157 := by kernel_rfl
theorem c158 : cmpF Tryz.prog im 6 false Tryz.f54 = some a158 := by kernel_rfl
theorem c159 : cmpF Tryz.prog im 8 true Tryz.f55 = some a159 := by kernel_rfl
theorem c160 : cmpF Tryz.prog im 8 true Tryz.f56 = some a160 := by kernel_rfl
theorem c161 : cmpF Tryz.prog im 4 false Tryz.f63 = some a161 := by kernel_rfl
theorem c162 : cmpF Tryz.prog im 6 false Tryz.f64 = some a162 := by kernel_rfl
theorem c163 : cmpF Tryz.prog im 8 false Tryz.f65 = some a163 := by kernel_rfl
theorem c164 : cmpF Tryz.prog im 6 false Tryz.f66 = some a164 := by kernel_rfl
theorem c165 : cmpF Tryz.prog im 4 false Tryz.f67 = some a165 := by kernel_rfl
theorem c166 : cmpF Tryz.prog im 9 true Tryz.f68 = some a166 := by kernel_rfl
theorem c167 : cmpF Tryz.prog im 6 true Tryz.f69 = some a167 := by kernel_rfl
theorem c168 : cmpF Tryz.prog im 8 true Tryz.f70 = some a168 := by kernel_rfl
theorem c169 : cmpF Tryz.prog im 8 true Tryz.f71 = some a169 := by kernel_rfl
theorem c170 : cmpF Tryz.prog im 8 true Tryz.f72 = some a170 := by kernel_rfl
theorem c171 : cmpF Tryz.prog im 6 true Tryz.f73 = some a171 := by kernel_rfl
theorem c172 : cmpF Tryz.prog im 6 false Tryz.f75 = some a172 := by kernel_rfl
theorem c173 : cmpF Tryz.prog im 6 false Tryz.f76 = some a173 := by kernel_rfl
theorem c174 : cmpF Tryz.prog im 6 true Tryz.f79 = some a174 := by kernel_rfl
theorem c175 : cmpF Tryz.prog im 6 false Tryz.f80 = some a175 := by kernel_rfl
theorem c176 : cmpF Tryz.prog im 4 false Tryz.f89 = some a176 := by kernel_rfl

end Go.Proofs.YtpbhojddfmajoaaGreat
end
section
/- The functions of the program compile to those. -/
namespace Go.Proofs.YtpbhojddfmajoaaGreat
open Go M2

theorem c177 : cmpF Tryz.prog im 7 true Tryz.f91 = some a177 := by kernel_rfl
theorem c178 : cmpF Tryz.prog im 4 false Tryz.f93 = some a178 := by kernel_rfl
theorem c179 : cmpF Tryz.prog im 6 false Tryz.f94 = some a179 := by kernel_rfl
theorem c180 : cmpF Tryz.prog im 4 false Tryz.f95 = some a180 := by kernel_rfl
theorem c181 : cmpF Tryz.prog im 6 false Tryz.f99 = some a181 := by kernel_rfl
theorem c182 : cmpF Tryz.prog im 4 false Tryz.f102 = some a182 := by kernel_rfl

end Go.Proofs.YtpbhojddfmajoaaGreat
end
section
/- The table of the compiled functions stands for the program. -/
namespace Go.Proofs.YtpbhojddfmajoaaGreat
open Go M2

theorem g2 : Here Tryz.prog (maps ims) im 2 a2 := ⟨Tryz.f2, by rw [show (maps ims).fm 2 = 2 from by kernel_rfl]; exact Tryz.func2, c2⟩
theorem g27 : Here Tryz.prog (maps ims) im 27 a27 := ⟨Tryz.f39, by rw [show (maps ims).fm 27 = 39 from by kernel_rfl]; exact Tryz.func39, c27⟩
theorem g29 : Here Tryz.prog (maps ims) im 29 a29 := ⟨Tryz.f105, by rw [show (maps ims).fm 29 = 105 from by kernel_rfl]; exact Tryz.func105, c29⟩
theorem g30 : Here Tryz.prog (maps ims) im 30 a30 := ⟨Tryz.f100, by rw [show (maps ims).fm 30 = 100 from by kernel_rfl]; exact Tryz.func100, c30⟩
theorem g31 : Here Tryz.prog (maps ims) im 31 a31 := ⟨Tryz.f90, by rw [show (maps ims).fm 31 = 90 from by kernel_rfl]; exact Tryz.func90, c31⟩
theorem g33 : Here Tryz.prog (maps ims) im 33 a33 := ⟨Tryz.f29, by rw [show (maps ims).fm 33 = 29 from by kernel_rfl]; exact Tryz.func29, c33⟩
theorem g34 : Here Tryz.prog (maps ims) im 34 a34 := ⟨Tryz.f96, by rw [show (maps ims).fm 34 = 96 from by kernel_rfl]; exact Tryz.func96, c34⟩
theorem g35 : Here Tryz.prog (maps ims) im 35 a35 := ⟨Tryz.f77, by rw [show (maps ims).fm 35 = 77 from by kernel_rfl]; exact Tryz.func77, c35⟩
theorem g36 : Here Tryz.prog (maps ims) im 36 a36 := ⟨Tryz.f53, by rw [show (maps ims).fm 36 = 53 from by kernel_rfl]; exact Tryz.func53, c36⟩
theorem g38 : Here Tryz.prog (maps ims) im 38 a38 := ⟨Tryz.f57, by rw [show (maps ims).fm 38 = 57 from by kernel_rfl]; exact Tryz.func57, c38⟩
theorem g39 : Here Tryz.prog (maps ims) im 39 a39 := ⟨Tryz.f17, by rw [show (maps ims).fm 39 = 17 from by kernel_rfl]; exact Tryz.func17, c39⟩
theorem g46 : Here Tryz.prog (maps ims) im 46 a46 := ⟨Tryz.f74, by rw [show (maps ims).fm 46 = 74 from by kernel_rfl]; exact Tryz.func74, c46⟩
theorem g47 : Here Tryz.prog (maps ims) im 47 a47 := ⟨Tryz.f22, by rw [show (maps ims).fm 47 = 22 from by kernel_rfl]; exact Tryz.func22, c47⟩
theorem g48 : Here Tryz.prog (maps ims) im 48 a48 := ⟨Tryz.f37, by rw [show (maps ims).fm 48 = 37 from by kernel_rfl]; exact Tryz.func37, c48⟩
theorem g49 : Here Tryz.prog (maps ims) im 49 a49 := ⟨Tryz.f24, by rw [show (maps ims).fm 49 = 24 from by kernel_rfl]; exact Tryz.func24, c49⟩
theorem g50 : Here Tryz.prog (maps ims) im 50 a50 := ⟨Tryz.f111, by rw [show (maps ims).fm 50 = 111 from by kernel_rfl]; exact Tryz.func111, c50⟩
theorem g51 : Here Tryz.prog (maps ims) im 51 a51 := ⟨Tryz.f42, by rw [show (maps ims).fm 51 = 42 from by kernel_rfl]; exact Tryz.func42, c51⟩
theorem g52 : Here Tryz.prog (maps ims) im 52 a52 := ⟨Tryz.f112, by rw [show (maps ims).fm 52 = 112 from by kernel_rfl]; exact Tryz.func112, c52⟩
theorem g53 : Here Tryz.prog (maps ims) im 53 a53 := ⟨Tryz.f28, by rw [show (maps ims).fm 53 = 28 from by kernel_rfl]; exact Tryz.func28, c53⟩
theorem g54 : Here Tryz.prog (maps ims) im 54 a54 := ⟨Tryz.f114, by rw [show (maps ims).fm 54 = 114 from by kernel_rfl]; exact Tryz.func114, c54⟩
theorem g55 : Here Tryz.prog (maps ims) im 55 a55 := ⟨Tryz.f78, by rw [show (maps ims).fm 55 = 78 from by kernel_rfl]; exact Tryz.func78, c55⟩
theorem g56 : Here Tryz.prog (maps ims) im 56 a56 := ⟨Tryz.f46, by rw [show (maps ims).fm 56 = 46 from by kernel_rfl]; exact Tryz.func46, c56⟩
theorem g57 : Here Tryz.prog (maps ims) im 57 a57 := ⟨Tryz.f103, by rw [show (maps ims).fm 57 = 103 from by kernel_rfl]; exact Tryz.func103, c57⟩
theorem g58 : Here Tryz.prog (maps ims) im 58 a58 := ⟨Tryz.f35, by rw [show (maps ims).fm 58 = 35 from by kernel_rfl]; exact Tryz.func35, c58⟩
theorem g59 : Here Tryz.prog (maps ims) im 59 a59 := ⟨Tryz.f34, by rw [show (maps ims).fm 59 = 34 from by kernel_rfl]; exact Tryz.func34, c59⟩
theorem g60 : Here Tryz.prog (maps ims) im 60 a60 := ⟨Tryz.f58, by rw [show (maps ims).fm 60 = 58 from by kernel_rfl]; exact Tryz.func58, c60⟩
theorem g61 : Here Tryz.prog (maps ims) im 61 a61 := ⟨Tryz.f115, by rw [show (maps ims).fm 61 = 115 from by kernel_rfl]; exact Tryz.func115, c61⟩
theorem g62 : Here Tryz.prog (maps ims) im 62 a62 := ⟨Tryz.f92, by rw [show (maps ims).fm 62 = 92 from by kernel_rfl]; exact Tryz.func92, c62⟩
theorem g63 : Here Tryz.prog (maps ims) im 63 a63 := ⟨Tryz.f116, by rw [show (maps ims).fm 63 = 116 from by kernel_rfl]; exact Tryz.func116, c63⟩
theorem g64 : Here Tryz.prog (maps ims) im 64 a64 := ⟨Tryz.f43, by rw [show (maps ims).fm 64 = 43 from by kernel_rfl]; exact Tryz.func43, c64⟩
theorem g65 : Here Tryz.prog (maps ims) im 65 a65 := ⟨Tryz.f60, by rw [show (maps ims).fm 65 = 60 from by kernel_rfl]; exact Tryz.func60, c65⟩
theorem g66 : Here Tryz.prog (maps ims) im 66 a66 := ⟨Tryz.f61, by rw [show (maps ims).fm 66 = 61 from by kernel_rfl]; exact Tryz.func61, c66⟩
theorem g67 : Here Tryz.prog (maps ims) im 67 a67 := ⟨Tryz.f117, by rw [show (maps ims).fm 67 = 117 from by kernel_rfl]; exact Tryz.func117, c67⟩
theorem g68 : Here Tryz.prog (maps ims) im 68 a68 := ⟨Tryz.f118, by rw [show (maps ims).fm 68 = 118 from by kernel_rfl]; exact Tryz.func118, c68⟩
theorem g69 : Here Tryz.prog (maps ims) im 69 a69 := ⟨Tryz.f119, by rw [show (maps ims).fm 69 = 119 from by kernel_rfl]; exact Tryz.func119, c69⟩
theorem g70 : Here Tryz.prog (maps ims) im 70 a70 := ⟨Tryz.f120, by rw [show (maps ims).fm 70 = 120 from by kernel_rfl]; exact Tryz.func120, c70⟩
theorem g71 : Here Tryz.prog (maps ims) im 71 a71 := ⟨Tryz.f121, by rw [show (maps ims).fm 71 = 121 from by kernel_rfl]; exact Tryz.func121, c71⟩
theorem g72 : Here Tryz.prog (maps ims) im 72 a72 := ⟨Tryz.f122, by rw [show (maps ims).fm 72 = 122 from by kernel_rfl]; exact Tryz.func122, c72⟩
theorem g73 : Here Tryz.prog (maps ims) im 73 a73 := ⟨Tryz.f106, by rw [show (maps ims).fm 73 = 106 from by kernel_rfl]; exact Tryz.func106, c73⟩
theorem g74 : Here Tryz.prog (maps ims) im 74 a74 := ⟨Tryz.f107, by rw [show (maps ims).fm 74 = 107 from by kernel_rfl]; exact Tryz.func107, c74⟩
theorem g75 : Here Tryz.prog (maps ims) im 75 a75 := ⟨Tryz.f108, by rw [show (maps ims).fm 75 = 108 from by kernel_rfl]; exact Tryz.func108, c75⟩
theorem g76 : Here Tryz.prog (maps ims) im 76 a76 := ⟨Tryz.f109, by rw [show (maps ims).fm 76 = 109 from by kernel_rfl]; exact Tryz.func109, c76⟩
theorem g77 : Here Tryz.prog (maps ims) im 77 a77 := ⟨Tryz.f81, by rw [show (maps ims).fm 77 = 81 from by kernel_rfl]; exact Tryz.func81, c77⟩
theorem g78 : Here Tryz.prog (maps ims) im 78 a78 := ⟨Tryz.f82, by rw [show (maps ims).fm 78 = 82 from by kernel_rfl]; exact Tryz.func82, c78⟩
theorem g79 : Here Tryz.prog (maps ims) im 79 a79 := ⟨Tryz.f83, by rw [show (maps ims).fm 79 = 83 from by kernel_rfl]; exact Tryz.func83, c79⟩
theorem g80 : Here Tryz.prog (maps ims) im 80 a80 := ⟨Tryz.f84, by rw [show (maps ims).fm 80 = 84 from by kernel_rfl]; exact Tryz.func84, c80⟩
theorem g81 : Here Tryz.prog (maps ims) im 81 a81 := ⟨Tryz.f123, by rw [show (maps ims).fm 81 = 123 from by kernel_rfl]; exact Tryz.func123, c81⟩
theorem g82 : Here Tryz.prog (maps ims) im 82 a82 := ⟨Tryz.f41, by rw [show (maps ims).fm 82 = 41 from by kernel_rfl]; exact Tryz.func41, c82⟩
theorem g83 : Here Tryz.prog (maps ims) im 83 a83 := ⟨Tryz.f101, by rw [show (maps ims).fm 83 = 101 from by kernel_rfl]; exact Tryz.func101, c83⟩
theorem g84 : Here Tryz.prog (maps ims) im 84 a84 := ⟨Tryz.f62, by rw [show (maps ims).fm 84 = 62 from by kernel_rfl]; exact Tryz.func62, c84⟩
theorem g85 : Here Tryz.prog (maps ims) im 85 a85 := ⟨Tryz.f85, by rw [show (maps ims).fm 85 = 85 from by kernel_rfl]; exact Tryz.func85, c85⟩
theorem g86 : Here Tryz.prog (maps ims) im 86 a86 := ⟨Tryz.f86, by rw [show (maps ims).fm 86 = 86 from by kernel_rfl]; exact Tryz.func86, c86⟩
theorem g87 : Here Tryz.prog (maps ims) im 87 a87 := ⟨Tryz.f87, by rw [show (maps ims).fm 87 = 87 from by kernel_rfl]; exact Tryz.func87, c87⟩
theorem g88 : Here Tryz.prog (maps ims) im 88 a88 := ⟨Tryz.f88, by rw [show (maps ims).fm 88 = 88 from by kernel_rfl]; exact Tryz.func88, c88⟩
theorem g89 : Here Tryz.prog (maps ims) im 89 a89 := ⟨Tryz.f124, by rw [show (maps ims).fm 89 = 124 from by kernel_rfl]; exact Tryz.func124, c89⟩
theorem g90 : Here Tryz.prog (maps ims) im 90 a90 := ⟨Tryz.f125, by rw [show (maps ims).fm 90 = 125 from by kernel_rfl]; exact Tryz.func125, c90⟩
theorem g91 : Here Tryz.prog (maps ims) im 91 a91 := ⟨Tryz.f126, by rw [show (maps ims).fm 91 = 126 from by kernel_rfl]; exact Tryz.func126, c91⟩
theorem g92 : Here Tryz.prog (maps ims) im 92 a92 := ⟨Tryz.f127, by rw [show (maps ims).fm 92 = 127 from by kernel_rfl]; exact Tryz.func127, c92⟩
theorem g93 : Here Tryz.prog (maps ims) im 93 a93 := ⟨Tryz.f113, by rw [show (maps ims).fm 93 = 113 from by kernel_rfl]; exact Tryz.func113, c93⟩
theorem g94 : Here Tryz.prog (maps ims) im 94 a94 := ⟨Tryz.f59, by rw [show (maps ims).fm 94 = 59 from by kernel_rfl]; exact Tryz.func59, c94⟩
theorem g95 : Here Tryz.prog (maps ims) im 95 a95 := ⟨Tryz.f97, by rw [show (maps ims).fm 95 = 97 from by kernel_rfl]; exact Tryz.func97, c95⟩
theorem g96 : Here Tryz.prog (maps ims) im 96 a96 := ⟨Tryz.f98, by rw [show (maps ims).fm 96 = 98 from by kernel_rfl]; exact Tryz.func98, c96⟩
theorem g97 : Here Tryz.prog (maps ims) im 97 a97 := ⟨Tryz.f128, by rw [show (maps ims).fm 97 = 128 from by kernel_rfl]; exact Tryz.func128, c97⟩
theorem g98 : Here Tryz.prog (maps ims) im 98 a98 := ⟨Tryz.f129, by rw [show (maps ims).fm 98 = 129 from by kernel_rfl]; exact Tryz.func129, c98⟩
theorem g99 : Here Tryz.prog (maps ims) im 99 a99 := ⟨Tryz.f104, by rw [show (maps ims).fm 99 = 104 from by kernel_rfl]; exact Tryz.func104, c99⟩
theorem g100 : Here Tryz.prog (maps ims) im 100 a100 := ⟨Tryz.f130, by rw [show (maps ims).fm 100 = 130 from by kernel_rfl]; exact Tryz.func130, c100⟩
theorem g121 : Here Tryz.prog (maps ims) im 121 a121 := ⟨Tryz.f3, by rw [show (maps ims).fm 121 = 3 from by kernel_rfl]; exact Tryz.func3, c121⟩
theorem g122 : Here Tryz.prog (maps ims) im 122 a122 := ⟨Tryz.f4, by rw [show (maps ims).fm 122 = 4 from by kernel_rfl]; exact Tryz.func4, c122⟩
theorem g123 : Here Tryz.prog (maps ims) im 123 a123 := ⟨Tryz.f5, by rw [show (maps ims).fm 123 = 5 from by kernel_rfl]; exact Tryz.func5, c123⟩
theorem g124 : Here Tryz.prog (maps ims) im 124 a124 := ⟨Tryz.f6, by rw [show (maps ims).fm 124 = 6 from by kernel_rfl]; exact Tryz.func6, c124⟩
theorem g125 : Here Tryz.prog (maps ims) im 125 a125 := ⟨Tryz.f7, by rw [show (maps ims).fm 125 = 7 from by kernel_rfl]; exact Tryz.func7, c125⟩
theorem g126 : Here Tryz.prog (maps ims) im 126 a126 := ⟨Tryz.f8, by rw [show (maps ims).fm 126 = 8 from by kernel_rfl]; exact Tryz.func8, c126⟩
theorem g127 : Here Tryz.prog (maps ims) im 127 a127 := ⟨Tryz.f9, by rw [show (maps ims).fm 127 = 9 from by kernel_rfl]; exact Tryz.func9, c127⟩
theorem g128 : Here Tryz.prog (maps ims) im 128 a128 := ⟨Tryz.f10, by rw [show (maps ims).fm 128 = 10 from by kernel_rfl]; exact Tryz.func10, c128⟩
theorem g129 : Here Tryz.prog (maps ims) im 129 a129 := ⟨Tryz.f11, by rw [show (maps ims).fm 129 = 11 from by kernel_rfl]; exact Tryz.func11, c129⟩
theorem g130 : Here Tryz.prog (maps ims) im 130 a130 := ⟨Tryz.f12, by rw [show (maps ims).fm 130 = 12 from by kernel_rfl]; exact Tryz.func12, c130⟩
theorem g131 : Here Tryz.prog (maps ims) im 131 a131 := ⟨Tryz.f13, by rw [show (maps ims).fm 131 = 13 from by kernel_rfl]; exact Tryz.func13, c131⟩
theorem g132 : Here Tryz.prog (maps ims) im 132 a132 := ⟨Tryz.f14, by rw [show (maps ims).fm 132 = 14 from by kernel_rfl]; exact Tryz.func14, c132⟩
theorem g133 : Here Tryz.prog (maps ims) im 133 a133 := ⟨Tryz.f15, by rw [show (maps ims).fm 133 = 15 from by kernel_rfl]; exact Tryz.func15, c133⟩
theorem g134 : Here Tryz.prog (maps ims) im 134 a134 := ⟨Tryz.f16, by rw [show (maps ims).fm 134 = 16 from by kernel_rfl]; exact Tryz.func16, c134⟩
theorem g135 : Here Tryz.prog (maps ims) im 135 a135 := ⟨Tryz.f18, by rw [show (maps ims).fm 135 = 18 from by kernel_rfl]; exact Tryz.func18, c135⟩
theorem g136 : Here Tryz.prog (maps ims) im 136 a136 := ⟨Tryz.f19, by rw [show (maps ims).fm 136 = 19 from by kernel_rfl]; exact Tryz.func19, c136⟩
theorem g137 : Here Tryz.prog (maps ims) im 137 a137 := ⟨Tryz.f20, by rw [show (maps ims).fm 137 = 20 from by kernel_rfl]; exact Tryz.func20, c137⟩
theorem g138 : Here Tryz.prog (maps ims) im 138 a138 := ⟨Tryz.f21, by rw [show (maps ims).fm 138 = 21 from by kernel_rfl]; exact Tryz.func21, c138⟩
theorem g139 : Here Tryz.prog (maps ims) im 139 a139 := ⟨Tryz.f23, by rw [show (maps ims).fm 139 = 23 from by kernel_rfl]; exact Tryz.func23, c139⟩
theorem g140 : Here Tryz.prog (maps ims) im 140 a140 := ⟨Tryz.f25, by rw [show (maps ims).fm 140 = 25 from by kernel_rfl]; exact Tryz.func25, c140⟩
theorem g141 : Here Tryz.prog (maps ims) im 141 a141 := ⟨Tryz.f26, by rw [show (maps ims).fm 141 = 26 from by kernel_rfl]; exact Tryz.func26, c141⟩
theorem g142 : Here Tryz.prog (maps ims) im 142 a142 := ⟨Tryz.f27, by rw [show (maps ims).fm 142 = 27 from by kernel_rfl]; exact Tryz.func27, c142⟩
theorem g143 : Here Tryz.prog (maps ims) im 143 a143 := ⟨Tryz.f30, by rw [show (maps ims).fm 143 = 30 from by kernel_rfl]; exact Tryz.func30, c143⟩
theorem g144 : Here Tryz.prog (maps ims) im 144 a144 := ⟨Tryz.f31, by rw [show (maps ims).fm 144 = 31 from by kernel_rfl]; exact Tryz.func31, c144⟩
theorem g145 : Here Tryz.prog (maps ims) im 145 a145 := ⟨Tryz.f32, by rw [show (maps ims).fm 145 = 32 from by kernel_rfl]; exact Tryz.func32, c145⟩
theorem g146 : Here Tryz.prog (maps ims) im 146 a146 := ⟨Tryz.f33, by rw [show (maps ims).fm 146 = 33 from by kernel_rfl]; exact Tryz.func33, c146⟩
theorem g147 : Here Tryz.prog (maps ims) im 147 a147 := ⟨Tryz.f36, by rw [show (maps ims).fm 147 = 36 from by kernel_rfl]; exact Tryz.func36, c147⟩
theorem g148 : Here Tryz.prog (maps ims) im 148 a148 := ⟨Tryz.f38, by rw [show (maps ims).fm 148 = 38 from by kernel_rfl]; exact Tryz.func38, c148⟩
theorem g149 : Here Tryz.prog (maps ims) im 149 a149 := ⟨Tryz.f40, by rw [show (maps ims).fm 149 = 40 from by kernel_rfl]; exact Tryz.func40, c149⟩
theorem g150 : Here Tryz.prog (maps ims) im 150 a150 := ⟨Tryz.f44, by rw [show (maps ims).fm 150 = 44 from by kernel_rfl]; exact Tryz.func44, c150⟩
theorem g151 : Here Tryz.prog (maps ims) im 151 a151 := ⟨Tryz.f45, by rw [show (maps ims).fm 151 = 45 from by kernel_rfl]; exact Tryz.func45, c151⟩
theorem g152 : Here Tryz.prog (maps ims) im 152 a152 := ⟨Tryz.f47, by rw [show (maps ims).fm 152 = 47 from by kernel_rfl]; exact Tryz.func47, c152⟩
theorem g153 : Here Tryz.prog (maps ims) im 153 a153 := ⟨Tryz.f48, by rw [show (maps ims).fm 153 = 48 from by kernel_rfl]; exact Tryz.func48, c153⟩
theorem g154 : Here Tryz.prog (maps ims) im 154 a154 := ⟨Tryz.f49, by rw [show (maps ims).fm 154 = 49 from by kernel_rfl]; exact Tryz.func49, c154⟩
theorem g155 : Here Tryz.prog (maps ims) im 155 a155 := ⟨Tryz.f50, by rw [show (maps ims).fm 155 = 50 from by kernel_rfl]; exact Tryz.func50, c155⟩
theorem g156 : Here Tryz.prog (maps ims) im 156 a156 := ⟨Tryz.f51, by rw [show (maps ims).fm 156 = 51 from by kernel_rfl]; exact Tryz.func51, c156⟩
theorem g157 : Here Tryz.prog (maps ims) im 157 a157 := ⟨Tryz.f52, by rw [show (maps ims).fm 157 = 52 from by kernel_rfl]; exact Tryz.func52, c157⟩
theorem g158 : Here Tryz.prog (maps ims) im 158 a158 := ⟨Tryz.f54, by rw [show (maps ims).fm 158 = 54 from by kernel_rfl]; exact Tryz.func54, c158⟩
theorem g159 : Here Tryz.prog (maps ims) im 159 a159 := ⟨Tryz.f55, by rw [show (maps ims).fm 159 = 55 from by kernel_rfl]; exact Tryz.func55, c159⟩
theorem g160 : Here Tryz.prog (maps ims) im 160 a160 := ⟨Tryz.f56, by rw [show (maps ims).fm 160 = 56 from by kernel_rfl]; exact Tryz.func56, c160⟩
theorem g161 : Here Tryz.prog (maps ims) im 161 a161 := ⟨Tryz.f63, by rw [show (maps ims).fm 161 = 63 from by kernel_rfl]; exact Tryz.func63, c161⟩
theorem g162 : Here Tryz.prog (maps ims) im 162 a162 := ⟨Tryz.f64, by rw [show (maps ims).fm 162 = 64 from by kernel_rfl]; exact Tryz.func64, c162⟩
theorem g163 : Here Tryz.prog (maps ims) im 163 a163 := ⟨Tryz.f65, by rw [show (maps ims).fm 163 = 65 from by kernel_rfl]; exact Tryz.func65, c163⟩
theorem g164 : Here Tryz.prog (maps ims) im 164 a164 := ⟨Tryz.f66, by rw [show (maps ims).fm 164 = 66 from by kernel_rfl]; exact Tryz.func66, c164⟩
theorem g165 : Here Tryz.prog (maps ims) im 165 a165 := ⟨Tryz.f67, by rw [show (maps ims).fm 165 = 67 from by kernel_rfl]; exact Tryz.func67, c165⟩
theorem g166 : Here Tryz.prog (maps ims) im 166 a166 := ⟨Tryz.f68, by rw [show (maps ims).fm 166 = 68 from by kernel_rfl]; exact Tryz.func68, c166⟩
theorem g167 : Here Tryz.prog (maps ims) im 167 a167 := ⟨Tryz.f69, by rw [show (maps ims).fm 167 = 69 from by kernel_rfl]; exact Tryz.func69, c167⟩
theorem g168 : Here Tryz.prog (maps ims) im 168 a168 := ⟨Tryz.f70, by rw [show (maps ims).fm 168 = 70 from by kernel_rfl]; exact Tryz.func70, c168⟩
theorem g169 : Here Tryz.prog (maps ims) im 169 a169 := ⟨Tryz.f71, by rw [show (maps ims).fm 169 = 71 from by kernel_rfl]; exact Tryz.func71, c169⟩
theorem g170 : Here Tryz.prog (maps ims) im 170 a170 := ⟨Tryz.f72, by rw [show (maps ims).fm 170 = 72 from by kernel_rfl]; exact Tryz.func72, c170⟩
theorem g171 : Here Tryz.prog (maps ims) im 171 a171 := ⟨Tryz.f73, by rw [show (maps ims).fm 171 = 73 from by kernel_rfl]; exact Tryz.func73, c171⟩
theorem g172 : Here Tryz.prog (maps ims) im 172 a172 := ⟨Tryz.f75, by rw [show (maps ims).fm 172 = 75 from by kernel_rfl]; exact Tryz.func75, c172⟩
theorem g173 : Here Tryz.prog (maps ims) im 173 a173 := ⟨Tryz.f76, by rw [show (maps ims).fm 173 = 76 from by kernel_rfl]; exact Tryz.func76, c173⟩
theorem g174 : Here Tryz.prog (maps ims) im 174 a174 := ⟨Tryz.f79, by rw [show (maps ims).fm 174 = 79 from by kernel_rfl]; exact Tryz.func79, c174⟩
theorem g175 : Here Tryz.prog (maps ims) im 175 a175 := ⟨Tryz.f80, by rw [show (maps ims).fm 175 = 80 from by kernel_rfl]; exact Tryz.func80, c175⟩
theorem g176 : Here Tryz.prog (maps ims) im 176 a176 := ⟨Tryz.f89, by rw [show (maps ims).fm 176 = 89 from by kernel_rfl]; exact Tryz.func89, c176⟩
theorem g177 : Here Tryz.prog (maps ims) im 177 a177 := ⟨Tryz.f91, by rw [show (maps ims).fm 177 = 91 from by kernel_rfl]; exact Tryz.func91, c177⟩
theorem g178 : Here Tryz.prog (maps ims) im 178 a178 := ⟨Tryz.f93, by rw [show (maps ims).fm 178 = 93 from by kernel_rfl]; exact Tryz.func93, c178⟩
theorem g179 : Here Tryz.prog (maps ims) im 179 a179 := ⟨Tryz.f94, by rw [show (maps ims).fm 179 = 94 from by kernel_rfl]; exact Tryz.func94, c179⟩
theorem g180 : Here Tryz.prog (maps ims) im 180 a180 := ⟨Tryz.f95, by rw [show (maps ims).fm 180 = 95 from by kernel_rfl]; exact Tryz.func95, c180⟩
theorem g181 : Here Tryz.prog (maps ims) im 181 a181 := ⟨Tryz.f99, by rw [show (maps ims).fm 181 = 99 from by kernel_rfl]; exact Tryz.func99, c181⟩
theorem g182 : Here Tryz.prog (maps ims) im 182 a182 := ⟨Tryz.f102, by rw [show (maps ims).fm 182 = 102 from by kernel_rfl]; exact Tryz.func102, c182⟩
theorem nodup : ims.Nodup := by decide +kernel
theorem him : ∀ f x, im f = some x → (maps ims).fm x = f := him_of nodup
theorem mix : Tryz.prog.follows .mixedOrders = true := by kernel_rfl
theorem table : Table Tryz.prog (maps ims) im tab.get := by
  refine table_ok ?_
  unfold tab
  exact (.node g99 (.node g67 (.node g51 (.node g36 (.node g31 (.node g29 (.node g27 (.node g2 .leaf .leaf) .leaf) (.node g30 .leaf .leaf)) (.node g34 (.node g33 .leaf .leaf) (.node g35 .leaf .leaf))) (.node g47 (.node g39 (.node g38 .leaf .leaf) (.node g46 .leaf .leaf)) (.node g49 (.node g48 .leaf .leaf) (.node g50 .leaf .leaf)))) (.node g59 (.node g55 (.node g53 (.node g52 .leaf .leaf) (.node g54 .leaf .leaf)) (.node g57 (.node g56 .leaf .leaf) (.node g58 .leaf .leaf))) (.node g63 (.node g61 (.node g60 .leaf .leaf) (.node g62 .leaf .leaf)) (.node g65 (.node g64 .leaf .leaf) (.node g66 .leaf .leaf))))) (.node g83 (.node g75 (.node g71 (.node g69 (.node g68 .leaf .leaf) (.node g70 .leaf .leaf)) (.node g73 (.node g72 .leaf .leaf) (.node g74 .leaf .leaf))) (.node g79 (.node g77 (.node g76 .leaf .leaf) (.node g78 .leaf .leaf)) (.node g81 (.node g80 .leaf .leaf) (.node g82 .leaf .leaf)))) (.node g91 (.node g87 (.node g85 (.node g84 .leaf .leaf) (.node g86 .leaf .leaf)) (.node g89 (.node g88 .leaf .leaf) (.node g90 .leaf .leaf))) (.node g95 (.node g93 (.node g92 .leaf .leaf) (.node g94 .leaf .leaf)) (.node g97 (.node g96 .leaf .leaf) (.node g98 .leaf .leaf)))))) (.node g151 (.node g135 (.node g127 (.node g123 (.node g121 (.node g100 .leaf .leaf) (.node g122 .leaf .leaf)) (.node g125 (.node g124 .leaf .leaf) (.node g126 .leaf .leaf))) (.node g131 (.node g129 (.node g128 .leaf .leaf) (.node g130 .leaf .leaf)) (.node g133 (.node g132 .leaf .leaf) (.node g134 .leaf .leaf)))) (.node g143 (.node g139 (.node g137 (.node g136 .leaf .leaf) (.node g138 .leaf .leaf)) (.node g141 (.node g140 .leaf .leaf) (.node g142 .leaf .leaf))) (.node g147 (.node g145 (.node g144 .leaf .leaf) (.node g146 .leaf .leaf)) (.node g149 (.node g148 .leaf .leaf) (.node g150 .leaf .leaf))))) (.node g167 (.node g159 (.node g155 (.node g153 (.node g152 .leaf .leaf) (.node g154 .leaf .leaf)) (.node g157 (.node g156 .leaf .leaf) (.node g158 .leaf .leaf))) (.node g163 (.node g161 (.node g160 .leaf .leaf) (.node g162 .leaf .leaf)) (.node g165 (.node g164 .leaf .leaf) (.node g166 .leaf .leaf)))) (.node g175 (.node g171 (.node g169 (.node g168 .leaf .leaf) (.node g170 .leaf .leaf)) (.node g173 (.node g172 .leaf .leaf) (.node g174 .leaf .leaf))) (.node g179 (.node g177 (.node g176 .leaf .leaf) (.node g178 .leaf .leaf)) (.node g181 (.node g180 .leaf .leaf) (.node g182 .leaf .leaf)))))))

end Go.Proofs.YtpbhojddfmajoaaGreat
end
section
namespace M2
open Go Go.ChangeShapes Go.WideShapes Go.ChangeAt Go.RowKit

/-! ### Laws that look at nothing of their argument but whether one slice is there, and how long it is -/

def OneSl (a : AV) : Prop := a = .nils ∨ a = .sl0 ∨ ∃ e pos cap alt n, a = .sl 0 e pos cap false alt (List.replicate n .und)

def oneG (W : World) (p : Place) : G := { n := 1, ok := fun i => i = 0, ρ := fun _ => p, ν := fun _ => 0, μ := fun _ => .oth, w := W }

theorem oneG_sr (M : Maps) (W : World) (p : Place) : SR M (oneG W p) ⟨1, [], []⟩ :=
  { n := rfl, wf := ⟨by simp, fun p hp => by simp at hp, by simp, fun p hp => by simp at hp⟩, okn := fun i h => by have : i = 0 := h; subst this; exact Nat.one_pos,
    var := fun x o hx => by simp [look2_nil] at hx, inj := fun x y o o' hx => by simp [look2_nil] at hx,
    ids := fun i en e hx => by simp [look2_nil] at hx, idinj := fun i j a b hx => by simp [look2_nil] at hx }

/-- a slice, but for what stands in it -/
theorem oneSl_of {M : Maps} {W : World} {n K : Nat} {a : AV} {v : Value} (hv : VR M (argG W n K) a v) (ha : a = .nils ∨ a = .sl0 ∨ ∃ id e pos cap alt es, a = .sl id e pos cap false alt es) :
    ∃ a' p, OneSl a' ∧ VR M (oneG W p) a' v := by
  rcases ha with rfl | rfl | ⟨id, e, pos, cap, alt, es, rfl⟩
  · cases hv
    exact ⟨.nils, ⟨0, 0, 0⟩, .inl rfl, .nils⟩
  · cases hv with
    | sl0 b o sp => exact ⟨.sl0, ⟨0, 0, 0⟩, .inr (.inl rfl), .sl0 b o sp⟩
  · cases hv with
    | sl id e pos cap fl alt es b off ccap vs hid hcc hb hoff hlen hvv hsz hc hf =>
      refine ⟨.sl 0 e pos cap false alt (List.replicate es.length .und), (argG W n K).ρ id, .inr (.inr ⟨e, pos, cap, alt, es.length, rfl⟩), ?_⟩
      have := VR.sl (M := M) (g := oneG W ((argG W n K).ρ id)) 0 e pos cap false alt (List.replicate es.length .und) b off ccap vs rfl hcc hb hoff (by simpa using hlen)
        (fun i hi => by rw [List.getElem_replicate]; exact .und _) (fun i hi => hsz i (by simpa using hi)) (fun i j hi hj => hc i j (by simpa using hi) hj) ⟨hf.1, trivial⟩
      simpa using this

theorem law_run0 {P : Program} {M : Maps} {im : FuncId → Option Nat} {tbl : Nat → Option AFunc} (hmix : P.follows .mixedOrders = true) (him : ∀ f x, im f = some x → M.fm x = f) (ht : Table P M im tbl)
    {H : Type} {enc : TypeId × Value → H} {W : World} {base id tf : Nat} {t : TypeId} {fs : Array Field} (hu : P.underlying t = some (.struct fs)) (ha : argT P (tf + 1) t = true) {v : Value} {d : DataW H} {p : List MemPlace}
    (hval : Value.okWide P W .any base t v) (htr : DataW.Trod enc P W 0 (fun _ => true) true t v d p)
    {w j i : Nat} {fl : Field} {e : TypeId} (hw : P.cellsOf t = w) (hfl : fs[i]? = some fl) (hoff : fl.offset = j) (hjw : j < w) (hsl : P.underlying fl.type = some (.slice e)) (hc1 : P.cellsOf fl.type = 1) (htf : tf ≠ 0)
    (hrun : ∀ a, OneSl a → ∃ n t', callA tbl (ev tbl n) id [.agg ((List.replicate w AV.und).set j a)] ⟨1, [], []⟩ = .ok (.bool true) t') :
    Calls P (M.fm id) #[v] W fun e W' => e = .returned (.bool true) ∧ Below W.heap.size W W' := by
  obtain ⟨K, hK0, hK⟩ := size_bound W
  obtain ⟨fuel, htr⟩ := htr
  unfold Value.okWide at hval
  rw [hu] at hval
  obtain ⟨cs, rfl, hcs, -⟩ := hval
  obtain ⟨ascs, h1, h2, h3, -⟩ := trod_vr (M := M) hK0 hK fuel (tf + 1) t _ _ ha htr
  have hl : ascs.length = cs.size := by simpa [Value.cells] using h2
  unfold DA at h1
  rw [hu] at h1
  obtain ⟨ps, -, hps, hasl, hf⟩ := h1
  obtain ⟨hi, hfi⟩ := Array.getElem?_eq_some_iff.mp hfl
  have h4 := hf i hi (by omega)
  rw [hfi, hoff, hc1] at h4
  have hjl : j < ascs.length := by rw [hasl, hw]; exact hjw
  have hone : (ascs.drop j).take 1 = [ascs[j]] := by rw [List.drop_eq_getElem_cons hjl]; rfl
  rw [hone] at h4
  have hkind : ascs[j] = .nils ∨ ascs[j] = .sl0 ∨ ∃ id e pos cap alt es, ascs[j] = .sl id e pos cap false alt es := by
    cases tf with
    | zero => exact absurd rfl htf
    | succ tf =>
      unfold DA at h4
      rw [hsl] at h4
      rcases h4 with ⟨-, h⟩ | ⟨elems, spare, es, -, -, -, -, ⟨-, h⟩ | ⟨id, pos, h⟩⟩
      · injection h with h; exact .inl h
      · injection h with h; exact .inr (.inl h)
      · injection h with h; exact .inr (.inr ⟨_, _, _, _, _, _, h⟩)
  have h5 := h3 j (by simpa using hjl)
  obtain ⟨a', pl, ho, hv'⟩ := oneSl_of h5 hkind
  obtain ⟨n, t', hr⟩ := hrun a' ho
  refine link (g := oneG W pl) hmix him ht (fun _ _ => rfl) (oneG_sr M W pl) rfl (fun q hq => ?_) hr
  have hq0 : q = 0 := by simpa using hq
  subst hq0
  simp only [List.getElem_cons_zero]
  refine .agg _ cs (by simp [← hl, hasl, hw]) (fun q hq => ?_)
  by_cases e : j = q
  · subst e
    simp only [List.getElem_set_self]
    simpa [Value.cells, Array.getD_eq_getD_getElem?, List.getD_eq_getElem?_getD] using hv'
  · rw [List.getElem_set_ne e, List.getElem_replicate]
    exact .und _

end M2
end
section
namespace M2
open Go

/-! #### more fuel, the same answer; rules to cut a run in pieces -/

def CallLe (c1 c2 : CallF) : Prop := ∀ f ascs t, c1 f ascs t ≠ .fail → c2 f ascs t = c1 f ascs t
def EvLe (e1 e2 : Ev) : Prop := ∀ c F t, e1 c F t ≠ .fail → e2 c F t = e1 c F t

section
variable {c1 c2 : CallF} {e1 e2 : Ev} {tbl : Nat → Option AFunc}

theorem run_mono (h : CallLe c1 c2) (ao : AOp) (F : Fr) (t : T) (hne : ao.run c1 F t ≠ .fail) : ao.run c2 F t = ao.run c1 F t := by
  cases ao with
  | call f xs => exact h _ _ _ hne
  | calld f xs =>
    change opCalld f xs c2 F t = opCalld f xs c1 F t
    change opCalld f xs c1 F t ≠ .fail at hne
    unfold opCalld at *
    split
    · rename_i hp
      rw [hp] at hne
      exact h _ _ _ hne
    · rfl
  | _ => rfl

theorem runOps_mono (h : CallLe c1 c2) : ∀ (l : List AO) (F : Fr) (t : T), runOps l c1 F t ≠ .fail → runOps l c2 F t = runOps l c1 F t := by
  intro l
  induction l with
  | nil => intro F t _; rfl
  | cons o l ih =>
    intro F t hne
    change opsCons o l (fun call F t => runOps l call F t) c1 F t ≠ .fail at hne
    change opsCons o l (fun call F t => runOps l call F t) c2 F t = opsCons o l (fun call F t => runOps l call F t) c1 F t
    unfold opsCons at *
    split
    · rename_i hw
      rw [hw] at hne
      simp only at hne
      cases hr : o.op.run c1 F t with
      | fail => rw [hr] at hne; exact absurd rfl hne
      | ok v t1 =>
        rw [run_mono h o.op F t (by rw [hr]; simp), hr]
        rw [hr] at hne
        exact ih _ _ hne
    · rename_i hw
      rw [hw] at hne
      exact ih _ _ hne
    · rfl

theorem runD_mono (h : CallLe c1 c2) (ws : List AO) : ∀ (ks : List (DK × AO)) (F : Fr) (t : T) (l : Log), runD ks ws c1 F t l ≠ .fail → runD ks ws c2 F t l = runD ks ws c1 F t l := by
  intro ks
  induction ks with
  | nil => intro F t l hne; exact runOps_mono h ws F t hne
  | cons o ks ih =>
    intro F t l hne
    change dCons o ks (fun call F t l => runD ks ws call F t l) c1 F t l ≠ .fail at hne
    change dCons o ks (fun call F t l => runD ks ws call F t l) c2 F t l = dCons o ks (fun call F t l => runD ks ws call F t l) c1 F t l
    unfold dCons at *
    split
    · rename_i hw
      rw [hw] at hne
      simp only at hne
      split
      · rename_i l1 hl
        rw [hl] at hne
        simp only at hne
        cases hr : o.2.op.run c1 F (viewD o.1 t) with
        | fail => rw [hr] at hne; exact absurd rfl hne
        | ok v t1 =>
          rw [run_mono h o.2.op F _ (by rw [hr]; simp), hr]
          rw [hr] at hne
          simp only at hne ⊢
          split
          · rename_i t2 hm
            rw [hm] at hne
            exact ih _ _ _ hne
          · rfl
      · rfl
    · rename_i hw
      rw [hw] at hne
      exact ih _ _ _ hne
    · rfl

theorem stepX_mono (h : CallLe c1 c2) (q : Nat × Nat × Bool × AO) (F : Fr) (t : T) {k1 k2 : Fr → T → RR} (hk : ∀ F t, k1 F t ≠ .fail → k2 F t = k1 F t) (hne : stepX c1 q F t k1 ≠ .fail) : stepX c2 q F t k2 = stepX c1 q F t k1 := by
  unfold stepX at *
  split
  · rename_i hw
    rw [hw] at hne
    simp only at hne
    cases hr : q.2.2.2.op.run c1 F t with
    | fail => rw [hr] at hne; exact absurd rfl hne
    | ok v t1 =>
      rw [run_mono h q.2.2.2.op F t (by rw [hr]; simp), hr]
      rw [hr] at hne
      exact hk _ _ hne
  · rename_i hw
    rw [hw] at hne
    exact hk _ _ hne
  · rfl

theorem allX_ne {go : Nat × Nat × Bool × AO → RR} {r : RR} : ∀ {qs : List (Nat × Nat × Bool × AO)}, allX go r qs ≠ .fail → r ≠ .fail ∧ allX go r qs = r ∧ ∀ q ∈ qs, rrE r (go q) = true
  | [], h => ⟨h, rfl, fun q hq => by cases hq⟩
  | q :: qs, h => by
    unfold allX at h ⊢
    split at h
    · rename_i hb
      obtain ⟨h1, h2, h3⟩ := allX_ne h
      refine ⟨h1, h2, fun p hp => ?_⟩
      rcases List.mem_cons.mp hp with rfl | hp
      · exact hb
      · exact h3 p hp
    · exact absurd rfl h

theorem rrE_ne {r s : RR} (h : rrE r s = true) : s ≠ .fail := by
  intro e
  subst e
  cases r <;> cases h

theorem runX_mono (h : CallLe c1 c2) (os : List (Nat × Nat × Bool × AO)) (full : Nat) : ∀ (n dn : Nat) (F : Fr) (t : T), runX os full c1 n dn F t ≠ .fail → runX os full c2 n dn F t = runX os full c1 n dn F t := by
  intro n
  induction n with
  | zero => intro dn F t hne; exact absurd rfl hne
  | succ n ih =>
    intro dn F t hne
    unfold runX at hne ⊢
    split
    · rename_i q hq
      rw [hq] at hne
      exact stepX_mono h q F t (ih _) hne
    · rename_i hq
      rw [hq] at hne
      simp only at hne
      split
      · rfl
      · rename_i q qs hf
        rw [hf] at hne
        simp only at hne
        obtain ⟨h1, h2, h3⟩ := allX_ne hne
        rw [h2]
        have e1 := stepX_mono h q F t (ih _) h1
        rw [e1]
        have key : ∀ l : List (Nat × Nat × Bool × AO), (∀ p ∈ l, rrE (stepX c1 q F t (runX os full c1 n (Nat.lor dn (2 ^ q.1)))) (stepX c1 p F t (runX os full c1 n (Nat.lor dn (2 ^ p.1)))) = true) →
            allX (fun q => stepX c2 q F t (runX os full c2 n (Nat.lor dn (2 ^ q.1)))) (stepX c1 q F t (runX os full c1 n (Nat.lor dn (2 ^ q.1)))) l = stepX c1 q F t (runX os full c1 n (Nat.lor dn (2 ^ q.1))) := by
          intro l
          induction l with
          | nil => intro _; rfl
          | cons p l ihl =>
            intro hp
            have hb := hp p List.mem_cons_self
            unfold allX
            rw [stepX_mono h p F t (ih _) (rrE_ne hb), hb]
            exact ihl fun x hx => hp x (List.mem_cons_of_mem _ hx)
        exact key qs h3

theorem callA_le (h : EvLe e1 e2) : CallLe (callA tbl e1) (callA tbl e2) := by
  intro f xs t hne
  unfold callA at *
  split
  · rename_i fn hf
    rw [hf] at hne
    simp only at hne
    split
    · rename_i F hF
      rw [hF] at hne
      simp only at hne
      cases hr : e1 fn.body F t.enter with
      | fail => rw [hr] at hne; exact absurd rfl hne
      | _ => rw [h fn.body F t.enter (by rw [hr]; simp), hr]
    · rfl
  · rfl

end

theorem ev_le (tbl : Nat → Option AFunc) : ∀ n, EvLe (ev tbl n) (ev tbl (n + 1)) := by
  intro n
  induction n with
  | zero => intro c F t hne; exact absurd rfl hne
  | succ n ih =>
    intro c F t hne
    have hc := callA_le (tbl := tbl) ih
    cases c with
    | skip => rfl
    | reg ops => exact runOps_mono hc ops F t hne
    | regd rs ws => exact runD_mono hc ws rs F t [] hne
    | regx full os => exact runX_mono hc os full _ 0 F t hne
    | seq a b =>
      change (RR.rec (motive := fun _ => RR) .fail (ev tbl (n + 1) b) RR.exit RR.ret (ev tbl (n + 1) a F t)) = (RR.rec (motive := fun _ => RR) .fail (ev tbl n b) RR.exit RR.ret (ev tbl n a F t))
      change (RR.rec (motive := fun _ => RR) .fail (ev tbl n b) RR.exit RR.ret (ev tbl n a F t)) ≠ .fail at hne
      cases hr : ev tbl n a F t with
      | fail => rw [hr] at hne; exact absurd rfl hne
      | norm F1 t1 =>
        rw [ih a F t (by rw [hr]; simp), hr]
        rw [hr] at hne
        exact ih b F1 t1 hne
      | _ => rw [ih a F t (by rw [hr]; simp), hr]
    | cond c a b =>
      change cCond c a b (fun _ _ _ _ => .fail) (fun _ _ _ _ => .fail) tbl (ev tbl (n + 1)) F t = cCond c a b (fun _ _ _ _ => .fail) (fun _ _ _ _ => .fail) tbl (ev tbl n) F t
      change cCond c a b (fun _ _ _ _ => .fail) (fun _ _ _ _ => .fail) tbl (ev tbl n) F t ≠ .fail at hne
      unfold cCond at *
      split
      · rename_i x hx
        rw [hx] at hne
        cases x with
        | true => exact ih a F t hne
        | false => exact ih b F t hne
      · rfl
    | block id b =>
      change (RR.rec (motive := fun _ => RR) .fail RR.norm (fun i f t => Bool.rec (motive := fun _ => RR) (.exit i f t) (.norm f t) (Nat.beq i id)) RR.ret (ev tbl (n + 1) b F t)) =
        (RR.rec (motive := fun _ => RR) .fail RR.norm (fun i f t => Bool.rec (motive := fun _ => RR) (.exit i f t) (.norm f t) (Nat.beq i id)) RR.ret (ev tbl n b F t))
      change (RR.rec (motive := fun _ => RR) .fail RR.norm (fun i f t => Bool.rec (motive := fun _ => RR) (.exit i f t) (.norm f t) (Nat.beq i id)) RR.ret (ev tbl n b F t)) ≠ .fail at hne
      cases hr : ev tbl n b F t with
      | fail => rw [hr] at hne; exact absurd rfl hne
      | _ => rw [ih b F t (by rw [hr]; simp), hr]
    | loop b =>
      change (RR.rec (motive := fun _ => RR) .fail (ev tbl (n + 1) (.loop b)) RR.exit RR.ret (ev tbl (n + 1) b F t)) = (RR.rec (motive := fun _ => RR) .fail (ev tbl n (.loop b)) RR.exit RR.ret (ev tbl n b F t))
      change (RR.rec (motive := fun _ => RR) .fail (ev tbl n (.loop b)) RR.exit RR.ret (ev tbl n b F t)) ≠ .fail at hne
      cases hr : ev tbl n b F t with
      | fail => rw [hr] at hne; exact absurd rfl hne
      | norm F1 t1 =>
        rw [ih b F t (by rw [hr]; simp), hr]
        rw [hr] at hne
        exact ih (.loop b) F1 t1 hne
      | _ => rw [ih b F t (by rw [hr]; simp), hr]
    | exit id => rfl
    | ret => rfl

theorem ev_more {tbl : Nat → Option AFunc} {n m : Nat} (h : n ≤ m) {c : Cd} {F : Fr} {t : T} {r : RR} (hr : ev tbl n c F t = r) (hne : r ≠ .fail) : ev tbl m c F t = r := by
  induction m with
  | zero => have : n = 0 := by omega
            subst this; exact hr
  | succ m ih =>
    by_cases e : n = m + 1
    · subst e; exact hr
    · have := ih (by omega)
      rw [ev_le tbl m c F t (by rw [this]; exact hne), this]

theorem call_more {tbl : Nat → Option AFunc} {n m : Nat} (h : n ≤ m) {f : Nat} {xs : List AV} {t t' : T} {v : AV} (hr : callA tbl (ev tbl n) f xs t = .ok v t') : callA tbl (ev tbl m) f xs t = .ok v t' := by
  have hle : EvLe (ev tbl n) (ev tbl m) := fun c F t hne => ev_more h rfl hne
  rw [callA_le hle f xs t (by rw [hr]; simp), hr]

end M2
end
section
namespace M2
open Go

/-! ### A law that hands one row of texts to a function -/

def okR (r : OR) : Bool := match r with | .ok (.bool b) _ => b | _ => false
theorem okR_ok {r : OR} (h : okR r = true) : ∃ t, r = .ok (.bool true) t := by
  unfold okR at h
  split at h
  · subst h; exact ⟨_, rfl⟩
  · cases h

noncomputable def body2 (c1 c2 : CallF) (fn : AFunc) (l1 l2 : List AO) (F : Fr) (t : T) : OR :=
  RR.rec (motive := fun _ => OR) .fail (fun F t => RR.rec (motive := fun _ => OR) .fail (fun F t => afterBody fn F t) (fun _ _ _ => .fail) (fun F t => afterBody fn F t) (runOps l2 c2 F t)) (fun _ _ _ => .fail) (fun F t => afterBody fn F t) (runOps l1 c1 F t)

theorem runOps_norm (c : CallF) : ∀ (l : List AO) (F : Fr) (t : T), runOps l c F t = .fail ∨ ∃ F' t', runOps l c F t = .norm F' t' := by
  intro l
  induction l with
  | nil => intro F t; exact .inr ⟨F, t, rfl⟩
  | cons o l ih =>
    intro F t
    rw [show runOps (o :: l) c F t = opsCons o l (fun call F t => runOps l call F t) c F t from rfl]
    unfold opsCons
    split
    · split
      · exact ih _ _
      · exact .inl rfl
    · exact ih _ _
    · exact .inl rfl

theorem callA_eq {tbl : Nat → Option AFunc} {e : Ev} {id : Nat} {fn : AFunc} {args : List AV} {F : Fr} {t : T} (hf : tbl id = some fn) (ha : argsIn fn.params args .nil = some F) :
    callA tbl e id args t = RR.rec (motive := fun _ => OR) .fail (fun f t => afterBody fn f t) (fun _ _ _ => .fail) (fun f t => afterBody fn f t) (e fn.body F t.enter) := by
  unfold callA
  rw [hf]
  simp only
  rw [ha]
  simp only
  cases e fn.body F t.enter <;> rfl

theorem callA_body2 {tbl : Nat → Option AFunc} {N id : Nat} {fn : AFunc} {l1 l2 : List AO} {args : List AV} {F : Fr} {t : T} (hf : tbl id = some fn) (hb : fn.body = .seq (.reg l1) (.seq (.reg l2) .ret)) (ha : argsIn fn.params args .nil = some F) :
    callA tbl (ev tbl (N + 3)) id args t = body2 (callA tbl (ev tbl (N + 1))) (callA tbl (ev tbl N)) fn l1 l2 F t.enter := by
  rw [callA_eq hf ha, hb]
  generalize hc1 : callA tbl (ev tbl (N + 1)) = c1
  generalize hc2 : callA tbl (ev tbl N) = c2
  have e1 : ev tbl (N + 3) (.seq (.reg l1) (.seq (.reg l2) .ret)) F t.enter = RR.rec (motive := fun _ => RR) .fail (ev tbl (N + 2) (.seq (.reg l2) .ret)) RR.exit RR.ret (runOps l1 c1 F t.enter) := by rw [← hc1]; rfl
  have e2 : ∀ F t, ev tbl (N + 2) (.seq (.reg l2) .ret) F t = RR.rec (motive := fun _ => RR) .fail (ev tbl (N + 1) .ret) RR.exit RR.ret (runOps l2 c2 F t) := fun _ _ => by rw [← hc2]; rfl
  rw [e1]
  unfold body2
  rcases runOps_norm c1 l1 F t.enter with h | ⟨F', t', h⟩
  · rw [h]
  · rw [h]
    simp only
    rw [e2]
    rcases runOps_norm c2 l2 F' t' with k | ⟨F2, t2, k⟩
    · rw [k]
    · rw [k]
      rfl

end M2
end
section
namespace M2
open Go
open Classical

/-! ### A call that looks at nothing of the state: run it in an empty one -/

noncomputable def G.upd (g g' : G) : G := { n := g.n, ok := g.ok, ρ := g.ρ, ν := g.ν, μ := fun b => if b < g.w.heap.size then g.μ b else .oth, w := g'.w }
def allB (g : G) : Nat → Prop := fun b => b < g.w.heap.size
noncomputable def G.shutAll (g : G) : G := g.view g.n (fun _ => True) (allB g)

theorem le_upd {g g' : G} {n : Nat} {p : Nat → Prop} (h : (g.view n p (allB g)).Le g') : g.Le (g.upd g') where
  n := Nat.le_refl _
  ok _ hi := hi
  new _ hi := .inl hi
  ρ _ _ := rfl
  ν _ _ := rfl
  size := h.size
  lim _ k hb hk := ⟨k, (if_pos hb).trans hk, Nat.le_refl _, fun _ _ => cell?_of_heap (back_sealed h (fun _ hb => hb) hb).1⟩
  oth _ hb _ := ⟨if_pos hb, (back_sealed h (fun _ hb => hb) hb).1⟩
  os := h.os
  tape := h.tape
  output := h.output
  sz := h.sz

theorem sr_upd {M : Maps} {g g' : G} {t : T} (hS : SR M g t) {n : Nat} {p : Nat → Prop} (h : (g.view n p (allB g)).Le g') : SR M (g.upd g') t where
  n := hS.n
  wf := hS.wf
  okn := hS.okn
  var x o hx := by
    obtain ⟨h1, h2, h3⟩ := hS.var x o hx
    exact ⟨h1, (if_pos h3.lt).trans h2, h3.ext (le_upd h).ext (back_sealed h (fun _ hb => hb) h3.lt).1⟩
  inj := hS.inj
  ids i en e hx := by
    obtain ⟨h1, h2, c, ty, fz, h3, h4, h5⟩ := hS.ids i en e hx
    have hb : (g.ρ i).block < g.w.heap.size := (Array.getElem?_eq_some_iff.mp h3).1
    have he : (g.upd g').w.heap[(g.ρ i).block]? = g.w.heap[(g.ρ i).block]? := (back_sealed h (fun _ hb => hb) hb).1
    refine ⟨h1, (if_pos hb).trans h2, c, ty, fz, he.trans h3, fun off ho => ?_, h5⟩
    have := h4 off ho
    simp only [World.frozen?] at this ⊢
    show (match (g.upd g').w.heap[(g.ρ i).block]? with | some (.cells c elem (lo, hi)) => decide (lo ≤ off) && decide (off < hi) | x => false) = false
    rw [he]
    exact this
  idinj := hS.idinj

noncomputable def orc (f : Nat) (avs : List AV) (n : Nat) : CallF := fun f' args t => if f' = f ∧ args = avs ∧ t.n = n then .ok (.bool true) t else .fail
theorem orc_eq {f : Nat} {avs : List AV} {n : Nat} {t : T} (h : t.n = n) : orc f avs n f avs t = .ok (.bool true) t := if_pos ⟨rfl, rfl, h⟩

section
variable {P : Program} {M : Maps} {im : FuncId → Option Nat} {tbl : Nat → Option AFunc}

theorem orc_ok (hmix : P.follows .mixedOrders = true) (him : ∀ f x, im f = some x → M.fm x = f) (ht : Table P M im tbl) {k f n : Nat} {avs : List AV} {t' : T}
    (h : callA tbl (ev tbl k) f avs ⟨n, [], []⟩ = .ok (.bool true) t') : CallOK P M (orc f avs n) := by
  intro f' args t r t1 hr
  unfold orc at hr
  split at hr
  · rename_i hc
    obtain ⟨rfl, rfl, hn⟩ := hc
    cases hr
    obtain ⟨hgood, hs⟩ := call_sound hmix him ht k f' args _ _ _ h
    refine ⟨hgood, fun g cargs hS hsz hv => ?_⟩
    have hS0 : SR M g.shutAll ⟨n, [], []⟩ :=
      { n := hS.n.trans hn, wf := ⟨by simp, fun p hp => by simp at hp, by simp, fun p hp => by simp at hp⟩, okn := fun i hi => hn ▸ hS.okn i hi.1,
        var := fun x o hx => by simp [look2_nil] at hx, inj := fun x y o o' hx => by simp [look2_nil] at hx,
        ids := fun i en e hx => by simp [look2_nil] at hx, idinj := fun i j a b hx => by simp [look2_nil] at hx }
    have hext : g.Ext g.shutAll := by
      have h1 : g.Ext (g.sub fun _ => True) := ⟨fun i hi => ⟨hi, trivial⟩, fun _ _ => rfl, fun _ _ => rfl, fun _ _ h => h, fun _ _ _ _ _ => rfl, fun _ hb => ⟨hb, rfl⟩⟩
      have h2 := g.ext_view g.n (fun _ => True) (allB g)
      exact ⟨fun i hi => h2.ok i (h1.ok i hi), fun i hi => (h2.ρ i (h1.ok i hi)).trans (h1.ρ i hi), fun i hi => (h2.ν i (h1.ok i hi)).trans (h1.ν i hi), fun b m hf => h2.fixed b m (h1.fixed b m hf), fun _ _ _ _ _ => rfl, fun _ hb => ⟨hb, rfl⟩⟩
    refine (hs g.shutAll cargs hS0 hsz (fun i hi => (hv i hi).ext hext)).mono ?_
    rintro e w' ⟨v, g', rfl, rfl, hle, hvr, -⟩
    cases hvr
    exact ⟨_, g.upd g', rfl, rfl, le_upd hle, .bool true, sr_upd hS hle⟩
  · cases hr

/-! ### A body without loops, its calls answered by others -/

noncomputable def evC (call : CallF) (c : Cd) : Fr → T → RR :=
  Cd.rec (motive := fun _ => Fr → T → RR) (fun F t => .norm F t) (fun l F t => runOps l call F t) (fun _ _ _ _ => .fail) (fun _ _ _ _ => .fail)
    (fun _ _ iha ihb F t => RR.rec (motive := fun _ => RR) .fail ihb RR.exit RR.ret (iha F t)) (fun _ _ _ _ _ _ _ => .fail) (fun _ _ _ _ _ => .fail) (fun _ _ _ _ => .fail) (fun _ _ _ => .fail) (fun F t => .ret F t) c

noncomputable def outC (fn : AFunc) (r : RR) : OR := match r with | .norm f t => afterBody fn f t | .ret f t => afterBody fn f t | _ => .fail
noncomputable def callC (call : CallF) (fn : AFunc) (args : List AV) (t : T) : OR :=
  match argsIn fn.params args .nil with
  | some f => outC fn (evC call fn.body f t.enter)
  | none => .fail

theorem cmpR_drawn {d ntmps : Nat} {ops : Array Oper} {ac : Cd} (h : cmpR P im d ntmps ops = some ac) (call : CallF) (F : Fr) (t : T) : evC call ac F t = .fail := by
  have hd0 : ∀ h c, cmpD0 P im d ntmps h ops = some c → evC call c F t = .fail := by
    intro h c hc
    unfold cmpD0 at hc
    simp only [Option.bind_eq_bind, Option.bind_eq_some_iff] at hc
    obtain ⟨_, _, _, _, _, _, e⟩ := hc
    split at e
    · cases e; rfl
    · cases e
  have hd : ∀ c, cmpD P im d ntmps ops = some c → evC call c F t = .fail := by
    intro c hc
    unfold cmpD at hc
    split at hc
    · split at hc
      · rename_i c' hcc; cases hc; exact hd0 _ _ hcc
      · exact hd0 _ _ hc
    · split at hc
      · rename_i c' hcc; cases hc; exact hd0 _ _ hcc
      · exact hd0 _ _ hc
  have hx : ∀ c, cmpX P im d ntmps ops = some c → evC call c F t = .fail := by
    intro c hc
    unfold cmpX at hc
    simp only [Option.bind_eq_bind, Option.bind_eq_some_iff] at hc
    obtain ⟨_, _, e⟩ := hc
    split at e
    · cases e; rfl
    · cases e
  unfold cmpR at h
  split at h
  · split at h
    · rename_i c hcc; cases h; exact hx _ hcc
    · exact hd _ h
  · split at h
    · rename_i c hcc; cases h; exact hd _ hcc
    · exact hx _ h

theorem evC_sound (him : ∀ f x, im f = some x → M.fm x = f) {call : CallF} (hcall : CallOK P M call) : CodeOK P M im (evC call) := by
  intro d ntmps c
  induction c with
  | skip => intro ac hc g F t a Q hf hp; cases hc; exact wp_skip (hp g a (.refl g) hf)
  | region id ops draw =>
    intro ac hc g F t a Q hf hp
    simp only [cmpC] at hc
    split at hc
    · rw [cmpR_drawn hc] at hp
      exact hp.elim
    · rename_i hd
      rw [Option.map_eq_some_iff] at hc
      obtain ⟨al, hal, rfl⟩ := hc
      have : draw = false := by simpa using hd
      subst this
      exact wp_region_list (ops_sound him hcall ops Q ops.toList al hal g F t a hf hp)
  | seq x y ihx ihy =>
    intro ac hc g F t a Q hf hp
    simp only [cmpC, Option.bind_eq_bind, Option.bind_eq_some_iff] at hc
    obtain ⟨x', hx, y', hy, e⟩ := hc
    cases e
    have hp' : Post M g d ntmps Q (RR.rec (motive := fun _ => RR) .fail (evC call y') RR.exit RR.ret (evC call x' F t)) := hp
    refine wp_seq (ihx x' hx g F t a _ hf ?_)
    cases hr : evC call x' F t with
    | fail => rw [hr] at hp'; exact hp'
    | norm F1 t1 =>
      rw [hr] at hp'
      intro g' a' hle hf'
      exact ihy y' hy g' F1 t1 a' Q hf' (hp'.later hle)
    | exit id F1 t1 => rw [hr] at hp'; exact hp'
    | ret F1 t1 => rw [hr] at hp'; exact hp'
  | ret => intro ac hc g F t a Q hf hp; cases hc; exact wp_ret (hp g a (.refl g) hf)
  | cond c x y ihx ihy =>
    intro ac hc g F t a Q hf hp
    simp only [cmpC, Option.bind_eq_bind, Option.bind_eq_some_iff] at hc
    obtain ⟨c', hc', x', hx, y', hy, e⟩ := hc
    cases e
    exact hp.elim
  | block id b ih =>
    intro ac hc g F t a Q hf hp
    simp only [cmpC, Option.bind_eq_bind, Option.bind_eq_some_iff] at hc
    obtain ⟨b', hb, e⟩ := hc
    cases e
    exact hp.elim
  | loop b ih =>
    intro ac hc g F t a Q hf hp
    simp only [cmpC, Option.bind_eq_bind, Option.bind_eq_some_iff] at hc
    obtain ⟨b', hb, e⟩ := hc
    cases e
    exact hp.elim
  | exit id => intro ac hc g F t a Q hf hp; cases hc; exact hp.elim
  | _ => intro ac hc g F t a Q hf hp; simp [cmpC] at hc

theorem callC_sound (him : ∀ f x, im f = some x → M.fm x = f) (ht : Table P M im tbl) {call : CallF} (hcall : CallOK P M call) {f : Nat} {fn : AFunc} (hfn : tbl f = some fn) {args : List AV} {t t' : T} {r : AV}
    (hr : callC call fn args t = .ok r t') : Good P (M.fm f) ∧ ∀ g cargs, SR M g t → cargs.size = args.length → (∀ i (h : i < args.length), VR M g args[i] (cargs.getD i undef)) →
    Calls P (M.fm f) cargs g.w fun e w' => ∃ v g', e = .returned v ∧ g'.w = w' ∧ g.Le g' ∧ VR M g' r v ∧ SR M g' t' := by
  have hcode := evC_sound (P := P) (M := M) (im := im) him hcall
  unfold callC at hr
  obtain ⟨gf, hgf, hcf⟩ := ht f fn hfn
  unfold cmpF at hcf
  split at hcf
  · rename_i hcond
    obtain ⟨c1, c2, c3⟩ := hcond
    simp only [Option.bind_eq_bind, Option.bind_eq_some_iff] at hcf
    obtain ⟨c, hbody, b, hb, rs, hrs, e⟩ := hcf
    have hgood : Good P (M.fm f) := ⟨gf, hgf, by simpa using c3, by simp [hbody]⟩
    refine ⟨hgood, ?_⟩
    intro g cargs hS hsz hv
    have efn : fn = { depth := fn.depth, params := (List.range (gf.params.size + gf.nfree)).map (pth fn.depth), results := rs, keep := fn.keep, body := b } := by simpa using e.symm
    have eparams : fn.params = (List.range (gf.params.size + gf.nfree)).map (pth fn.depth) := by rw [efn]
    have ebody : fn.body = b := by rw [efn]
    have eres : fn.results = rs := by rw [efn]
    cases ha : argsIn fn.params args .nil with
    | none => rw [ha] at hr; cases hr
    | some F =>
      rw [ha] at hr
      simp only at hr
      have hnd : fn.params.Nodup := by
        rw [eparams]
        exact pth_nodup (by omega)
      obtain ⟨a1, a2⟩ := argsIn_ok _ _ _ _ ha hnd
      have hnp : gf.params.size + gf.nfree = args.length := by rw [← a1, eparams]; simp
      refine calls_of_wp hgf hbody ?_
      have hfits : Fits M g fn.depth gf.ntmps F t.enter { tmps := cargs ++ Array.replicate (gf.ntmps - cargs.size) undef, defers := [] } := by
        refine ⟨⟨by simp; omega, fun u hu => ?_⟩, hS.enter, by simp; omega, rfl⟩
        rw [a2, eparams, idx_pth (by omega) hu]
        by_cases hlt : u < gf.params.size + gf.nfree
        · rw [if_pos hlt]
          simp only
          have h1 := hv u (by omega)
          have e1 : args.getD u .und = args[u]'(by omega) := by simp [List.getD, show u < args.length by omega]
          rw [e1]
          have e2 : (cargs ++ Array.replicate (gf.ntmps - cargs.size) undef).getD u undef = cargs.getD u undef := by
            simp only [Array.getD_eq_getD_getElem?]
            rw [Array.getElem?_append_left (by omega)]
          show VR M g _ ((cargs ++ Array.replicate (gf.ntmps - cargs.size) undef).getD u undef)
          rw [e2]
          exact h1
        · rw [if_neg hlt]
          simp only [Fr.get_nil]
          exact .und _
      have hpost : ∀ R, (∀ F1 t1, (evC call fn.body F t.enter = .norm F1 t1 ∨ evC call fn.body F t.enter = .ret F1 t1) → ∀ g' a', g.Le g' → Fits M g' fn.depth gf.ntmps F1 t1 a' →
          bodyPost P gf R .normal a' g'.w) → c.wp P (bodyPost P gf R) { tmps := cargs ++ Array.replicate (gf.ntmps - cargs.size) undef, defers := [] } g.w := by
        intro R hR
        refine hcode fn.depth gf.ntmps c b hb g F t.enter _ _ hfits ?_
        rw [ebody] at hR hr
        cases hev : evC call b F t.enter with
        | fail => rw [hev] at hr; cases hr
        | norm F1 t1 => exact fun g' a' hle hf' => hR F1 t1 (.inl hev) g' a' hle hf'
        | exit id F1 t1 => rw [hev] at hr; cases hr
        | ret F1 t1 => exact fun g' a' hle hf' => hR F1 t1 (.inr hev) g' a' hle hf'
      refine hpost _ (fun F1 t1 hev g' a' hle hf' => ?_)
      have hafter : afterBody fn F1 t1 = .ok r t' := by
        rcases hev with hev | hev <;> (rw [hev] at hr; exact hr)
      unfold afterBody at hafter
      rw [eres] at hafter
      cases hrv : resultsOf F1 t1 rs with
      | none => rw [hrv] at hafter; cases hafter
      | some vs =>
        rw [hrv] at hafter
        cases hafter
        obtain ⟨ws, w1, w2, w3⟩ := results_ok hf' gf.results.toList rs hrs vs hrv
        refine ⟨hf'.d, if h : ws.toArray.size = 1 then ws.toArray[0] else .tuple ws.toArray, ?_, ?_⟩
        · show (results gf a'.tmps).run P g'.w = _
          rw [results_eq, Array.mapM_eq_mapM_toList]
          simp only [Sem.run_bind, Sem.run_map, w1, Result.andThen_ok, Sem.run_pure]
        · exact ⟨_, g', rfl, rfl, hle, packed_ok w2 w3, hf'.s.leave _ _⟩
  · contradiction

end

end M2
end
section
namespace M2
open Go Go.ChangeShapes Go.WideShapes Go.ChangeAt Go.RowKit

/-! ### A law's call, the calls in it answered by others -/

theorem link1 {P : Program} {M : Maps} {im : FuncId → Option Nat} {tbl : Nat → Option AFunc} (him : ∀ f x, im f = some x → M.fm x = f) (ht : Table P M im tbl)
    {call : CallF} (hcall : CallOK P M call) {id : Nat} {fn : AFunc} (hfn : tbl id = some fn) {avs : List AV} {args : Array Value} {t t' : T} {g : G} (hoth : ∀ b, b < g.w.heap.size → g.μ b = .oth) (hS : SR M g t) (hsz : args.size = avs.length)
    (hv : ∀ i (h : i < avs.length), VR M g avs[i] (args.getD i undef)) (hrun : callC call fn avs t = .ok (.bool true) t') :
    Calls P (M.fm id) args g.w fun e w' => e = .returned (.bool true) ∧ Below g.w.heap.size g.w w' := by
  obtain ⟨-, h⟩ := callC_sound him ht hcall hfn hrun
  refine (h g args hS hsz hv).mono ?_
  rintro e w' ⟨v, g', rfl, rfl, hle, hvr, -⟩
  cases hvr
  exact ⟨rfl, hle.os, hle.tape, hle.output, hle.size, fun k hk => (hle.oth k hk (by rw [hoth k hk]; rfl)).2⟩

theorem law_run1 {P : Program} {M : Maps} {im : FuncId → Option Nat} {tbl : Nat → Option AFunc} (him : ∀ f x, im f = some x → M.fm x = f) (ht : Table P M im tbl)
    {H : Type} {enc : TypeId × Value → H} {W : World} {base id tf : Nat} {t : TypeId} {fs : Array Field} (hu : P.underlying t = some (.struct fs)) (ha : argT P (tf + 1) t = true) {v : Value} {d : DataW H} {p : List MemPlace}
    (hval : Value.okWide P W .any base t v) (htr : DataW.Trod enc P W 0 (fun _ => true) true t v d p)
    {w j i : Nat} {fl : Field} {e : TypeId} (hw : P.cellsOf t = w) (hfl : fs[i]? = some fl) (hoff : fl.offset = j) (hjw : j < w) (hsl : P.underlying fl.type = some (.slice e)) (hc1 : P.cellsOf fl.type = 1) (htf : tf ≠ 0)
    {call : CallF} (hcall : CallOK P M call) {fn : AFunc} (hfn : tbl id = some fn) (hrun : ∀ a, OneSl a → ∃ t', callC call fn [.agg ((List.replicate w AV.und).set j a)] ⟨1, [], []⟩ = .ok (.bool true) t') :
    Calls P (M.fm id) #[v] W fun e W' => e = .returned (.bool true) ∧ Below W.heap.size W W' := by
  obtain ⟨K, hK0, hK⟩ := size_bound W
  obtain ⟨fuel, htr⟩ := htr
  unfold Value.okWide at hval
  rw [hu] at hval
  obtain ⟨cs, rfl, hcs, -⟩ := hval
  obtain ⟨ascs, h1, h2, h3, -⟩ := trod_vr (M := M) hK0 hK fuel (tf + 1) t _ _ ha htr
  have hl : ascs.length = cs.size := by simpa [Value.cells] using h2
  unfold DA at h1
  rw [hu] at h1
  obtain ⟨ps, -, hps, hasl, hf⟩ := h1
  obtain ⟨hi, hfi⟩ := Array.getElem?_eq_some_iff.mp hfl
  have h4 := hf i hi (by omega)
  rw [hfi, hoff, hc1] at h4
  have hjl : j < ascs.length := by rw [hasl, hw]; exact hjw
  have hone : (ascs.drop j).take 1 = [ascs[j]] := by rw [List.drop_eq_getElem_cons hjl]; rfl
  rw [hone] at h4
  have hkind : ascs[j] = .nils ∨ ascs[j] = .sl0 ∨ ∃ id e pos cap alt es, ascs[j] = .sl id e pos cap false alt es := by
    cases tf with
    | zero => exact absurd rfl htf
    | succ tf =>
      unfold DA at h4
      rw [hsl] at h4
      rcases h4 with ⟨-, h⟩ | ⟨elems, spare, es, -, -, -, -, ⟨-, h⟩ | ⟨id, pos, h⟩⟩
      · injection h with h; exact .inl h
      · injection h with h; exact .inr (.inl h)
      · injection h with h; exact .inr (.inr ⟨_, _, _, _, _, _, h⟩)
  have h5 := h3 j (by simpa using hjl)
  obtain ⟨a', pl, ho, hv'⟩ := oneSl_of h5 hkind
  obtain ⟨t', hr⟩ := hrun a' ho
  refine link1 (g := oneG W pl) him ht hcall hfn (fun _ _ => rfl) (oneG_sr M W pl) rfl (fun q hq => ?_) hr
  have hq0 : q = 0 := by simpa using hq
  subst hq0
  simp only [List.getElem_cons_zero]
  refine .agg _ cs (by simp [← hl, hasl, hw]) (fun q hq => ?_)
  by_cases e : j = q
  · subst e
    simp only [List.getElem_set_self]
    simpa [Value.cells, Array.getD_eq_getD_getElem?, List.getD_eq_getElem?_getD] using hv'
  · rw [List.getElem_set_ne e, List.getElem_replicate]
    exact .und _

end M2
end
