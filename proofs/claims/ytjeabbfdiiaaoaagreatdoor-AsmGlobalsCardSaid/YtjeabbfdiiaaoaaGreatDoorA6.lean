/- General ground for the statement: an abstract machine that the program's code is shown to follow, and the contracts of the functions that the law reaches. Part 6. -/
import Derived.Test.YtjeabbfdiiaaoaaGreatDoorA5
import Derived.Test.YtjeabbfdiiaaoaaGreatDoorChecked
import Derived.KernelRfl
import Derived.Lib.IndexBytes
set_option linter.unusedVariables false
set_option linter.unusedSimpArgs false
section
/- The functions of the program compile to those. -/
namespace Go.Proofs.YtjeabbfdiiaaoaaGreatDoor
open Go M2

theorem c152 : cmpF Tryz.prog im 4 false Tryz.f132 = some a152 := by kernel_rfl
theorem c153 : cmpF Tryz.prog im 8 false Tryz.f133 = some a153 := by kernel_rfl
theorem c154 : cmpF Tryz.prog im 6 false Tryz.f36 = some a154 := by kernel_rfl
theorem c155 : cmpF Tryz.prog im 4 false Tryz.f134 = some a155 := by kernel_rfl
theorem c156 : cmpF Tryz.prog im 6 false Tryz.f135 = some a156 := by kernel_rfl
theorem c157 : cmpF Tryz.prog im 8 true Tryz.f136 = some a157 := by kernel_rfl
theorem c158 : cmpF Tryz.prog im 6 false Tryz.f137 = some a158 := by kernel_rfl
theorem c159 : cmpF Tryz.prog im 8 true Tryz.f138 = some a159 := by kernel_rfl
theorem c160 : cmpF Tryz.prog im 8 true Tryz.f139 = some a160 := by kernel_rfl
theorem c161 : cmpF Tryz.prog im 4 false Tryz.f96 = some a161 := by kernel_rfl
theorem c162 : cmpF Tryz.prog im 6 false Tryz.f175 = some a162 := by kernel_rfl
theorem c163 : cmpF Tryz.prog im 8 false Tryz.f176 = some a163 := by kernel_rfl
theorem c164 : cmpF Tryz.prog im 6 false Tryz.f177 = some a164 := by kernel_rfl
theorem c165 : cmpF Tryz.prog im 4 false Tryz.f178 = some a165 := by kernel_rfl
theorem c166 : cmpF Tryz.prog im 9 true Tryz.f179 = some a166 := by kernel_rfl
theorem c167 : cmpF Tryz.prog im 6 true Tryz.f180 = some a167 := by kernel_rfl
theorem c168 : cmpF Tryz.prog im 8 true Tryz.f181 = some a168 := by kernel_rfl
theorem c169 : cmpF Tryz.prog im 8 true Tryz.f182 = some a169 := by kernel_rfl
theorem c170 : cmpF Tryz.prog im 8 true Tryz.f183 = some a170 := by kernel_rfl
theorem c171 : cmpF Tryz.prog im 6 true Tryz.f184 = some a171 := by kernel_rfl
theorem c172 : cmpF Tryz.prog im 6 false Tryz.f41 = some a172 := by kernel_rfl
theorem c173 : cmpF Tryz.prog im 6 false Tryz.f200 = some a173 := by kernel_rfl
theorem c174 : cmpF Tryz.prog im 6 true Tryz.f202 = some a174 := by kernel_rfl
theorem c175 : cmpF Tryz.prog im 6 false Tryz.f73 = some a175 := by kernel_rfl
theorem c176 : cmpF Tryz.prog im 4 false Tryz.f154 = some a176 := by kernel_rfl
theorem c177 : cmpF Tryz.prog im 7 true Tryz.f224 = some a177 := by kernel_rfl
theorem c178 : cmpF Tryz.prog im 4 false Tryz.f225 = some a178 := by kernel_rfl
theorem c179 : cmpF Tryz.prog im 6 false Tryz.f112 = some a179 := by kernel_rfl
theorem c180 : cmpF Tryz.prog im 4 false Tryz.f23 = some a180 := by kernel_rfl
theorem c181 : cmpF Tryz.prog im 6 false Tryz.f187 = some a181 := by kernel_rfl
theorem c182 : cmpF Tryz.prog im 4 false Tryz.f185 = some a182 := by kernel_rfl
theorem c201 : cmpF Tryz.prog im 4 false Tryz.f152 = some a201 := by kernel_rfl
theorem c206 : cmpF Tryz.prog im 6 true Tryz.f42 = some a206 := by kernel_rfl
theorem c214 : cmpF Tryz.prog im 4 false Tryz.f32 = some a214 := by kernel_rfl
theorem c216 : cmpF Tryz.prog im 6 false Tryz.f33 = some a216 := by kernel_rfl
theorem c219 : cmpF Tryz.prog im 6 false Tryz.f210 = some a219 := by kernel_rfl
theorem c222 : cmpF Tryz.prog im 6 false Tryz.f84 = some a222 := by kernel_rfl
theorem c230 : cmpF Tryz.prog im 4 false Tryz.f192 = some a230 := by kernel_rfl
theorem c231 : cmpF Tryz.prog im 6 false Tryz.f118 = some a231 := by kernel_rfl
theorem c236 : cmpF Tryz.prog im 8 false Tryz.f70 = some a236 := by kernel_rfl
theorem c237 : cmpF Tryz.prog im 4 false Tryz.f71 = some a237 := by kernel_rfl
theorem c242 : cmpF Tryz.prog im 6 false Tryz.f205 = some a242 := by kernel_rfl
theorem c250 : cmpF Tryz.prog im 6 false Tryz.f121 = some a250 := by kernel_rfl
theorem c254 : cmpF Tryz.prog im 6 false Tryz.f125 = some a254 := by kernel_rfl
theorem c256 : cmpF Tryz.prog im 6 false Tryz.f127 = some a256 := by kernel_rfl
theorem c259 : cmpF Tryz.prog im 6 false Tryz.f130 = some a259 := by kernel_rfl
theorem c260 : cmpF Tryz.prog im 6 false Tryz.f131 = some a260 := by kernel_rfl
theorem c261 : cmpF Tryz.prog im 4 false Tryz.f234 = some a261 := by kernel_rfl
theorem c262 : cmpF Tryz.prog im 6 false Tryz.f235 = some a262 := by kernel_rfl
theorem c263 : cmpF Tryz.prog im 4 false Tryz.f189 = some a263 := by kernel_rfl
theorem c264 : cmpF Tryz.prog im 4 false Tryz.f190 = some a264 := by kernel_rfl
theorem c265 : cmpF Tryz.prog im 4 false Tryz.f191 = some a265 := by kernel_rfl
theorem c266 : cmpF Tryz.prog im 8 false Tryz.f236 = some a266 := by kernel_rfl
theorem c268 : cmpF Tryz.prog im 4 false Tryz.f199 = some a268 := by kernel_rfl
theorem c274 : cmpF Tryz.prog im 4 false Tryz.f117 = some a274 := by kernel_rfl
theorem c275 : cmpF Tryz.prog im 6 false Tryz.f193 = some a275 := by kernel_rfl
theorem c280 : cmpF Tryz.prog im 6 false Tryz.f21 = some a280 := by kernel_rfl
theorem c283 : cmpF Tryz.prog im 4 false Tryz.f49 = some a283 := by kernel_rfl
theorem c284 : cmpF Tryz.prog im 4 false Tryz.f51 = some a284 := by kernel_rfl
theorem c285 : cmpF Tryz.prog im 6 false Tryz.f52 = some a285 := by kernel_rfl
theorem c287 : cmpF Tryz.prog im 4 false Tryz.f90 = some a287 := by kernel_rfl
theorem c288 : cmpF Tryz.prog im 6 false Tryz.f94 = some a288 := by kernel_rfl
theorem c291 : cmpF Tryz.prog im 8 false Tryz.f163 = some a291 := by kernel_rfl
theorem c292 : cmpF Tryz.prog im 4 false Tryz.f107 = some a292 := by kernel_rfl
theorem c293 : cmpF Tryz.prog im 4 false Tryz.f164 = some a293 := by kernel_rfl
theorem c294 : cmpF Tryz.prog im 6 false Tryz.f165 = some a294 := by kernel_rfl
theorem c300 : cmpF Tryz.prog im 4 false Tryz.f218 = some a300 := by kernel_rfl
theorem c302 : cmpF Tryz.prog im 6 false Tryz.f172 = some a302 := by kernel_rfl

end Go.Proofs.YtjeabbfdiiaaoaaGreatDoor
end
section
/- The functions of the program compile to those. -/
namespace Go.Proofs.YtjeabbfdiiaaoaaGreatDoor
open Go M2

theorem c303 : cmpF Tryz.prog im 8 false Tryz.f220 = some a303 := by kernel_rfl
theorem c304 : cmpF Tryz.prog im 6 false Tryz.f221 = some a304 := by kernel_rfl
theorem c309 : cmpF Tryz.prog im 8 false Tryz.f242 = some a309 := by kernel_rfl
theorem c310 : cmpF Tryz.prog im 4 false Tryz.f243 = some a310 := by kernel_rfl
theorem c311 : cmpF Tryz.prog im 4 false Tryz.f244 = some a311 := by kernel_rfl
theorem c312 : cmpF Tryz.prog im 4 false Tryz.f245 = some a312 := by kernel_rfl
theorem c313 : cmpF Tryz.prog im 4 false Tryz.f246 = some a313 := by kernel_rfl
theorem c320 : cmpF Tryz.prog im 4 false Tryz.f262 = some a320 := by kernel_rfl
theorem c322 : cmpF Tryz.prog im 6 false Tryz.f264 = some a322 := by kernel_rfl
theorem c323 : cmpF Tryz.prog im 4 false Tryz.f265 = some a323 := by kernel_rfl
theorem c345 : cmpF Tryz.prog im 4 false Tryz.f6 = some a345 := by kernel_rfl
theorem c348 : cmpF Tryz.prog im 6 false Tryz.f9 = some a348 := by kernel_rfl
theorem c349 : cmpS Tryz.prog im 6 false Tryz.f10 = some a349 := by kernel_rfl
theorem c352 : cmpF Tryz.prog im 8 true Tryz.f15 = some a352 := by kernel_rfl
theorem c353 : cmpF Tryz.prog im 8 true Tryz.f16 = some a353 := by kernel_rfl
theorem c354 : cmpF Tryz.prog im 4 false Tryz.f17 = some a354 := by kernel_rfl
theorem c355 : cmpF Tryz.prog im 6 false Tryz.f18 = some a355 := by kernel_rfl
theorem c356 : cmpF Tryz.prog im 6 false Tryz.f19 = some a356 := by kernel_rfl
theorem c357 : cmpF Tryz.prog im 4 false Tryz.f20 = some a357 := by kernel_rfl
theorem c358 : cmpF Tryz.prog im 6 false Tryz.f22 = some a358 := by kernel_rfl
theorem c360 : cmpF Tryz.prog im 6 true Tryz.f31 = some a360 := by kernel_rfl
theorem c361 : cmpF Tryz.prog im 6 true Tryz.f35 = some a361 := by kernel_rfl
theorem c362 : cmpF Tryz.prog im 8 true Tryz.f37 = some a362 := by kernel_rfl
theorem c363 : cmpF Tryz.prog im 6 true Tryz.f38 = some a363 := by kernel_rfl
theorem c364 : cmpF Tryz.prog im 8 true Tryz.f39 = some a364 := by kernel_rfl
theorem c365 : cmpF Tryz.prog im 6 true Tryz.f40 = some a365 := by kernel_rfl
theorem c366 : cmpF Tryz.prog im 6 false Tryz.f43 = some a366 := by kernel_rfl
theorem c367 : cmpF Tryz.prog im 6 false Tryz.f45 = some a367 := by kernel_rfl
theorem c368 : cmpF Tryz.prog im 6 false Tryz.f46 = some a368 := by kernel_rfl
theorem c369 : cmpF Tryz.prog im 6 false Tryz.f47 = some a369 := by kernel_rfl
theorem c370 : cmpF Tryz.prog im 4 false Tryz.f48 = some a370 := by kernel_rfl
theorem c372 : cmpF Tryz.prog im 6 true Tryz.f65 = some a372 := by kernel_rfl
theorem c373 : cmpF Tryz.prog im 6 true Tryz.f66 = some a373 := by kernel_rfl
theorem c374 : cmpF Tryz.prog im 6 true Tryz.f67 = some a374 := by kernel_rfl
theorem c375 : cmpF Tryz.prog im 6 true Tryz.f68 = some a375 := by kernel_rfl
theorem c376 : cmpF Tryz.prog im 7 true Tryz.f69 = some a376 := by kernel_rfl
theorem c377 : cmpF Tryz.prog im 4 false Tryz.f76 = some a377 := by kernel_rfl
theorem c378 : cmpF Tryz.prog im 4 false Tryz.f77 = some a378 := by kernel_rfl
theorem c379 : cmpF Tryz.prog im 4 false Tryz.f78 = some a379 := by kernel_rfl
theorem c380 : cmpF Tryz.prog im 4 false Tryz.f79 = some a380 := by kernel_rfl
theorem c381 : cmpF Tryz.prog im 6 false Tryz.f80 = some a381 := by kernel_rfl
theorem c382 : cmpF Tryz.prog im 4 false Tryz.f81 = some a382 := by kernel_rfl
theorem c383 : cmpF Tryz.prog im 8 true Tryz.f82 = some a383 := by kernel_rfl
theorem c384 : cmpF Tryz.prog im 6 false Tryz.f83 = some a384 := by kernel_rfl
theorem c385 : cmpF Tryz.prog im 6 false Tryz.f85 = some a385 := by kernel_rfl
theorem c386 : cmpF Tryz.prog im 8 true Tryz.f86 = some a386 := by kernel_rfl
theorem c387 : cmpF Tryz.prog im 6 false Tryz.f88 = some a387 := by kernel_rfl
theorem c391 : cmpF Tryz.prog im 4 false Tryz.f115 = some a391 := by kernel_rfl
theorem c392 : cmpF Tryz.prog im 6 false Tryz.f116 = some a392 := by kernel_rfl

end Go.Proofs.YtjeabbfdiiaaoaaGreatDoor
end
section
/- The functions of the program compile to those. -/
namespace Go.Proofs.YtjeabbfdiiaaoaaGreatDoor
open Go M2

theorem c393 : cmpF Tryz.prog im 6 false Tryz.f119 = some a393 := by kernel_rfl
theorem c394 : cmpF Tryz.prog im 8 true Tryz.f120 = some a394 := by kernel_rfl
theorem c395 : cmpF Tryz.prog im 4 false Tryz.f142 = some a395 := by kernel_rfl
theorem c396 : cmpF Tryz.prog im 6 false Tryz.f143 = some a396 := by kernel_rfl
theorem c397 : cmpF Tryz.prog im 4 false Tryz.f144 = some a397 := by kernel_rfl
theorem c398 : cmpF Tryz.prog im 4 false Tryz.f145 = some a398 := by kernel_rfl
theorem c399 : cmpF Tryz.prog im 6 false Tryz.f146 = some a399 := by kernel_rfl
theorem c400 : cmpF Tryz.prog im 6 false Tryz.f147 = some a400 := by kernel_rfl
theorem c401 : cmpF Tryz.prog im 6 false Tryz.f148 = some a401 := by kernel_rfl
theorem c402 : cmpF Tryz.prog im 6 true Tryz.f149 = some a402 := by kernel_rfl
theorem c403 : cmpF Tryz.prog im 4 false Tryz.f150 = some a403 := by kernel_rfl
theorem c404 : cmpF Tryz.prog im 6 false Tryz.f151 = some a404 := by kernel_rfl
theorem c405 : cmpF Tryz.prog im 4 false Tryz.f153 = some a405 := by kernel_rfl
theorem c406 : cmpF Tryz.prog im 6 false Tryz.f155 = some a406 := by kernel_rfl
theorem c407 : cmpF Tryz.prog im 6 false Tryz.f156 = some a407 := by kernel_rfl
theorem c408 : cmpF Tryz.prog im 6 false Tryz.f157 = some a408 := by kernel_rfl
theorem c409 : cmpF Tryz.prog im 6 false Tryz.f158 = some a409 := by kernel_rfl
theorem c410 : cmpF Tryz.prog im 6 false Tryz.f159 = some a410 := by kernel_rfl
theorem c411 : cmpF Tryz.prog im 6 false Tryz.f160 = some a411 := by kernel_rfl
theorem c416 : cmpF Tryz.prog im 4 false Tryz.f188 = some a416 := by kernel_rfl
theorem c417 : cmpF Tryz.prog im 6 false Tryz.f204 = some a417 := by kernel_rfl
theorem c418 : cmpF Tryz.prog im 4 false Tryz.f207 = some a418 := by kernel_rfl
theorem c419 : cmpF Tryz.prog im 4 true Tryz.f209 = some a419 := by kernel_rfl
theorem c420 : cmpF Tryz.prog im 4 false Tryz.f211 = some a420 := by kernel_rfl
theorem c421 : cmpF Tryz.prog im 6 false Tryz.f212 = some a421 := by kernel_rfl

end Go.Proofs.YtjeabbfdiiaaoaaGreatDoor
end
section
/- The table of the compiled functions stands for the program. -/
namespace Go.Proofs.YtjeabbfdiiaaoaaGreatDoor
open Go M2

theorem g29 : Here Tryz.prog mp im 29 a29 := Here.of Tryz.f186  (by rw [show mp.fm 29 = 186 from by kernel_rfl]; exact Tryz.func186) c29
theorem g30 : Here Tryz.prog mp im 30 a30 := Here.of Tryz.f113  (by rw [show mp.fm 30 = 113 from by kernel_rfl]; exact Tryz.func113) c30
theorem g31 : Here Tryz.prog mp im 31 a31 := Here.of Tryz.f114  (by rw [show mp.fm 31 = 114 from by kernel_rfl]; exact Tryz.func114) c31
theorem g34 : Here Tryz.prog mp im 34 a34 := Here.of Tryz.f140  (by rw [show mp.fm 34 = 140 from by kernel_rfl]; exact Tryz.func140) c34
theorem g35 : Here Tryz.prog mp im 35 a35 := Here.of Tryz.f74  (by rw [show mp.fm 35 = 74 from by kernel_rfl]; exact Tryz.func74) c35
theorem g36 : Here Tryz.prog mp im 36 a36 := Here.of Tryz.f75  (by rw [show mp.fm 36 = 75 from by kernel_rfl]; exact Tryz.func75) c36
theorem g39 : Here Tryz.prog mp im 39 a39 := Here.of Tryz.f44  (by rw [show mp.fm 39 = 44 from by kernel_rfl]; exact Tryz.func44) c39
theorem g46 : Here Tryz.prog mp im 46 a46 := Here.of Tryz.f141  (by rw [show mp.fm 46 = 141 from by kernel_rfl]; exact Tryz.func141) c46
theorem g48 : Here Tryz.prog mp im 48 a48 := Here.of Tryz.f25  (by rw [show mp.fm 48 = 25 from by kernel_rfl]; exact Tryz.func25) c48
theorem g50 : Here Tryz.prog mp im 50 a50 := Here.of Tryz.f226  (by rw [show mp.fm 50 = 226 from by kernel_rfl]; exact Tryz.func226) c50
theorem g51 : Here Tryz.prog mp im 51 a51 := Here.of Tryz.f104  (by rw [show mp.fm 51 = 104 from by kernel_rfl]; exact Tryz.func104) c51
theorem g52 : Here Tryz.prog mp im 52 a52 := Here.of Tryz.f227  (by rw [show mp.fm 52 = 227 from by kernel_rfl]; exact Tryz.func227) c52
theorem g53 : Here Tryz.prog mp im 53 a53 := Here.of Tryz.f57  (by rw [show mp.fm 53 = 57 from by kernel_rfl]; exact Tryz.func57) c53
theorem g54 : Here Tryz.prog mp im 54 a54 := Here.of Tryz.f261  (by rw [show mp.fm 54 = 261 from by kernel_rfl]; exact Tryz.func261) c54
theorem g55 : Here Tryz.prog mp im 55 a55 := Here.of Tryz.f201  (by rw [show mp.fm 55 = 201 from by kernel_rfl]; exact Tryz.func201) c55
theorem g57 : Here Tryz.prog mp im 57 a57 := Here.of Tryz.f203  (by rw [show mp.fm 57 = 203 from by kernel_rfl]; exact Tryz.func203) c57
theorem g60 : Here Tryz.prog mp im 60 a60 := Here.of Tryz.f56  (by rw [show mp.fm 60 = 56 from by kernel_rfl]; exact Tryz.func56) c60
theorem g61 : Here Tryz.prog mp im 61 a61 := Here.of Tryz.f208  (by rw [show mp.fm 61 = 208 from by kernel_rfl]; exact Tryz.func208) c61
theorem g62 : Here Tryz.prog mp im 62 a62 := Here.of Tryz.f206  (by rw [show mp.fm 62 = 206 from by kernel_rfl]; exact Tryz.func206) c62
theorem g63 : Here Tryz.prog mp im 63 a63 := Here.of Tryz.f251  (by rw [show mp.fm 63 = 251 from by kernel_rfl]; exact Tryz.func251) c63
theorem g64 : Here Tryz.prog mp im 64 a64 := Here.of Tryz.f55  (by rw [show mp.fm 64 = 55 from by kernel_rfl]; exact Tryz.func55) c64
theorem g65 : Here Tryz.prog mp im 65 a65 := Here.of Tryz.f167  (by rw [show mp.fm 65 = 167 from by kernel_rfl]; exact Tryz.func167) c65
theorem g66 : Here Tryz.prog mp im 66 a66 := Here.of Tryz.f168  (by rw [show mp.fm 66 = 168 from by kernel_rfl]; exact Tryz.func168) c66
theorem g67 : Here Tryz.prog mp im 67 a67 := Here.of Tryz.f252  (by rw [show mp.fm 67 = 252 from by kernel_rfl]; exact Tryz.func252) c67
theorem g68 : Here Tryz.prog mp im 68 a68 := Here.of Tryz.f253  (by rw [show mp.fm 68 = 253 from by kernel_rfl]; exact Tryz.func253) c68
theorem g69 : Here Tryz.prog mp im 69 a69 := Here.of Tryz.f254  (by rw [show mp.fm 69 = 254 from by kernel_rfl]; exact Tryz.func254) c69
theorem g70 : Here Tryz.prog mp im 70 a70 := Here.of Tryz.f255  (by rw [show mp.fm 70 = 255 from by kernel_rfl]; exact Tryz.func255) c70
theorem g71 : Here Tryz.prog mp im 71 a71 := Here.of Tryz.f256  (by rw [show mp.fm 71 = 256 from by kernel_rfl]; exact Tryz.func256) c71
theorem g72 : Here Tryz.prog mp im 72 a72 := Here.of Tryz.f257  (by rw [show mp.fm 72 = 257 from by kernel_rfl]; exact Tryz.func257) c72
theorem g73 : Here Tryz.prog mp im 73 a73 := Here.of Tryz.f230  (by rw [show mp.fm 73 = 230 from by kernel_rfl]; exact Tryz.func230) c73
theorem g74 : Here Tryz.prog mp im 74 a74 := Here.of Tryz.f231  (by rw [show mp.fm 74 = 231 from by kernel_rfl]; exact Tryz.func231) c74
theorem g75 : Here Tryz.prog mp im 75 a75 := Here.of Tryz.f232  (by rw [show mp.fm 75 = 232 from by kernel_rfl]; exact Tryz.func232) c75
theorem g76 : Here Tryz.prog mp im 76 a76 := Here.of Tryz.f233  (by rw [show mp.fm 76 = 233 from by kernel_rfl]; exact Tryz.func233) c76
theorem g77 : Here Tryz.prog mp im 77 a77 := Here.of Tryz.f99  (by rw [show mp.fm 77 = 99 from by kernel_rfl]; exact Tryz.func99) c77
theorem g78 : Here Tryz.prog mp im 78 a78 := Here.of Tryz.f100  (by rw [show mp.fm 78 = 100 from by kernel_rfl]; exact Tryz.func100) c78
theorem g79 : Here Tryz.prog mp im 79 a79 := Here.of Tryz.f101  (by rw [show mp.fm 79 = 101 from by kernel_rfl]; exact Tryz.func101) c79
theorem g80 : Here Tryz.prog mp im 80 a80 := Here.of Tryz.f102  (by rw [show mp.fm 80 = 102 from by kernel_rfl]; exact Tryz.func102) c80
theorem g81 : Here Tryz.prog mp im 81 a81 := Here.of Tryz.f238  (by rw [show mp.fm 81 = 238 from by kernel_rfl]; exact Tryz.func238) c81
theorem g82 : Here Tryz.prog mp im 82 a82 := Here.of Tryz.f54  (by rw [show mp.fm 82 = 54 from by kernel_rfl]; exact Tryz.func54) c82
theorem g83 : Here Tryz.prog mp im 83 a83 := Here.of Tryz.f237  (by rw [show mp.fm 83 = 237 from by kernel_rfl]; exact Tryz.func237) c83
theorem g84 : Here Tryz.prog mp im 84 a84 := Here.of Tryz.f98  (by rw [show mp.fm 84 = 98 from by kernel_rfl]; exact Tryz.func98) c84
theorem g85 : Here Tryz.prog mp im 85 a85 := Here.of Tryz.f91  (by rw [show mp.fm 85 = 91 from by kernel_rfl]; exact Tryz.func91) c85
theorem g86 : Here Tryz.prog mp im 86 a86 := Here.of Tryz.f50  (by rw [show mp.fm 86 = 50 from by kernel_rfl]; exact Tryz.func50) c86
theorem g87 : Here Tryz.prog mp im 87 a87 := Here.of Tryz.f92  (by rw [show mp.fm 87 = 92 from by kernel_rfl]; exact Tryz.func92) c87
theorem g88 : Here Tryz.prog mp im 88 a88 := Here.of Tryz.f95  (by rw [show mp.fm 88 = 95 from by kernel_rfl]; exact Tryz.func95) c88
theorem g89 : Here Tryz.prog mp im 89 a89 := Here.of Tryz.f270  (by rw [show mp.fm 89 = 270 from by kernel_rfl]; exact Tryz.func270) c89
theorem g90 : Here Tryz.prog mp im 90 a90 := Here.of Tryz.f271  (by rw [show mp.fm 90 = 271 from by kernel_rfl]; exact Tryz.func271) c90
theorem g91 : Here Tryz.prog mp im 91 a91 := Here.of Tryz.f272  (by rw [show mp.fm 91 = 272 from by kernel_rfl]; exact Tryz.func272) c91
theorem g92 : Here Tryz.prog mp im 92 a92 := Here.of Tryz.f273  (by rw [show mp.fm 92 = 273 from by kernel_rfl]; exact Tryz.func273) c92
theorem g93 : Here Tryz.prog mp im 93 a93 := Here.of Tryz.f260  (by rw [show mp.fm 93 = 260 from by kernel_rfl]; exact Tryz.func260) c93
theorem g94 : Here Tryz.prog mp im 94 a94 := Here.of Tryz.f97  (by rw [show mp.fm 94 = 97 from by kernel_rfl]; exact Tryz.func97) c94
theorem g95 : Here Tryz.prog mp im 95 a95 := Here.of Tryz.f93  (by rw [show mp.fm 95 = 93 from by kernel_rfl]; exact Tryz.func93) c95
theorem g96 : Here Tryz.prog mp im 96 a96 := Here.of Tryz.f166  (by rw [show mp.fm 96 = 166 from by kernel_rfl]; exact Tryz.func166) c96
theorem g97 : Here Tryz.prog mp im 97 a97 := Here.of Tryz.f277  (by rw [show mp.fm 97 = 277 from by kernel_rfl]; exact Tryz.func277) c97
theorem g98 : Here Tryz.prog mp im 98 a98 := Here.of Tryz.f278  (by rw [show mp.fm 98 = 278 from by kernel_rfl]; exact Tryz.func278) c98
theorem g99 : Here Tryz.prog mp im 99 a99 := Here.of Tryz.f216  (by rw [show mp.fm 99 = 216 from by kernel_rfl]; exact Tryz.func216) c99
theorem g100 : Here Tryz.prog mp im 100 a100 := Here.of Tryz.f281  (by rw [show mp.fm 100 = 281 from by kernel_rfl]; exact Tryz.func281) c100
theorem g130 : Here Tryz.prog mp im 130 a130 := Here.of Tryz.f30  (by rw [show mp.fm 130 = 30 from by kernel_rfl]; exact Tryz.func30) c130
theorem g132 : Here Tryz.prog mp im 132 a132 := Here.of Tryz.f34  (by rw [show mp.fm 132 = 34 from by kernel_rfl]; exact Tryz.func34) c132
theorem g139 : Here Tryz.prog mp im 139 a139 := Here.of Tryz.f11  (by rw [show mp.fm 139 = 11 from by kernel_rfl]; exact Tryz.func11) c139
theorem g141 : Here Tryz.prog mp im 141 a141 := Here.of Tryz.f59  (by rw [show mp.fm 141 = 59 from by kernel_rfl]; exact Tryz.func59) c141
theorem g142 : Here Tryz.prog mp im 142 a142 := Here.of Tryz.f64  (by rw [show mp.fm 142 = 64 from by kernel_rfl]; exact Tryz.func64) c142
theorem g143 : Here Tryz.prog mp im 143 a143 := Here.of Tryz.f27  (by rw [show mp.fm 143 = 27 from by kernel_rfl]; exact Tryz.func27) c143
theorem g144 : Here Tryz.prog mp im 144 a144 := Here.of Tryz.f72  (by rw [show mp.fm 144 = 72 from by kernel_rfl]; exact Tryz.func72) c144
theorem g147 : Here Tryz.prog mp im 147 a147 := Here.of Tryz.f24  (by rw [show mp.fm 147 = 24 from by kernel_rfl]; exact Tryz.func24) c147
theorem g148 : Here Tryz.prog mp im 148 a148 := Here.of Tryz.f26  (by rw [show mp.fm 148 = 26 from by kernel_rfl]; exact Tryz.func26) c148
theorem g149 : Here Tryz.prog mp im 149 a149 := Here.of Tryz.f103  (by rw [show mp.fm 149 = 103 from by kernel_rfl]; exact Tryz.func103) c149
theorem g150 : Here Tryz.prog mp im 150 a150 := Here.of Tryz.f53  (by rw [show mp.fm 150 = 53 from by kernel_rfl]; exact Tryz.func53) c150
theorem g151 : Here Tryz.prog mp im 151 a151 := Here.of Tryz.f111  (by rw [show mp.fm 151 = 111 from by kernel_rfl]; exact Tryz.func111) c151
theorem g152 : Here Tryz.prog mp im 152 a152 := Here.of Tryz.f132  (by rw [show mp.fm 152 = 132 from by kernel_rfl]; exact Tryz.func132) c152
theorem g153 : Here Tryz.prog mp im 153 a153 := Here.of Tryz.f133  (by rw [show mp.fm 153 = 133 from by kernel_rfl]; exact Tryz.func133) c153
theorem g154 : Here Tryz.prog mp im 154 a154 := Here.of Tryz.f36  (by rw [show mp.fm 154 = 36 from by kernel_rfl]; exact Tryz.func36) c154
theorem g155 : Here Tryz.prog mp im 155 a155 := Here.of Tryz.f134  (by rw [show mp.fm 155 = 134 from by kernel_rfl]; exact Tryz.func134) c155
theorem g156 : Here Tryz.prog mp im 156 a156 := Here.of Tryz.f135  (by rw [show mp.fm 156 = 135 from by kernel_rfl]; exact Tryz.func135) c156
theorem g157 : Here Tryz.prog mp im 157 a157 := Here.of Tryz.f136  (by rw [show mp.fm 157 = 136 from by kernel_rfl]; exact Tryz.func136) c157
theorem g158 : Here Tryz.prog mp im 158 a158 := Here.of Tryz.f137  (by rw [show mp.fm 158 = 137 from by kernel_rfl]; exact Tryz.func137) c158
theorem g159 : Here Tryz.prog mp im 159 a159 := Here.of Tryz.f138  (by rw [show mp.fm 159 = 138 from by kernel_rfl]; exact Tryz.func138) c159
theorem g160 : Here Tryz.prog mp im 160 a160 := Here.of Tryz.f139  (by rw [show mp.fm 160 = 139 from by kernel_rfl]; exact Tryz.func139) c160
theorem g161 : Here Tryz.prog mp im 161 a161 := Here.of Tryz.f96  (by rw [show mp.fm 161 = 96 from by kernel_rfl]; exact Tryz.func96) c161
theorem g162 : Here Tryz.prog mp im 162 a162 := Here.of Tryz.f175  (by rw [show mp.fm 162 = 175 from by kernel_rfl]; exact Tryz.func175) c162
theorem g163 : Here Tryz.prog mp im 163 a163 := Here.of Tryz.f176  (by rw [show mp.fm 163 = 176 from by kernel_rfl]; exact Tryz.func176) c163
theorem g164 : Here Tryz.prog mp im 164 a164 := Here.of Tryz.f177  (by rw [show mp.fm 164 = 177 from by kernel_rfl]; exact Tryz.func177) c164
theorem g165 : Here Tryz.prog mp im 165 a165 := Here.of Tryz.f178  (by rw [show mp.fm 165 = 178 from by kernel_rfl]; exact Tryz.func178) c165
theorem g166 : Here Tryz.prog mp im 166 a166 := Here.of Tryz.f179  (by rw [show mp.fm 166 = 179 from by kernel_rfl]; exact Tryz.func179) c166
theorem g167 : Here Tryz.prog mp im 167 a167 := Here.of Tryz.f180  (by rw [show mp.fm 167 = 180 from by kernel_rfl]; exact Tryz.func180) c167
theorem g168 : Here Tryz.prog mp im 168 a168 := Here.of Tryz.f181  (by rw [show mp.fm 168 = 181 from by kernel_rfl]; exact Tryz.func181) c168
theorem g169 : Here Tryz.prog mp im 169 a169 := Here.of Tryz.f182  (by rw [show mp.fm 169 = 182 from by kernel_rfl]; exact Tryz.func182) c169
theorem g170 : Here Tryz.prog mp im 170 a170 := Here.of Tryz.f183  (by rw [show mp.fm 170 = 183 from by kernel_rfl]; exact Tryz.func183) c170
theorem g171 : Here Tryz.prog mp im 171 a171 := Here.of Tryz.f184  (by rw [show mp.fm 171 = 184 from by kernel_rfl]; exact Tryz.func184) c171
theorem g172 : Here Tryz.prog mp im 172 a172 := Here.of Tryz.f41  (by rw [show mp.fm 172 = 41 from by kernel_rfl]; exact Tryz.func41) c172
theorem g173 : Here Tryz.prog mp im 173 a173 := Here.of Tryz.f200  (by rw [show mp.fm 173 = 200 from by kernel_rfl]; exact Tryz.func200) c173
theorem g174 : Here Tryz.prog mp im 174 a174 := Here.of Tryz.f202  (by rw [show mp.fm 174 = 202 from by kernel_rfl]; exact Tryz.func202) c174
theorem g175 : Here Tryz.prog mp im 175 a175 := Here.of Tryz.f73  (by rw [show mp.fm 175 = 73 from by kernel_rfl]; exact Tryz.func73) c175
theorem g176 : Here Tryz.prog mp im 176 a176 := Here.of Tryz.f154  (by rw [show mp.fm 176 = 154 from by kernel_rfl]; exact Tryz.func154) c176
theorem g177 : Here Tryz.prog mp im 177 a177 := Here.of Tryz.f224  (by rw [show mp.fm 177 = 224 from by kernel_rfl]; exact Tryz.func224) c177
theorem g178 : Here Tryz.prog mp im 178 a178 := Here.of Tryz.f225  (by rw [show mp.fm 178 = 225 from by kernel_rfl]; exact Tryz.func225) c178
theorem g179 : Here Tryz.prog mp im 179 a179 := Here.of Tryz.f112  (by rw [show mp.fm 179 = 112 from by kernel_rfl]; exact Tryz.func112) c179
theorem g180 : Here Tryz.prog mp im 180 a180 := Here.of Tryz.f23  (by rw [show mp.fm 180 = 23 from by kernel_rfl]; exact Tryz.func23) c180
theorem g181 : Here Tryz.prog mp im 181 a181 := Here.of Tryz.f187  (by rw [show mp.fm 181 = 187 from by kernel_rfl]; exact Tryz.func187) c181
theorem g182 : Here Tryz.prog mp im 182 a182 := Here.of Tryz.f185  (by rw [show mp.fm 182 = 185 from by kernel_rfl]; exact Tryz.func185) c182
theorem g201 : Here Tryz.prog mp im 201 a201 := Here.of Tryz.f152  (by rw [show mp.fm 201 = 152 from by kernel_rfl]; exact Tryz.func152) c201
theorem g206 : Here Tryz.prog mp im 206 a206 := Here.of Tryz.f42  (by rw [show mp.fm 206 = 42 from by kernel_rfl]; exact Tryz.func42) c206
theorem g214 : Here Tryz.prog mp im 214 a214 := Here.of Tryz.f32  (by rw [show mp.fm 214 = 32 from by kernel_rfl]; exact Tryz.func32) c214
theorem g216 : Here Tryz.prog mp im 216 a216 := Here.of Tryz.f33  (by rw [show mp.fm 216 = 33 from by kernel_rfl]; exact Tryz.func33) c216
theorem g219 : Here Tryz.prog mp im 219 a219 := Here.of Tryz.f210  (by rw [show mp.fm 219 = 210 from by kernel_rfl]; exact Tryz.func210) c219
theorem g222 : Here Tryz.prog mp im 222 a222 := Here.of Tryz.f84  (by rw [show mp.fm 222 = 84 from by kernel_rfl]; exact Tryz.func84) c222
theorem g230 : Here Tryz.prog mp im 230 a230 := Here.of Tryz.f192  (by rw [show mp.fm 230 = 192 from by kernel_rfl]; exact Tryz.func192) c230
theorem g231 : Here Tryz.prog mp im 231 a231 := Here.of Tryz.f118  (by rw [show mp.fm 231 = 118 from by kernel_rfl]; exact Tryz.func118) c231
theorem g236 : Here Tryz.prog mp im 236 a236 := Here.of Tryz.f70  (by rw [show mp.fm 236 = 70 from by kernel_rfl]; exact Tryz.func70) c236
theorem g237 : Here Tryz.prog mp im 237 a237 := Here.of Tryz.f71  (by rw [show mp.fm 237 = 71 from by kernel_rfl]; exact Tryz.func71) c237
theorem g242 : Here Tryz.prog mp im 242 a242 := Here.of Tryz.f205  (by rw [show mp.fm 242 = 205 from by kernel_rfl]; exact Tryz.func205) c242
theorem g250 : Here Tryz.prog mp im 250 a250 := Here.of Tryz.f121  (by rw [show mp.fm 250 = 121 from by kernel_rfl]; exact Tryz.func121) c250
theorem g254 : Here Tryz.prog mp im 254 a254 := Here.of Tryz.f125  (by rw [show mp.fm 254 = 125 from by kernel_rfl]; exact Tryz.func125) c254
theorem g256 : Here Tryz.prog mp im 256 a256 := Here.of Tryz.f127  (by rw [show mp.fm 256 = 127 from by kernel_rfl]; exact Tryz.func127) c256
theorem g259 : Here Tryz.prog mp im 259 a259 := Here.of Tryz.f130  (by rw [show mp.fm 259 = 130 from by kernel_rfl]; exact Tryz.func130) c259
theorem g260 : Here Tryz.prog mp im 260 a260 := Here.of Tryz.f131  (by rw [show mp.fm 260 = 131 from by kernel_rfl]; exact Tryz.func131) c260
theorem g261 : Here Tryz.prog mp im 261 a261 := Here.of Tryz.f234  (by rw [show mp.fm 261 = 234 from by kernel_rfl]; exact Tryz.func234) c261
theorem g262 : Here Tryz.prog mp im 262 a262 := Here.of Tryz.f235  (by rw [show mp.fm 262 = 235 from by kernel_rfl]; exact Tryz.func235) c262
theorem g263 : Here Tryz.prog mp im 263 a263 := Here.of Tryz.f189  (by rw [show mp.fm 263 = 189 from by kernel_rfl]; exact Tryz.func189) c263
theorem g264 : Here Tryz.prog mp im 264 a264 := Here.of Tryz.f190  (by rw [show mp.fm 264 = 190 from by kernel_rfl]; exact Tryz.func190) c264
theorem g265 : Here Tryz.prog mp im 265 a265 := Here.of Tryz.f191  (by rw [show mp.fm 265 = 191 from by kernel_rfl]; exact Tryz.func191) c265
theorem g266 : Here Tryz.prog mp im 266 a266 := Here.of Tryz.f236  (by rw [show mp.fm 266 = 236 from by kernel_rfl]; exact Tryz.func236) c266
theorem g268 : Here Tryz.prog mp im 268 a268 := Here.of Tryz.f199  (by rw [show mp.fm 268 = 199 from by kernel_rfl]; exact Tryz.func199) c268
theorem g274 : Here Tryz.prog mp im 274 a274 := Here.of Tryz.f117  (by rw [show mp.fm 274 = 117 from by kernel_rfl]; exact Tryz.func117) c274
theorem g275 : Here Tryz.prog mp im 275 a275 := Here.of Tryz.f193  (by rw [show mp.fm 275 = 193 from by kernel_rfl]; exact Tryz.func193) c275
theorem g280 : Here Tryz.prog mp im 280 a280 := Here.of Tryz.f21  (by rw [show mp.fm 280 = 21 from by kernel_rfl]; exact Tryz.func21) c280
theorem g283 : Here Tryz.prog mp im 283 a283 := Here.of Tryz.f49  (by rw [show mp.fm 283 = 49 from by kernel_rfl]; exact Tryz.func49) c283
theorem g284 : Here Tryz.prog mp im 284 a284 := Here.of Tryz.f51  (by rw [show mp.fm 284 = 51 from by kernel_rfl]; exact Tryz.func51) c284
theorem g285 : Here Tryz.prog mp im 285 a285 := Here.of Tryz.f52  (by rw [show mp.fm 285 = 52 from by kernel_rfl]; exact Tryz.func52) c285
theorem g287 : Here Tryz.prog mp im 287 a287 := Here.of Tryz.f90  (by rw [show mp.fm 287 = 90 from by kernel_rfl]; exact Tryz.func90) c287
theorem g288 : Here Tryz.prog mp im 288 a288 := Here.of Tryz.f94  (by rw [show mp.fm 288 = 94 from by kernel_rfl]; exact Tryz.func94) c288
theorem f289 : mp.fm 289 = 110 := by kernel_rfl
theorem g289 : Here Tryz.prog mp im 289 a289 := Here.prim rfl (prim_itoa (by rw [f289]; exact ⟨Tryz.f110, Tryz.func110, by kernel_rfl, by kernel_rfl⟩) (by rw [f289]; exact Tryz.strconv_Itoa_small))
theorem f290 : mp.fm 290 = 87 := by kernel_rfl
theorem g290 : Here Tryz.prog mp im 290 a290 := Here.prim rfl (prim_joinm (by rw [f290]; exact ⟨Tryz.f87, Tryz.func87, by kernel_rfl, by kernel_rfl⟩) (by rw [f290]; exact Tryz.strings_Join_none) (by rw [f290]; exact Tryz.strings_Join))
theorem g291 : Here Tryz.prog mp im 291 a291 := Here.of Tryz.f163  (by rw [show mp.fm 291 = 163 from by kernel_rfl]; exact Tryz.func163) c291
theorem g292 : Here Tryz.prog mp im 292 a292 := Here.of Tryz.f107  (by rw [show mp.fm 292 = 107 from by kernel_rfl]; exact Tryz.func107) c292
theorem g293 : Here Tryz.prog mp im 293 a293 := Here.of Tryz.f164  (by rw [show mp.fm 293 = 164 from by kernel_rfl]; exact Tryz.func164) c293
theorem g294 : Here Tryz.prog mp im 294 a294 := Here.of Tryz.f165  (by rw [show mp.fm 294 = 165 from by kernel_rfl]; exact Tryz.func165) c294
theorem g300 : Here Tryz.prog mp im 300 a300 := Here.of Tryz.f218  (by rw [show mp.fm 300 = 218 from by kernel_rfl]; exact Tryz.func218) c300
theorem g302 : Here Tryz.prog mp im 302 a302 := Here.of Tryz.f172  (by rw [show mp.fm 302 = 172 from by kernel_rfl]; exact Tryz.func172) c302
theorem g303 : Here Tryz.prog mp im 303 a303 := Here.of Tryz.f220  (by rw [show mp.fm 303 = 220 from by kernel_rfl]; exact Tryz.func220) c303
theorem g304 : Here Tryz.prog mp im 304 a304 := Here.of Tryz.f221  (by rw [show mp.fm 304 = 221 from by kernel_rfl]; exact Tryz.func221) c304
theorem g309 : Here Tryz.prog mp im 309 a309 := Here.of Tryz.f242  (by rw [show mp.fm 309 = 242 from by kernel_rfl]; exact Tryz.func242) c309
theorem g310 : Here Tryz.prog mp im 310 a310 := Here.of Tryz.f243  (by rw [show mp.fm 310 = 243 from by kernel_rfl]; exact Tryz.func243) c310
theorem g311 : Here Tryz.prog mp im 311 a311 := Here.of Tryz.f244  (by rw [show mp.fm 311 = 244 from by kernel_rfl]; exact Tryz.func244) c311
theorem g312 : Here Tryz.prog mp im 312 a312 := Here.of Tryz.f245  (by rw [show mp.fm 312 = 245 from by kernel_rfl]; exact Tryz.func245) c312
theorem g313 : Here Tryz.prog mp im 313 a313 := Here.of Tryz.f246  (by rw [show mp.fm 313 = 246 from by kernel_rfl]; exact Tryz.func246) c313
theorem g320 : Here Tryz.prog mp im 320 a320 := Here.of Tryz.f262  (by rw [show mp.fm 320 = 262 from by kernel_rfl]; exact Tryz.func262) c320
theorem g322 : Here Tryz.prog mp im 322 a322 := Here.of Tryz.f264  (by rw [show mp.fm 322 = 264 from by kernel_rfl]; exact Tryz.func264) c322
theorem g323 : Here Tryz.prog mp im 323 a323 := Here.of Tryz.f265  (by rw [show mp.fm 323 = 265 from by kernel_rfl]; exact Tryz.func265) c323
theorem g345 : Here Tryz.prog mp im 345 a345 := Here.of Tryz.f6  (by rw [show mp.fm 345 = 6 from by kernel_rfl]; exact Tryz.func6) c345
theorem g348 : Here Tryz.prog mp im 348 a348 := Here.of Tryz.f9  (by rw [show mp.fm 348 = 9 from by kernel_rfl]; exact Tryz.func9) c348
theorem g349 : Here Tryz.prog mp im 349 a349 := Here.scope Tryz.f10 6 (by rw [show mp.fm 349 = 10 from by kernel_rfl]; exact Tryz.func10) c349
theorem g352 : Here Tryz.prog mp im 352 a352 := Here.of Tryz.f15  (by rw [show mp.fm 352 = 15 from by kernel_rfl]; exact Tryz.func15) c352
theorem g353 : Here Tryz.prog mp im 353 a353 := Here.of Tryz.f16  (by rw [show mp.fm 353 = 16 from by kernel_rfl]; exact Tryz.func16) c353
theorem g354 : Here Tryz.prog mp im 354 a354 := Here.of Tryz.f17  (by rw [show mp.fm 354 = 17 from by kernel_rfl]; exact Tryz.func17) c354
theorem g355 : Here Tryz.prog mp im 355 a355 := Here.of Tryz.f18  (by rw [show mp.fm 355 = 18 from by kernel_rfl]; exact Tryz.func18) c355
theorem g356 : Here Tryz.prog mp im 356 a356 := Here.of Tryz.f19  (by rw [show mp.fm 356 = 19 from by kernel_rfl]; exact Tryz.func19) c356
theorem g357 : Here Tryz.prog mp im 357 a357 := Here.of Tryz.f20  (by rw [show mp.fm 357 = 20 from by kernel_rfl]; exact Tryz.func20) c357
theorem g358 : Here Tryz.prog mp im 358 a358 := Here.of Tryz.f22  (by rw [show mp.fm 358 = 22 from by kernel_rfl]; exact Tryz.func22) c358
theorem g360 : Here Tryz.prog mp im 360 a360 := Here.of Tryz.f31  (by rw [show mp.fm 360 = 31 from by kernel_rfl]; exact Tryz.func31) c360
theorem g361 : Here Tryz.prog mp im 361 a361 := Here.of Tryz.f35  (by rw [show mp.fm 361 = 35 from by kernel_rfl]; exact Tryz.func35) c361
theorem g362 : Here Tryz.prog mp im 362 a362 := Here.of Tryz.f37  (by rw [show mp.fm 362 = 37 from by kernel_rfl]; exact Tryz.func37) c362
theorem g363 : Here Tryz.prog mp im 363 a363 := Here.of Tryz.f38  (by rw [show mp.fm 363 = 38 from by kernel_rfl]; exact Tryz.func38) c363
theorem g364 : Here Tryz.prog mp im 364 a364 := Here.of Tryz.f39  (by rw [show mp.fm 364 = 39 from by kernel_rfl]; exact Tryz.func39) c364
theorem g365 : Here Tryz.prog mp im 365 a365 := Here.of Tryz.f40  (by rw [show mp.fm 365 = 40 from by kernel_rfl]; exact Tryz.func40) c365
theorem g366 : Here Tryz.prog mp im 366 a366 := Here.of Tryz.f43  (by rw [show mp.fm 366 = 43 from by kernel_rfl]; exact Tryz.func43) c366
theorem g367 : Here Tryz.prog mp im 367 a367 := Here.of Tryz.f45  (by rw [show mp.fm 367 = 45 from by kernel_rfl]; exact Tryz.func45) c367
theorem g368 : Here Tryz.prog mp im 368 a368 := Here.of Tryz.f46  (by rw [show mp.fm 368 = 46 from by kernel_rfl]; exact Tryz.func46) c368
theorem g369 : Here Tryz.prog mp im 369 a369 := Here.of Tryz.f47  (by rw [show mp.fm 369 = 47 from by kernel_rfl]; exact Tryz.func47) c369
theorem g370 : Here Tryz.prog mp im 370 a370 := Here.of Tryz.f48  (by rw [show mp.fm 370 = 48 from by kernel_rfl]; exact Tryz.func48) c370
theorem g372 : Here Tryz.prog mp im 372 a372 := Here.of Tryz.f65  (by rw [show mp.fm 372 = 65 from by kernel_rfl]; exact Tryz.func65) c372
theorem g373 : Here Tryz.prog mp im 373 a373 := Here.of Tryz.f66  (by rw [show mp.fm 373 = 66 from by kernel_rfl]; exact Tryz.func66) c373
theorem g374 : Here Tryz.prog mp im 374 a374 := Here.of Tryz.f67  (by rw [show mp.fm 374 = 67 from by kernel_rfl]; exact Tryz.func67) c374
theorem g375 : Here Tryz.prog mp im 375 a375 := Here.of Tryz.f68  (by rw [show mp.fm 375 = 68 from by kernel_rfl]; exact Tryz.func68) c375
theorem g376 : Here Tryz.prog mp im 376 a376 := Here.of Tryz.f69  (by rw [show mp.fm 376 = 69 from by kernel_rfl]; exact Tryz.func69) c376
theorem g377 : Here Tryz.prog mp im 377 a377 := Here.of Tryz.f76  (by rw [show mp.fm 377 = 76 from by kernel_rfl]; exact Tryz.func76) c377
theorem g378 : Here Tryz.prog mp im 378 a378 := Here.of Tryz.f77  (by rw [show mp.fm 378 = 77 from by kernel_rfl]; exact Tryz.func77) c378
theorem g379 : Here Tryz.prog mp im 379 a379 := Here.of Tryz.f78  (by rw [show mp.fm 379 = 78 from by kernel_rfl]; exact Tryz.func78) c379
theorem g380 : Here Tryz.prog mp im 380 a380 := Here.of Tryz.f79  (by rw [show mp.fm 380 = 79 from by kernel_rfl]; exact Tryz.func79) c380
theorem g381 : Here Tryz.prog mp im 381 a381 := Here.of Tryz.f80  (by rw [show mp.fm 381 = 80 from by kernel_rfl]; exact Tryz.func80) c381
theorem g382 : Here Tryz.prog mp im 382 a382 := Here.of Tryz.f81  (by rw [show mp.fm 382 = 81 from by kernel_rfl]; exact Tryz.func81) c382
theorem g383 : Here Tryz.prog mp im 383 a383 := Here.of Tryz.f82  (by rw [show mp.fm 383 = 82 from by kernel_rfl]; exact Tryz.func82) c383
theorem g384 : Here Tryz.prog mp im 384 a384 := Here.of Tryz.f83  (by rw [show mp.fm 384 = 83 from by kernel_rfl]; exact Tryz.func83) c384
theorem g385 : Here Tryz.prog mp im 385 a385 := Here.of Tryz.f85  (by rw [show mp.fm 385 = 85 from by kernel_rfl]; exact Tryz.func85) c385
theorem g386 : Here Tryz.prog mp im 386 a386 := Here.of Tryz.f86  (by rw [show mp.fm 386 = 86 from by kernel_rfl]; exact Tryz.func86) c386
theorem g387 : Here Tryz.prog mp im 387 a387 := Here.of Tryz.f88  (by rw [show mp.fm 387 = 88 from by kernel_rfl]; exact Tryz.func88) c387
theorem f388 : mp.fm 388 = 89 := by kernel_rfl
theorem lays221 : Go.Proofs.Lays.n221 Tryz.prog Tryz.lays146_ren := { Tryz.lays146 with }
theorem lays143 : Go.Proofs.Lays.n143 Tryz.prog Tryz.lays146_ren := { Tryz.lays146 with }
theorem lays138 : Go.Proofs.Lays.n138 Tryz.prog Tryz.lays146_ren := { Tryz.lays146 with }
theorem g388 : Here Tryz.prog mp im 388 a388 := Here.prim rfl (prim_split (by rw [f388]; exact ⟨Tryz.f89, Tryz.func89, by kernel_rfl, by kernel_rfl⟩) (e := Tryz.lays146_ren.t 9) (fun s c N w h1 h2 => by
  rw [f388]
  exact Any.strings_genSplit_core lays221 (by kernel_rfl) s ⟨#[c]⟩ 0 (-1) N w h1 (by simp [ByteArray.size]) (Nat.zero_le _)
    (fun x cs _ => (Any.strings_Index_one lays143 x c _).mono (by rintro e w' ⟨rfl, rfl⟩; exact ⟨by rw [Lib.indexB, Lib.index_one], rfl⟩))
    ((Any.strings_Count_one lays138 s c w).mono (by rintro e w' ⟨rfl, rfl⟩; exact ⟨by rw [Lib.countB, Lib.count_one]; rfl, rfl⟩))
    (by decide) (by decide) (by rw [if_pos (by decide)]; exact h2)))
theorem g391 : Here Tryz.prog mp im 391 a391 := Here.of Tryz.f115  (by rw [show mp.fm 391 = 115 from by kernel_rfl]; exact Tryz.func115) c391
theorem g392 : Here Tryz.prog mp im 392 a392 := Here.of Tryz.f116  (by rw [show mp.fm 392 = 116 from by kernel_rfl]; exact Tryz.func116) c392
theorem g393 : Here Tryz.prog mp im 393 a393 := Here.of Tryz.f119  (by rw [show mp.fm 393 = 119 from by kernel_rfl]; exact Tryz.func119) c393
theorem g394 : Here Tryz.prog mp im 394 a394 := Here.of Tryz.f120  (by rw [show mp.fm 394 = 120 from by kernel_rfl]; exact Tryz.func120) c394
theorem g395 : Here Tryz.prog mp im 395 a395 := Here.of Tryz.f142  (by rw [show mp.fm 395 = 142 from by kernel_rfl]; exact Tryz.func142) c395
theorem g396 : Here Tryz.prog mp im 396 a396 := Here.of Tryz.f143  (by rw [show mp.fm 396 = 143 from by kernel_rfl]; exact Tryz.func143) c396
theorem g397 : Here Tryz.prog mp im 397 a397 := Here.of Tryz.f144  (by rw [show mp.fm 397 = 144 from by kernel_rfl]; exact Tryz.func144) c397
theorem g398 : Here Tryz.prog mp im 398 a398 := Here.of Tryz.f145  (by rw [show mp.fm 398 = 145 from by kernel_rfl]; exact Tryz.func145) c398
theorem g399 : Here Tryz.prog mp im 399 a399 := Here.of Tryz.f146  (by rw [show mp.fm 399 = 146 from by kernel_rfl]; exact Tryz.func146) c399
theorem g400 : Here Tryz.prog mp im 400 a400 := Here.of Tryz.f147  (by rw [show mp.fm 400 = 147 from by kernel_rfl]; exact Tryz.func147) c400
theorem g401 : Here Tryz.prog mp im 401 a401 := Here.of Tryz.f148  (by rw [show mp.fm 401 = 148 from by kernel_rfl]; exact Tryz.func148) c401
theorem g402 : Here Tryz.prog mp im 402 a402 := Here.of Tryz.f149  (by rw [show mp.fm 402 = 149 from by kernel_rfl]; exact Tryz.func149) c402
theorem g403 : Here Tryz.prog mp im 403 a403 := Here.of Tryz.f150  (by rw [show mp.fm 403 = 150 from by kernel_rfl]; exact Tryz.func150) c403
theorem g404 : Here Tryz.prog mp im 404 a404 := Here.of Tryz.f151  (by rw [show mp.fm 404 = 151 from by kernel_rfl]; exact Tryz.func151) c404
theorem g405 : Here Tryz.prog mp im 405 a405 := Here.of Tryz.f153  (by rw [show mp.fm 405 = 153 from by kernel_rfl]; exact Tryz.func153) c405
theorem g406 : Here Tryz.prog mp im 406 a406 := Here.of Tryz.f155  (by rw [show mp.fm 406 = 155 from by kernel_rfl]; exact Tryz.func155) c406
theorem g407 : Here Tryz.prog mp im 407 a407 := Here.of Tryz.f156  (by rw [show mp.fm 407 = 156 from by kernel_rfl]; exact Tryz.func156) c407
theorem g408 : Here Tryz.prog mp im 408 a408 := Here.of Tryz.f157  (by rw [show mp.fm 408 = 157 from by kernel_rfl]; exact Tryz.func157) c408
theorem g409 : Here Tryz.prog mp im 409 a409 := Here.of Tryz.f158  (by rw [show mp.fm 409 = 158 from by kernel_rfl]; exact Tryz.func158) c409
theorem g410 : Here Tryz.prog mp im 410 a410 := Here.of Tryz.f159  (by rw [show mp.fm 410 = 159 from by kernel_rfl]; exact Tryz.func159) c410
theorem g411 : Here Tryz.prog mp im 411 a411 := Here.of Tryz.f160  (by rw [show mp.fm 411 = 160 from by kernel_rfl]; exact Tryz.func160) c411
theorem g416 : Here Tryz.prog mp im 416 a416 := Here.of Tryz.f188  (by rw [show mp.fm 416 = 188 from by kernel_rfl]; exact Tryz.func188) c416
theorem g417 : Here Tryz.prog mp im 417 a417 := Here.of Tryz.f204  (by rw [show mp.fm 417 = 204 from by kernel_rfl]; exact Tryz.func204) c417
theorem g418 : Here Tryz.prog mp im 418 a418 := Here.of Tryz.f207  (by rw [show mp.fm 418 = 207 from by kernel_rfl]; exact Tryz.func207) c418
theorem g419 : Here Tryz.prog mp im 419 a419 := Here.of Tryz.f209  (by rw [show mp.fm 419 = 209 from by kernel_rfl]; exact Tryz.func209) c419
theorem g420 : Here Tryz.prog mp im 420 a420 := Here.of Tryz.f211  (by rw [show mp.fm 420 = 211 from by kernel_rfl]; exact Tryz.func211) c420
theorem g421 : Here Tryz.prog mp im 421 a421 := Here.of Tryz.f212  (by rw [show mp.fm 421 = 212 from by kernel_rfl]; exact Tryz.func212) c421
theorem f425 : mp.fm 425 = 228 := by kernel_rfl
theorem kb_at (c : Nat) (h : c < 256) : kb 1 c = some (.int .u8 (if Lib.isSp (UInt8.ofNat c) then 1 else 0)) := if_pos ⟨rfl, h⟩
theorem g425 : Here Tryz.prog mp im 425 a425 := Here.prim rfl (prim_fields (by rw [f425]; exact ⟨Tryz.f228, Tryz.func228, by kernel_rfl, by kernel_rfl⟩) (gb := 1) kb_at (fun s w h1 h2 h3 => by rw [f425]; exact Any.strings_Fields_core Tryz.lays157 (by kernel_rfl) s w h1 h2 h3))
theorem nodup : ims.Nodup := by decide +kernel
theorem him : ∀ f x, im f = some x → mp.fm x = f := him_of nodup
theorem mix : Tryz.prog.follows .mixedOrders = true := by kernel_rfl
theorem table : Table Tryz.prog mp im tab.get := by
  refine table_ok ?_
  unfold tab
  exact (.node g231 (.node g97 (.node g70 (.node g54 (.node g39 (.node g34 (.node g30 (.node g29 .leaf .leaf) (.node g31 .leaf .leaf)) (.node g36 (.node g35 .leaf .leaf) .leaf)) (.node g51 (.node g48 (.node g46 .leaf .leaf) (.node g50 .leaf .leaf)) (.node g53 (.node g52 .leaf .leaf) .leaf))) (.node g64 (.node g61 (.node g57 (.node g55 .leaf .leaf) (.node g60 .leaf .leaf)) (.node g63 (.node g62 .leaf .leaf) .leaf)) (.node g67 (.node g66 (.node g65 .leaf .leaf) .leaf) (.node g69 (.node g68 .leaf .leaf) .leaf)))) (.node g84 (.node g77 (.node g74 (.node g72 (.node g71 .leaf .leaf) (.node g73 .leaf .leaf)) (.node g76 (.node g75 .leaf .leaf) .leaf)) (.node g81 (.node g79 (.node g78 .leaf .leaf) (.node g80 .leaf .leaf)) (.node g83 (.node g82 .leaf .leaf) .leaf))) (.node g91 (.node g88 (.node g86 (.node g85 .leaf .leaf) (.node g87 .leaf .leaf)) (.node g90 (.node g89 .leaf .leaf) .leaf)) (.node g94 (.node g93 (.node g92 .leaf .leaf) .leaf) (.node g96 (.node g95 .leaf .leaf) .leaf))))) (.node g163 (.node g150 (.node g141 (.node g130 (.node g99 (.node g98 .leaf .leaf) (.node g100 .leaf .leaf)) (.node g139 (.node g132 .leaf .leaf) .leaf)) (.node g147 (.node g143 (.node g142 .leaf .leaf) (.node g144 .leaf .leaf)) (.node g149 (.node g148 .leaf .leaf) .leaf))) (.node g157 (.node g154 (.node g152 (.node g151 .leaf .leaf) (.node g153 .leaf .leaf)) (.node g156 (.node g155 .leaf .leaf) .leaf)) (.node g160 (.node g159 (.node g158 .leaf .leaf) .leaf) (.node g162 (.node g161 .leaf .leaf) .leaf)))) (.node g177 (.node g170 (.node g167 (.node g165 (.node g164 .leaf .leaf) (.node g166 .leaf .leaf)) (.node g169 (.node g168 .leaf .leaf) .leaf)) (.node g174 (.node g172 (.node g171 .leaf .leaf) (.node g173 .leaf .leaf)) (.node g176 (.node g175 .leaf .leaf) .leaf))) (.node g206 (.node g181 (.node g179 (.node g178 .leaf .leaf) (.node g180 .leaf .leaf)) (.node g201 (.node g182 .leaf .leaf) .leaf)) (.node g219 (.node g216 (.node g214 .leaf .leaf) .leaf) (.node g230 (.node g222 .leaf .leaf) .leaf)))))) (.node g362 (.node g292 (.node g266 (.node g259 (.node g250 (.node g237 (.node g236 .leaf .leaf) (.node g242 .leaf .leaf)) (.node g256 (.node g254 .leaf .leaf) .leaf)) (.node g263 (.node g261 (.node g260 .leaf .leaf) (.node g262 .leaf .leaf)) (.node g265 (.node g264 .leaf .leaf) .leaf))) (.node g285 (.node g280 (.node g274 (.node g268 .leaf .leaf) (.node g275 .leaf .leaf)) (.node g284 (.node g283 .leaf .leaf) .leaf)) (.node g289 (.node g288 (.node g287 .leaf .leaf) .leaf) (.node g291 (.node g290 .leaf .leaf) .leaf)))) (.node g323 (.node g309 (.node g302 (.node g294 (.node g293 .leaf .leaf) (.node g300 .leaf .leaf)) (.node g304 (.node g303 .leaf .leaf) .leaf)) (.node g313 (.node g311 (.node g310 .leaf .leaf) (.node g312 .leaf .leaf)) (.node g322 (.node g320 .leaf .leaf) .leaf))) (.node g355 (.node g352 (.node g348 (.node g345 .leaf .leaf) (.node g349 .leaf .leaf)) (.node g354 (.node g353 .leaf .leaf) .leaf)) (.node g358 (.node g357 (.node g356 .leaf .leaf) .leaf) (.node g361 (.node g360 .leaf .leaf) .leaf))))) (.node g392 (.node g377 (.node g369 (.node g366 (.node g364 (.node g363 .leaf .leaf) (.node g365 .leaf .leaf)) (.node g368 (.node g367 .leaf .leaf) .leaf)) (.node g374 (.node g372 (.node g370 .leaf .leaf) (.node g373 .leaf .leaf)) (.node g376 (.node g375 .leaf .leaf) .leaf))) (.node g384 (.node g381 (.node g379 (.node g378 .leaf .leaf) (.node g380 .leaf .leaf)) (.node g383 (.node g382 .leaf .leaf) .leaf)) (.node g387 (.node g386 (.node g385 .leaf .leaf) .leaf) (.node g391 (.node g388 .leaf .leaf) .leaf)))) (.node g406 (.node g399 (.node g396 (.node g394 (.node g393 .leaf .leaf) (.node g395 .leaf .leaf)) (.node g398 (.node g397 .leaf .leaf) .leaf)) (.node g403 (.node g401 (.node g400 .leaf .leaf) (.node g402 .leaf .leaf)) (.node g405 (.node g404 .leaf .leaf) .leaf))) (.node g417 (.node g410 (.node g408 (.node g407 .leaf .leaf) (.node g409 .leaf .leaf)) (.node g416 (.node g411 .leaf .leaf) .leaf)) (.node g420 (.node g419 (.node g418 .leaf .leaf) .leaf) (.node g425 (.node g421 .leaf .leaf) .leaf)))))))

end Go.Proofs.YtjeabbfdiiaaoaaGreatDoor
end
section
namespace M2
open Go Go.ChangeShapes Go.WideShapes Go.ChangeAt Go.RowKit

/-! ### Laws that look at nothing of their argument but whether one slice is there, and how long it is -/

def OneSl (a : AV) : Prop := a = .nils ∨ a = .sl0 ∨ ∃ e pos cap alt n, a = .sl 0 e pos cap false alt (List.replicate n .und)

def oneG (W : World) (p : Place) : G := { n := 1, ok := fun i => i = 0, ρ := fun _ => p, ν := fun _ => 0, μ := fun _ => .oth, w := W }

theorem oneG_sr (M : Maps) (W : World) (p : Place) (hk : ∀ b o v, M.kb b o = some v → W.cell? ⟨b, o, none⟩ = some v) : SR M (oneG W p) ⟨1, [], []⟩ :=
  { n := rfl, wf := ⟨by simp, fun p hp => by simp at hp, by simp, fun p hp => by simp at hp⟩, okn := fun i h => by have : i = 0 := h; subst this; exact Nat.one_pos,
    var := fun x o hx => by simp [look2_nil] at hx, inj := fun x y o o' hx => by simp [look2_nil] at hx,
    ids := fun i en e hx => by simp [look2_nil] at hx, idinj := fun i j a b hx => by simp [look2_nil] at hx,
    kept := fun b o v hb => ⟨World.block_lt_of_cell? _ _ (hk b o v hb), rfl, hk b o v hb⟩ }

/-- a slice, but for what stands in it -/
theorem oneSl_of {M : Maps} {W : World} {n K : Nat} {a : AV} {v : Value} (hv : VR M (argG W n K) a v) (ha : a = .nils ∨ a = .sl0 ∨ ∃ id e pos cap alt es, a = .sl id e pos cap false alt es) :
    ∃ a' p, OneSl a' ∧ VR M (oneG W p) a' v := by
  rcases ha with rfl | rfl | ⟨id, e, pos, cap, alt, es, rfl⟩
  · cases hv
    exact ⟨.nils, ⟨0, 0, 0⟩, .inl rfl, .nils⟩
  · cases hv with
    | sl0 b o sp => exact ⟨.sl0, ⟨0, 0, 0⟩, .inr (.inl rfl), .sl0 b o sp⟩
  · cases hv with
    | sl id e pos cap fl alt es b off ccap vs hid hcc hb hoff hlen hvv hsz hc hf =>
      refine ⟨.sl 0 e pos cap false alt (List.replicate es.length .und), (argG W n K).ρ id, .inr (.inr ⟨e, pos, cap, alt, es.length, rfl⟩), ?_⟩
      have := VR.sl (M := M) (g := oneG W ((argG W n K).ρ id)) 0 e pos cap false alt (List.replicate es.length .und) b off ccap vs rfl hcc hb hoff (by simpa using hlen)
        (fun i hi => by rw [List.getElem_replicate]; exact .und _) (fun i hi => hsz i (by simpa using hi)) (fun i j hi hj => hc i j (by simpa using hi) hj) ⟨hf.1, trivial⟩
      simpa using this

theorem law_run0 {P : Program} {M : Maps} {im : FuncId → Option Nat} {tbl : Nat → Option AFunc} (hmix : P.follows .mixedOrders = true) (him : ∀ f x, im f = some x → M.fm x = f) (ht : Table P M im tbl)
    {H : Type} {enc : TypeId × Value → H} {W : World} {base id tf : Nat} {t : TypeId} {fs : Array Field} (hu : P.underlying t = some (.struct fs)) (ha : argT P (tf + 1) t = true) {v : Value} {d : DataW H} {p : List MemPlace}
    (hval : Value.okWide P W .any base t v) (htr : DataW.Trod enc P W 0 (fun _ => true) true t v d p)
    {w j i : Nat} {fl : Field} {e : TypeId} (hw : P.cellsOf t = w) (hfl : fs[i]? = some fl) (hoff : fl.offset = j) (hjw : j < w) (hsl : P.underlying fl.type = some (.slice e)) (hc1 : P.cellsOf fl.type = 1) (htf : tf ≠ 0)
    (hrun : ∀ a, OneSl a → ∃ n t', callA tbl (ev tbl n) id [.agg ((List.replicate w AV.und).set j a)] ⟨1, [], []⟩ = .ok (.bool true) t') (hkb : ∀ b o v, M.kb b o = some v → W.cell? ⟨b, o, none⟩ = some v := by exact fun _ _ _ h => nomatch (show (none : Option Value) = some _ from h)) :
    Calls P (M.fm id) #[v] W fun e W' => e = .returned (.bool true) ∧ Below W.heap.size W W' := by
  obtain ⟨K, hK0, hK⟩ := size_bound W
  obtain ⟨fuel, htr⟩ := htr
  unfold Value.okWide at hval
  rw [hu] at hval
  obtain ⟨cs, rfl, hcs, -⟩ := hval
  obtain ⟨ascs, h1, h2, h3, -⟩ := trod_vr (M := M) hK0 hK fuel (tf + 1) t _ _ ha htr
  have hl : ascs.length = cs.size := by simpa [Value.cells] using h2
  unfold DA at h1
  rw [hu] at h1
  obtain ⟨ps, -, hps, hasl, hf⟩ := h1
  obtain ⟨hi, hfi⟩ := Array.getElem?_eq_some_iff.mp hfl
  have h4 := hf i hi (by omega)
  rw [hfi, hoff, hc1] at h4
  have hjl : j < ascs.length := by rw [hasl, hw]; exact hjw
  have hone : (ascs.drop j).take 1 = [ascs[j]] := by rw [List.drop_eq_getElem_cons hjl]; rfl
  rw [hone] at h4
  have hkind : ascs[j] = .nils ∨ ascs[j] = .sl0 ∨ ∃ id e pos cap alt es, ascs[j] = .sl id e pos cap false alt es := by
    cases tf with
    | zero => exact absurd rfl htf
    | succ tf =>
      unfold DA at h4
      rw [hsl] at h4
      rcases h4 with ⟨-, h⟩ | ⟨elems, spare, es, -, -, -, -, ⟨-, h⟩ | ⟨id, pos, h⟩⟩
      · injection h with h; exact .inl h
      · injection h with h; exact .inr (.inl h)
      · injection h with h; exact .inr (.inr ⟨_, _, _, _, _, _, h⟩)
  have h5 := h3 j (by simpa using hjl)
  obtain ⟨a', pl, ho, hv'⟩ := oneSl_of h5 hkind
  obtain ⟨n, t', hr⟩ := hrun a' ho
  refine link (g := oneG W pl) hmix him ht (fun _ _ => rfl) (oneG_sr M W pl hkb) rfl (fun q hq => ?_) hr
  have hq0 : q = 0 := by simpa using hq
  subst hq0
  simp only [List.getElem_cons_zero]
  refine .agg _ cs (by simp [← hl, hasl, hw]) (fun q hq => ?_)
  by_cases e : j = q
  · subst e
    simp only [List.getElem_set_self]
    simpa [Value.cells, Array.getD_eq_getD_getElem?, List.getD_eq_getElem?_getD] using hv'
  · rw [List.getElem_set_ne e, List.getElem_replicate]
    exact .und _

end M2
end
section
namespace M2
open Go

/-! #### more fuel, the same answer; rules to cut a run in pieces -/

def CallLe (c1 c2 : CallF) : Prop := ∀ f ascs t, c1 f ascs t ≠ .fail → c2 f ascs t = c1 f ascs t
def EvLe (e1 e2 : Ev) : Prop := ∀ c F t, e1 c F t ≠ .fail → e2 c F t = e1 c F t

section
variable {c1 c2 : CallF} {e1 e2 : Ev} {tbl : Nat → Option AFunc}

theorem run_mono (h : CallLe c1 c2) (ao : AOp) (F : Fr) (t : T) (hne : ao.run c1 F t ≠ .fail) : ao.run c2 F t = ao.run c1 F t := by
  cases ao with
  | call f xs => exact h _ _ _ hne
  | calld f xs =>
    change opCalld f xs c2 F t = opCalld f xs c1 F t
    change opCalld f xs c1 F t ≠ .fail at hne
    unfold opCalld at *
    split
    · rename_i hp
      rw [hp] at hne
      exact h _ _ _ hne
    · rfl
  | _ => rfl

theorem runOps_mono (h : CallLe c1 c2) : ∀ (l : List AO) (F : Fr) (t : T), runOps l c1 F t ≠ .fail → runOps l c2 F t = runOps l c1 F t := by
  intro l
  induction l with
  | nil => intro F t _; rfl
  | cons o l ih =>
    intro F t hne
    change opsCons o l (fun call F t => runOps l call F t) c1 F t ≠ .fail at hne
    change opsCons o l (fun call F t => runOps l call F t) c2 F t = opsCons o l (fun call F t => runOps l call F t) c1 F t
    unfold opsCons at *
    split
    · rename_i hw
      rw [hw] at hne
      simp only at hne
      cases hr : o.op.run c1 F t with
      | fail => rw [hr] at hne; exact absurd rfl hne
      | ok v t1 =>
        rw [run_mono h o.op F t (by rw [hr]; simp), hr]
        rw [hr] at hne
        exact ih _ _ hne
    · rename_i hw
      rw [hw] at hne
      exact ih _ _ hne
    · rfl

theorem runD_mono (h : CallLe c1 c2) (ws : List AO) : ∀ (ks : List (DK × AO)) (F : Fr) (t : T) (l : Log), runD ks ws c1 F t l ≠ .fail → runD ks ws c2 F t l = runD ks ws c1 F t l := by
  intro ks
  induction ks with
  | nil => intro F t l hne; exact runOps_mono h ws F t hne
  | cons o ks ih =>
    intro F t l hne
    change dCons o ks (fun call F t l => runD ks ws call F t l) c1 F t l ≠ .fail at hne
    change dCons o ks (fun call F t l => runD ks ws call F t l) c2 F t l = dCons o ks (fun call F t l => runD ks ws call F t l) c1 F t l
    unfold dCons at *
    split
    · rename_i hw
      rw [hw] at hne
      simp only at hne
      split
      · rename_i l1 hl
        rw [hl] at hne
        simp only at hne
        cases hr : o.2.op.run c1 F (viewD o.1 t) with
        | fail => rw [hr] at hne; exact absurd rfl hne
        | ok v t1 =>
          rw [run_mono h o.2.op F _ (by rw [hr]; simp), hr]
          rw [hr] at hne
          simp only at hne ⊢
          split
          · rename_i t2 hm
            rw [hm] at hne
            exact ih _ _ _ hne
          · rfl
      · rfl
    · rename_i hw
      rw [hw] at hne
      exact ih _ _ _ hne
    · rfl

theorem stepX_mono (h : CallLe c1 c2) (q : Nat × Nat × Bool × AO) (F : Fr) (t : T) {k1 k2 : Fr → T → RR} (hk : ∀ F t, k1 F t ≠ .fail → k2 F t = k1 F t) (hne : stepX c1 q F t k1 ≠ .fail) : stepX c2 q F t k2 = stepX c1 q F t k1 := by
  unfold stepX at *
  split
  · rename_i hw
    rw [hw] at hne
    simp only at hne
    cases hr : q.2.2.2.op.run c1 F t with
    | fail => rw [hr] at hne; exact absurd rfl hne
    | ok v t1 =>
      rw [run_mono h q.2.2.2.op F t (by rw [hr]; simp), hr]
      rw [hr] at hne
      exact hk _ _ hne
  · rename_i hw
    rw [hw] at hne
    exact hk _ _ hne
  · rfl

theorem allX_ne {go : Nat × Nat × Bool × AO → RR} {r : RR} : ∀ {qs : List (Nat × Nat × Bool × AO)}, allX go r qs ≠ .fail → r ≠ .fail ∧ allX go r qs = r ∧ ∀ q ∈ qs, rrE r (go q) = true
  | [], h => ⟨h, rfl, fun q hq => by cases hq⟩
  | q :: qs, h => by
    unfold allX at h ⊢
    split at h
    · rename_i hb
      obtain ⟨h1, h2, h3⟩ := allX_ne h
      refine ⟨h1, h2, fun p hp => ?_⟩
      rcases List.mem_cons.mp hp with rfl | hp
      · exact hb
      · exact h3 p hp
    · exact absurd rfl h

theorem rrE_ne {r s : RR} (h : rrE r s = true) : s ≠ .fail := by
  intro e
  subst e
  cases r <;> cases h

theorem runX_mono (h : CallLe c1 c2) (os : List (Nat × Nat × Bool × AO)) (full : Nat) : ∀ (n dn : Nat) (F : Fr) (t : T), runX os full c1 n dn F t ≠ .fail → runX os full c2 n dn F t = runX os full c1 n dn F t := by
  intro n
  induction n with
  | zero => intro dn F t hne; exact absurd rfl hne
  | succ n ih =>
    intro dn F t hne
    unfold runX at hne ⊢
    split
    · rename_i q hq
      rw [hq] at hne
      exact stepX_mono h q F t (ih _) hne
    · rename_i hq
      rw [hq] at hne
      simp only at hne
      split
      · rfl
      · rename_i q qs hf
        rw [hf] at hne
        simp only at hne
        obtain ⟨h1, h2, h3⟩ := allX_ne hne
        rw [h2]
        have e1 := stepX_mono h q F t (ih _) h1
        rw [e1]
        have key : ∀ l : List (Nat × Nat × Bool × AO), (∀ p ∈ l, rrE (stepX c1 q F t (runX os full c1 n (Nat.lor dn (2 ^ q.1)))) (stepX c1 p F t (runX os full c1 n (Nat.lor dn (2 ^ p.1)))) = true) →
            allX (fun q => stepX c2 q F t (runX os full c2 n (Nat.lor dn (2 ^ q.1)))) (stepX c1 q F t (runX os full c1 n (Nat.lor dn (2 ^ q.1)))) l = stepX c1 q F t (runX os full c1 n (Nat.lor dn (2 ^ q.1))) := by
          intro l
          induction l with
          | nil => intro _; rfl
          | cons p l ihl =>
            intro hp
            have hb := hp p List.mem_cons_self
            unfold allX
            rw [stepX_mono h p F t (ih _) (rrE_ne hb), hb]
            exact ihl fun x hx => hp x (List.mem_cons_of_mem _ hx)
        exact key qs h3

theorem callA_le (h : EvLe e1 e2) : CallLe (callA tbl e1) (callA tbl e2) := by
  intro f xs t hne
  unfold callA at *
  split
  · rename_i fn hf
    rw [hf] at hne
    simp only at hne
    split
    · rename_i F hF
      rw [hF] at hne
      simp only at hne
      cases hr : e1 fn.body F t.enter with
      | fail => rw [hr] at hne; exact absurd rfl hne
      | _ => rw [h fn.body F t.enter (by rw [hr]; simp), hr]
    · rfl
  · rfl

end

theorem ev_le (tbl : Nat → Option AFunc) : ∀ n, EvLe (ev tbl n) (ev tbl (n + 1)) := by
  intro n
  induction n with
  | zero => intro c F t hne; exact absurd rfl hne
  | succ n ih =>
    intro c F t hne
    have hc := callA_le (tbl := tbl) ih
    cases c with
    | skip => rfl
    | reg ops => exact runOps_mono hc ops F t hne
    | regd rs ws => exact runD_mono hc ws rs F t [] hne
    | regx full os => exact runX_mono hc os full _ 0 F t hne
    | seq a b =>
      change (RR.rec (motive := fun _ => RR) .fail (ev tbl (n + 1) b) RR.exit RR.ret (ev tbl (n + 1) a F t)) = (RR.rec (motive := fun _ => RR) .fail (ev tbl n b) RR.exit RR.ret (ev tbl n a F t))
      change (RR.rec (motive := fun _ => RR) .fail (ev tbl n b) RR.exit RR.ret (ev tbl n a F t)) ≠ .fail at hne
      cases hr : ev tbl n a F t with
      | fail => rw [hr] at hne; exact absurd rfl hne
      | norm F1 t1 =>
        rw [ih a F t (by rw [hr]; simp), hr]
        rw [hr] at hne
        exact ih b F1 t1 hne
      | _ => rw [ih a F t (by rw [hr]; simp), hr]
    | cond c a b =>
      change cCond c a b (fun _ _ _ _ => .fail) (fun _ _ _ _ => .fail) tbl (ev tbl (n + 1)) F t = cCond c a b (fun _ _ _ _ => .fail) (fun _ _ _ _ => .fail) tbl (ev tbl n) F t
      change cCond c a b (fun _ _ _ _ => .fail) (fun _ _ _ _ => .fail) tbl (ev tbl n) F t ≠ .fail at hne
      unfold cCond at *
      split
      · rename_i x hx
        rw [hx] at hne
        cases x with
        | true => exact ih a F t hne
        | false => exact ih b F t hne
      · rfl
    | block id b =>
      change (RR.rec (motive := fun _ => RR) .fail RR.norm (fun i f t => Bool.rec (motive := fun _ => RR) (.exit i f t) (.norm f t) (Nat.beq i id)) RR.ret (ev tbl (n + 1) b F t)) =
        (RR.rec (motive := fun _ => RR) .fail RR.norm (fun i f t => Bool.rec (motive := fun _ => RR) (.exit i f t) (.norm f t) (Nat.beq i id)) RR.ret (ev tbl n b F t))
      change (RR.rec (motive := fun _ => RR) .fail RR.norm (fun i f t => Bool.rec (motive := fun _ => RR) (.exit i f t) (.norm f t) (Nat.beq i id)) RR.ret (ev tbl n b F t)) ≠ .fail at hne
      cases hr : ev tbl n b F t with
      | fail => rw [hr] at hne; exact absurd rfl hne
      | _ => rw [ih b F t (by rw [hr]; simp), hr]
    | loop b =>
      change (RR.rec (motive := fun _ => RR) .fail (ev tbl (n + 1) (.loop b)) RR.exit RR.ret (ev tbl (n + 1) b F t)) = (RR.rec (motive := fun _ => RR) .fail (ev tbl n (.loop b)) RR.exit RR.ret (ev tbl n b F t))
      change (RR.rec (motive := fun _ => RR) .fail (ev tbl n (.loop b)) RR.exit RR.ret (ev tbl n b F t)) ≠ .fail at hne
      cases hr : ev tbl n b F t with
      | fail => rw [hr] at hne; exact absurd rfl hne
      | norm F1 t1 =>
        rw [ih b F t (by rw [hr]; simp), hr]
        rw [hr] at hne
        exact ih (.loop b) F1 t1 hne
      | _ => rw [ih b F t (by rw [hr]; simp), hr]
    | exit id => rfl
    | ret => rfl

theorem ev_more {tbl : Nat → Option AFunc} {n m : Nat} (h : n ≤ m) {c : Cd} {F : Fr} {t : T} {r : RR} (hr : ev tbl n c F t = r) (hne : r ≠ .fail) : ev tbl m c F t = r := by
  induction m with
  | zero => have : n = 0 := by omega
            subst this; exact hr
  | succ m ih =>
    by_cases e : n = m + 1
    · subst e; exact hr
    · have := ih (by omega)
      rw [ev_le tbl m c F t (by rw [this]; exact hne), this]

theorem call_more {tbl : Nat → Option AFunc} {n m : Nat} (h : n ≤ m) {f : Nat} {xs : List AV} {t t' : T} {v : AV} (hr : callA tbl (ev tbl n) f xs t = .ok v t') : callA tbl (ev tbl m) f xs t = .ok v t' := by
  have hle : EvLe (ev tbl n) (ev tbl m) := fun c F t hne => ev_more h rfl hne
  rw [callA_le hle f xs t (by rw [hr]; simp), hr]

end M2
end
section
namespace M2
open Go

/-! ### A law that hands one row of texts to a function -/

def okR (r : OR) : Bool := match r with | .ok (.bool b) _ => b | _ => false
theorem okR_ok {r : OR} (h : okR r = true) : ∃ t, r = .ok (.bool true) t := by
  unfold okR at h
  split at h
  · subst h; exact ⟨_, rfl⟩
  · cases h

noncomputable def body2 (c1 c2 : CallF) (fn : AFunc) (l1 l2 : List AO) (F : Fr) (t : T) : OR :=
  RR.rec (motive := fun _ => OR) .fail (fun F t => RR.rec (motive := fun _ => OR) .fail (fun F t => afterBody fn F t) (fun _ _ _ => .fail) (fun F t => afterBody fn F t) (runOps l2 c2 F t)) (fun _ _ _ => .fail) (fun F t => afterBody fn F t) (runOps l1 c1 F t)

theorem runOps_norm (c : CallF) : ∀ (l : List AO) (F : Fr) (t : T), runOps l c F t = .fail ∨ ∃ F' t', runOps l c F t = .norm F' t' := by
  intro l
  induction l with
  | nil => intro F t; exact .inr ⟨F, t, rfl⟩
  | cons o l ih =>
    intro F t
    rw [show runOps (o :: l) c F t = opsCons o l (fun call F t => runOps l call F t) c F t from rfl]
    unfold opsCons
    split
    · split
      · exact ih _ _
      · exact .inl rfl
    · exact ih _ _
    · exact .inl rfl

theorem callA_eq {tbl : Nat → Option AFunc} {e : Ev} {id : Nat} {fn : AFunc} {args : List AV} {F : Fr} {t : T} (hf : tbl id = some fn) (ha : argsIn fn.params args .nil = some F) :
    callA tbl e id args t = RR.rec (motive := fun _ => OR) .fail (fun f t => afterBody fn f t) (fun _ _ _ => .fail) (fun f t => afterBody fn f t) (e fn.body F t.enter) := by
  unfold callA
  rw [hf]
  simp only
  rw [ha]
  simp only
  cases e fn.body F t.enter <;> rfl

theorem callA_body2 {tbl : Nat → Option AFunc} {N id : Nat} {fn : AFunc} {l1 l2 : List AO} {args : List AV} {F : Fr} {t : T} (hf : tbl id = some fn) (hb : fn.body = .seq (.reg l1) (.seq (.reg l2) .ret)) (ha : argsIn fn.params args .nil = some F) :
    callA tbl (ev tbl (N + 3)) id args t = body2 (callA tbl (ev tbl (N + 1))) (callA tbl (ev tbl N)) fn l1 l2 F t.enter := by
  rw [callA_eq hf ha, hb]
  generalize hc1 : callA tbl (ev tbl (N + 1)) = c1
  generalize hc2 : callA tbl (ev tbl N) = c2
  have e1 : ev tbl (N + 3) (.seq (.reg l1) (.seq (.reg l2) .ret)) F t.enter = RR.rec (motive := fun _ => RR) .fail (ev tbl (N + 2) (.seq (.reg l2) .ret)) RR.exit RR.ret (runOps l1 c1 F t.enter) := by rw [← hc1]; rfl
  have e2 : ∀ F t, ev tbl (N + 2) (.seq (.reg l2) .ret) F t = RR.rec (motive := fun _ => RR) .fail (ev tbl (N + 1) .ret) RR.exit RR.ret (runOps l2 c2 F t) := fun _ _ => by rw [← hc2]; rfl
  rw [e1]
  unfold body2
  rcases runOps_norm c1 l1 F t.enter with h | ⟨F', t', h⟩
  · rw [h]
  · rw [h]
    simp only
    rw [e2]
    rcases runOps_norm c2 l2 F' t' with k | ⟨F2, t2, k⟩
    · rw [k]
    · rw [k]
      rfl

end M2
end
section
namespace M2
open Go
open Classical

/-! ### A call that looks at nothing of the state: run it in an empty one -/

noncomputable def G.upd (g g' : G) : G := { n := g.n, ok := g.ok, ρ := g.ρ, ν := g.ν, μ := fun b => if b < g.w.heap.size then g.μ b else .oth, w := g'.w }
def allB (g : G) : Nat → Prop := fun b => b < g.w.heap.size
noncomputable def G.shutAll (g : G) : G := g.view g.n (fun _ => True) (allB g)

theorem le_upd {g g' : G} {n : Nat} {p : Nat → Prop} (h : (g.view n p (allB g)).Le g') : g.Le (g.upd g') where
  n := Nat.le_refl _
  ok _ hi := hi
  new _ hi := .inl hi
  ρ _ _ := rfl
  ν _ _ := rfl
  size := h.size
  lim _ k hb hk := ⟨k, (if_pos hb).trans hk, Nat.le_refl _, fun _ _ => cell?_of_heap (back_sealed h (fun _ hb => hb) hb).1⟩
  oth _ hb _ := ⟨if_pos hb, (back_sealed h (fun _ hb => hb) hb).1⟩
  os := h.os
  tape := h.tape
  output := h.output
  sz := h.sz

theorem sr_upd {M : Maps} {g g' : G} {t : T} (hS : SR M g t) {n : Nat} {p : Nat → Prop} (h : (g.view n p (allB g)).Le g') : SR M (g.upd g') t where
  n := hS.n
  wf := hS.wf
  okn := hS.okn
  var x o hx := by
    obtain ⟨h1, h2, h3⟩ := hS.var x o hx
    exact ⟨h1, (if_pos h3.lt).trans h2, h3.ext (le_upd h).ext (back_sealed h (fun _ hb => hb) h3.lt).1⟩
  inj := hS.inj
  ids i en e hx := by
    obtain ⟨h1, h2, c, ty, fz, h3, h4, h5⟩ := hS.ids i en e hx
    have hb : (g.ρ i).block < g.w.heap.size := (Array.getElem?_eq_some_iff.mp h3).1
    have he : (g.upd g').w.heap[(g.ρ i).block]? = g.w.heap[(g.ρ i).block]? := (back_sealed h (fun _ hb => hb) hb).1
    refine ⟨h1, (if_pos hb).trans h2, c, ty, fz, he.trans h3, fun off ho => ?_, h5⟩
    have := h4 off ho
    simp only [World.frozen?] at this ⊢
    show (match (g.upd g').w.heap[(g.ρ i).block]? with | some (.cells c elem (lo, hi)) => decide (lo ≤ off) && decide (off < hi) | x => false) = false
    rw [he]
    exact this
  idinj := hS.idinj
  kept := hS.kept.mono (le_upd h)

noncomputable def orc (f : Nat) (avs : List AV) (n : Nat) : CallF := fun f' args t => if f' = f ∧ args = avs ∧ t.n = n then .ok (.bool true) t else .fail
theorem orc_eq {f : Nat} {avs : List AV} {n : Nat} {t : T} (h : t.n = n) : orc f avs n f avs t = .ok (.bool true) t := if_pos ⟨rfl, rfl, h⟩

section
variable {P : Program} {M : Maps} {im : FuncId → Option Nat} {tbl : Nat → Option AFunc}

theorem orc_ok (hmix : P.follows .mixedOrders = true) (him : ∀ f x, im f = some x → M.fm x = f) (ht : Table P M im tbl) {k f n : Nat} {avs : List AV} {t' : T}
    (h : callA tbl (ev tbl k) f avs ⟨n, [], []⟩ = .ok (.bool true) t') : CallOK P M (orc f avs n) := by
  intro f' args t r t1 hr
  unfold orc at hr
  split at hr
  · rename_i hc
    obtain ⟨rfl, rfl, hn⟩ := hc
    cases hr
    obtain ⟨hgood, hs⟩ := call_sound hmix him ht k f' args _ _ _ h
    refine ⟨hgood, fun g cargs hS hsz hv => ?_⟩
    have hS0 : SR M g.shutAll ⟨n, [], []⟩ :=
      { n := hS.n.trans hn, wf := ⟨by simp, fun p hp => by simp at hp, by simp, fun p hp => by simp at hp⟩, okn := fun i hi => hn ▸ hS.okn i hi.1,
        var := fun x o hx => by simp [look2_nil] at hx, inj := fun x y o o' hx => by simp [look2_nil] at hx,
        ids := fun i en e hx => by simp [look2_nil] at hx, idinj := fun i j a b hx => by simp [look2_nil] at hx,
        kept := hS.kept.view _ _ _ }
    have hext : g.Ext g.shutAll := by
      have h1 : g.Ext (g.sub fun _ => True) := ⟨fun i hi => ⟨hi, trivial⟩, fun _ _ => rfl, fun _ _ => rfl, fun _ _ h => h, fun _ _ _ _ _ => rfl, fun _ hb => ⟨hb, rfl⟩⟩
      have h2 := g.ext_view g.n (fun _ => True) (allB g)
      exact ⟨fun i hi => h2.ok i (h1.ok i hi), fun i hi => (h2.ρ i (h1.ok i hi)).trans (h1.ρ i hi), fun i hi => (h2.ν i (h1.ok i hi)).trans (h1.ν i hi), fun b m hf => h2.fixed b m (h1.fixed b m hf), fun _ _ _ _ _ => rfl, fun _ hb => ⟨hb, rfl⟩⟩
    refine (hs g.shutAll cargs hS0 hsz (fun i hi => (hv i hi).ext hext)).mono ?_
    rintro e w' ⟨v, g', rfl, rfl, hle, hvr, -⟩
    cases hvr
    exact ⟨_, g.upd g', rfl, rfl, le_upd hle, .bool true, sr_upd hS hle⟩
  · cases hr

/-! ### A body without loops, its calls answered by others -/

noncomputable def evC (call : CallF) (c : Cd) : Fr → T → RR :=
  Cd.rec (motive := fun _ => Fr → T → RR) (fun F t => .norm F t) (fun l F t => runOps l call F t) (fun _ _ _ _ => .fail) (fun _ _ _ _ => .fail)
    (fun _ _ iha ihb F t => RR.rec (motive := fun _ => RR) .fail ihb RR.exit RR.ret (iha F t)) (fun _ _ _ _ _ _ _ => .fail) (fun _ _ _ _ _ => .fail) (fun _ _ _ _ => .fail) (fun _ _ _ => .fail) (fun F t => .ret F t) c

noncomputable def outC (fn : AFunc) (r : RR) : OR := match r with | .norm f t => afterBody fn f t | .ret f t => afterBody fn f t | _ => .fail
noncomputable def callC (call : CallF) (fn : AFunc) (args : List AV) (t : T) : OR :=
  match argsIn fn.params args .nil with
  | some f => outC fn (evC call fn.body f t.enter)
  | none => .fail

theorem cmpR_drawn {d ntmps : Nat} {ops : Array Oper} {ac : Cd} (h : cmpR P im d ntmps ops = some ac) (call : CallF) (F : Fr) (t : T) : evC call ac F t = .fail := by
  have hd0 : ∀ h c, cmpD0 P im d ntmps h ops = some c → evC call c F t = .fail := by
    intro h c hc
    unfold cmpD0 at hc
    simp only [Option.bind_eq_bind, Option.bind_eq_some_iff] at hc
    obtain ⟨_, _, _, _, _, _, e⟩ := hc
    split at e
    · cases e; rfl
    · cases e
  have hd : ∀ c, cmpD P im d ntmps ops = some c → evC call c F t = .fail := by
    intro c hc
    unfold cmpD at hc
    split at hc
    · split at hc
      · rename_i c' hcc; cases hc; exact hd0 _ _ hcc
      · exact hd0 _ _ hc
    · split at hc
      · rename_i c' hcc; cases hc; exact hd0 _ _ hcc
      · exact hd0 _ _ hc
  have hx : ∀ c, cmpX P im d ntmps ops = some c → evC call c F t = .fail := by
    intro c hc
    unfold cmpX at hc
    simp only [Option.bind_eq_bind, Option.bind_eq_some_iff] at hc
    obtain ⟨_, _, e⟩ := hc
    split at e
    · cases e; rfl
    · cases e
  unfold cmpR at h
  split at h
  · split at h
    · rename_i c hcc; cases h; exact hx _ hcc
    · exact hd _ h
  · split at h
    · rename_i c hcc; cases h; exact hd _ hcc
    · exact hx _ h

theorem evC_sound (him : ∀ f x, im f = some x → M.fm x = f) {call : CallF} (hcall : CallOK P M call) : CodeOK P M im (evC call) := by
  intro d ntmps c
  induction c with
  | skip => intro ac hc g F t a Q hf hp; cases hc; exact wp_skip (hp g a (.refl g) hf)
  | region id ops draw =>
    intro ac hc g F t a Q hf hp
    simp only [cmpC] at hc
    split at hc
    · rw [cmpR_drawn hc] at hp
      exact hp.elim
    · rename_i hd
      rw [Option.map_eq_some_iff] at hc
      obtain ⟨al, hal, rfl⟩ := hc
      have : draw = false := by simpa using hd
      subst this
      exact wp_region_list (ops_sound him hcall ops Q ops.toList al hal g F t a hf hp)
  | seq x y ihx ihy =>
    intro ac hc g F t a Q hf hp
    simp only [cmpC, Option.bind_eq_bind, Option.bind_eq_some_iff] at hc
    obtain ⟨x', hx, y', hy, e⟩ := hc
    cases e
    have hp' : Post M g d ntmps Q (RR.rec (motive := fun _ => RR) .fail (evC call y') RR.exit RR.ret (evC call x' F t)) := hp
    refine wp_seq (ihx x' hx g F t a _ hf ?_)
    cases hr : evC call x' F t with
    | fail => rw [hr] at hp'; exact hp'
    | norm F1 t1 =>
      rw [hr] at hp'
      intro g' a' hle hf'
      exact ihy y' hy g' F1 t1 a' Q hf' (hp'.later hle)
    | exit id F1 t1 => rw [hr] at hp'; exact hp'
    | ret F1 t1 => rw [hr] at hp'; exact hp'
  | ret => intro ac hc g F t a Q hf hp; cases hc; exact wp_ret (hp g a (.refl g) hf)
  | cond c x y ihx ihy =>
    intro ac hc g F t a Q hf hp
    simp only [cmpC, Option.bind_eq_bind, Option.bind_eq_some_iff] at hc
    obtain ⟨c', hc', x', hx, y', hy, e⟩ := hc
    cases e
    exact hp.elim
  | block id b ih =>
    intro ac hc g F t a Q hf hp
    simp only [cmpC, Option.bind_eq_bind, Option.bind_eq_some_iff] at hc
    obtain ⟨b', hb, e⟩ := hc
    cases e
    exact hp.elim
  | loop b ih =>
    intro ac hc g F t a Q hf hp
    simp only [cmpC, Option.bind_eq_bind, Option.bind_eq_some_iff] at hc
    obtain ⟨b', hb, e⟩ := hc
    cases e
    exact hp.elim
  | exit id => intro ac hc g F t a Q hf hp; cases hc; exact hp.elim
  | _ => intro ac hc g F t a Q hf hp; simp [cmpC] at hc

theorem callC_sound (him : ∀ f x, im f = some x → M.fm x = f) (ht : Table P M im tbl) {call : CallF} (hcall : CallOK P M call) {f : Nat} {fn : AFunc} (hfn : tbl f = some fn) (hdp : fn.depth < 50 := by decide) {args : List AV} {t t' : T} {r : AV}
    (hr : callC call fn args t = .ok r t') : Good P (M.fm f) ∧ ∀ g cargs, SR M g t → cargs.size = args.length → (∀ i (h : i < args.length), VR M g args[i] (cargs.getD i undef)) →
    Calls P (M.fm f) cargs g.w fun e w' => ∃ v g', e = .returned v ∧ g'.w = w' ∧ g.Le g' ∧ VR M g' r v ∧ SR M g' t' := by
  have hcode := evC_sound (P := P) (M := M) (im := im) him hcall
  unfold callC at hr
  obtain ⟨gf, hgf, hcf⟩ := ht.cmp hfn hdp
  unfold cmpF at hcf
  split at hcf
  · rename_i hcond
    obtain ⟨c1, c2, c3⟩ := hcond
    simp only [Option.bind_eq_bind, Option.bind_eq_some_iff] at hcf
    obtain ⟨c, hbody, b, hb, rs, hrs, e⟩ := hcf
    have hgood : Good P (M.fm f) := ⟨gf, hgf, by simpa using c3, by simp [hbody]⟩
    refine ⟨hgood, ?_⟩
    intro g cargs hS hsz hv
    have efn : fn = { depth := fn.depth, params := (List.range (gf.params.size + gf.nfree)).map (pth fn.depth), results := rs, keep := fn.keep, body := b } := by simpa using e.symm
    have eparams : fn.params = (List.range (gf.params.size + gf.nfree)).map (pth fn.depth) := by rw [efn]
    have ebody : fn.body = b := by rw [efn]
    have eres : fn.results = rs := by rw [efn]
    cases ha : argsIn fn.params args .nil with
    | none => rw [ha] at hr; cases hr
    | some F =>
      rw [ha] at hr
      simp only at hr
      have hnd : fn.params.Nodup := by
        rw [eparams]
        exact pth_nodup (by omega)
      obtain ⟨a1, a2⟩ := argsIn_ok _ _ _ _ ha hnd
      have hnp : gf.params.size + gf.nfree = args.length := by rw [← a1, eparams]; simp
      refine calls_of_wp hgf hbody ?_
      have hfits : Fits M g fn.depth gf.ntmps F t.enter { tmps := cargs ++ Array.replicate (gf.ntmps - cargs.size) undef, defers := [] } := by
        refine ⟨⟨by simp; omega, fun u hu => ?_⟩, hS.enter, by simp; omega, rfl⟩
        rw [a2, eparams, idx_pth (by omega) hu]
        by_cases hlt : u < gf.params.size + gf.nfree
        · rw [if_pos hlt]
          simp only
          have h1 := hv u (by omega)
          have e1 : args.getD u .und = args[u]'(by omega) := by simp [List.getD, show u < args.length by omega]
          rw [e1]
          have e2 : (cargs ++ Array.replicate (gf.ntmps - cargs.size) undef).getD u undef = cargs.getD u undef := by
            simp only [Array.getD_eq_getD_getElem?]
            rw [Array.getElem?_append_left (by omega)]
          show VR M g _ ((cargs ++ Array.replicate (gf.ntmps - cargs.size) undef).getD u undef)
          rw [e2]
          exact h1
        · rw [if_neg hlt]
          simp only [Fr.get_nil]
          exact .und _
      have hpost : ∀ R, (∀ F1 t1, (evC call fn.body F t.enter = .norm F1 t1 ∨ evC call fn.body F t.enter = .ret F1 t1) → ∀ g' a', g.Le g' → Fits M g' fn.depth gf.ntmps F1 t1 a' →
          bodyPost P gf R .normal a' g'.w) → c.wp P (bodyPost P gf R) { tmps := cargs ++ Array.replicate (gf.ntmps - cargs.size) undef, defers := [] } g.w := by
        intro R hR
        refine hcode fn.depth gf.ntmps c b hb g F t.enter _ _ hfits ?_
        rw [ebody] at hR hr
        cases hev : evC call b F t.enter with
        | fail => rw [hev] at hr; cases hr
        | norm F1 t1 => exact fun g' a' hle hf' => hR F1 t1 (.inl hev) g' a' hle hf'
        | exit id F1 t1 => rw [hev] at hr; cases hr
        | ret F1 t1 => exact fun g' a' hle hf' => hR F1 t1 (.inr hev) g' a' hle hf'
      refine hpost _ (fun F1 t1 hev g' a' hle hf' => ?_)
      have hafter : afterBody fn F1 t1 = .ok r t' := by
        rcases hev with hev | hev <;> (rw [hev] at hr; exact hr)
      unfold afterBody at hafter
      rw [eres] at hafter
      cases hrv : resultsOf F1 t1 rs with
      | none => rw [hrv] at hafter; cases hafter
      | some vs =>
        rw [hrv] at hafter
        cases hafter
        obtain ⟨ws, w1, w2, w3⟩ := results_ok hf' gf.results.toList rs hrs vs hrv
        refine ⟨hf'.d, if h : ws.toArray.size = 1 then ws.toArray[0] else .tuple ws.toArray, ?_, ?_⟩
        · show (results gf a'.tmps).run P g'.w = _
          rw [results_eq, Array.mapM_eq_mapM_toList]
          simp only [Sem.run_bind, Sem.run_map, w1, Result.andThen_ok, Sem.run_pure]
        · exact ⟨_, g', rfl, rfl, hle, packed_ok w2 w3, hf'.s.leave _ _⟩
  · contradiction

end

end M2
end
section
namespace M2
open Go Go.ChangeShapes Go.WideShapes Go.ChangeAt Go.RowKit

/-! ### A law's call, the calls in it answered by others -/

theorem link1 {P : Program} {M : Maps} {im : FuncId → Option Nat} {tbl : Nat → Option AFunc} (him : ∀ f x, im f = some x → M.fm x = f) (ht : Table P M im tbl)
    {call : CallF} (hcall : CallOK P M call) {id : Nat} {fn : AFunc} (hfn : tbl id = some fn) (hdp : fn.depth < 50) {avs : List AV} {args : Array Value} {t t' : T} {g : G} (hoth : ∀ b, b < g.w.heap.size → g.μ b = .oth) (hS : SR M g t) (hsz : args.size = avs.length)
    (hv : ∀ i (h : i < avs.length), VR M g avs[i] (args.getD i undef)) (hrun : callC call fn avs t = .ok (.bool true) t') :
    Calls P (M.fm id) args g.w fun e w' => e = .returned (.bool true) ∧ Below g.w.heap.size g.w w' := by
  obtain ⟨-, h⟩ := callC_sound him ht hcall hfn hdp hrun
  refine (h g args hS hsz hv).mono ?_
  rintro e w' ⟨v, g', rfl, rfl, hle, hvr, -⟩
  cases hvr
  exact ⟨rfl, hle.os, hle.tape, hle.output, hle.size, fun k hk => (hle.oth k hk (by rw [hoth k hk]; rfl)).2⟩

theorem law_run1 {P : Program} {M : Maps} {im : FuncId → Option Nat} {tbl : Nat → Option AFunc} (him : ∀ f x, im f = some x → M.fm x = f) (ht : Table P M im tbl)
    {H : Type} {enc : TypeId × Value → H} {W : World} {base id tf : Nat} {t : TypeId} {fs : Array Field} (hu : P.underlying t = some (.struct fs)) (ha : argT P (tf + 1) t = true) {v : Value} {d : DataW H} {p : List MemPlace}
    (hval : Value.okWide P W .any base t v) (htr : DataW.Trod enc P W 0 (fun _ => true) true t v d p)
    {w j i : Nat} {fl : Field} {e : TypeId} (hw : P.cellsOf t = w) (hfl : fs[i]? = some fl) (hoff : fl.offset = j) (hjw : j < w) (hsl : P.underlying fl.type = some (.slice e)) (hc1 : P.cellsOf fl.type = 1) (htf : tf ≠ 0)
    {call : CallF} (hcall : CallOK P M call) {fn : AFunc} (hfn : tbl id = some fn) (hdp : fn.depth < 50 := by decide) (hrun : ∀ a, OneSl a → ∃ t', callC call fn [.agg ((List.replicate w AV.und).set j a)] ⟨1, [], []⟩ = .ok (.bool true) t') (hkb : ∀ b o v, M.kb b o = some v → W.cell? ⟨b, o, none⟩ = some v := by exact fun _ _ _ h => nomatch (show (none : Option Value) = some _ from h)) :
    Calls P (M.fm id) #[v] W fun e W' => e = .returned (.bool true) ∧ Below W.heap.size W W' := by
  obtain ⟨K, hK0, hK⟩ := size_bound W
  obtain ⟨fuel, htr⟩ := htr
  unfold Value.okWide at hval
  rw [hu] at hval
  obtain ⟨cs, rfl, hcs, -⟩ := hval
  obtain ⟨ascs, h1, h2, h3, -⟩ := trod_vr (M := M) hK0 hK fuel (tf + 1) t _ _ ha htr
  have hl : ascs.length = cs.size := by simpa [Value.cells] using h2
  unfold DA at h1
  rw [hu] at h1
  obtain ⟨ps, -, hps, hasl, hf⟩ := h1
  obtain ⟨hi, hfi⟩ := Array.getElem?_eq_some_iff.mp hfl
  have h4 := hf i hi (by omega)
  rw [hfi, hoff, hc1] at h4
  have hjl : j < ascs.length := by rw [hasl, hw]; exact hjw
  have hone : (ascs.drop j).take 1 = [ascs[j]] := by rw [List.drop_eq_getElem_cons hjl]; rfl
  rw [hone] at h4
  have hkind : ascs[j] = .nils ∨ ascs[j] = .sl0 ∨ ∃ id e pos cap alt es, ascs[j] = .sl id e pos cap false alt es := by
    cases tf with
    | zero => exact absurd rfl htf
    | succ tf =>
      unfold DA at h4
      rw [hsl] at h4
      rcases h4 with ⟨-, h⟩ | ⟨elems, spare, es, -, -, -, -, ⟨-, h⟩ | ⟨id, pos, h⟩⟩
      · injection h with h; exact .inl h
      · injection h with h; exact .inr (.inl h)
      · injection h with h; exact .inr (.inr ⟨_, _, _, _, _, _, h⟩)
  have h5 := h3 j (by simpa using hjl)
  obtain ⟨a', pl, ho, hv'⟩ := oneSl_of h5 hkind
  obtain ⟨t', hr⟩ := hrun a' ho
  refine link1 (g := oneG W pl) him ht hcall hfn hdp (fun _ _ => rfl) (oneG_sr M W pl hkb) rfl (fun q hq => ?_) hr
  have hq0 : q = 0 := by simpa using hq
  subst hq0
  simp only [List.getElem_cons_zero]
  refine .agg _ cs (by simp [← hl, hasl, hw]) (fun q hq => ?_)
  by_cases e : j = q
  · subst e
    simp only [List.getElem_set_self]
    simpa [Value.cells, Array.getD_eq_getD_getElem?, List.getD_eq_getElem?_getD] using hv'
  · rw [List.getElem_set_ne e, List.getElem_replicate]
    exact .und _

end M2
end
section
namespace M2
open Go
open Classical

/-! ### A loop over a row of texts, round by round: each round run by itself, in an empty state -/

noncomputable def G.low (g : G) : G := g.view 3 (fun i => i < 3) (allB g)

/-- a value that no world matters to -/
def Free (M : Maps) (a : AV) : Prop := ∀ g g' v, VR M g a v → VR M g' a v
theorem free_str (M : Maps) (s : List UInt8) : Free M (.str s) := by
  intro g g' v h
  cases h
  exact .str s

theorem sl_move {M : Maps} {g g' : G} {id e pos cap alt : Nat} {fl : Bool} {es : List AV} {v : Value} (hpl : ∀ x ∈ es, Free M x) (hok : g'.ok id) (hρ : g'.ρ id = g.ρ id)
    (hfx : ∀ m, g.fixed (g.ρ id).block m → g'.fixed (g.ρ id).block m) (hw : g'.w = g.w) (h : VR M g (.sl id e pos cap fl alt es) v) : VR M g' (.sl id e pos cap fl alt es) v := by
  cases h with
  | sl id e pos cap fl alt es b o ccap vs hid hcc hb ho hlen hv hs hc hf =>
    subst hb
    exact .sl id e pos cap fl alt es _ o ccap vs hok (by rw [hρ]; exact hcc) (by rw [hρ]) (by rw [hρ]; exact ho) hlen (fun i hi => hpl _ (List.getElem_mem hi) g g' _ (hv i hi)) hs
      (fun i j hi hj => by rw [hw]; exact hc i j hi hj) (hfx _ hf)

theorem sl_known {M : Maps} {g : G} {id e pos cap alt : Nat} {fl : Bool} {es : List AV} {v : Value} (h : VR M g (.sl id e pos cap fl alt es) v) : g.ok id ∧ (g.ρ id).block < g.w.heap.size := by
  cases h with
  | sl id e pos cap fl alt es b o ccap vs hid hcc hb ho hlen hv hs hc hf => exact ⟨hid, hb ▸ hf.1⟩

theorem sl_low {M : Maps} {g : G} {id e pos cap alt : Nat} {fl : Bool} {es : List AV} {v : Value} (hpl : ∀ x ∈ es, Free M x) (hid : id < 3) (h : VR M g (.sl id e pos cap fl alt es) v) :
    VR M g.low (.sl id e pos cap fl alt es) v := by
  refine sl_move (g := g) (g' := g.low) hpl ⟨(sl_known h).1, hid⟩ rfl (fun m hf => ⟨hf.1, ?_⟩) rfl h
  show Own.fix m (if allB g (g.ρ id).block then (g.μ (g.ρ id).block).frz else g.μ (g.ρ id).block)
  rw [if_pos (show allB g (g.ρ id).block from hf.1)]
  exact (seal_fix _ _).mpr hf.2

theorem sl_upd {M : Maps} {g g' : G} {id e pos cap alt : Nat} {fl : Bool} {es : List AV} {v v0 : Value} (hpl : ∀ x ∈ es, Free M x) (hid : id < 3) (h0 : VR M g (.sl id e pos cap fl alt es) v0) (hle : g.low.Le g')
    (h : VR M g' (.sl id e pos cap fl alt es) v) : VR M (g.upd g') (.sl id e pos cap fl alt es) v := by
  obtain ⟨k1, k2⟩ := sl_known h0
  have hρ : g'.ρ id = g.ρ id := hle.ρ id ⟨k1, hid⟩
  refine sl_move hpl k1 hρ.symm (fun m hf => ⟨?_, ?_⟩) rfl h
  · exact hf.1
  · rw [hρ] at hf ⊢
    have := (back_sealed (g := g) hle (fun _ hb => hb) k2).2
    have h2 := hf.2
    rw [this] at h2
    show Own.fix m (if (g.ρ id).block < g.w.heap.size then g.μ (g.ρ id).block else .oth)
    rw [if_pos k2]
    exact (seal_fix _ _).mp h2

theorem low_sr {M : Maps} {g : G} {t : T} (hS : SR M g t) : SR M g.low ⟨3, [[]], [[]]⟩ :=
  SR.enter (t := ⟨3, [], []⟩)
    { n := rfl, wf := ⟨by simp, fun p hp => by simp at hp, by simp, fun p hp => by simp at hp⟩, okn := fun i hi => hi.2,
      var := fun x o hx => by simp [look2_nil] at hx, inj := fun x y o o' hx => by simp [look2_nil] at hx,
      ids := fun i en e hx => by simp [look2_nil] at hx, idinj := fun i j a b hx => by simp [look2_nil] at hx,
      kept := hS.kept.view _ _ _ }

noncomputable def isRow (d : Nat) (row : AV) (r : RR) : Bool := match r with | .norm F _ => avE 60 (F.get (pth d 0)) row | _ => false
noncomputable def isRowI (d q : Nat) (row : AV) (i : Nat) (r : RR) : Bool := match r with | .norm F _ => avE 60 (F.get (pth d 0)) row && avE 2 (F.get (pth d q)) (.int .i64 (.ofNat i)) | _ => false
def isOut (id : Nat) (r : RR) : Bool := match r with | .exit j _ _ => Nat.beq j id | _ => false

noncomputable def frI (d q : Nat) (row : AV) (i : Nat) : Fr := (Fr.nil.put (pth d 0) row).put (pth d q) (.int .i64 (.ofNat i))

section
variable {P : Program} {M : Maps} {im : FuncId → Option Nat} {d ntmps : Nat}

theorem cmpR_kind {ops : Array Oper} {ac : Cd} (h : cmpR P im d ntmps ops = some ac) : (∃ ks ws, ac = .regd ks ws) ∨ ∃ f os, ac = .regx f os := by
  have hd0 : ∀ h c, cmpD0 P im d ntmps h ops = some c → ∃ ks ws, c = .regd ks ws := by
    intro h c hc
    unfold cmpD0 at hc
    simp only [Option.bind_eq_bind, Option.bind_eq_some_iff] at hc
    obtain ⟨_, _, _, _, _, _, e⟩ := hc
    split at e
    · cases e; exact ⟨_, _, rfl⟩
    · cases e
  have hd : ∀ c, cmpD P im d ntmps ops = some c → ∃ ks ws, c = .regd ks ws := by
    intro c hc
    unfold cmpD at hc
    split at hc
    · split at hc
      · rename_i c' hcc; cases hc; exact hd0 _ _ hcc
      · exact hd0 _ _ hc
    · split at hc
      · rename_i c' hcc; cases hc; exact hd0 _ _ hcc
      · exact hd0 _ _ hc
  have hx : ∀ c, cmpX P im d ntmps ops = some c → ∃ f os, c = .regx f os := by
    intro c hc
    unfold cmpX at hc
    simp only [Option.bind_eq_bind, Option.bind_eq_some_iff] at hc
    obtain ⟨_, _, e⟩ := hc
    split at e
    · cases e; exact ⟨_, _, rfl⟩
    · cases e
  unfold cmpR at h
  split at h
  · split at h
    · rename_i c hcc; cases h; exact .inr (hx _ hcc)
    · exact .inl (hd _ h)
  · split at h
    · rename_i c hcc; cases h; exact .inl (hd _ hcc)
    · exact .inr (hx _ h)

theorem inv_seq {c : Code} {A B : Cd} (h : cmpC P im d ntmps c = some (.seq A B)) : ∃ x y, c = .seq x y ∧ cmpC P im d ntmps x = some A ∧ cmpC P im d ntmps y = some B := by
  cases c with
  | seq x y =>
    simp only [cmpC, Option.bind_eq_bind, Option.bind_eq_some_iff] at h
    obtain ⟨x', hx, y', hy, e⟩ := h
    cases e
    exact ⟨x, y, rfl, hx, hy⟩
  | region id ops draw =>
    simp only [cmpC] at h
    split at h
    · rcases cmpR_kind h with ⟨_, _, e⟩ | ⟨_, _, e⟩ <;> cases e
    · rw [Option.map_eq_some_iff] at h
      obtain ⟨_, _, e⟩ := h
      cases e
  | _ => simp [cmpC, Option.bind_eq_some_iff] at h

theorem inv_block {c : Code} {id : Nat} {B : Cd} (h : cmpC P im d ntmps c = some (.block id B)) : ∃ x, c = .block id x ∧ cmpC P im d ntmps x = some B := by
  cases c with
  | block i x =>
    simp only [cmpC, Option.bind_eq_bind, Option.bind_eq_some_iff] at h
    obtain ⟨x', hx, e⟩ := h
    cases e
    exact ⟨x, rfl, hx⟩
  | region id ops draw =>
    simp only [cmpC] at h
    split at h
    · rcases cmpR_kind h with ⟨_, _, e⟩ | ⟨_, _, e⟩ <;> cases e
    · rw [Option.map_eq_some_iff] at h
      obtain ⟨_, _, e⟩ := h
      cases e
  | _ => simp [cmpC, Option.bind_eq_some_iff] at h

theorem inv_loop {c : Code} {B : Cd} (h : cmpC P im d ntmps c = some (.loop B)) : ∃ x, c = .loop x ∧ cmpC P im d ntmps x = some B := by
  cases c with
  | loop x =>
    simp only [cmpC, Option.bind_eq_bind, Option.bind_eq_some_iff] at h
    obtain ⟨x', hx, e⟩ := h
    cases e
    exact ⟨x, rfl, hx⟩
  | region id ops draw =>
    simp only [cmpC] at h
    split at h
    · rcases cmpR_kind h with ⟨_, _, e⟩ | ⟨_, _, e⟩ <;> cases e
    · rw [Option.map_eq_some_iff] at h
      obtain ⟨_, _, e⟩ := h
      cases e
  | _ => simp [cmpC, Option.bind_eq_some_iff] at h

/-- what is known between two pieces -/
structure Mid (M : Maps) (ntmps : Nat) (t : T) (g0 g : G) (a : Act) : Prop where
  le : g0.Le g
  s : SR M g t
  n : a.tmps.size = ntmps
  d : a.defers = []

theorem fr_nil {g : G} {tmps : Array Value} (h : tmps.size ≤ 2 ^ d) : FR M g d .nil tmps := ⟨h, fun t _ => by rw [Fr.get_nil]; exact .und _⟩
theorem fr_row {g : G} {tmps : Array Value} {F : Fr} (hF : FR M g d F tmps) {q : Nat} (hq : q < 2 ^ d) {a : AV} (hv : VR M g a (tmps.getD q undef)) : FR M g d (F.put (pth d q) a) tmps := by
  refine ⟨hF.size, fun u hu => ?_⟩
  rw [Fr.get_put]
  by_cases h : q = u
  · subst h; rw [if_pos rfl]; exact hv
  · rw [if_neg (fun e => h (pth_inj d q u hq hu e))]; exact hF.rel u hu

theorem isRow_ok {q : Nat} {row : AV} {r : RR} (h : isRow q row r = true) : ∃ F t, r = .norm F t ∧ F.get (pth q 0) = row := by
  unfold isRow at h
  split at h
  · exact ⟨_, _, rfl, avE_ok _ _ _ h⟩
  · cases h
theorem isRowI_ok {d q : Nat} {row : AV} {i : Nat} {r : RR} (h : isRowI d q row i r = true) : ∃ F t, r = .norm F t ∧ F.get (pth d 0) = row ∧ F.get (pth d q) = .int .i64 (.ofNat i) := by
  unfold isRowI at h
  split at h
  · simp only [Bool.and_eq_true] at h
    exact ⟨_, _, rfl, avE_ok _ _ _ h.1, avE_ok _ _ _ h.2⟩
  · cases h
theorem isOut_ok {id : Nat} {r : RR} (h : isOut id r = true) : ∃ F t, r = .exit id F t := by
  unfold isOut at h
  split at h
  · rw [Nat.eq_of_beq_eq_true h]; exact ⟨_, _, rfl⟩
  · cases h

theorem loop_orc {tbl : Nat → Option AFunc} (hmix : P.follows .mixedOrders = true) (him : ∀ f x, im f = some x → M.fm x = f) (ht : Table P M im tbl) {sid : Nat} {fn : AFunc} (hfn : tbl sid = some fn) (hdp : fn.depth < 50 := by decide)
    {a1 a2 b c : Cd} {lb : Nat} (hshape : fn.body = .seq a1 (.seq (.seq a2 (.block lb (.loop b))) c)) {q : Nat} (hq : q < 2 ^ fn.depth) (hpar : fn.params = [pth fn.depth 0])
    {id e pos cap alt : Nat} {es : List AV} (hid : id < 3) (hes : ∀ M x, x ∈ es → Free M x) {k N : Nat}
    (h1 : isRow fn.depth (.sl id e pos cap false alt es) (ev tbl N a1 (Fr.nil.put (pth fn.depth 0) (.sl id e pos cap false alt es)) ⟨3, [[]], [[]]⟩) = true)
    (h2 : isRowI fn.depth q (.sl id e pos cap false alt es) 0 (ev tbl N a2 (Fr.nil.put (pth fn.depth 0) (.sl id e pos cap false alt es)) ⟨3, [[]], [[]]⟩) = true)
    (h3 : ∀ i, i < k → isRowI fn.depth q (.sl id e pos cap false alt es) (i + 1) (ev tbl N b (frI fn.depth q (.sl id e pos cap false alt es) i) ⟨3, [[]], [[]]⟩) = true)
    (h4 : isOut lb (ev tbl N b (frI fn.depth q (.sl id e pos cap false alt es) k) ⟨3, [[]], [[]]⟩) = true)
    (h5 : okR (outC fn (ev tbl N c .nil ⟨3, [[]], [[]]⟩)) = true) : CallOK P M (orc sid [.sl id e pos cap false alt es] 3) := by
  generalize hrow : AV.sl id e pos cap false alt es = row at *
  have rlow : ∀ {g : G} {v : Value}, VR M g row v → VR M g.low row v := fun h => by subst hrow; exact sl_low (hes M) hid h
  have rupd : ∀ {g g' : G} {v v0 : Value}, VR M g row v0 → g.low.Le g' → VR M g' row v → VR M (g.upd g') row v := fun h0 hle h => by subst hrow; exact sl_upd (hes M) hid h0 hle h
  have hcode := code_sound (P := P) hmix him tbl N (fun m _ => call_sound hmix him ht m)
  intro f' args t r t1 hr
  unfold orc at hr
  split at hr
  · rename_i hc
    obtain ⟨rfl, rfl, hn⟩ := hc
    cases hr
    obtain ⟨gf, hgf, hcf⟩ := ht.cmp hfn hdp
    unfold cmpF at hcf
    split at hcf
    · rename_i hcond
      obtain ⟨c1, c2, c3⟩ := hcond
      simp only [Option.bind_eq_bind, Option.bind_eq_some_iff] at hcf
      obtain ⟨cc, hbody, bb, hb, rs, hrs, ee⟩ := hcf
      refine ⟨⟨gf, hgf, by simpa using c3, by simp [hbody]⟩, ?_⟩
      intro g cargs hS hsz hv
      have efn : fn = { depth := fn.depth, params := (List.range (gf.params.size + gf.nfree)).map (pth fn.depth), results := rs, keep := fn.keep, body := bb } := by simpa using ee.symm
      have eparams : fn.params = (List.range (gf.params.size + gf.nfree)).map (pth fn.depth) := by rw [efn]
      have ebody : fn.body = bb := by rw [efn]
      have eres : fn.results = rs := by rw [efn]
      have hsz1 : cargs.size = 1 := by simpa using hsz
      have hv0 : VR M g row (cargs.getD 0 undef) := hv 0 (by simp)
      have hnp : gf.params.size + gf.nfree = 1 := by
        rw [hpar] at eparams
        have := congrArg List.length eparams
        simpa using this.symm
      rw [← ebody, hshape] at hb
      obtain ⟨x, y0, rfl, hx, hy0⟩ := inv_seq hb
      obtain ⟨y1, u, rfl, hy1, hu⟩ := inv_seq hy0
      obtain ⟨y, z0, rfl, hy, hz0⟩ := inv_seq hy1
      obtain ⟨z1, rfl, hz1⟩ := inv_block hz0
      obtain ⟨z, rfl, hz⟩ := inv_loop hz1
      refine calls_of_wp hgf hbody ?_
      generalize hQ : bodyPost P gf (fun e w' => ∃ v g', e = .returned v ∧ g'.w = w' ∧ g.Le g' ∧ VR M g' (.bool true) v ∧ SR M g' t) = Q
      have hpw : gf.ntmps ≤ 2 ^ fn.depth := c1
      generalize ha0 : ({ tmps := cargs ++ Array.replicate (gf.ntmps - cargs.size) undef, defers := [] } : Act) = a0
      have m0 : Mid M gf.ntmps t g g a0 := ⟨.refl g, hS, by subst ha0; simp; omega, by subst ha0; rfl⟩
      have r0 : VR M g row (a0.tmps.getD 0 undef) := by
        subst ha0
        have e2 : (cargs ++ Array.replicate (gf.ntmps - cargs.size) undef).getD 0 undef = cargs.getD 0 undef := by
          simp only [Array.getD_eq_getD_getElem?]
          rw [Array.getElem?_append_left (by omega)]
        show VR M g row ((cargs ++ Array.replicate (gf.ntmps - cargs.size) undef).getD 0 undef)
        rw [e2]
        exact hv0
      have p0 : 0 < 2 ^ fn.depth := Nat.two_pow_pos _
      have fits : ∀ {g1 : G} {a : Act} {F : Fr}, Mid M gf.ntmps t g g1 a → FR M g1.low fn.depth F a.tmps → Fits M g1.low fn.depth gf.ntmps F ⟨3, [[]], [[]]⟩ a := fun hm hF => ⟨hF, low_sr hm.s, hm.n, hm.d⟩
      have next : ∀ {g1 g' : G} {a a' : Act} {F' : Fr} {t' : T}, Mid M gf.ntmps t g g1 a → g1.low.Le g' → Fits M g' fn.depth gf.ntmps F' t' a' → Mid M gf.ntmps t g (g1.upd g') a' :=
        fun hm hle hf => ⟨hm.le.trans (le_upd hle), sr_upd hm.s hle, hf.n, hf.d⟩
      have hsize : ∀ {g1 : G} {a : Act}, Mid M gf.ntmps t g g1 a → a.tmps.size ≤ 2 ^ fn.depth := fun hm => by rw [hm.n]; exact hpw
      have frow : ∀ {g1 : G} {a : Act}, Mid M gf.ntmps t g g1 a → VR M g1 row (a.tmps.getD 0 undef) → FR M g1.low fn.depth (Fr.nil.put (pth fn.depth 0) row) a.tmps :=
        fun hm hr => fr_row (fr_nil (hsize hm)) p0 (rlow hr)
      -- the end
      have hend : ∀ g1 a, Mid M gf.ntmps t g g1 a → u.wp P Q a g1.w := by
        intro g1 a hm
        have hp := hcode fn.depth gf.ntmps u c hu g1.low .nil ⟨3, [[]], [[]]⟩ a Q (fits hm (fr_nil (hsize hm)))
        refine hp ?_
        have hfin : ∀ F1 t1, afterBody fn F1 t1 = outC fn (ev tbl N c .nil ⟨3, [[]], [[]]⟩) → ∀ g' a', g1.low.Le g' → Fits M g' fn.depth gf.ntmps F1 t1 a' → bodyPost P gf (fun e w' => ∃ v g', e = .returned v ∧ g'.w = w' ∧ g.Le g' ∧ VR M g' (.bool true) v ∧ SR M g' t) .normal a' g'.w := by
          intro F1 t1 hE g' a' hle hf'
          obtain ⟨t2, ho⟩ := okR_ok h5
          rw [← hE] at ho
          unfold afterBody at ho
          rw [eres] at ho
          cases hrv : resultsOf F1 t1 rs with
          | none => rw [hrv] at ho; cases ho
          | some vs =>
            rw [hrv] at ho
            simp only [OR.ok.injEq] at ho
            obtain ⟨ws, w1, w2, w3⟩ := results_ok hf' gf.results.toList rs hrs vs hrv
            refine ⟨hf'.d, if h : ws.toArray.size = 1 then ws.toArray[0] else .tuple ws.toArray, ?_, ?_⟩
            · show (results gf a'.tmps).run P g'.w = _
              rw [results_eq, Array.mapM_eq_mapM_toList]
              simp only [Sem.run_bind, Sem.run_map, w1, Result.andThen_ok, Sem.run_pure]
            · have hvr := packed_ok w2 w3
              rw [ho.1] at hvr
              refine ⟨_, g1.upd g', rfl, rfl, hm.le.trans (le_upd hle), ?_, sr_upd hm.s hle⟩
              generalize (if h : ws.toArray.size = 1 then ws.toArray[0] else Value.tuple ws.toArray) = vv at hvr
              cases hvr
              exact .bool true
        subst hQ
        cases hev : ev tbl N c .nil ⟨3, [[]], [[]]⟩ with
        | fail => rw [hev] at h5; cases h5
        | norm F1 t1 => exact fun g' a' hle hf' => hfin F1 t1 (by rw [hev]; rfl) g' a' hle hf'
        | exit id F1 t1 => rw [hev] at h5; cases h5
        | ret F1 t1 => exact fun g' a' hle hf' => hfin F1 t1 (by rw [hev]; rfl) g' a' hle hf'
      refine wp_seq ?_
      obtain ⟨F1, t1, e1, v1⟩ := isRow_ok h1
      refine hcode fn.depth gf.ntmps x a1 hx g.low _ _ a0 _ (fits m0 (frow m0 r0)) ?_
      rw [e1]
      intro g1 a' hle hf'
      have m1 := next m0 hle hf'
      have r1 : VR M (g.upd g1) row (a'.tmps.getD 0 undef) := rupd r0 hle (by have := hf'.f.rel 0 p0; rwa [v1] at this)
      show Code.wp P _ Q a' (g.upd g1).w
      refine wp_seq (wp_seq ?_)
      obtain ⟨F2, t2, e2, v2, i2⟩ := isRowI_ok h2
      refine hcode fn.depth gf.ntmps y a2 hy (g.upd g1).low _ _ a' _ (fits m1 (frow m1 r1)) ?_
      rw [e2]
      intro g2 a2' hle2 hf2
      have m2 := next m1 hle2 hf2
      have r2 : VR M ((g.upd g1).upd g2) row (a2'.tmps.getD 0 undef) := rupd r1 hle2 (by have := hf2.f.rel 0 p0; rwa [v2] at this)
      have n2 : a2'.tmps.getD q undef = .int .i64 (.ofNat 0) := by
        have := hf2.f.rel q hq
        rw [i2] at this
        generalize a2'.tmps.getD q undef = vv at this
        cases this
        rfl
      show Code.wp P _ _ a2' ((g.upd g1).upd g2).w
      refine wp_block ?_
      refine wp_loop_n (fun m a w => ∃ i g3, i ≤ k ∧ m = k - i ∧ g3.w = w ∧ Mid M gf.ntmps t g g3 a ∧ VR M g3 row (a.tmps.getD 0 undef) ∧ a.tmps.getD q undef = .int .i64 (.ofNat i)) ?_ k a2' _
        ⟨0, _, Nat.zero_le _, rfl, rfl, m2, r2, n2⟩
      rintro m a3 w3 ⟨i, g3, hik, rfl, rfl, m3, r3, n3⟩
      have hF3 : FR M g3.low fn.depth (frI fn.depth q row i) a3.tmps := fr_row (frow m3 r3) hq (by rw [n3]; exact .int _ _)
      refine hcode fn.depth gf.ntmps z b hz g3.low _ _ a3 _ (fits m3 hF3) ?_
      by_cases hlt : i < k
      · obtain ⟨F4, t4, e4, v4, i4⟩ := isRowI_ok (h3 i hlt)
        rw [e4]
        intro g4 a4 hle4 hf4
        refine ⟨k - (i + 1), by omega, i + 1, g3.upd g4, hlt, rfl, rfl, next m3 hle4 hf4, rupd r3 hle4 (by have := hf4.f.rel 0 p0; rwa [v4] at this), ?_⟩
        have := hf4.f.rel q hq
        rw [i4] at this
        generalize a4.tmps.getD q undef = vv at this ⊢
        cases this
        rfl
      · have hk : i = k := by omega
        subst hk
        obtain ⟨F4, t4, e4⟩ := isOut_ok h4
        rw [e4]
        intro g4 a4 hle4 hf4
        simp only [Exit.then, Exit.inBlock, if_true]
        exact hend (g3.upd g4) a4 (next m3 hle4 hf4)
    · contradiction
  · cases hr

end

end M2
end
section
/- The function that runs the texts, cut at its loop. -/
namespace M2
open Go

noncomputable def s348a1 : Cd := (.reg [⟨(some p6n2), none, (.mv (.c (.bool false)))⟩])
noncomputable def s348a2 : Cd := (.reg [⟨(some p6n3), none, (.mv (.c (.int .i64 (.ofNat 0))))⟩])
noncomputable def s348b : Cd := (.seq (.seq (.reg [⟨(some p6n10), none, (.mv (.t p6n3))⟩, ⟨(some p6n11), none, (.mv (.t p6n0))⟩, ⟨(some p6n12), none, (.len false (.t p6n11))⟩, ⟨(some p6n13), none, (.bin .lss (.t p6n10) (.t p6n12))⟩]) (.cond (.t p6n13) .skip (.exit 0))) (.seq (.block 1 (.seq (.reg [⟨(some p6n17), none, (.mv (.t p6n0))⟩, ⟨(some p6n18), none, (.mv (.t p6n3))⟩, ⟨(some p6n19), none, (.iaddr 1 (.t p6n17) (.t p6n18))⟩, ⟨(some p6n20), none, (.ld1 (.t p6n19))⟩, ⟨(some p6n21), none, (.call 352 [(.t p6n20)])⟩, ⟨(some p6n16), none, (.mv (.t p6n21))⟩, ⟨(some p6n22), none, (.ext (.t p6n16) 0)⟩, ⟨(some p6n23), none, (.ext (.t p6n16) 1)⟩, ⟨(some p6n24), none, (.ext (.t p6n16) 2)⟩, ⟨(some p6n4), none, (.alloc [.nils, .nils, .nils, .nils])⟩, ⟨none, none, (.st 4 (.t p6n4) (.t p6n22))⟩, ⟨(some p6n5), none, (.mv (.t p6n23))⟩, ⟨(some p6n6), none, (.mv (.t p6n24))⟩]) (.seq (.reg [⟨(some p6n26), none, (.mv (.t p6n0))⟩, ⟨(some p6n27), none, (.mv (.t p6n3))⟩, ⟨(some p6n28), none, (.iaddr 1 (.t p6n26) (.t p6n27))⟩, ⟨(some p6n29), none, (.ld1 (.t p6n28))⟩, ⟨(some p6n30), none, (.call 353 [(.t p6n29)])⟩, ⟨(some p6n25), none, (.mv (.t p6n30))⟩, ⟨(some p6n31), none, (.ext (.t p6n25) 0)⟩, ⟨(some p6n32), none, (.ext (.t p6n25) 1)⟩, ⟨(some p6n33), none, (.ext (.t p6n25) 2)⟩, ⟨(some p6n7), none, (.alloc [.nils, .nils, .nils, .nils])⟩, ⟨none, none, (.st 4 (.t p6n7) (.t p6n31))⟩, ⟨(some p6n8), none, (.mv (.t p6n32))⟩, ⟨(some p6n9), none, (.mv (.t p6n33))⟩]) (.seq (.reg [⟨(some p6n34), none, (.mv (.t p6n6))⟩, ⟨(some p6n35), none, (.call 354 [(.t p6n34)])⟩, ⟨(some p6n36), none, (.mv (.t p6n9))⟩, ⟨(some p6n37), none, (.bin .neq (.t p6n35) (.t p6n36))⟩, ⟨(some p6n38), none, (.mv (.t p6n37))⟩, ⟨(some p6n39), (some (p6n38, false)), (.mv (.t p6n5))⟩, ⟨(some p6n40), (some (p6n38, false)), (.mv (.t p6n8))⟩, ⟨(some p6n41), (some (p6n38, false)), (.bin .neq (.t p6n39) (.t p6n40))⟩, ⟨(some p6n42), none, (.pick (.t p6n38) (.c (.bool true)) (.t p6n41))⟩, ⟨(some p6n43), none, (.mv (.t p6n42))⟩, ⟨(some p6n44), (some (p6n43, false)), (.ldA 4 (.t p6n4))⟩, ⟨(some p6n45), (some (p6n43, false)), (.ldA 4 (.t p6n7))⟩, ⟨(some p6n46), (some (p6n43, false)), (.call 355 [(.t p6n44), (.t p6n45)])⟩, ⟨(some p6n47), (some (p6n43, false)), (.un .not (.t p6n46))⟩, ⟨(some p6n48), none, (.pick (.t p6n43) (.c (.bool true)) (.t p6n47))⟩]) (.cond (.t p6n48) (.seq (.reg [⟨(some p6n2), none, (.mv (.c (.bool false)))⟩]) .ret) .skip))))) (.reg [⟨(some p6n14), none, (.mv (.t p6n3))⟩, ⟨(some p6n15), none, (.bin .add (.t p6n14) (.c (.int .i64 (.ofNat 1))))⟩, ⟨(some p6n3), none, (.mv (.t p6n15))⟩])))
noncomputable def s348c : Cd := (.seq (.reg [⟨(some p6n49), none, (.call 356 [])⟩, ⟨(some p6n2), none, (.mv (.t p6n49))⟩]) .ret)
theorem s348_shape : a348.body = .seq s348a1 (.seq (.seq s348a2 (.block 0 (.loop s348b))) s348c) := by kernel_rfl
theorem s348_end : okR (outC a348 (ev tab.get 1000000 s348c .nil ⟨3, [[]], [[]]⟩)) = true := by kernel_rfl

end M2
end
section
/- The law AsmGlobals: its texts. -/
namespace M2
open Go

def asmGlobalsTexts : List AV := [.str [46, 103, 108, 111, 98, 97, 108, 32, 97, 10, 97, 58, 32, 104, 97, 108, 116], .str [97, 58, 32, 104, 97, 108, 116, 10, 46, 103, 108, 111, 98, 97, 108, 32, 97], .str [46, 103, 108, 111, 98, 97, 108, 32, 97], .str [46, 103, 108, 111, 98, 97, 108, 32, 97, 10, 46, 103, 108, 111, 98, 97, 108, 32, 97, 10, 97, 58, 32, 104, 97, 108, 116], .str [46, 103, 108, 111, 98, 97, 108, 32, 98, 10, 46, 103, 108, 111, 98, 97, 108, 32, 97, 10, 97, 58, 32, 104, 97, 108, 116], .str [46, 103, 108, 111, 98, 97, 108], .str [46, 103, 108, 111, 98, 97, 108, 32, 97, 32, 98], .str [46, 103, 108, 111, 98, 97, 108, 32, 97, 44, 32, 98], .str [46, 103, 108, 111, 98, 97, 108, 32, 53], .str [46, 103, 108, 111, 98, 97, 108, 32, 46, 97], .str [120, 58, 32, 46, 103, 108, 111, 98, 97, 108, 32, 120, 10, 104, 97, 108, 116], .str [46, 103, 108, 111, 98, 97, 108, 32, 100, 10, 46, 100, 97, 116, 97, 10, 100, 58, 32, 46, 119, 111, 114, 100, 32, 49], .str [46, 103, 108, 111, 98, 97, 108, 32, 98, 10, 46, 103, 108, 111, 98, 97, 108, 32, 97, 10, 97, 58, 32, 110, 111, 112, 10, 98, 58, 32, 104, 97, 108, 116], .str [104, 97, 108, 116, 10, 104, 97, 108, 10, 46, 103, 108, 111, 98, 97, 108, 32, 113]]
def asmGlobalsArg : AV := .sl 2 1 0 14 false 0 asmGlobalsTexts

end M2
end
