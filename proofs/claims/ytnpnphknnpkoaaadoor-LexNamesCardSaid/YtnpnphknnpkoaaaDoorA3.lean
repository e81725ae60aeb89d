/- General ground for the statement: an abstract machine that the program's code is shown to follow, and the contracts of the functions that the law reaches. Part 3. -/
import Derived.Test.YtnpnphknnpkoaaaDoorA2
import Derived.Lib.Join
import Derived.Lib.ItoaNum
import Derived.Below
import Derived.Shelf.Strings.Builder1
import Derived.Shelf.Strings.Builder2
import Derived.Shelf.Strings.OnBuilder
import Derived.Shelf.Small.Strs
import Derived.Shelf.Strconv.Itoa0
import Derived.Shelf.Strconv.Itoa1
import Derived.Shelf.LaysM
import Derived.Shelf.Strconv.Itoa2
import Derived.Shelf.Strconv.Itoa3
import Derived.Shelf.Strings.Search1
import Derived.Shelf.Strings.Search2
import Derived.Shelf.Strings.Search3
import Derived.Shelf.Strings.Shaped
import Derived.Test.YtnpnphknnpkoaaaDoorProg
import Derived.KernelRfl
import Derived.Test.YtnpnphknnpkoaaaDoorChecked
set_option linter.unusedVariables false
set_option linter.unusedSimpArgs false
section
/- Compiled functions, printed by a program of mine. -/
namespace M2
open Go

noncomputable def a325 : AFunc :=
  ⟨3, [p3n0], [(p3n2, none)], false, (.seq (.reg [⟨(some p3n2), none, (.mv (.c (.int .i64 (.ofNat 0))))⟩]) (.seq (.seq (.reg [⟨(some p3n3), none, (.mv (.t p3n0))⟩]) (.cond (.t p3n3) (.seq (.reg [⟨(some p3n2), none, (.mv (.c (.int .i64 (.ofNat 1))))⟩]) .ret) .skip)) (.seq (.reg [⟨(some p3n2), none, (.mv (.c (.int .i64 (.ofNat 0))))⟩]) .ret)))⟩
noncomputable def a326 : AFunc :=
  ⟨3, [p3n0], [(p3n2, none)], false, (.seq (.reg [⟨(some p3n2), none, (.mv (.c (.bool false)))⟩]) (.seq (.reg [⟨(some p3n3), none, (.mv (.t p3n0))⟩, ⟨(some p3n4), none, (.mv (.t p3n0))⟩, ⟨(some p3n5), none, (.bin .sub (.t p3n4) (.c (.int .i64 (.ofNat 1))))⟩, ⟨(some p3n6), none, (.bin .and (.t p3n3) (.t p3n5))⟩, ⟨(some p3n7), none, (.bin .eql (.t p3n6) (.c (.int .i64 (.ofNat 0))))⟩, ⟨(some p3n2), none, (.mv (.t p3n7))⟩]) .ret))⟩
noncomputable def a327 : AFunc :=
  ⟨3, [p3n0], [(p3n2, none)], false, (.seq (.reg [⟨(some p3n2), none, (.mv (.c (.int .i64 (.ofNat 0))))⟩]) (.seq (.cond (.c (.bool false)) (.seq (.reg [⟨(some p3n3), none, (.mv (.t p3n0))⟩, ⟨(some p3n4), none, (.cv (.int .u32) (.t p3n3))⟩, ⟨(some p3n5), none, (.call 328 [(.t p3n4)])⟩, ⟨(some p3n2), none, (.mv (.t p3n5))⟩]) .ret) .skip) (.seq (.reg [⟨(some p3n6), none, (.mv (.t p3n0))⟩, ⟨(some p3n7), none, (.call 329 [(.t p3n6)])⟩, ⟨(some p3n2), none, (.mv (.t p3n7))⟩]) .ret)))⟩
noncomputable def a328 : AFunc :=
  ⟨4, [p4n0], [(p4n2, none)], false, (.seq (.reg [⟨(some p4n2), none, (.mv (.c (.int .i64 (.ofNat 0))))⟩]) (.seq (.seq (.reg [⟨(some p4n3), none, (.mv (.t p4n0))⟩, ⟨(some p4n4), none, (.bin .eql (.t p4n3) (.c (.int .u32 (.ofNat 0))))⟩]) (.cond (.t p4n4) (.seq (.reg [⟨(some p4n2), none, (.mv (.c (.int .i64 (.ofNat 32))))⟩]) .ret) .skip)) (.seq (.reg [⟨(some p4n5), none, (.mv (.t p4n0))⟩, ⟨(some p4n6), none, (.mv (.t p4n0))⟩, ⟨(some p4n7), none, (.un .neg (.t p4n6))⟩, ⟨(some p4n8), none, (.bin .and (.t p4n5) (.t p4n7))⟩, ⟨(some p4n9), none, (.bin .mul (.t p4n8) (.c (.int .u32 (.ofNat 125613361))))⟩, ⟨(some p4n10), none, (.bin .shr (.t p4n9) (.c (.int .u64 (.ofNat 27))))⟩, ⟨(some p4n11), none, (.mem .mlen [])⟩, ⟨(some p4n12), none, (.ld1 (.t p4n11))⟩, ⟨(some p4n13), none, (.cv (.int .i64) (.t p4n12))⟩, ⟨(some p4n2), none, (.mv (.t p4n13))⟩]) .ret)))⟩
noncomputable def a329 : AFunc :=
  ⟨4, [p4n0], [(p4n2, none)], false, (.seq (.reg [⟨(some p4n2), none, (.mv (.c (.int .i64 (.ofNat 0))))⟩]) (.seq (.seq (.reg [⟨(some p4n3), none, (.mv (.t p4n0))⟩, ⟨(some p4n4), none, (.bin .eql (.t p4n3) (.c (.int .u64 (.ofNat 0))))⟩]) (.cond (.t p4n4) (.seq (.reg [⟨(some p4n2), none, (.mv (.c (.int .i64 (.ofNat 64))))⟩]) .ret) .skip)) (.seq (.reg [⟨(some p4n5), none, (.mv (.t p4n0))⟩, ⟨(some p4n6), none, (.mv (.t p4n0))⟩, ⟨(some p4n7), none, (.un .neg (.t p4n6))⟩, ⟨(some p4n8), none, (.bin .and (.t p4n5) (.t p4n7))⟩, ⟨(some p4n9), none, (.bin .mul (.t p4n8) (.c (.int .u64 (.ofNat 285870213051353865))))⟩, ⟨(some p4n10), none, (.bin .shr (.t p4n9) (.c (.int .u64 (.ofNat 58))))⟩, ⟨(some p4n11), none, (.mem .mlen [])⟩, ⟨(some p4n12), none, (.ld1 (.t p4n11))⟩, ⟨(some p4n13), none, (.cv (.int .i64) (.t p4n12))⟩, ⟨(some p4n2), none, (.mv (.t p4n13))⟩]) .ret)))⟩
noncomputable def a341 : AFunc :=
  ⟨3, [], [], false, (.seq (.reg [⟨(some p3n0), none, (.build [(.int .u8 (.ofNat 0)), (.int .u8 (.ofNat 0)), (.int .u8 (.ofNat 0)), (.int .u8 (.ofNat 0)), (.int .u8 (.ofNat 0)), (.int .u8 (.ofNat 0)), (.int .u8 (.ofNat 0)), (.int .u8 (.ofNat 0)), (.int .u8 (.ofNat 0)), (.int .u8 (.ofNat 0)), (.int .u8 (.ofNat 0)), (.int .u8 (.ofNat 0)), (.int .u8 (.ofNat 0)), (.int .u8 (.ofNat 0)), (.int .u8 (.ofNat 0)), (.int .u8 (.ofNat 0)), (.int .u8 (.ofNat 0)), (.int .u8 (.ofNat 0)), (.int .u8 (.ofNat 0)), (.int .u8 (.ofNat 0)), (.int .u8 (.ofNat 0)), (.int .u8 (.ofNat 0)), (.int .u8 (.ofNat 0)), (.int .u8 (.ofNat 0)), (.int .u8 (.ofNat 0)), (.int .u8 (.ofNat 0)), (.int .u8 (.ofNat 0)), (.int .u8 (.ofNat 0)), (.int .u8 (.ofNat 0)), (.int .u8 (.ofNat 0)), (.int .u8 (.ofNat 0)), (.int .u8 (.ofNat 0))] [(0, (1, (.c (.int .u8 (.ofNat 0))))), (1, (1, (.c (.int .u8 (.ofNat 1))))), (2, (1, (.c (.int .u8 (.ofNat 28))))), (3, (1, (.c (.int .u8 (.ofNat 2))))), (4, (1, (.c (.int .u8 (.ofNat 29))))), (5, (1, (.c (.int .u8 (.ofNat 14))))), (6, (1, (.c (.int .u8 (.ofNat 24))))), (7, (1, (.c (.int .u8 (.ofNat 3))))), (8, (1, (.c (.int .u8 (.ofNat 30))))), (9, (1, (.c (.int .u8 (.ofNat 22))))), (10, (1, (.c (.int .u8 (.ofNat 20))))), (11, (1, (.c (.int .u8 (.ofNat 15))))), (12, (1, (.c (.int .u8 (.ofNat 25))))), (13, (1, (.c (.int .u8 (.ofNat 17))))), (14, (1, (.c (.int .u8 (.ofNat 4))))), (15, (1, (.c (.int .u8 (.ofNat 8))))), (16, (1, (.c (.int .u8 (.ofNat 31))))), (17, (1, (.c (.int .u8 (.ofNat 27))))), (18, (1, (.c (.int .u8 (.ofNat 13))))), (19, (1, (.c (.int .u8 (.ofNat 23))))), (20, (1, (.c (.int .u8 (.ofNat 21))))), (21, (1, (.c (.int .u8 (.ofNat 19))))), (22, (1, (.c (.int .u8 (.ofNat 16))))), (23, (1, (.c (.int .u8 (.ofNat 7))))), (24, (1, (.c (.int .u8 (.ofNat 26))))), (25, (1, (.c (.int .u8 (.ofNat 12))))), (26, (1, (.c (.int .u8 (.ofNat 18))))), (27, (1, (.c (.int .u8 (.ofNat 6))))), (28, (1, (.c (.int .u8 (.ofNat 11))))), (29, (1, (.c (.int .u8 (.ofNat 5))))), (30, (1, (.c (.int .u8 (.ofNat 10))))), (31, (1, (.c (.int .u8 (.ofNat 9)))))])⟩, ⟨none, none, (.mem .mlen [])⟩]) (.seq (.reg [⟨(some p3n1), none, (.build [(.int .u8 (.ofNat 0)), (.int .u8 (.ofNat 0)), (.int .u8 (.ofNat 0)), (.int .u8 (.ofNat 0)), (.int .u8 (.ofNat 0)), (.int .u8 (.ofNat 0)), (.int .u8 (.ofNat 0)), (.int .u8 (.ofNat 0)), (.int .u8 (.ofNat 0)), (.int .u8 (.ofNat 0)), (.int .u8 (.ofNat 0)), (.int .u8 (.ofNat 0)), (.int .u8 (.ofNat 0)), (.int .u8 (.ofNat 0)), (.int .u8 (.ofNat 0)), (.int .u8 (.ofNat 0)), (.int .u8 (.ofNat 0)), (.int .u8 (.ofNat 0)), (.int .u8 (.ofNat 0)), (.int .u8 (.ofNat 0)), (.int .u8 (.ofNat 0)), (.int .u8 (.ofNat 0)), (.int .u8 (.ofNat 0)), (.int .u8 (.ofNat 0)), (.int .u8 (.ofNat 0)), (.int .u8 (.ofNat 0)), (.int .u8 (.ofNat 0)), (.int .u8 (.ofNat 0)), (.int .u8 (.ofNat 0)), (.int .u8 (.ofNat 0)), (.int .u8 (.ofNat 0)), (.int .u8 (.ofNat 0)), (.int .u8 (.ofNat 0)), (.int .u8 (.ofNat 0)), (.int .u8 (.ofNat 0)), (.int .u8 (.ofNat 0)), (.int .u8 (.ofNat 0)), (.int .u8 (.ofNat 0)), (.int .u8 (.ofNat 0)), (.int .u8 (.ofNat 0)), (.int .u8 (.ofNat 0)), (.int .u8 (.ofNat 0)), (.int .u8 (.ofNat 0)), (.int .u8 (.ofNat 0)), (.int .u8 (.ofNat 0)), (.int .u8 (.ofNat 0)), (.int .u8 (.ofNat 0)), (.int .u8 (.ofNat 0)), (.int .u8 (.ofNat 0)), (.int .u8 (.ofNat 0)), (.int .u8 (.ofNat 0)), (.int .u8 (.ofNat 0)), (.int .u8 (.ofNat 0)), (.int .u8 (.ofNat 0)), (.int .u8 (.ofNat 0)), (.int .u8 (.ofNat 0)), (.int .u8 (.ofNat 0)), (.int .u8 (.ofNat 0)), (.int .u8 (.ofNat 0)), (.int .u8 (.ofNat 0)), (.int .u8 (.ofNat 0)), (.int .u8 (.ofNat 0)), (.int .u8 (.ofNat 0)), (.int .u8 (.ofNat 0))] [(0, (1, (.c (.int .u8 (.ofNat 0))))), (1, (1, (.c (.int .u8 (.ofNat 1))))), (2, (1, (.c (.int .u8 (.ofNat 56))))), (3, (1, (.c (.int .u8 (.ofNat 2))))), (4, (1, (.c (.int .u8 (.ofNat 57))))), (5, (1, (.c (.int .u8 (.ofNat 49))))), (6, (1, (.c (.int .u8 (.ofNat 28))))), (7, (1, (.c (.int .u8 (.ofNat 3))))), (8, (1, (.c (.int .u8 (.ofNat 61))))), (9, (1, (.c (.int .u8 (.ofNat 58))))), (10, (1, (.c (.int .u8 (.ofNat 42))))), (11, (1, (.c (.int .u8 (.ofNat 50))))), (12, (1, (.c (.int .u8 (.ofNat 38))))), (13, (1, (.c (.int .u8 (.ofNat 29))))), (14, (1, (.c (.int .u8 (.ofNat 17))))), (15, (1, (.c (.int .u8 (.ofNat 4))))), (16, (1, (.c (.int .u8 (.ofNat 62))))), (17, (1, (.c (.int .u8 (.ofNat 47))))), (18, (1, (.c (.int .u8 (.ofNat 59))))), (19, (1, (.c (.int .u8 (.ofNat 36))))), (20, (1, (.c (.int .u8 (.ofNat 45))))), (21, (1, (.c (.int .u8 (.ofNat 43))))), (22, (1, (.c (.int .u8 (.ofNat 51))))), (23, (1, (.c (.int .u8 (.ofNat 22))))), (24, (1, (.c (.int .u8 (.ofNat 53))))), (25, (1, (.c (.int .u8 (.ofNat 39))))), (26, (1, (.c (.int .u8 (.ofNat 33))))), (27, (1, (.c (.int .u8 (.ofNat 30))))), (28, (1, (.c (.int .u8 (.ofNat 24))))), (29, (1, (.c (.int .u8 (.ofNat 18))))), (30, (1, (.c (.int .u8 (.ofNat 12))))), (31, (1, (.c (.int .u8 (.ofNat 5))))), (32, (1, (.c (.int .u8 (.ofNat 63))))), (33, (1, (.c (.int .u8 (.ofNat 55))))), (34, (1, (.c (.int .u8 (.ofNat 48))))), (35, (1, (.c (.int .u8 (.ofNat 27))))), (36, (1, (.c (.int .u8 (.ofNat 60))))), (37, (1, (.c (.int .u8 (.ofNat 41))))), (38, (1, (.c (.int .u8 (.ofNat 37))))), (39, (1, (.c (.int .u8 (.ofNat 16))))), (40, (1, (.c (.int .u8 (.ofNat 46))))), (41, (1, (.c (.int .u8 (.ofNat 35))))), (42, (1, (.c (.int .u8 (.ofNat 44))))), (43, (1, (.c (.int .u8 (.ofNat 21))))), (44, (1, (.c (.int .u8 (.ofNat 52))))), (45, (1, (.c (.int .u8 (.ofNat 32))))), (46, (1, (.c (.int .u8 (.ofNat 23))))), (47, (1, (.c (.int .u8 (.ofNat 11))))), (48, (1, (.c (.int .u8 (.ofNat 54))))), (49, (1, (.c (.int .u8 (.ofNat 26))))), (50, (1, (.c (.int .u8 (.ofNat 40))))), (51, (1, (.c (.int .u8 (.ofNat 15))))), (52, (1, (.c (.int .u8 (.ofNat 34))))), (53, (1, (.c (.int .u8 (.ofNat 20))))), (54, (1, (.c (.int .u8 (.ofNat 31))))), (55, (1, (.c (.int .u8 (.ofNat 10))))), (56, (1, (.c (.int .u8 (.ofNat 25))))), (57, (1, (.c (.int .u8 (.ofNat 14))))), (58, (1, (.c (.int .u8 (.ofNat 19))))), (59, (1, (.c (.int .u8 (.ofNat 9))))), (60, (1, (.c (.int .u8 (.ofNat 13))))), (61, (1, (.c (.int .u8 (.ofNat 8))))), (62, (1, (.c (.int .u8 (.ofNat 7))))), (63, (1, (.c (.int .u8 (.ofNat 6)))))])⟩, ⟨none, none, (.mem .mlen [])⟩]) (.seq (.reg [⟨(some p3n2), none, (.build [(.int .u64 (.ofNat 0)), (.int .u64 (.ofNat 0)), (.int .u64 (.ofNat 0)), (.int .u64 (.ofNat 0)), (.int .u64 (.ofNat 0)), (.int .u64 (.ofNat 0)), (.int .u64 (.ofNat 0)), (.int .u64 (.ofNat 0)), (.int .u64 (.ofNat 0)), (.int .u64 (.ofNat 0)), (.int .u64 (.ofNat 0)), (.int .u64 (.ofNat 0)), (.int .u64 (.ofNat 0)), (.int .u64 (.ofNat 0)), (.int .u64 (.ofNat 0)), (.int .u64 (.ofNat 0)), (.int .u64 (.ofNat 0)), (.int .u64 (.ofNat 0)), (.int .u64 (.ofNat 0)), (.int .u64 (.ofNat 0))] [(0, (1, (.c (.int .u64 (.ofNat 1))))), (1, (1, (.c (.int .u64 (.ofNat 10))))), (2, (1, (.c (.int .u64 (.ofNat 100))))), (3, (1, (.c (.int .u64 (.ofNat 1000))))), (4, (1, (.c (.int .u64 (.ofNat 10000))))), (5, (1, (.c (.int .u64 (.ofNat 100000))))), (6, (1, (.c (.int .u64 (.ofNat 1000000))))), (7, (1, (.c (.int .u64 (.ofNat 10000000))))), (8, (1, (.c (.int .u64 (.ofNat 100000000))))), (9, (1, (.c (.int .u64 (.ofNat 1000000000))))), (10, (1, (.c (.int .u64 (.ofNat 10000000000))))), (11, (1, (.c (.int .u64 (.ofNat 100000000000))))), (12, (1, (.c (.int .u64 (.ofNat 1000000000000))))), (13, (1, (.c (.int .u64 (.ofNat 10000000000000))))), (14, (1, (.c (.int .u64 (.ofNat 100000000000000))))), (15, (1, (.c (.int .u64 (.ofNat 1000000000000000))))), (16, (1, (.c (.int .u64 (.ofNat 10000000000000000))))), (17, (1, (.c (.int .u64 (.ofNat 100000000000000000))))), (18, (1, (.c (.int .u64 (.ofNat 1000000000000000000))))), (19, (1, (.c (.int .u64 (.ofNat 10000000000000000000)))))])⟩, ⟨none, none, (.mem .mlen [])⟩]) (.seq (.reg [⟨(some p3n3), none, (.call 323 [(.c (.str [118, 97, 108, 117, 101, 32, 111, 117, 116, 32, 111, 102, 32, 114, 97, 110, 103, 101]))])⟩, ⟨none, none, (.mem .mlen [])⟩]) (.reg [⟨(some p3n4), none, (.call 323 [(.c (.str [105, 110, 118, 97, 108, 105, 100, 32, 115, 121, 110, 116, 97, 120]))])⟩, ⟨none, none, (.mem .mlen [])⟩])))))⟩

end M2
end
section
namespace M2
open Go

noncomputable def tab : Tr := (.node 291 a291 (.node 95 a95 (.node 77 a77 (.node 60 a60 (.node 48 a48 (.node 38 a38 (.node 2 a2 .leaf .leaf) .leaf) (.node 51 a51 .leaf .leaf)) (.node 65 a65 (.node 64 a64 .leaf .leaf) (.node 66 a66 .leaf .leaf))) (.node 85 a85 (.node 80 a80 (.node 79 a79 (.node 78 a78 .leaf .leaf) .leaf) (.node 84 a84 .leaf .leaf)) (.node 87 a87 (.node 86 a86 .leaf .leaf) (.node 88 a88 .leaf .leaf)))) (.node 282 a282 (.node 278 a278 (.node 260 a260 (.node 99 a99 (.node 96 a96 .leaf .leaf) .leaf) (.node 277 a277 .leaf .leaf)) (.node 280 a280 (.node 279 a279 .leaf .leaf) (.node 281 a281 .leaf .leaf))) (.node 287 a287 (.node 285 a285 (.node 284 a284 (.node 283 a283 .leaf .leaf) .leaf) (.node 286 a286 .leaf .leaf)) (.node 289 a289 (.node 288 a288 .leaf .leaf) (.node 290 a290 .leaf .leaf))))) (.node 311 a311 (.node 301 a301 (.node 296 a296 (.node 294 a294 (.node 293 a293 (.node 292 a292 .leaf .leaf) .leaf) (.node 295 a295 .leaf .leaf)) (.node 298 a298 (.node 297 a297 .leaf .leaf) (.node 300 a300 .leaf .leaf))) (.node 307 a307 (.node 304 a304 (.node 303 a303 (.node 302 a302 .leaf .leaf) .leaf) (.node 305 a305 .leaf .leaf)) (.node 309 a309 (.node 308 a308 .leaf .leaf) (.node 310 a310 .leaf .leaf)))) (.node 322 a322 (.node 316 a316 (.node 314 a314 (.node 313 a313 (.node 312 a312 .leaf .leaf) .leaf) (.node 315 a315 .leaf .leaf)) (.node 320 a320 (.node 317 a317 .leaf .leaf) (.node 321 a321 .leaf .leaf))) (.node 327 a327 (.node 325 a325 (.node 324 a324 (.node 323 a323 .leaf .leaf) .leaf) (.node 326 a326 .leaf .leaf)) (.node 329 a329 (.node 328 a328 .leaf .leaf) (.node 341 a341 .leaf .leaf))))))

end M2
end
section
namespace M2
open Go Go.RowKit

/-! ### Functions of the library whose contracts are known -/

def primJoin : AFunc := ⟨77, [pth 3 0, pth 3 1], [(pth 3 2, none)], false, .reg [⟨some (pth 3 2), none, .mem (.prim 0) [.t (pth 3 0), .t (pth 3 1)]⟩]⟩
def primItoa : AFunc := ⟨77, [pth 3 0], [(pth 3 1, none)], false, .reg [⟨some (pth 3 1), none, .mem (.prim 1) [.t (pth 3 0)]⟩]⟩

theorem ev_reg (tbl : Nat → Option AFunc) (n : Nat) (l : List AO) (F : Fr) (t : T) : ev tbl (n + 1) (.reg l) F t = runOps l (callA tbl (ev tbl n)) F t := rfl
theorem runOps_one (op : AOp) (p : Bits) (call : CallF) (F : Fr) (t : T) : runOps [⟨some p, none, op⟩] call F t = (match op.run call F t with | .ok v t => .norm (F.put p v) t | .fail => .fail) := rfl

theorem prim2 {tbl : Nat → Option AFunc} {n i k : Nat} {args : List AV} {t t' : T} {r : AV} {fn : AFunc} (hfn : fn = ⟨77, [pth 3 0, pth 3 1], [(pth 3 2, none)], false, .reg [⟨some (pth 3 2), none, .mem (.prim k) [.t (pth 3 0), .t (pth 3 1)]⟩]⟩)
    (hi : tbl i = some fn) (h : callA tbl (ev tbl n) i args t = .ok r t') : ∃ x y, args = [x, y] ∧ primA k [x, y] = some r ∧ t' = t.enter.leave false r := by
  unfold callA at h
  rw [hi] at h
  subst hfn
  simp only at h
  match args, h with
  | [x, y], h =>
    refine ⟨x, y, rfl, ?_⟩
    simp only [argsIn] at h
    cases n with
    | zero => cases h
    | succ n =>
      rw [ev_reg, runOps_one] at h
      have e : AOp.run (.mem (.prim k) [.t (pth 3 0), .t (pth 3 1)]) (callA tbl (ev tbl n)) ((Fr.nil.put (pth 3 0) x).put (pth 3 1) y) t.enter = (match primA k [x, y] with | some v => .ok v t.enter | none => .fail) := by
        show memStep (.prim k) [((Fr.nil.put (pth 3 0) x).put (pth 3 1) y).get (pth 3 0), ((Fr.nil.put (pth 3 0) x).put (pth 3 1) y).get (pth 3 1)] t.enter = _
        rw [Fr.get_put, Fr.get_put, Fr.get_put, if_pos rfl, if_pos rfl, if_neg (by decide)]
        rfl
      rw [e] at h
      cases hp : primA k [x, y] with
      | none => rw [hp] at h; cases h
      | some v =>
        rw [hp] at h
        simp only [afterBody, resultsOf, resultOf, packed] at h
        rw [Fr.get_put, if_pos rfl] at h
        cases h
        exact ⟨rfl, rfl⟩
  | [], h => simp [argsIn] at h
  | [_], h => simp [argsIn] at h
  | _ :: _ :: _ :: _, h => simp [argsIn] at h

theorem prim1 {tbl : Nat → Option AFunc} {n i k : Nat} {args : List AV} {t t' : T} {r : AV} {fn : AFunc} (hfn : fn = ⟨77, [pth 3 0], [(pth 3 1, none)], false, .reg [⟨some (pth 3 1), none, .mem (.prim k) [.t (pth 3 0)]⟩]⟩)
    (hi : tbl i = some fn) (h : callA tbl (ev tbl n) i args t = .ok r t') : ∃ x, args = [x] ∧ primA k [x] = some r ∧ t' = t.enter.leave false r := by
  unfold callA at h
  rw [hi] at h
  subst hfn
  simp only at h
  match args, h with
  | [x], h =>
    refine ⟨x, rfl, ?_⟩
    simp only [argsIn] at h
    cases n with
    | zero => cases h
    | succ n =>
      rw [ev_reg, runOps_one] at h
      have e : AOp.run (.mem (.prim k) [.t (pth 3 0)]) (callA tbl (ev tbl n)) (Fr.nil.put (pth 3 0) x) t.enter = (match primA k [x] with | some v => .ok v t.enter | none => .fail) := by
        show memStep (.prim k) [(Fr.nil.put (pth 3 0) x).get (pth 3 0)] t.enter = _
        rw [Fr.get_put, if_pos rfl]
        rfl
      rw [e] at h
      cases hp : primA k [x] with
      | none => rw [hp] at h; cases h
      | some v =>
        rw [hp] at h
        simp only [afterBody, resultsOf, resultOf, packed] at h
        rw [Fr.get_put, if_pos rfl] at h
        cases h
        exact ⟨rfl, rfl⟩
  | [], h => simp [argsIn] at h
  | _ :: _ :: _, h => simp [argsIn] at h

section
variable {P : Program} {M : Maps}

/-- a world in which what was there stands -/
def G.grown (g : G) (w : World) : G := { g with w := w }
theorem le_grown {g : G} {w : World} (h : Below g.w.heap.size g.w w) : g.Le (g.grown w) where
  n := Nat.le_refl _
  ok _ h := h
  new _ h := .inl h
  ρ _ _ := rfl
  ν _ _ := rfl
  size := h.size
  lim b k hb hk := ⟨k, hk, Nat.le_refl _, fun _ _ => cell?_of_heap (h.block b hb)⟩
  oth b hb _ := ⟨rfl, h.block b hb⟩
  os := h.os
  tape := h.tape
  output := h.output
  sz b hb := csize_of_heap (h.block b hb)
theorem sr_grown {g : G} {w : World} {t : T} (h : Below g.w.heap.size g.w w) (hS : SR M g t) : SR M (g.grown w) t where
  n := hS.n
  wf := hS.wf
  okn := hS.okn
  var x o hx := by
    obtain ⟨a, b, c⟩ := hS.var x o hx
    refine ⟨a, b, c.mono (le_grown h) (h.block _ ?_)⟩
    cases c with
    | cells cs b c ty fz hh hz hl hv => exact (getElem?_some_iff.mp hh).1
    | map es b ms clock hh hl hk hv => exact (getElem?_some_iff.mp hh).1
  inj := hS.inj
  ids i en e hi := by
    obtain ⟨a, b, c, ty, fz, c1, c2, c3⟩ := hS.ids i en e hi
    have hb := h.block _ (getElem?_some_iff.mp c1).1
    exact ⟨a, b, c, ty, fz, hb.trans c1, fun off ho => by rw [← c2 off ho]; exact frozen_of_heap hb, c3⟩
  idinj := hS.idinj

theorem joinA_eq (sep : List UInt8) (l : List (List UInt8)) : joinA sep l = Lib.join l sep := by
  induction l with
  | nil => rfl
  | cons x l ih =>
    cases l with
    | nil => rw [Lib.join_one]; rfl
    | cons y l =>
      rw [Lib.join_cons]
      show x ++ (sep ++ joinA sep (y :: l)) = _
      rw [ih, Lib.join_cons]
      simp [Lib.joinTail]

theorem strsA_ok : ∀ (es : List AV) (l : List (List UInt8)), strsA es = some l → es = l.map AV.str := by
  intro es
  induction es with
  | nil => intro l h; cases h; rfl
  | cons x es ih =>
    intro l h
    cases x with
    | str s =>
      simp only [strsA] at h
      cases hs : strsA es with
      | none => rw [hs] at h; cases h
      | some r => rw [hs] at h; cases h; rw [ih r hs]; rfl
    | _ => cases h

theorem prim_join {i : Nat} (hgood : Good P (M.fm i))
    (h0 : ∀ (a : Option Addr) (c : Nat) (sep : ByteArray) (w : World), Calls P (M.fm i) #[.slice a 0 c, .string sep] w fun e w' => e = .returned (.string ⟨#[]⟩) ∧ w' = w)
    (h1 : ∀ (bk o c : Nat) (xs : List ByteArray) (sep : ByteArray) (w : World), (∀ (j : Nat) x, xs[j]? = some x → w.cell? ⟨bk, o + j, none⟩ = some (.string x)) → bk < w.heap.size → xs.length ≤ 140737488355328 → xs.length ≤ c →
      (Lib.join (xs.map (·.data.toList)) sep.data.toList).length ≤ 140737488355328 →
      Calls P (M.fm i) #[.slice (some ⟨bk, o, none⟩) xs.length c, .string sep] w fun e w' => e = .returned (.string ⟨(Lib.join (xs.map (·.data.toList)) sep.data.toList).toArray⟩) ∧ Below w.heap.size w w') : PrimAt P M i primJoin := by
  intro tbl n args t r t' hi hr
  obtain ⟨x, y, rfl, hp, rfl⟩ := prim2 rfl hi hr
  refine ⟨hgood, fun g cargs hS hsz hv => ?_⟩
  have hsz2 : cargs.size = 2 := by simpa using hsz
  have vx := hv 0 (by simp)
  have vy := hv 1 (by simp)
  obtain ⟨cx, cy, rfl⟩ : ∃ cx cy, cargs = #[cx, cy] := ⟨cargs[0], cargs[1], by
    apply Array.ext
    · simp [hsz2]
    · intro j h1 h2
      match j, h2 with
      | 0, _ => rfl
      | 1, _ => rfl⟩
  simp only [List.getElem_cons_zero, List.getElem_cons_succ] at vx vy
  have vx : VR M g x cx := vx
  have vy : VR M g y cy := vy
  have none_case : ∀ a c (sep : List UInt8), cx = .slice a 0 c → y = .str sep → r = .str [] → Calls P (M.fm i) #[cx, cy] g.w fun e w' => ∃ v g', e = .returned v ∧ g'.w = w' ∧ g.Le g' ∧ VR M g' r v ∧ SR M g' (t.enter.leave false r) := by
    intro a c sep e1 e2 e3
    subst e1 e2 e3
    cases vy
    refine (h0 a c _ g.w).mono ?_
    rintro e w' ⟨rfl, rfl⟩
    exact ⟨_, g, rfl, rfl, .refl g, .str [], hS.enter.leave _ _⟩
  unfold primA at hp
  split at hp
  · rename_i s e0 e1
    cases e1
    cases hp
    cases vx
    exact none_case _ _ _ rfl rfl rfl
  · rename_i s e0 e1
    cases e1
    cases hp
    cases vx
    exact none_case _ _ _ rfl rfl rfl
  · rename_i id e pos cap fl alt es sep e0 e1
    cases e1
    cases hl : strsA es with
    | none => rw [hl] at hp; cases hp
    | some l =>
      rw [hl] at hp
      simp only at hp
      split at hp
      · rename_i hb
        cases hp
        simp only [Bool.and_eq_true] at hb
        have b1 := Nat.eq_of_beq_eq_true hb.1.1
        have b2 := Nat.le_of_ble_eq_true hb.1.2
        have b3 := Nat.le_of_ble_eq_true hb.2
        subst b1
        have hes := strsA_ok es l hl
        cases vy
        cases vx with
        | sl id e pos cap fl alt es b o ccap vs hid hcc hb' ho hlen hv' hsz' hc hf =>
          have hlen2 : es.length = l.length := by rw [hes]; simp
          have hvs : ∀ j (hj : j < l.length), vs j = .string ⟨l[j].toArray⟩ := by
            intro j hj
            have h := hv' j (by omega)
            have e5 : es[j]'(by omega) = .str l[j] := by simp [hes]
            rw [e5] at h
            generalize vs j = vj at h
            cases h
            rfl
          have hcall := h1 b o ccap (l.map fun s => ⟨s.toArray⟩) ⟨sep.toArray⟩ g.w (by
            intro j x hx
            rw [List.getElem?_map] at hx
            rw [Option.map_eq_some_iff] at hx
            obtain ⟨s, hs, rfl⟩ := hx
            obtain ⟨hj, rfl⟩ := List.getElem?_eq_some_iff.mp hs
            have h := hc j 0 (by omega) (by omega)
            rw [Nat.mul_one, Nat.add_zero, hvs j hj] at h
            exact h) hf.1 (by simp; omega) (by simp; omega) (by
            rw [List.map_map]
            have : (l.map ((fun (x : ByteArray) => x.data.toList) ∘ fun s => (⟨s.toArray⟩ : ByteArray))) = l := by simp [Function.comp_def]
            rw [this, show (⟨sep.toArray⟩ : ByteArray).data.toList = sep by simp, ← joinA_eq]
            omega)
          rw [List.length_map, ← hlen2] at hcall
          refine hcall.mono ?_
          rintro e w' ⟨rfl, hw⟩
          refine ⟨_, g.grown w', rfl, rfl, le_grown hw, ?_, (sr_grown hw hS).enter.leave _ _⟩
          have : (l.map (fun s => (⟨s.toArray⟩ : ByteArray))).map (fun x => x.data.toList) = l := by simp [Function.comp_def]
          rw [this, show (⟨sep.toArray⟩ : ByteArray).data.toList = sep by simp, joinA_eq]
          exact .str _
      · cases hp
  · rename_i e0 e1
    cases e1
  · cases hp

theorem smallA_eq : ∀ n, n < 100 → smallA n = Lib.decDigits n := by
  intro n hn
  unfold Lib.decDigits
  by_cases h : n < 10
  · rw [dif_pos h]
    have : Nat.blt n 10 = true := Nat.ble_eq_true_of_le h
    simp [smallA, this]
  · rw [dif_neg h]
    unfold Lib.decDigits
    have h2 : n / 10 < 10 := by omega
    rw [dif_pos h2]
    have : Nat.blt n 10 = false := by
      cases hc : Nat.blt n 10 with
      | false => rfl
      | true => exact absurd (Nat.le_of_ble_eq_true hc) h
    simp [smallA, this]

theorem prim_itoa {i : Nat} (hgood : Good P (M.fm i))
    (h0 : ∀ (n : Nat) (_ : n < 100) (w : World), Calls P (M.fm i) #[.int .i64 n] w fun e w' => e = .returned (.string ⟨(Lib.decDigits n).toArray⟩) ∧ w' = w) : PrimAt P M i primItoa := by
  intro tbl n args t r t' hi hr
  obtain ⟨x, rfl, hp, rfl⟩ := prim1 rfl hi hr
  refine ⟨hgood, fun g cargs hS hsz hv => ?_⟩
  have hsz1 : cargs.size = 1 := by simpa using hsz
  have vx := hv 0 (by simp)
  obtain ⟨cx, rfl⟩ : ∃ cx, cargs = #[cx] := ⟨cargs[0], by
    apply Array.ext
    · simp [hsz1]
    · intro j h1 h2
      match j, h2 with
      | 0, _ => rfl⟩
  simp only [List.getElem_cons_zero] at vx
  have vx : VR M g x cx := vx
  unfold primA at hp
  split at hp
  · rename_i e0 e1; cases e1
  · rename_i e0 e1; cases e1
  · rename_i e0 e1; cases e1
  · rename_i k m e0 e1
    cases e1
    split at hp
    · rename_i hb
      cases hp
      simp only [Bool.and_eq_true] at hb
      have hk : k = .i64 := by simpa using hb.1
      have hm : m < 100 := Nat.le_of_ble_eq_true hb.2
      subst hk
      cases vx
      refine (h0 m hm g.w).mono ?_
      rintro e w' ⟨rfl, rfl⟩
      refine ⟨_, g, rfl, rfl, .refl g, ?_, hS.enter.leave _ _⟩
      rw [← smallA_eq m hm]
      exact .str _
    · cases hp
  · cases hp

theorem Here.prim {im : FuncId → Option Nat} {i : Nat} {a : AFunc} (hd : a.depth = 77) (h : PrimAt P M i a) : Here P M im i a := .inr ⟨hd, h⟩

end

end M2
end
section
/-
  DERIVED: THE SHELF's CONTRACTS AT THIS DUMP, IN PLAIN WORDS (tools/lay-plain.mjs out of 'TrydShelf.lean', which tools/lay-shelf.mjs wrote): THE SAME DECLARATIONS UNDER THE SAME NAMES: 'import', 'namespace', 'open', 'def', 'theorem' AND NOTHING ELSE: no command of the shelf's: FOR A HAND-IN. Each laying: the table of numbers ('.._ren') and one theorem, a field a fact of the dump's own or the kernel's comparison; each contract: ONE APPLICATION.
-/
namespace Go.Proofs
open Go.Shelf
def Tryd.lays156_ren : Go.Shelf.Ren := ⟨fun | 156 => 29 | 165 => 39 | 166 => 40 | 169 => 41 | 240 => 51 | 241 => 52 | 276 => 64 | 277 => 65 | n => n, fun | 31 => 22 | 9 => 9 | 3 => 3 | 4 => 4 | 0 => 0 | 20 => 20 | 72 => 64 | 76 => 66 | 70 => 62 | 37 => 28 | 75 => 56 | 127 => 74 | 164 => 90 | 5 => 5 | 80 => 68 | n => n, fun | n => n⟩
theorem Tryd.lays156 : Go.Proofs.Lays.n156 Tryd.prog Tryd.lays156_ren := {
  mixed := by kernel_rfl
  f156 := Tryd.func29.trans (congrArg some (by kernel_rfl))
  f165 := Tryd.func39.trans (congrArg some (by kernel_rfl))
  f166 := Tryd.func40.trans (congrArg some (by kernel_rfl))
  f169 := Tryd.func41.trans (congrArg some (by kernel_rfl))
  f240 := Tryd.func51.trans (congrArg some (by kernel_rfl))
  f241 := Tryd.func52.trans (congrArg some (by kernel_rfl))
  f276 := Tryd.func64.trans (congrArg some (by kernel_rfl))
  f277 := Tryd.func65.trans (congrArg some (by kernel_rfl))
  t0 := Tryd.underlying0
  a0 := Tryd.isAgg0
  z0 := Tryd.sizeOf0
  v0 := Tryd.zeroValue0
  t3 := Tryd.underlying3
  a3 := Tryd.isAgg3
  z3 := Tryd.sizeOf3
  v3 := Tryd.zeroValue3
  t4 := Tryd.underlying4
  a4 := Tryd.isAgg4
  z4 := Tryd.sizeOf4
  v4 := Tryd.zeroValue4
  t9 := Tryd.underlying9
  a9 := Tryd.isAgg9
  z9 := Tryd.sizeOf9
  v9 := Tryd.zeroValue9
  t20 := Tryd.underlying20
  a20 := Tryd.isAgg20
  z20 := Tryd.sizeOf20
  v20 := Tryd.zeroValue20
  t31 := Tryd.underlying22
  a31 := Tryd.isAgg22
  z31 := Tryd.sizeOf22
  v31 := Tryd.zeroValue22
  t37 := Tryd.underlying28
  a37 := Tryd.isAgg28
  z37 := Tryd.sizeOf28
  v37 := Tryd.zeroValue28
  t70 := Tryd.underlying62
  a70 := Tryd.isAgg62
  z70 := Tryd.sizeOf62
  v70 := Tryd.zeroValue62
  t72 := Tryd.underlying64
  a72 := Tryd.isAgg64
  z72 := Tryd.sizeOf64
  v72 := Tryd.zeroValue64
  t75 := Tryd.underlying56
  a75 := Tryd.isAgg56
  z75 := Tryd.sizeOf56
  v75 := Tryd.zeroValue56
  t76 := Tryd.underlying66
  a76 := Tryd.isAgg66
  z76 := Tryd.sizeOf66
  v76 := Tryd.zeroValue66
  t127 := Tryd.underlying74
  a127 := Tryd.isAgg74
  z127 := Tryd.sizeOf74
  v127 := Tryd.zeroValue74
  t164 := Tryd.underlying90
  a164 := Tryd.isAgg90
  z164 := Tryd.sizeOf90
  v164 := Tryd.zeroValue90 }
theorem Tryd.Builder_Extra_156 : Builder.Extra Tryd.prog Tryd.lays156_ren := {
  sizeBuilder := by kernel_rfl
  liesBuilder := by kernel_rfl
  t5 := Tryd.underlying5
  a5 := Tryd.isAgg5
  z5 := Tryd.sizeOf5
  v5 := Tryd.zeroValue5
  infoByte := by kernel_rfl
  cellsByte := by kernel_rfl
  sizeByte := by kernel_rfl
  neB5 := by decide }
open Go.RowKit in
/-- No element: the empty string; the world is as it was. (Whatever the slice's address and capacity: a nil slice too.) (LAID: no walk: one application.) -/
theorem Tryd.strings_Join_none (a : Option Addr) (c : Nat) (sep : ByteArray) (w : World) :
    Calls Tryd.prog 29 #[.slice a 0 c, .string sep] w fun e w' => e = .returned (.string ⟨#[]⟩) ∧ w' = w := Any.strings_Join_none Tryd.lays156 Tryd.Builder_Extra_156 a c sep w
open Go.RowKit in
/-- strings.Join: "Join concatenates the elements of its first argument to create a single string. The separator string sep is placed between elements in the resulting string.": HOWEVER MANY ELEMENTS. Below the heap's end the world is as it was. (LAID: no walk: one application.) -/
theorem Tryd.strings_Join (bk o c : Nat) (xs : List ByteArray) (sep : ByteArray) (w : World) (hcells : ∀ (j : Nat) x, xs[j]? = some x → w.cell? ⟨bk, o + j, none⟩ = some (.string x)) (hbk : bk < w.heap.size) (hN : xs.length ≤ 140737488355328) (hcap : xs.length ≤ c) (hlen : (Lib.join (xs.map (·.data.toList)) sep.data.toList).length ≤ 140737488355328) :
    Calls Tryd.prog 29 #[.slice (some ⟨bk, o, none⟩) xs.length c, .string sep] w fun e w' => e = .returned (.string ⟨(Lib.join (xs.map (·.data.toList)) sep.data.toList).toArray⟩) ∧ Below w.heap.size w w' := Any.strings_Join Tryd.lays156 Tryd.Builder_Extra_156 bk o c xs sep w hcells hbk hN hcap hlen
def Tryd.lays171_ren : Go.Shelf.Ren := ⟨fun | 171 => 28 | 243 => 38 | 246 => 50 | 283 => 60 | 284 => 61 | 285 => 62 | 286 => 63 | 129 => 71 | 317 => 70 | 318 => 72 | 319 => 73 | 320 => 74 | 337 => 75 | 338 => 76 | n => n, fun | 3 => 3 | 9 => 9 | 2 => 2 | 4 => 4 | 171 => 85 | 0 => 0 | 53 => 79 | 37 => 28 | 5 => 5 | 173 => 88 | 212 => 100 | 51 => 75 | 20 => 20 | 213 => 101 | 46 => 70 | 232 => 108 | 233 => 109 | n => n, fun | 17 => 3 | 18 => 4 | 19 => 5 | n => n⟩
theorem Tryd.lays171 : Go.Proofs.Lays.n171 Tryd.prog Tryd.lays171_ren := {
  mixed := by kernel_rfl
  f129 := Tryd.func71.trans (congrArg some (by kernel_rfl))
  f171 := Tryd.func28.trans (congrArg some (by kernel_rfl))
  f243 := Tryd.func38.trans (congrArg some (by kernel_rfl))
  f246 := Tryd.func50.trans (congrArg some (by kernel_rfl))
  f283 := Tryd.func60.trans (congrArg some (by kernel_rfl))
  f284 := Tryd.func61.trans (congrArg some (by kernel_rfl))
  f285 := Tryd.func62.trans (congrArg some (by kernel_rfl))
  f286 := Tryd.func63.trans (congrArg some (by kernel_rfl))
  f317 := Tryd.func70.trans (congrArg some (by kernel_rfl))
  f318 := Tryd.func72.trans (congrArg some (by kernel_rfl))
  f319 := Tryd.func73.trans (congrArg some (by kernel_rfl))
  f320 := Tryd.func74.trans (congrArg some (by kernel_rfl))
  f337 := Tryd.func75.trans (congrArg some (by kernel_rfl))
  f338 := Tryd.func76.trans (congrArg some (by kernel_rfl))
  t0 := Tryd.underlying0
  a0 := Tryd.isAgg0
  z0 := Tryd.sizeOf0
  v0 := Tryd.zeroValue0
  t2 := Tryd.underlying2
  a2 := Tryd.isAgg2
  z2 := Tryd.sizeOf2
  v2 := Tryd.zeroValue2
  t3 := Tryd.underlying3
  a3 := Tryd.isAgg3
  z3 := Tryd.sizeOf3
  v3 := Tryd.zeroValue3
  t4 := Tryd.underlying4
  a4 := Tryd.isAgg4
  z4 := Tryd.sizeOf4
  v4 := Tryd.zeroValue4
  t5 := Tryd.underlying5
  a5 := Tryd.isAgg5
  z5 := Tryd.sizeOf5
  v5 := Tryd.zeroValue5
  t9 := Tryd.underlying9
  a9 := Tryd.isAgg9
  z9 := Tryd.sizeOf9
  v9 := Tryd.zeroValue9
  t20 := Tryd.underlying20
  a20 := Tryd.isAgg20
  z20 := Tryd.sizeOf20
  v20 := Tryd.zeroValue20
  t37 := Tryd.underlying28
  a37 := Tryd.isAgg28
  z37 := Tryd.sizeOf28
  v37 := Tryd.zeroValue28
  t46 := Tryd.underlying70
  a46 := Tryd.isAgg70
  z46 := Tryd.sizeOf70
  v46 := Tryd.zeroValue70
  t51 := Tryd.underlying75
  a51 := Tryd.isAgg75
  z51 := Tryd.sizeOf75
  v51 := Tryd.zeroValue75
  t53 := Tryd.underlying79
  a53 := Tryd.isAgg79
  z53 := Tryd.sizeOf79
  v53 := Tryd.zeroValue79
  t171 := Tryd.underlying85
  a171 := Tryd.isAgg85
  z171 := Tryd.sizeOf85
  v171 := Tryd.zeroValue85
  t173 := Tryd.underlying88
  a173 := Tryd.isAgg88
  z173 := Tryd.sizeOf88
  v173 := Tryd.zeroValue88
  t212 := Tryd.underlying100
  a212 := Tryd.isAgg100
  z212 := Tryd.sizeOf100
  v212 := Tryd.zeroValue100
  t213 := Tryd.underlying101
  a213 := Tryd.isAgg101
  z213 := Tryd.sizeOf101
  t232 := Tryd.underlying108
  a232 := Tryd.isAgg108
  z232 := Tryd.sizeOf108
  v232 := Tryd.zeroValue108
  t233 := Tryd.underlying109
  a233 := Tryd.isAgg109
  z233 := Tryd.sizeOf109
  v233 := Tryd.zeroValue109
  g17 := by kernel_rfl
  g18 := by kernel_rfl
  g19 := by kernel_rfl }
open Go.RowKit Go.Sort Go.Lib in
/-- THE ROAD WITHOUT THE TABLE: 0 <= i < 100: NO PREMISE ON THE WORLD, AND THE WORLD IS AS IT WAS: a row that keeps its argument in that range need list no table ('laid = []'). (LAID: no walk: one application.) -/
theorem Tryd.strconv_Itoa_small (i : Nat) (hi : i < 100) (w : World) :
    Calls Tryd.prog 28 #[.int .i64 i] w fun e w' => e = .returned (.string ⟨(Lib.decDigits i).toArray⟩) ∧ w' = w := Any.strconv_Itoa_small Tryd.lays171 i hi w
end Go.Proofs
end
section
namespace Go.Proofs.YtnpnphknnpkoaaaDoor
open Go M2

def ims : List Nat := [0, 1, 2, 277, 278, 279, 280, 48, 281, 38, 282, 283, 86, 284, 285, 60, 286, 287, 85, 87, 95, 288, 88, 77, 78, 79, 80, 51, 289, 290, 291, 292, 293, 294, 96, 64, 65, 66, 295, 296, 297, 298, 99, 299, 300, 301, 302, 303, 304, 84, 305, 306, 307, 101, 308, 309, 310, 311, 312, 313, 314, 315, 316, 317, 318, 319, 320, 321, 322, 323, 324, 260, 325, 326, 327, 328, 329, 102, 103, 104, 105, 106, 107, 108, 109, 110, 111, 112, 113, 114, 115, 116, 330, 331, 332, 333, 117, 334, 335, 336, 337, 338, 339, 340, 341]
def im (f : Nat) : Option Nat := ims[f]?

end Go.Proofs.YtnpnphknnpkoaaaDoor
end
section
/- The functions of the program compile to those. -/
namespace Go.Proofs.YtnpnphknnpkoaaaDoor
open Go M2

theorem c2 : cmpF Tryd.prog im 3 false Tryd.f2 = some a2 := by kernel_rfl
theorem c38 : cmpF Tryd.prog im 5 false Tryd.f9 = some a38 := by kernel_rfl
theorem c48 : cmpF Tryd.prog im 7 false Tryd.f7 = some a48 := by kernel_rfl
theorem c51 : cmpF Tryd.prog im 4 false Tryd.f27 = some a51 := by kernel_rfl
theorem c60 : cmpF Tryd.prog im 7 false Tryd.f15 = some a60 := by kernel_rfl
theorem c64 : cmpF Tryd.prog im 4 false Tryd.f35 = some a64 := by kernel_rfl
theorem c65 : cmpF Tryd.prog im 3 false Tryd.f36 = some a65 := by kernel_rfl
theorem c66 : cmpF Tryd.prog im 7 false Tryd.f37 = some a66 := by kernel_rfl
theorem c77 : cmpF Tryd.prog im 5 false Tryd.f23 = some a77 := by kernel_rfl
theorem c78 : cmpF Tryd.prog im 4 false Tryd.f24 = some a78 := by kernel_rfl
theorem c79 : cmpF Tryd.prog im 4 false Tryd.f25 = some a79 := by kernel_rfl
theorem c80 : cmpF Tryd.prog im 6 false Tryd.f26 = some a80 := by kernel_rfl
theorem c84 : cmpF Tryd.prog im 5 false Tryd.f49 = some a84 := by kernel_rfl
theorem c85 : cmpF Tryd.prog im 5 false Tryd.f18 = some a85 := by kernel_rfl
theorem c86 : cmpF Tryd.prog im 5 false Tryd.f12 = some a86 := by kernel_rfl
theorem c87 : cmpF Tryd.prog im 4 false Tryd.f19 = some a87 := by kernel_rfl
theorem c88 : cmpF Tryd.prog im 3 false Tryd.f22 = some a88 := by kernel_rfl
theorem c95 : cmpF Tryd.prog im 4 false Tryd.f20 = some a95 := by kernel_rfl
theorem c96 : cmpF Tryd.prog im 3 false Tryd.f34 = some a96 := by kernel_rfl
theorem c99 : cmpF Tryd.prog im 3 false Tryd.f42 = some a99 := by kernel_rfl
theorem c260 : cmpF Tryd.prog im 5 false Tryd.f71 = some a260 := by kernel_rfl
theorem c277 : cmpF Tryd.prog im 4 false Tryd.f3 = some a277 := by kernel_rfl
theorem c278 : cmpF Tryd.prog im 6 false Tryd.f4 = some a278 := by kernel_rfl
theorem c279 : cmpF Tryd.prog im 6 false Tryd.f5 = some a279 := by kernel_rfl
theorem c280 : cmpF Tryd.prog im 6 false Tryd.f6 = some a280 := by kernel_rfl
theorem c281 : cmpF Tryd.prog im 3 false Tryd.f8 = some a281 := by kernel_rfl
theorem c282 : cmpF Tryd.prog im 6 false Tryd.f10 = some a282 := by kernel_rfl
theorem c283 : cmpF Tryd.prog im 4 false Tryd.f11 = some a283 := by kernel_rfl
theorem c284 : cmpF Tryd.prog im 4 false Tryd.f13 = some a284 := by kernel_rfl
theorem c285 : cmpF Tryd.prog im 6 false Tryd.f14 = some a285 := by kernel_rfl
theorem c286 : cmpF Tryd.prog im 5 false Tryd.f16 = some a286 := by kernel_rfl
theorem c287 : cmpF Tryd.prog im 3 false Tryd.f17 = some a287 := by kernel_rfl
theorem c288 : cmpF Tryd.prog im 6 false Tryd.f21 = some a288 := by kernel_rfl
theorem c291 : cmpF Tryd.prog im 8 false Tryd.f30 = some a291 := by kernel_rfl
theorem c292 : cmpF Tryd.prog im 3 false Tryd.f31 = some a292 := by kernel_rfl
theorem c293 : cmpF Tryd.prog im 4 false Tryd.f32 = some a293 := by kernel_rfl
theorem c294 : cmpF Tryd.prog im 5 false Tryd.f33 = some a294 := by kernel_rfl
theorem c295 : cmpF Tryd.prog im 3 false Tryd.f38 = some a295 := by kernel_rfl
theorem c296 : cmpF Tryd.prog im 5 false Tryd.f39 = some a296 := by kernel_rfl
theorem c297 : cmpF Tryd.prog im 5 false Tryd.f40 = some a297 := by kernel_rfl
theorem c298 : cmpF Tryd.prog im 4 false Tryd.f41 = some a298 := by kernel_rfl
theorem c300 : cmpF Tryd.prog im 3 false Tryd.f44 = some a300 := by kernel_rfl
theorem c301 : cmpF Tryd.prog im 7 false Tryd.f45 = some a301 := by kernel_rfl
theorem c302 : cmpF Tryd.prog im 5 false Tryd.f46 = some a302 := by kernel_rfl
theorem c303 : cmpF Tryd.prog im 7 false Tryd.f47 = some a303 := by kernel_rfl
theorem c304 : cmpF Tryd.prog im 6 false Tryd.f48 = some a304 := by kernel_rfl
theorem c305 : cmpF Tryd.prog im 6 false Tryd.f50 = some a305 := by kernel_rfl
theorem c307 : cmpF Tryd.prog im 5 false Tryd.f52 = some a307 := by kernel_rfl
theorem c308 : cmpF Tryd.prog im 6 false Tryd.f54 = some a308 := by kernel_rfl
theorem c309 : cmpF Tryd.prog im 8 false Tryd.f55 = some a309 := by kernel_rfl
theorem c310 : cmpF Tryd.prog im 4 false Tryd.f56 = some a310 := by kernel_rfl
theorem c311 : cmpF Tryd.prog im 4 false Tryd.f57 = some a311 := by kernel_rfl
theorem c312 : cmpF Tryd.prog im 4 false Tryd.f58 = some a312 := by kernel_rfl
theorem c313 : cmpF Tryd.prog im 4 false Tryd.f59 = some a313 := by kernel_rfl
theorem c314 : cmpF Tryd.prog im 4 false Tryd.f60 = some a314 := by kernel_rfl
theorem c315 : cmpF Tryd.prog im 4 false Tryd.f61 = some a315 := by kernel_rfl
theorem c316 : cmpF Tryd.prog im 8 false Tryd.f62 = some a316 := by kernel_rfl
theorem c317 : cmpF Tryd.prog im 7 false Tryd.f63 = some a317 := by kernel_rfl
theorem c320 : cmpF Tryd.prog im 3 false Tryd.f66 = some a320 := by kernel_rfl
theorem c321 : cmpF Tryd.prog im 7 false Tryd.f67 = some a321 := by kernel_rfl
theorem c322 : cmpF Tryd.prog im 5 false Tryd.f68 = some a322 := by kernel_rfl
theorem c323 : cmpF Tryd.prog im 3 false Tryd.f69 = some a323 := by kernel_rfl
theorem c324 : cmpF Tryd.prog im 3 false Tryd.f70 = some a324 := by kernel_rfl

end Go.Proofs.YtnpnphknnpkoaaaDoor
end
section
/- The functions of the program compile to those. -/
namespace Go.Proofs.YtnpnphknnpkoaaaDoor
open Go M2

theorem c325 : cmpF Tryd.prog im 3 false Tryd.f72 = some a325 := by kernel_rfl
theorem c326 : cmpF Tryd.prog im 3 false Tryd.f73 = some a326 := by kernel_rfl
theorem c327 : cmpF Tryd.prog im 3 false Tryd.f74 = some a327 := by kernel_rfl
theorem c328 : cmpF Tryd.prog im 4 false Tryd.f75 = some a328 := by kernel_rfl
theorem c329 : cmpF Tryd.prog im 4 false Tryd.f76 = some a329 := by kernel_rfl
theorem c341 : cmpF Tryd.prog im 3 false Tryd.f104 = some a341 := by kernel_rfl

end Go.Proofs.YtnpnphknnpkoaaaDoor
end
section
/- The table of the compiled functions stands for the program. -/
namespace Go.Proofs.YtnpnphknnpkoaaaDoor
open Go M2

theorem g2 : Here Tryd.prog (maps ims) im 2 a2 := Here.of Tryd.f2 (by rw [show (maps ims).fm 2 = 2 from by kernel_rfl]; exact Tryd.func2) c2
theorem g38 : Here Tryd.prog (maps ims) im 38 a38 := Here.of Tryd.f9 (by rw [show (maps ims).fm 38 = 9 from by kernel_rfl]; exact Tryd.func9) c38
theorem g48 : Here Tryd.prog (maps ims) im 48 a48 := Here.of Tryd.f7 (by rw [show (maps ims).fm 48 = 7 from by kernel_rfl]; exact Tryd.func7) c48
theorem g51 : Here Tryd.prog (maps ims) im 51 a51 := Here.of Tryd.f27 (by rw [show (maps ims).fm 51 = 27 from by kernel_rfl]; exact Tryd.func27) c51
theorem g60 : Here Tryd.prog (maps ims) im 60 a60 := Here.of Tryd.f15 (by rw [show (maps ims).fm 60 = 15 from by kernel_rfl]; exact Tryd.func15) c60
theorem g64 : Here Tryd.prog (maps ims) im 64 a64 := Here.of Tryd.f35 (by rw [show (maps ims).fm 64 = 35 from by kernel_rfl]; exact Tryd.func35) c64
theorem g65 : Here Tryd.prog (maps ims) im 65 a65 := Here.of Tryd.f36 (by rw [show (maps ims).fm 65 = 36 from by kernel_rfl]; exact Tryd.func36) c65
theorem g66 : Here Tryd.prog (maps ims) im 66 a66 := Here.of Tryd.f37 (by rw [show (maps ims).fm 66 = 37 from by kernel_rfl]; exact Tryd.func37) c66
theorem g77 : Here Tryd.prog (maps ims) im 77 a77 := Here.of Tryd.f23 (by rw [show (maps ims).fm 77 = 23 from by kernel_rfl]; exact Tryd.func23) c77
theorem g78 : Here Tryd.prog (maps ims) im 78 a78 := Here.of Tryd.f24 (by rw [show (maps ims).fm 78 = 24 from by kernel_rfl]; exact Tryd.func24) c78
theorem g79 : Here Tryd.prog (maps ims) im 79 a79 := Here.of Tryd.f25 (by rw [show (maps ims).fm 79 = 25 from by kernel_rfl]; exact Tryd.func25) c79
theorem g80 : Here Tryd.prog (maps ims) im 80 a80 := Here.of Tryd.f26 (by rw [show (maps ims).fm 80 = 26 from by kernel_rfl]; exact Tryd.func26) c80
theorem g84 : Here Tryd.prog (maps ims) im 84 a84 := Here.of Tryd.f49 (by rw [show (maps ims).fm 84 = 49 from by kernel_rfl]; exact Tryd.func49) c84
theorem g85 : Here Tryd.prog (maps ims) im 85 a85 := Here.of Tryd.f18 (by rw [show (maps ims).fm 85 = 18 from by kernel_rfl]; exact Tryd.func18) c85
theorem g86 : Here Tryd.prog (maps ims) im 86 a86 := Here.of Tryd.f12 (by rw [show (maps ims).fm 86 = 12 from by kernel_rfl]; exact Tryd.func12) c86
theorem g87 : Here Tryd.prog (maps ims) im 87 a87 := Here.of Tryd.f19 (by rw [show (maps ims).fm 87 = 19 from by kernel_rfl]; exact Tryd.func19) c87
theorem g88 : Here Tryd.prog (maps ims) im 88 a88 := Here.of Tryd.f22 (by rw [show (maps ims).fm 88 = 22 from by kernel_rfl]; exact Tryd.func22) c88
theorem g95 : Here Tryd.prog (maps ims) im 95 a95 := Here.of Tryd.f20 (by rw [show (maps ims).fm 95 = 20 from by kernel_rfl]; exact Tryd.func20) c95
theorem g96 : Here Tryd.prog (maps ims) im 96 a96 := Here.of Tryd.f34 (by rw [show (maps ims).fm 96 = 34 from by kernel_rfl]; exact Tryd.func34) c96
theorem g99 : Here Tryd.prog (maps ims) im 99 a99 := Here.of Tryd.f42 (by rw [show (maps ims).fm 99 = 42 from by kernel_rfl]; exact Tryd.func42) c99
theorem g260 : Here Tryd.prog (maps ims) im 260 a260 := Here.of Tryd.f71 (by rw [show (maps ims).fm 260 = 71 from by kernel_rfl]; exact Tryd.func71) c260
theorem g277 : Here Tryd.prog (maps ims) im 277 a277 := Here.of Tryd.f3 (by rw [show (maps ims).fm 277 = 3 from by kernel_rfl]; exact Tryd.func3) c277
theorem g278 : Here Tryd.prog (maps ims) im 278 a278 := Here.of Tryd.f4 (by rw [show (maps ims).fm 278 = 4 from by kernel_rfl]; exact Tryd.func4) c278
theorem g279 : Here Tryd.prog (maps ims) im 279 a279 := Here.of Tryd.f5 (by rw [show (maps ims).fm 279 = 5 from by kernel_rfl]; exact Tryd.func5) c279
theorem g280 : Here Tryd.prog (maps ims) im 280 a280 := Here.of Tryd.f6 (by rw [show (maps ims).fm 280 = 6 from by kernel_rfl]; exact Tryd.func6) c280
theorem g281 : Here Tryd.prog (maps ims) im 281 a281 := Here.of Tryd.f8 (by rw [show (maps ims).fm 281 = 8 from by kernel_rfl]; exact Tryd.func8) c281
theorem g282 : Here Tryd.prog (maps ims) im 282 a282 := Here.of Tryd.f10 (by rw [show (maps ims).fm 282 = 10 from by kernel_rfl]; exact Tryd.func10) c282
theorem g283 : Here Tryd.prog (maps ims) im 283 a283 := Here.of Tryd.f11 (by rw [show (maps ims).fm 283 = 11 from by kernel_rfl]; exact Tryd.func11) c283
theorem g284 : Here Tryd.prog (maps ims) im 284 a284 := Here.of Tryd.f13 (by rw [show (maps ims).fm 284 = 13 from by kernel_rfl]; exact Tryd.func13) c284
theorem g285 : Here Tryd.prog (maps ims) im 285 a285 := Here.of Tryd.f14 (by rw [show (maps ims).fm 285 = 14 from by kernel_rfl]; exact Tryd.func14) c285
theorem g286 : Here Tryd.prog (maps ims) im 286 a286 := Here.of Tryd.f16 (by rw [show (maps ims).fm 286 = 16 from by kernel_rfl]; exact Tryd.func16) c286
theorem g287 : Here Tryd.prog (maps ims) im 287 a287 := Here.of Tryd.f17 (by rw [show (maps ims).fm 287 = 17 from by kernel_rfl]; exact Tryd.func17) c287
theorem g288 : Here Tryd.prog (maps ims) im 288 a288 := Here.of Tryd.f21 (by rw [show (maps ims).fm 288 = 21 from by kernel_rfl]; exact Tryd.func21) c288
theorem f289 : (maps ims).fm 289 = 28 := by kernel_rfl
theorem g289 : Here Tryd.prog (maps ims) im 289 a289 := Here.prim rfl (prim_itoa (by rw [f289]; exact ⟨Tryd.f28, Tryd.func28, by kernel_rfl, by kernel_rfl⟩) (by rw [f289]; exact Tryd.strconv_Itoa_small))
theorem f290 : (maps ims).fm 290 = 29 := by kernel_rfl
theorem g290 : Here Tryd.prog (maps ims) im 290 a290 := Here.prim rfl (prim_join (by rw [f290]; exact ⟨Tryd.f29, Tryd.func29, by kernel_rfl, by kernel_rfl⟩) (by rw [f290]; exact Tryd.strings_Join_none) (by rw [f290]; exact Tryd.strings_Join))
theorem g291 : Here Tryd.prog (maps ims) im 291 a291 := Here.of Tryd.f30 (by rw [show (maps ims).fm 291 = 30 from by kernel_rfl]; exact Tryd.func30) c291
theorem g292 : Here Tryd.prog (maps ims) im 292 a292 := Here.of Tryd.f31 (by rw [show (maps ims).fm 292 = 31 from by kernel_rfl]; exact Tryd.func31) c292
theorem g293 : Here Tryd.prog (maps ims) im 293 a293 := Here.of Tryd.f32 (by rw [show (maps ims).fm 293 = 32 from by kernel_rfl]; exact Tryd.func32) c293
theorem g294 : Here Tryd.prog (maps ims) im 294 a294 := Here.of Tryd.f33 (by rw [show (maps ims).fm 294 = 33 from by kernel_rfl]; exact Tryd.func33) c294
theorem g295 : Here Tryd.prog (maps ims) im 295 a295 := Here.of Tryd.f38 (by rw [show (maps ims).fm 295 = 38 from by kernel_rfl]; exact Tryd.func38) c295
theorem g296 : Here Tryd.prog (maps ims) im 296 a296 := Here.of Tryd.f39 (by rw [show (maps ims).fm 296 = 39 from by kernel_rfl]; exact Tryd.func39) c296
theorem g297 : Here Tryd.prog (maps ims) im 297 a297 := Here.of Tryd.f40 (by rw [show (maps ims).fm 297 = 40 from by kernel_rfl]; exact Tryd.func40) c297
theorem g298 : Here Tryd.prog (maps ims) im 298 a298 := Here.of Tryd.f41 (by rw [show (maps ims).fm 298 = 41 from by kernel_rfl]; exact Tryd.func41) c298
theorem g300 : Here Tryd.prog (maps ims) im 300 a300 := Here.of Tryd.f44 (by rw [show (maps ims).fm 300 = 44 from by kernel_rfl]; exact Tryd.func44) c300
theorem g301 : Here Tryd.prog (maps ims) im 301 a301 := Here.of Tryd.f45 (by rw [show (maps ims).fm 301 = 45 from by kernel_rfl]; exact Tryd.func45) c301
theorem g302 : Here Tryd.prog (maps ims) im 302 a302 := Here.of Tryd.f46 (by rw [show (maps ims).fm 302 = 46 from by kernel_rfl]; exact Tryd.func46) c302
theorem g303 : Here Tryd.prog (maps ims) im 303 a303 := Here.of Tryd.f47 (by rw [show (maps ims).fm 303 = 47 from by kernel_rfl]; exact Tryd.func47) c303
theorem g304 : Here Tryd.prog (maps ims) im 304 a304 := Here.of Tryd.f48 (by rw [show (maps ims).fm 304 = 48 from by kernel_rfl]; exact Tryd.func48) c304
theorem g305 : Here Tryd.prog (maps ims) im 305 a305 := Here.of Tryd.f50 (by rw [show (maps ims).fm 305 = 50 from by kernel_rfl]; exact Tryd.func50) c305
theorem g307 : Here Tryd.prog (maps ims) im 307 a307 := Here.of Tryd.f52 (by rw [show (maps ims).fm 307 = 52 from by kernel_rfl]; exact Tryd.func52) c307
theorem g308 : Here Tryd.prog (maps ims) im 308 a308 := Here.of Tryd.f54 (by rw [show (maps ims).fm 308 = 54 from by kernel_rfl]; exact Tryd.func54) c308
theorem g309 : Here Tryd.prog (maps ims) im 309 a309 := Here.of Tryd.f55 (by rw [show (maps ims).fm 309 = 55 from by kernel_rfl]; exact Tryd.func55) c309
theorem g310 : Here Tryd.prog (maps ims) im 310 a310 := Here.of Tryd.f56 (by rw [show (maps ims).fm 310 = 56 from by kernel_rfl]; exact Tryd.func56) c310
theorem g311 : Here Tryd.prog (maps ims) im 311 a311 := Here.of Tryd.f57 (by rw [show (maps ims).fm 311 = 57 from by kernel_rfl]; exact Tryd.func57) c311
theorem g312 : Here Tryd.prog (maps ims) im 312 a312 := Here.of Tryd.f58 (by rw [show (maps ims).fm 312 = 58 from by kernel_rfl]; exact Tryd.func58) c312
theorem g313 : Here Tryd.prog (maps ims) im 313 a313 := Here.of Tryd.f59 (by rw [show (maps ims).fm 313 = 59 from by kernel_rfl]; exact Tryd.func59) c313
theorem g314 : Here Tryd.prog (maps ims) im 314 a314 := Here.of Tryd.f60 (by rw [show (maps ims).fm 314 = 60 from by kernel_rfl]; exact Tryd.func60) c314
theorem g315 : Here Tryd.prog (maps ims) im 315 a315 := Here.of Tryd.f61 (by rw [show (maps ims).fm 315 = 61 from by kernel_rfl]; exact Tryd.func61) c315
theorem g316 : Here Tryd.prog (maps ims) im 316 a316 := Here.of Tryd.f62 (by rw [show (maps ims).fm 316 = 62 from by kernel_rfl]; exact Tryd.func62) c316
theorem g317 : Here Tryd.prog (maps ims) im 317 a317 := Here.of Tryd.f63 (by rw [show (maps ims).fm 317 = 63 from by kernel_rfl]; exact Tryd.func63) c317
theorem g320 : Here Tryd.prog (maps ims) im 320 a320 := Here.of Tryd.f66 (by rw [show (maps ims).fm 320 = 66 from by kernel_rfl]; exact Tryd.func66) c320
theorem g321 : Here Tryd.prog (maps ims) im 321 a321 := Here.of Tryd.f67 (by rw [show (maps ims).fm 321 = 67 from by kernel_rfl]; exact Tryd.func67) c321
theorem g322 : Here Tryd.prog (maps ims) im 322 a322 := Here.of Tryd.f68 (by rw [show (maps ims).fm 322 = 68 from by kernel_rfl]; exact Tryd.func68) c322
theorem g323 : Here Tryd.prog (maps ims) im 323 a323 := Here.of Tryd.f69 (by rw [show (maps ims).fm 323 = 69 from by kernel_rfl]; exact Tryd.func69) c323
theorem g324 : Here Tryd.prog (maps ims) im 324 a324 := Here.of Tryd.f70 (by rw [show (maps ims).fm 324 = 70 from by kernel_rfl]; exact Tryd.func70) c324
theorem g325 : Here Tryd.prog (maps ims) im 325 a325 := Here.of Tryd.f72 (by rw [show (maps ims).fm 325 = 72 from by kernel_rfl]; exact Tryd.func72) c325
theorem g326 : Here Tryd.prog (maps ims) im 326 a326 := Here.of Tryd.f73 (by rw [show (maps ims).fm 326 = 73 from by kernel_rfl]; exact Tryd.func73) c326
theorem g327 : Here Tryd.prog (maps ims) im 327 a327 := Here.of Tryd.f74 (by rw [show (maps ims).fm 327 = 74 from by kernel_rfl]; exact Tryd.func74) c327
theorem g328 : Here Tryd.prog (maps ims) im 328 a328 := Here.of Tryd.f75 (by rw [show (maps ims).fm 328 = 75 from by kernel_rfl]; exact Tryd.func75) c328
theorem g329 : Here Tryd.prog (maps ims) im 329 a329 := Here.of Tryd.f76 (by rw [show (maps ims).fm 329 = 76 from by kernel_rfl]; exact Tryd.func76) c329
theorem g341 : Here Tryd.prog (maps ims) im 341 a341 := Here.of Tryd.f104 (by rw [show (maps ims).fm 341 = 104 from by kernel_rfl]; exact Tryd.func104) c341
theorem nodup : ims.Nodup := by decide +kernel
theorem him : ∀ f x, im f = some x → (maps ims).fm x = f := him_of nodup
theorem mix : Tryd.prog.follows .mixedOrders = true := by kernel_rfl
theorem table : Table Tryd.prog (maps ims) im tab.get := by
  refine table_ok ?_
  unfold tab
  exact (.node g291 (.node g95 (.node g77 (.node g60 (.node g48 (.node g38 (.node g2 .leaf .leaf) .leaf) (.node g51 .leaf .leaf)) (.node g65 (.node g64 .leaf .leaf) (.node g66 .leaf .leaf))) (.node g85 (.node g80 (.node g79 (.node g78 .leaf .leaf) .leaf) (.node g84 .leaf .leaf)) (.node g87 (.node g86 .leaf .leaf) (.node g88 .leaf .leaf)))) (.node g282 (.node g278 (.node g260 (.node g99 (.node g96 .leaf .leaf) .leaf) (.node g277 .leaf .leaf)) (.node g280 (.node g279 .leaf .leaf) (.node g281 .leaf .leaf))) (.node g287 (.node g285 (.node g284 (.node g283 .leaf .leaf) .leaf) (.node g286 .leaf .leaf)) (.node g289 (.node g288 .leaf .leaf) (.node g290 .leaf .leaf))))) (.node g311 (.node g301 (.node g296 (.node g294 (.node g293 (.node g292 .leaf .leaf) .leaf) (.node g295 .leaf .leaf)) (.node g298 (.node g297 .leaf .leaf) (.node g300 .leaf .leaf))) (.node g307 (.node g304 (.node g303 (.node g302 .leaf .leaf) .leaf) (.node g305 .leaf .leaf)) (.node g309 (.node g308 .leaf .leaf) (.node g310 .leaf .leaf)))) (.node g322 (.node g316 (.node g314 (.node g313 (.node g312 .leaf .leaf) .leaf) (.node g315 .leaf .leaf)) (.node g320 (.node g317 .leaf .leaf) (.node g321 .leaf .leaf))) (.node g327 (.node g325 (.node g324 (.node g323 .leaf .leaf) .leaf) (.node g326 .leaf .leaf)) (.node g329 (.node g328 .leaf .leaf) (.node g341 .leaf .leaf))))))

end Go.Proofs.YtnpnphknnpkoaaaDoor
end
section
namespace M2
open Go Go.ChangeShapes Go.WideShapes Go.ChangeAt Go.RowKit

/-! ### Laws that look at nothing of their argument but whether one slice is there, and how long it is -/

def OneSl (a : AV) : Prop := a = .nils ∨ a = .sl0 ∨ ∃ e pos cap alt n, a = .sl 0 e pos cap false alt (List.replicate n .und)

def oneG (W : World) (p : Place) : G := { n := 1, ok := fun i => i = 0, ρ := fun _ => p, ν := fun _ => 0, μ := fun _ => .oth, w := W }

theorem oneG_sr (M : Maps) (W : World) (p : Place) : SR M (oneG W p) ⟨1, [], []⟩ :=
  { n := rfl, wf := ⟨by simp, fun p hp => by simp at hp, by simp, fun p hp => by simp at hp⟩, okn := fun i h => by have : i = 0 := h; subst this; exact Nat.one_pos,
    var := fun x o hx => by simp [look2_nil] at hx, inj := fun x y o o' hx => by simp [look2_nil] at hx,
    ids := fun i en e hx => by simp [look2_nil] at hx, idinj := fun i j a b hx => by simp [look2_nil] at hx }

/-- a slice, but for what stands in it -/
theorem oneSl_of {M : Maps} {W : World} {n K : Nat} {a : AV} {v : Value} (hv : VR M (argG W n K) a v) (ha : a = .nils ∨ a = .sl0 ∨ ∃ id e pos cap alt es, a = .sl id e pos cap false alt es) :
    ∃ a' p, OneSl a' ∧ VR M (oneG W p) a' v := by
  rcases ha with rfl | rfl | ⟨id, e, pos, cap, alt, es, rfl⟩
  · cases hv
    exact ⟨.nils, ⟨0, 0, 0⟩, .inl rfl, .nils⟩
  · cases hv with
    | sl0 b o sp => exact ⟨.sl0, ⟨0, 0, 0⟩, .inr (.inl rfl), .sl0 b o sp⟩
  · cases hv with
    | sl id e pos cap fl alt es b off ccap vs hid hcc hb hoff hlen hvv hsz hc hf =>
      refine ⟨.sl 0 e pos cap false alt (List.replicate es.length .und), (argG W n K).ρ id, .inr (.inr ⟨e, pos, cap, alt, es.length, rfl⟩), ?_⟩
      have := VR.sl (M := M) (g := oneG W ((argG W n K).ρ id)) 0 e pos cap false alt (List.replicate es.length .und) b off ccap vs rfl hcc hb hoff (by simpa using hlen)
        (fun i hi => by rw [List.getElem_replicate]; exact .und _) (fun i hi => hsz i (by simpa using hi)) (fun i j hi hj => hc i j (by simpa using hi) hj) ⟨hf.1, trivial⟩
      simpa using this

theorem law_run0 {P : Program} {M : Maps} {im : FuncId → Option Nat} {tbl : Nat → Option AFunc} (hmix : P.follows .mixedOrders = true) (him : ∀ f x, im f = some x → M.fm x = f) (ht : Table P M im tbl)
    {H : Type} {enc : TypeId × Value → H} {W : World} {base id tf : Nat} {t : TypeId} {fs : Array Field} (hu : P.underlying t = some (.struct fs)) (ha : argT P (tf + 1) t = true) {v : Value} {d : DataW H} {p : List MemPlace}
    (hval : Value.okWide P W .any base t v) (htr : DataW.Trod enc P W 0 (fun _ => true) true t v d p)
    {w j i : Nat} {fl : Field} {e : TypeId} (hw : P.cellsOf t = w) (hfl : fs[i]? = some fl) (hoff : fl.offset = j) (hjw : j < w) (hsl : P.underlying fl.type = some (.slice e)) (hc1 : P.cellsOf fl.type = 1) (htf : tf ≠ 0)
    (hrun : ∀ a, OneSl a → ∃ n t', callA tbl (ev tbl n) id [.agg ((List.replicate w AV.und).set j a)] ⟨1, [], []⟩ = .ok (.bool true) t') :
    Calls P (M.fm id) #[v] W fun e W' => e = .returned (.bool true) ∧ Below W.heap.size W W' := by
  obtain ⟨K, hK0, hK⟩ := size_bound W
  obtain ⟨fuel, htr⟩ := htr
  unfold Value.okWide at hval
  rw [hu] at hval
  obtain ⟨cs, rfl, hcs, -⟩ := hval
  obtain ⟨ascs, h1, h2, h3, -⟩ := trod_vr (M := M) hK0 hK fuel (tf + 1) t _ _ ha htr
  have hl : ascs.length = cs.size := by simpa [Value.cells] using h2
  unfold DA at h1
  rw [hu] at h1
  obtain ⟨ps, -, hps, hasl, hf⟩ := h1
  obtain ⟨hi, hfi⟩ := Array.getElem?_eq_some_iff.mp hfl
  have h4 := hf i hi (by omega)
  rw [hfi, hoff, hc1] at h4
  have hjl : j < ascs.length := by rw [hasl, hw]; exact hjw
  have hone : (ascs.drop j).take 1 = [ascs[j]] := by rw [List.drop_eq_getElem_cons hjl]; rfl
  rw [hone] at h4
  have hkind : ascs[j] = .nils ∨ ascs[j] = .sl0 ∨ ∃ id e pos cap alt es, ascs[j] = .sl id e pos cap false alt es := by
    cases tf with
    | zero => exact absurd rfl htf
    | succ tf =>
      unfold DA at h4
      rw [hsl] at h4
      rcases h4 with ⟨-, h⟩ | ⟨elems, spare, es, -, -, -, -, ⟨-, h⟩ | ⟨id, pos, h⟩⟩
      · injection h with h; exact .inl h
      · injection h with h; exact .inr (.inl h)
      · injection h with h; exact .inr (.inr ⟨_, _, _, _, _, _, h⟩)
  have h5 := h3 j (by simpa using hjl)
  obtain ⟨a', pl, ho, hv'⟩ := oneSl_of h5 hkind
  obtain ⟨n, t', hr⟩ := hrun a' ho
  refine link (g := oneG W pl) hmix him ht (fun _ _ => rfl) (oneG_sr M W pl) rfl (fun q hq => ?_) hr
  have hq0 : q = 0 := by simpa using hq
  subst hq0
  simp only [List.getElem_cons_zero]
  refine .agg _ cs (by simp [← hl, hasl, hw]) (fun q hq => ?_)
  by_cases e : j = q
  · subst e
    simp only [List.getElem_set_self]
    simpa [Value.cells, Array.getD_eq_getD_getElem?, List.getD_eq_getElem?_getD] using hv'
  · rw [List.getElem_set_ne e, List.getElem_replicate]
    exact .und _

end M2
end
section
namespace M2
open Go

/-! #### more fuel, the same answer; rules to cut a run in pieces -/

def CallLe (c1 c2 : CallF) : Prop := ∀ f ascs t, c1 f ascs t ≠ .fail → c2 f ascs t = c1 f ascs t
def EvLe (e1 e2 : Ev) : Prop := ∀ c F t, e1 c F t ≠ .fail → e2 c F t = e1 c F t

section
variable {c1 c2 : CallF} {e1 e2 : Ev} {tbl : Nat → Option AFunc}

theorem run_mono (h : CallLe c1 c2) (ao : AOp) (F : Fr) (t : T) (hne : ao.run c1 F t ≠ .fail) : ao.run c2 F t = ao.run c1 F t := by
  cases ao with
  | call f xs => exact h _ _ _ hne
  | calld f xs =>
    change opCalld f xs c2 F t = opCalld f xs c1 F t
    change opCalld f xs c1 F t ≠ .fail at hne
    unfold opCalld at *
    split
    · rename_i hp
      rw [hp] at hne
      exact h _ _ _ hne
    · rfl
  | _ => rfl

theorem runOps_mono (h : CallLe c1 c2) : ∀ (l : List AO) (F : Fr) (t : T), runOps l c1 F t ≠ .fail → runOps l c2 F t = runOps l c1 F t := by
  intro l
  induction l with
  | nil => intro F t _; rfl
  | cons o l ih =>
    intro F t hne
    change opsCons o l (fun call F t => runOps l call F t) c1 F t ≠ .fail at hne
    change opsCons o l (fun call F t => runOps l call F t) c2 F t = opsCons o l (fun call F t => runOps l call F t) c1 F t
    unfold opsCons at *
    split
    · rename_i hw
      rw [hw] at hne
      simp only at hne
      cases hr : o.op.run c1 F t with
      | fail => rw [hr] at hne; exact absurd rfl hne
      | ok v t1 =>
        rw [run_mono h o.op F t (by rw [hr]; simp), hr]
        rw [hr] at hne
        exact ih _ _ hne
    · rename_i hw
      rw [hw] at hne
      exact ih _ _ hne
    · rfl

theorem runD_mono (h : CallLe c1 c2) (ws : List AO) : ∀ (ks : List (DK × AO)) (F : Fr) (t : T) (l : Log), runD ks ws c1 F t l ≠ .fail → runD ks ws c2 F t l = runD ks ws c1 F t l := by
  intro ks
  induction ks with
  | nil => intro F t l hne; exact runOps_mono h ws F t hne
  | cons o ks ih =>
    intro F t l hne
    change dCons o ks (fun call F t l => runD ks ws call F t l) c1 F t l ≠ .fail at hne
    change dCons o ks (fun call F t l => runD ks ws call F t l) c2 F t l = dCons o ks (fun call F t l => runD ks ws call F t l) c1 F t l
    unfold dCons at *
    split
    · rename_i hw
      rw [hw] at hne
      simp only at hne
      split
      · rename_i l1 hl
        rw [hl] at hne
        simp only at hne
        cases hr : o.2.op.run c1 F (viewD o.1 t) with
        | fail => rw [hr] at hne; exact absurd rfl hne
        | ok v t1 =>
          rw [run_mono h o.2.op F _ (by rw [hr]; simp), hr]
          rw [hr] at hne
          simp only at hne ⊢
          split
          · rename_i t2 hm
            rw [hm] at hne
            exact ih _ _ _ hne
          · rfl
      · rfl
    · rename_i hw
      rw [hw] at hne
      exact ih _ _ _ hne
    · rfl

theorem stepX_mono (h : CallLe c1 c2) (q : Nat × Nat × Bool × AO) (F : Fr) (t : T) {k1 k2 : Fr → T → RR} (hk : ∀ F t, k1 F t ≠ .fail → k2 F t = k1 F t) (hne : stepX c1 q F t k1 ≠ .fail) : stepX c2 q F t k2 = stepX c1 q F t k1 := by
  unfold stepX at *
  split
  · rename_i hw
    rw [hw] at hne
    simp only at hne
    cases hr : q.2.2.2.op.run c1 F t with
    | fail => rw [hr] at hne; exact absurd rfl hne
    | ok v t1 =>
      rw [run_mono h q.2.2.2.op F t (by rw [hr]; simp), hr]
      rw [hr] at hne
      exact hk _ _ hne
  · rename_i hw
    rw [hw] at hne
    exact hk _ _ hne
  · rfl

theorem allX_ne {go : Nat × Nat × Bool × AO → RR} {r : RR} : ∀ {qs : List (Nat × Nat × Bool × AO)}, allX go r qs ≠ .fail → r ≠ .fail ∧ allX go r qs = r ∧ ∀ q ∈ qs, rrE r (go q) = true
  | [], h => ⟨h, rfl, fun q hq => by cases hq⟩
  | q :: qs, h => by
    unfold allX at h ⊢
    split at h
    · rename_i hb
      obtain ⟨h1, h2, h3⟩ := allX_ne h
      refine ⟨h1, h2, fun p hp => ?_⟩
      rcases List.mem_cons.mp hp with rfl | hp
      · exact hb
      · exact h3 p hp
    · exact absurd rfl h

theorem rrE_ne {r s : RR} (h : rrE r s = true) : s ≠ .fail := by
  intro e
  subst e
  cases r <;> cases h

theorem runX_mono (h : CallLe c1 c2) (os : List (Nat × Nat × Bool × AO)) (full : Nat) : ∀ (n dn : Nat) (F : Fr) (t : T), runX os full c1 n dn F t ≠ .fail → runX os full c2 n dn F t = runX os full c1 n dn F t := by
  intro n
  induction n with
  | zero => intro dn F t hne; exact absurd rfl hne
  | succ n ih =>
    intro dn F t hne
    unfold runX at hne ⊢
    split
    · rename_i q hq
      rw [hq] at hne
      exact stepX_mono h q F t (ih _) hne
    · rename_i hq
      rw [hq] at hne
      simp only at hne
      split
      · rfl
      · rename_i q qs hf
        rw [hf] at hne
        simp only at hne
        obtain ⟨h1, h2, h3⟩ := allX_ne hne
        rw [h2]
        have e1 := stepX_mono h q F t (ih _) h1
        rw [e1]
        have key : ∀ l : List (Nat × Nat × Bool × AO), (∀ p ∈ l, rrE (stepX c1 q F t (runX os full c1 n (Nat.lor dn (2 ^ q.1)))) (stepX c1 p F t (runX os full c1 n (Nat.lor dn (2 ^ p.1)))) = true) →
            allX (fun q => stepX c2 q F t (runX os full c2 n (Nat.lor dn (2 ^ q.1)))) (stepX c1 q F t (runX os full c1 n (Nat.lor dn (2 ^ q.1)))) l = stepX c1 q F t (runX os full c1 n (Nat.lor dn (2 ^ q.1))) := by
          intro l
          induction l with
          | nil => intro _; rfl
          | cons p l ihl =>
            intro hp
            have hb := hp p List.mem_cons_self
            unfold allX
            rw [stepX_mono h p F t (ih _) (rrE_ne hb), hb]
            exact ihl fun x hx => hp x (List.mem_cons_of_mem _ hx)
        exact key qs h3

theorem callA_le (h : EvLe e1 e2) : CallLe (callA tbl e1) (callA tbl e2) := by
  intro f xs t hne
  unfold callA at *
  split
  · rename_i fn hf
    rw [hf] at hne
    simp only at hne
    split
    · rename_i F hF
      rw [hF] at hne
      simp only at hne
      cases hr : e1 fn.body F t.enter with
      | fail => rw [hr] at hne; exact absurd rfl hne
      | _ => rw [h fn.body F t.enter (by rw [hr]; simp), hr]
    · rfl
  · rfl

end

theorem ev_le (tbl : Nat → Option AFunc) : ∀ n, EvLe (ev tbl n) (ev tbl (n + 1)) := by
  intro n
  induction n with
  | zero => intro c F t hne; exact absurd rfl hne
  | succ n ih =>
    intro c F t hne
    have hc := callA_le (tbl := tbl) ih
    cases c with
    | skip => rfl
    | reg ops => exact runOps_mono hc ops F t hne
    | regd rs ws => exact runD_mono hc ws rs F t [] hne
    | regx full os => exact runX_mono hc os full _ 0 F t hne
    | seq a b =>
      change (RR.rec (motive := fun _ => RR) .fail (ev tbl (n + 1) b) RR.exit RR.ret (ev tbl (n + 1) a F t)) = (RR.rec (motive := fun _ => RR) .fail (ev tbl n b) RR.exit RR.ret (ev tbl n a F t))
      change (RR.rec (motive := fun _ => RR) .fail (ev tbl n b) RR.exit RR.ret (ev tbl n a F t)) ≠ .fail at hne
      cases hr : ev tbl n a F t with
      | fail => rw [hr] at hne; exact absurd rfl hne
      | norm F1 t1 =>
        rw [ih a F t (by rw [hr]; simp), hr]
        rw [hr] at hne
        exact ih b F1 t1 hne
      | _ => rw [ih a F t (by rw [hr]; simp), hr]
    | cond c a b =>
      change cCond c a b (fun _ _ _ _ => .fail) (fun _ _ _ _ => .fail) tbl (ev tbl (n + 1)) F t = cCond c a b (fun _ _ _ _ => .fail) (fun _ _ _ _ => .fail) tbl (ev tbl n) F t
      change cCond c a b (fun _ _ _ _ => .fail) (fun _ _ _ _ => .fail) tbl (ev tbl n) F t ≠ .fail at hne
      unfold cCond at *
      split
      · rename_i x hx
        rw [hx] at hne
        cases x with
        | true => exact ih a F t hne
        | false => exact ih b F t hne
      · rfl
    | block id b =>
      change (RR.rec (motive := fun _ => RR) .fail RR.norm (fun i f t => Bool.rec (motive := fun _ => RR) (.exit i f t) (.norm f t) (Nat.beq i id)) RR.ret (ev tbl (n + 1) b F t)) =
        (RR.rec (motive := fun _ => RR) .fail RR.norm (fun i f t => Bool.rec (motive := fun _ => RR) (.exit i f t) (.norm f t) (Nat.beq i id)) RR.ret (ev tbl n b F t))
      change (RR.rec (motive := fun _ => RR) .fail RR.norm (fun i f t => Bool.rec (motive := fun _ => RR) (.exit i f t) (.norm f t) (Nat.beq i id)) RR.ret (ev tbl n b F t)) ≠ .fail at hne
      cases hr : ev tbl n b F t with
      | fail => rw [hr] at hne; exact absurd rfl hne
      | _ => rw [ih b F t (by rw [hr]; simp), hr]
    | loop b =>
      change (RR.rec (motive := fun _ => RR) .fail (ev tbl (n + 1) (.loop b)) RR.exit RR.ret (ev tbl (n + 1) b F t)) = (RR.rec (motive := fun _ => RR) .fail (ev tbl n (.loop b)) RR.exit RR.ret (ev tbl n b F t))
      change (RR.rec (motive := fun _ => RR) .fail (ev tbl n (.loop b)) RR.exit RR.ret (ev tbl n b F t)) ≠ .fail at hne
      cases hr : ev tbl n b F t with
      | fail => rw [hr] at hne; exact absurd rfl hne
      | norm F1 t1 =>
        rw [ih b F t (by rw [hr]; simp), hr]
        rw [hr] at hne
        exact ih (.loop b) F1 t1 hne
      | _ => rw [ih b F t (by rw [hr]; simp), hr]
    | exit id => rfl
    | ret => rfl

theorem ev_more {tbl : Nat → Option AFunc} {n m : Nat} (h : n ≤ m) {c : Cd} {F : Fr} {t : T} {r : RR} (hr : ev tbl n c F t = r) (hne : r ≠ .fail) : ev tbl m c F t = r := by
  induction m with
  | zero => have : n = 0 := by omega
            subst this; exact hr
  | succ m ih =>
    by_cases e : n = m + 1
    · subst e; exact hr
    · have := ih (by omega)
      rw [ev_le tbl m c F t (by rw [this]; exact hne), this]

theorem call_more {tbl : Nat → Option AFunc} {n m : Nat} (h : n ≤ m) {f : Nat} {xs : List AV} {t t' : T} {v : AV} (hr : callA tbl (ev tbl n) f xs t = .ok v t') : callA tbl (ev tbl m) f xs t = .ok v t' := by
  have hle : EvLe (ev tbl n) (ev tbl m) := fun c F t hne => ev_more h rfl hne
  rw [callA_le hle f xs t (by rw [hr]; simp), hr]

end M2
end
section
namespace M2
open Go

/-! ### A law that hands one row of texts to a function -/

def okR (r : OR) : Bool := match r with | .ok (.bool b) _ => b | _ => false
theorem okR_ok {r : OR} (h : okR r = true) : ∃ t, r = .ok (.bool true) t := by
  unfold okR at h
  split at h
  · subst h; exact ⟨_, rfl⟩
  · cases h

noncomputable def body2 (c1 c2 : CallF) (fn : AFunc) (l1 l2 : List AO) (F : Fr) (t : T) : OR :=
  RR.rec (motive := fun _ => OR) .fail (fun F t => RR.rec (motive := fun _ => OR) .fail (fun F t => afterBody fn F t) (fun _ _ _ => .fail) (fun F t => afterBody fn F t) (runOps l2 c2 F t)) (fun _ _ _ => .fail) (fun F t => afterBody fn F t) (runOps l1 c1 F t)

theorem runOps_norm (c : CallF) : ∀ (l : List AO) (F : Fr) (t : T), runOps l c F t = .fail ∨ ∃ F' t', runOps l c F t = .norm F' t' := by
  intro l
  induction l with
  | nil => intro F t; exact .inr ⟨F, t, rfl⟩
  | cons o l ih =>
    intro F t
    rw [show runOps (o :: l) c F t = opsCons o l (fun call F t => runOps l call F t) c F t from rfl]
    unfold opsCons
    split
    · split
      · exact ih _ _
      · exact .inl rfl
    · exact ih _ _
    · exact .inl rfl

theorem callA_eq {tbl : Nat → Option AFunc} {e : Ev} {id : Nat} {fn : AFunc} {args : List AV} {F : Fr} {t : T} (hf : tbl id = some fn) (ha : argsIn fn.params args .nil = some F) :
    callA tbl e id args t = RR.rec (motive := fun _ => OR) .fail (fun f t => afterBody fn f t) (fun _ _ _ => .fail) (fun f t => afterBody fn f t) (e fn.body F t.enter) := by
  unfold callA
  rw [hf]
  simp only
  rw [ha]
  simp only
  cases e fn.body F t.enter <;> rfl

theorem callA_body2 {tbl : Nat → Option AFunc} {N id : Nat} {fn : AFunc} {l1 l2 : List AO} {args : List AV} {F : Fr} {t : T} (hf : tbl id = some fn) (hb : fn.body = .seq (.reg l1) (.seq (.reg l2) .ret)) (ha : argsIn fn.params args .nil = some F) :
    callA tbl (ev tbl (N + 3)) id args t = body2 (callA tbl (ev tbl (N + 1))) (callA tbl (ev tbl N)) fn l1 l2 F t.enter := by
  rw [callA_eq hf ha, hb]
  generalize hc1 : callA tbl (ev tbl (N + 1)) = c1
  generalize hc2 : callA tbl (ev tbl N) = c2
  have e1 : ev tbl (N + 3) (.seq (.reg l1) (.seq (.reg l2) .ret)) F t.enter = RR.rec (motive := fun _ => RR) .fail (ev tbl (N + 2) (.seq (.reg l2) .ret)) RR.exit RR.ret (runOps l1 c1 F t.enter) := by rw [← hc1]; rfl
  have e2 : ∀ F t, ev tbl (N + 2) (.seq (.reg l2) .ret) F t = RR.rec (motive := fun _ => RR) .fail (ev tbl (N + 1) .ret) RR.exit RR.ret (runOps l2 c2 F t) := fun _ _ => by rw [← hc2]; rfl
  rw [e1]
  unfold body2
  rcases runOps_norm c1 l1 F t.enter with h | ⟨F', t', h⟩
  · rw [h]
  · rw [h]
    simp only
    rw [e2]
    rcases runOps_norm c2 l2 F' t' with k | ⟨F2, t2, k⟩
    · rw [k]
    · rw [k]
      rfl

end M2
end
section
namespace M2
open Go
open Classical

/-! ### A call that looks at nothing of the state: run it in an empty one -/

noncomputable def G.upd (g g' : G) : G := { n := g.n, ok := g.ok, ρ := g.ρ, ν := g.ν, μ := fun b => if b < g.w.heap.size then g.μ b else .oth, w := g'.w }
def allB (g : G) : Nat → Prop := fun b => b < g.w.heap.size
noncomputable def G.shutAll (g : G) : G := g.view g.n (fun _ => True) (allB g)

theorem le_upd {g g' : G} {n : Nat} {p : Nat → Prop} (h : (g.view n p (allB g)).Le g') : g.Le (g.upd g') where
  n := Nat.le_refl _
  ok _ hi := hi
  new _ hi := .inl hi
  ρ _ _ := rfl
  ν _ _ := rfl
  size := h.size
  lim _ k hb hk := ⟨k, (if_pos hb).trans hk, Nat.le_refl _, fun _ _ => cell?_of_heap (back_sealed h (fun _ hb => hb) hb).1⟩
  oth _ hb _ := ⟨if_pos hb, (back_sealed h (fun _ hb => hb) hb).1⟩
  os := h.os
  tape := h.tape
  output := h.output
  sz := h.sz

theorem sr_upd {M : Maps} {g g' : G} {t : T} (hS : SR M g t) {n : Nat} {p : Nat → Prop} (h : (g.view n p (allB g)).Le g') : SR M (g.upd g') t where
  n := hS.n
  wf := hS.wf
  okn := hS.okn
  var x o hx := by
    obtain ⟨h1, h2, h3⟩ := hS.var x o hx
    exact ⟨h1, (if_pos h3.lt).trans h2, h3.ext (le_upd h).ext (back_sealed h (fun _ hb => hb) h3.lt).1⟩
  inj := hS.inj
  ids i en e hx := by
    obtain ⟨h1, h2, c, ty, fz, h3, h4, h5⟩ := hS.ids i en e hx
    have hb : (g.ρ i).block < g.w.heap.size := (Array.getElem?_eq_some_iff.mp h3).1
    have he : (g.upd g').w.heap[(g.ρ i).block]? = g.w.heap[(g.ρ i).block]? := (back_sealed h (fun _ hb => hb) hb).1
    refine ⟨h1, (if_pos hb).trans h2, c, ty, fz, he.trans h3, fun off ho => ?_, h5⟩
    have := h4 off ho
    simp only [World.frozen?] at this ⊢
    show (match (g.upd g').w.heap[(g.ρ i).block]? with | some (.cells c elem (lo, hi)) => decide (lo ≤ off) && decide (off < hi) | x => false) = false
    rw [he]
    exact this
  idinj := hS.idinj

noncomputable def orc (f : Nat) (avs : List AV) (n : Nat) : CallF := fun f' args t => if f' = f ∧ args = avs ∧ t.n = n then .ok (.bool true) t else .fail
theorem orc_eq {f : Nat} {avs : List AV} {n : Nat} {t : T} (h : t.n = n) : orc f avs n f avs t = .ok (.bool true) t := if_pos ⟨rfl, rfl, h⟩

section
variable {P : Program} {M : Maps} {im : FuncId → Option Nat} {tbl : Nat → Option AFunc}

theorem orc_ok (hmix : P.follows .mixedOrders = true) (him : ∀ f x, im f = some x → M.fm x = f) (ht : Table P M im tbl) {k f n : Nat} {avs : List AV} {t' : T}
    (h : callA tbl (ev tbl k) f avs ⟨n, [], []⟩ = .ok (.bool true) t') : CallOK P M (orc f avs n) := by
  intro f' args t r t1 hr
  unfold orc at hr
  split at hr
  · rename_i hc
    obtain ⟨rfl, rfl, hn⟩ := hc
    cases hr
    obtain ⟨hgood, hs⟩ := call_sound hmix him ht k f' args _ _ _ h
    refine ⟨hgood, fun g cargs hS hsz hv => ?_⟩
    have hS0 : SR M g.shutAll ⟨n, [], []⟩ :=
      { n := hS.n.trans hn, wf := ⟨by simp, fun p hp => by simp at hp, by simp, fun p hp => by simp at hp⟩, okn := fun i hi => hn ▸ hS.okn i hi.1,
        var := fun x o hx => by simp [look2_nil] at hx, inj := fun x y o o' hx => by simp [look2_nil] at hx,
        ids := fun i en e hx => by simp [look2_nil] at hx, idinj := fun i j a b hx => by simp [look2_nil] at hx }
    have hext : g.Ext g.shutAll := by
      have h1 : g.Ext (g.sub fun _ => True) := ⟨fun i hi => ⟨hi, trivial⟩, fun _ _ => rfl, fun _ _ => rfl, fun _ _ h => h, fun _ _ _ _ _ => rfl, fun _ hb => ⟨hb, rfl⟩⟩
      have h2 := g.ext_view g.n (fun _ => True) (allB g)
      exact ⟨fun i hi => h2.ok i (h1.ok i hi), fun i hi => (h2.ρ i (h1.ok i hi)).trans (h1.ρ i hi), fun i hi => (h2.ν i (h1.ok i hi)).trans (h1.ν i hi), fun b m hf => h2.fixed b m (h1.fixed b m hf), fun _ _ _ _ _ => rfl, fun _ hb => ⟨hb, rfl⟩⟩
    refine (hs g.shutAll cargs hS0 hsz (fun i hi => (hv i hi).ext hext)).mono ?_
    rintro e w' ⟨v, g', rfl, rfl, hle, hvr, -⟩
    cases hvr
    exact ⟨_, g.upd g', rfl, rfl, le_upd hle, .bool true, sr_upd hS hle⟩
  · cases hr

/-! ### A body without loops, its calls answered by others -/

noncomputable def evC (call : CallF) (c : Cd) : Fr → T → RR :=
  Cd.rec (motive := fun _ => Fr → T → RR) (fun F t => .norm F t) (fun l F t => runOps l call F t) (fun _ _ _ _ => .fail) (fun _ _ _ _ => .fail)
    (fun _ _ iha ihb F t => RR.rec (motive := fun _ => RR) .fail ihb RR.exit RR.ret (iha F t)) (fun _ _ _ _ _ _ _ => .fail) (fun _ _ _ _ _ => .fail) (fun _ _ _ _ => .fail) (fun _ _ _ => .fail) (fun F t => .ret F t) c

noncomputable def outC (fn : AFunc) (r : RR) : OR := match r with | .norm f t => afterBody fn f t | .ret f t => afterBody fn f t | _ => .fail
noncomputable def callC (call : CallF) (fn : AFunc) (args : List AV) (t : T) : OR :=
  match argsIn fn.params args .nil with
  | some f => outC fn (evC call fn.body f t.enter)
  | none => .fail

theorem cmpR_drawn {d ntmps : Nat} {ops : Array Oper} {ac : Cd} (h : cmpR P im d ntmps ops = some ac) (call : CallF) (F : Fr) (t : T) : evC call ac F t = .fail := by
  have hd0 : ∀ h c, cmpD0 P im d ntmps h ops = some c → evC call c F t = .fail := by
    intro h c hc
    unfold cmpD0 at hc
    simp only [Option.bind_eq_bind, Option.bind_eq_some_iff] at hc
    obtain ⟨_, _, _, _, _, _, e⟩ := hc
    split at e
    · cases e; rfl
    · cases e
  have hd : ∀ c, cmpD P im d ntmps ops = some c → evC call c F t = .fail := by
    intro c hc
    unfold cmpD at hc
    split at hc
    · split at hc
      · rename_i c' hcc; cases hc; exact hd0 _ _ hcc
      · exact hd0 _ _ hc
    · split at hc
      · rename_i c' hcc; cases hc; exact hd0 _ _ hcc
      · exact hd0 _ _ hc
  have hx : ∀ c, cmpX P im d ntmps ops = some c → evC call c F t = .fail := by
    intro c hc
    unfold cmpX at hc
    simp only [Option.bind_eq_bind, Option.bind_eq_some_iff] at hc
    obtain ⟨_, _, e⟩ := hc
    split at e
    · cases e; rfl
    · cases e
  unfold cmpR at h
  split at h
  · split at h
    · rename_i c hcc; cases h; exact hx _ hcc
    · exact hd _ h
  · split at h
    · rename_i c hcc; cases h; exact hd _ hcc
    · exact hx _ h

theorem evC_sound (him : ∀ f x, im f = some x → M.fm x = f) {call : CallF} (hcall : CallOK P M call) : CodeOK P M im (evC call) := by
  intro d ntmps c
  induction c with
  | skip => intro ac hc g F t a Q hf hp; cases hc; exact wp_skip (hp g a (.refl g) hf)
  | region id ops draw =>
    intro ac hc g F t a Q hf hp
    simp only [cmpC] at hc
    split at hc
    · rw [cmpR_drawn hc] at hp
      exact hp.elim
    · rename_i hd
      rw [Option.map_eq_some_iff] at hc
      obtain ⟨al, hal, rfl⟩ := hc
      have : draw = false := by simpa using hd
      subst this
      exact wp_region_list (ops_sound him hcall ops Q ops.toList al hal g F t a hf hp)
  | seq x y ihx ihy =>
    intro ac hc g F t a Q hf hp
    simp only [cmpC, Option.bind_eq_bind, Option.bind_eq_some_iff] at hc
    obtain ⟨x', hx, y', hy, e⟩ := hc
    cases e
    have hp' : Post M g d ntmps Q (RR.rec (motive := fun _ => RR) .fail (evC call y') RR.exit RR.ret (evC call x' F t)) := hp
    refine wp_seq (ihx x' hx g F t a _ hf ?_)
    cases hr : evC call x' F t with
    | fail => rw [hr] at hp'; exact hp'
    | norm F1 t1 =>
      rw [hr] at hp'
      intro g' a' hle hf'
      exact ihy y' hy g' F1 t1 a' Q hf' (hp'.later hle)
    | exit id F1 t1 => rw [hr] at hp'; exact hp'
    | ret F1 t1 => rw [hr] at hp'; exact hp'
  | ret => intro ac hc g F t a Q hf hp; cases hc; exact wp_ret (hp g a (.refl g) hf)
  | cond c x y ihx ihy =>
    intro ac hc g F t a Q hf hp
    simp only [cmpC, Option.bind_eq_bind, Option.bind_eq_some_iff] at hc
    obtain ⟨c', hc', x', hx, y', hy, e⟩ := hc
    cases e
    exact hp.elim
  | block id b ih =>
    intro ac hc g F t a Q hf hp
    simp only [cmpC, Option.bind_eq_bind, Option.bind_eq_some_iff] at hc
    obtain ⟨b', hb, e⟩ := hc
    cases e
    exact hp.elim
  | loop b ih =>
    intro ac hc g F t a Q hf hp
    simp only [cmpC, Option.bind_eq_bind, Option.bind_eq_some_iff] at hc
    obtain ⟨b', hb, e⟩ := hc
    cases e
    exact hp.elim
  | exit id => intro ac hc g F t a Q hf hp; cases hc; exact hp.elim
  | _ => intro ac hc g F t a Q hf hp; simp [cmpC] at hc

theorem callC_sound (him : ∀ f x, im f = some x → M.fm x = f) (ht : Table P M im tbl) {call : CallF} (hcall : CallOK P M call) {f : Nat} {fn : AFunc} (hfn : tbl f = some fn) (hdp : fn.depth ≠ 77 := by decide) {args : List AV} {t t' : T} {r : AV}
    (hr : callC call fn args t = .ok r t') : Good P (M.fm f) ∧ ∀ g cargs, SR M g t → cargs.size = args.length → (∀ i (h : i < args.length), VR M g args[i] (cargs.getD i undef)) →
    Calls P (M.fm f) cargs g.w fun e w' => ∃ v g', e = .returned v ∧ g'.w = w' ∧ g.Le g' ∧ VR M g' r v ∧ SR M g' t' := by
  have hcode := evC_sound (P := P) (M := M) (im := im) him hcall
  unfold callC at hr
  obtain ⟨gf, hgf, hcf⟩ := ht.cmp hfn hdp
  unfold cmpF at hcf
  split at hcf
  · rename_i hcond
    obtain ⟨c1, c2, c3⟩ := hcond
    simp only [Option.bind_eq_bind, Option.bind_eq_some_iff] at hcf
    obtain ⟨c, hbody, b, hb, rs, hrs, e⟩ := hcf
    have hgood : Good P (M.fm f) := ⟨gf, hgf, by simpa using c3, by simp [hbody]⟩
    refine ⟨hgood, ?_⟩
    intro g cargs hS hsz hv
    have efn : fn = { depth := fn.depth, params := (List.range (gf.params.size + gf.nfree)).map (pth fn.depth), results := rs, keep := fn.keep, body := b } := by simpa using e.symm
    have eparams : fn.params = (List.range (gf.params.size + gf.nfree)).map (pth fn.depth) := by rw [efn]
    have ebody : fn.body = b := by rw [efn]
    have eres : fn.results = rs := by rw [efn]
    cases ha : argsIn fn.params args .nil with
    | none => rw [ha] at hr; cases hr
    | some F =>
      rw [ha] at hr
      simp only at hr
      have hnd : fn.params.Nodup := by
        rw [eparams]
        exact pth_nodup (by omega)
      obtain ⟨a1, a2⟩ := argsIn_ok _ _ _ _ ha hnd
      have hnp : gf.params.size + gf.nfree = args.length := by rw [← a1, eparams]; simp
      refine calls_of_wp hgf hbody ?_
      have hfits : Fits M g fn.depth gf.ntmps F t.enter { tmps := cargs ++ Array.replicate (gf.ntmps - cargs.size) undef, defers := [] } := by
        refine ⟨⟨by simp; omega, fun u hu => ?_⟩, hS.enter, by simp; omega, rfl⟩
        rw [a2, eparams, idx_pth (by omega) hu]
        by_cases hlt : u < gf.params.size + gf.nfree
        · rw [if_pos hlt]
          simp only
          have h1 := hv u (by omega)
          have e1 : args.getD u .und = args[u]'(by omega) := by simp [List.getD, show u < args.length by omega]
          rw [e1]
          have e2 : (cargs ++ Array.replicate (gf.ntmps - cargs.size) undef).getD u undef = cargs.getD u undef := by
            simp only [Array.getD_eq_getD_getElem?]
            rw [Array.getElem?_append_left (by omega)]
          show VR M g _ ((cargs ++ Array.replicate (gf.ntmps - cargs.size) undef).getD u undef)
          rw [e2]
          exact h1
        · rw [if_neg hlt]
          simp only [Fr.get_nil]
          exact .und _
      have hpost : ∀ R, (∀ F1 t1, (evC call fn.body F t.enter = .norm F1 t1 ∨ evC call fn.body F t.enter = .ret F1 t1) → ∀ g' a', g.Le g' → Fits M g' fn.depth gf.ntmps F1 t1 a' →
          bodyPost P gf R .normal a' g'.w) → c.wp P (bodyPost P gf R) { tmps := cargs ++ Array.replicate (gf.ntmps - cargs.size) undef, defers := [] } g.w := by
        intro R hR
        refine hcode fn.depth gf.ntmps c b hb g F t.enter _ _ hfits ?_
        rw [ebody] at hR hr
        cases hev : evC call b F t.enter with
        | fail => rw [hev] at hr; cases hr
        | norm F1 t1 => exact fun g' a' hle hf' => hR F1 t1 (.inl hev) g' a' hle hf'
        | exit id F1 t1 => rw [hev] at hr; cases hr
        | ret F1 t1 => exact fun g' a' hle hf' => hR F1 t1 (.inr hev) g' a' hle hf'
      refine hpost _ (fun F1 t1 hev g' a' hle hf' => ?_)
      have hafter : afterBody fn F1 t1 = .ok r t' := by
        rcases hev with hev | hev <;> (rw [hev] at hr; exact hr)
      unfold afterBody at hafter
      rw [eres] at hafter
      cases hrv : resultsOf F1 t1 rs with
      | none => rw [hrv] at hafter; cases hafter
      | some vs =>
        rw [hrv] at hafter
        cases hafter
        obtain ⟨ws, w1, w2, w3⟩ := results_ok hf' gf.results.toList rs hrs vs hrv
        refine ⟨hf'.d, if h : ws.toArray.size = 1 then ws.toArray[0] else .tuple ws.toArray, ?_, ?_⟩
        · show (results gf a'.tmps).run P g'.w = _
          rw [results_eq, Array.mapM_eq_mapM_toList]
          simp only [Sem.run_bind, Sem.run_map, w1, Result.andThen_ok, Sem.run_pure]
        · exact ⟨_, g', rfl, rfl, hle, packed_ok w2 w3, hf'.s.leave _ _⟩
  · contradiction

end

end M2
end
section
namespace M2
open Go Go.ChangeShapes Go.WideShapes Go.ChangeAt Go.RowKit

/-! ### A law's call, the calls in it answered by others -/

theorem link1 {P : Program} {M : Maps} {im : FuncId → Option Nat} {tbl : Nat → Option AFunc} (him : ∀ f x, im f = some x → M.fm x = f) (ht : Table P M im tbl)
    {call : CallF} (hcall : CallOK P M call) {id : Nat} {fn : AFunc} (hfn : tbl id = some fn) (hdp : fn.depth ≠ 77) {avs : List AV} {args : Array Value} {t t' : T} {g : G} (hoth : ∀ b, b < g.w.heap.size → g.μ b = .oth) (hS : SR M g t) (hsz : args.size = avs.length)
    (hv : ∀ i (h : i < avs.length), VR M g avs[i] (args.getD i undef)) (hrun : callC call fn avs t = .ok (.bool true) t') :
    Calls P (M.fm id) args g.w fun e w' => e = .returned (.bool true) ∧ Below g.w.heap.size g.w w' := by
  obtain ⟨-, h⟩ := callC_sound him ht hcall hfn hdp hrun
  refine (h g args hS hsz hv).mono ?_
  rintro e w' ⟨v, g', rfl, rfl, hle, hvr, -⟩
  cases hvr
  exact ⟨rfl, hle.os, hle.tape, hle.output, hle.size, fun k hk => (hle.oth k hk (by rw [hoth k hk]; rfl)).2⟩

theorem law_run1 {P : Program} {M : Maps} {im : FuncId → Option Nat} {tbl : Nat → Option AFunc} (him : ∀ f x, im f = some x → M.fm x = f) (ht : Table P M im tbl)
    {H : Type} {enc : TypeId × Value → H} {W : World} {base id tf : Nat} {t : TypeId} {fs : Array Field} (hu : P.underlying t = some (.struct fs)) (ha : argT P (tf + 1) t = true) {v : Value} {d : DataW H} {p : List MemPlace}
    (hval : Value.okWide P W .any base t v) (htr : DataW.Trod enc P W 0 (fun _ => true) true t v d p)
    {w j i : Nat} {fl : Field} {e : TypeId} (hw : P.cellsOf t = w) (hfl : fs[i]? = some fl) (hoff : fl.offset = j) (hjw : j < w) (hsl : P.underlying fl.type = some (.slice e)) (hc1 : P.cellsOf fl.type = 1) (htf : tf ≠ 0)
    {call : CallF} (hcall : CallOK P M call) {fn : AFunc} (hfn : tbl id = some fn) (hdp : fn.depth ≠ 77 := by decide) (hrun : ∀ a, OneSl a → ∃ t', callC call fn [.agg ((List.replicate w AV.und).set j a)] ⟨1, [], []⟩ = .ok (.bool true) t') :
    Calls P (M.fm id) #[v] W fun e W' => e = .returned (.bool true) ∧ Below W.heap.size W W' := by
  obtain ⟨K, hK0, hK⟩ := size_bound W
  obtain ⟨fuel, htr⟩ := htr
  unfold Value.okWide at hval
  rw [hu] at hval
  obtain ⟨cs, rfl, hcs, -⟩ := hval
  obtain ⟨ascs, h1, h2, h3, -⟩ := trod_vr (M := M) hK0 hK fuel (tf + 1) t _ _ ha htr
  have hl : ascs.length = cs.size := by simpa [Value.cells] using h2
  unfold DA at h1
  rw [hu] at h1
  obtain ⟨ps, -, hps, hasl, hf⟩ := h1
  obtain ⟨hi, hfi⟩ := Array.getElem?_eq_some_iff.mp hfl
  have h4 := hf i hi (by omega)
  rw [hfi, hoff, hc1] at h4
  have hjl : j < ascs.length := by rw [hasl, hw]; exact hjw
  have hone : (ascs.drop j).take 1 = [ascs[j]] := by rw [List.drop_eq_getElem_cons hjl]; rfl
  rw [hone] at h4
  have hkind : ascs[j] = .nils ∨ ascs[j] = .sl0 ∨ ∃ id e pos cap alt es, ascs[j] = .sl id e pos cap false alt es := by
    cases tf with
    | zero => exact absurd rfl htf
    | succ tf =>
      unfold DA at h4
      rw [hsl] at h4
      rcases h4 with ⟨-, h⟩ | ⟨elems, spare, es, -, -, -, -, ⟨-, h⟩ | ⟨id, pos, h⟩⟩
      · injection h with h; exact .inl h
      · injection h with h; exact .inr (.inl h)
      · injection h with h; exact .inr (.inr ⟨_, _, _, _, _, _, h⟩)
  have h5 := h3 j (by simpa using hjl)
  obtain ⟨a', pl, ho, hv'⟩ := oneSl_of h5 hkind
  obtain ⟨t', hr⟩ := hrun a' ho
  refine link1 (g := oneG W pl) him ht hcall hfn hdp (fun _ _ => rfl) (oneG_sr M W pl) rfl (fun q hq => ?_) hr
  have hq0 : q = 0 := by simpa using hq
  subst hq0
  simp only [List.getElem_cons_zero]
  refine .agg _ cs (by simp [← hl, hasl, hw]) (fun q hq => ?_)
  by_cases e : j = q
  · subst e
    simp only [List.getElem_set_self]
    simpa [Value.cells, Array.getD_eq_getD_getElem?, List.getD_eq_getElem?_getD] using hv'
  · rw [List.getElem_set_ne e, List.getElem_replicate]
    exact .und _

end M2
end
section
namespace M2
open Go
open Classical

/-! ### A loop over a row of texts, round by round: each round run by itself, in an empty state -/

noncomputable def G.low (g : G) : G := g.view 3 (fun i => i < 3) (allB g)

/-- a value that no world matters to -/
def Free (M : Maps) (a : AV) : Prop := ∀ g g' v, VR M g a v → VR M g' a v
theorem free_str (M : Maps) (s : List UInt8) : Free M (.str s) := by
  intro g g' v h
  cases h
  exact .str s

theorem sl_move {M : Maps} {g g' : G} {id e pos cap alt : Nat} {fl : Bool} {es : List AV} {v : Value} (hpl : ∀ x ∈ es, Free M x) (hok : g'.ok id) (hρ : g'.ρ id = g.ρ id)
    (hfx : ∀ m, g.fixed (g.ρ id).block m → g'.fixed (g.ρ id).block m) (hw : g'.w = g.w) (h : VR M g (.sl id e pos cap fl alt es) v) : VR M g' (.sl id e pos cap fl alt es) v := by
  cases h with
  | sl id e pos cap fl alt es b o ccap vs hid hcc hb ho hlen hv hs hc hf =>
    subst hb
    exact .sl id e pos cap fl alt es _ o ccap vs hok (by rw [hρ]; exact hcc) (by rw [hρ]) (by rw [hρ]; exact ho) hlen (fun i hi => hpl _ (List.getElem_mem hi) g g' _ (hv i hi)) hs
      (fun i j hi hj => by rw [hw]; exact hc i j hi hj) (hfx _ hf)

theorem sl_known {M : Maps} {g : G} {id e pos cap alt : Nat} {fl : Bool} {es : List AV} {v : Value} (h : VR M g (.sl id e pos cap fl alt es) v) : g.ok id ∧ (g.ρ id).block < g.w.heap.size := by
  cases h with
  | sl id e pos cap fl alt es b o ccap vs hid hcc hb ho hlen hv hs hc hf => exact ⟨hid, hb ▸ hf.1⟩

theorem sl_low {M : Maps} {g : G} {id e pos cap alt : Nat} {fl : Bool} {es : List AV} {v : Value} (hpl : ∀ x ∈ es, Free M x) (hid : id < 3) (h : VR M g (.sl id e pos cap fl alt es) v) :
    VR M g.low (.sl id e pos cap fl alt es) v := by
  refine sl_move (g := g) (g' := g.low) hpl ⟨(sl_known h).1, hid⟩ rfl (fun m hf => ⟨hf.1, ?_⟩) rfl h
  show Own.fix m (if allB g (g.ρ id).block then (g.μ (g.ρ id).block).frz else g.μ (g.ρ id).block)
  rw [if_pos (show allB g (g.ρ id).block from hf.1)]
  exact (seal_fix _ _).mpr hf.2

theorem sl_upd {M : Maps} {g g' : G} {id e pos cap alt : Nat} {fl : Bool} {es : List AV} {v v0 : Value} (hpl : ∀ x ∈ es, Free M x) (hid : id < 3) (h0 : VR M g (.sl id e pos cap fl alt es) v0) (hle : g.low.Le g')
    (h : VR M g' (.sl id e pos cap fl alt es) v) : VR M (g.upd g') (.sl id e pos cap fl alt es) v := by
  obtain ⟨k1, k2⟩ := sl_known h0
  have hρ : g'.ρ id = g.ρ id := hle.ρ id ⟨k1, hid⟩
  refine sl_move hpl k1 hρ.symm (fun m hf => ⟨?_, ?_⟩) rfl h
  · exact hf.1
  · rw [hρ] at hf ⊢
    have := (back_sealed (g := g) hle (fun _ hb => hb) k2).2
    have h2 := hf.2
    rw [this] at h2
    show Own.fix m (if (g.ρ id).block < g.w.heap.size then g.μ (g.ρ id).block else .oth)
    rw [if_pos k2]
    exact (seal_fix _ _).mp h2

theorem low_sr {M : Maps} {g : G} {t : T} (_ : SR M g t) : SR M g.low ⟨3, [[]], [[]]⟩ :=
  SR.enter (t := ⟨3, [], []⟩)
    { n := rfl, wf := ⟨by simp, fun p hp => by simp at hp, by simp, fun p hp => by simp at hp⟩, okn := fun i hi => hi.2,
      var := fun x o hx => by simp [look2_nil] at hx, inj := fun x y o o' hx => by simp [look2_nil] at hx,
      ids := fun i en e hx => by simp [look2_nil] at hx, idinj := fun i j a b hx => by simp [look2_nil] at hx }

noncomputable def isRow (d : Nat) (row : AV) (r : RR) : Bool := match r with | .norm F _ => avE 60 (F.get (pth d 0)) row | _ => false
noncomputable def isRowI (d q : Nat) (row : AV) (i : Nat) (r : RR) : Bool := match r with | .norm F _ => avE 60 (F.get (pth d 0)) row && avE 2 (F.get (pth d q)) (.int .i64 (.ofNat i)) | _ => false
def isOut (id : Nat) (r : RR) : Bool := match r with | .exit j _ _ => Nat.beq j id | _ => false

noncomputable def frI (d q : Nat) (row : AV) (i : Nat) : Fr := (Fr.nil.put (pth d 0) row).put (pth d q) (.int .i64 (.ofNat i))

section
variable {P : Program} {M : Maps} {im : FuncId → Option Nat} {d ntmps : Nat}

theorem cmpR_kind {ops : Array Oper} {ac : Cd} (h : cmpR P im d ntmps ops = some ac) : (∃ ks ws, ac = .regd ks ws) ∨ ∃ f os, ac = .regx f os := by
  have hd0 : ∀ h c, cmpD0 P im d ntmps h ops = some c → ∃ ks ws, c = .regd ks ws := by
    intro h c hc
    unfold cmpD0 at hc
    simp only [Option.bind_eq_bind, Option.bind_eq_some_iff] at hc
    obtain ⟨_, _, _, _, _, _, e⟩ := hc
    split at e
    · cases e; exact ⟨_, _, rfl⟩
    · cases e
  have hd : ∀ c, cmpD P im d ntmps ops = some c → ∃ ks ws, c = .regd ks ws := by
    intro c hc
    unfold cmpD at hc
    split at hc
    · split at hc
      · rename_i c' hcc; cases hc; exact hd0 _ _ hcc
      · exact hd0 _ _ hc
    · split at hc
      · rename_i c' hcc; cases hc; exact hd0 _ _ hcc
      · exact hd0 _ _ hc
  have hx : ∀ c, cmpX P im d ntmps ops = some c → ∃ f os, c = .regx f os := by
    intro c hc
    unfold cmpX at hc
    simp only [Option.bind_eq_bind, Option.bind_eq_some_iff] at hc
    obtain ⟨_, _, e⟩ := hc
    split at e
    · cases e; exact ⟨_, _, rfl⟩
    · cases e
  unfold cmpR at h
  split at h
  · split at h
    · rename_i c hcc; cases h; exact .inr (hx _ hcc)
    · exact .inl (hd _ h)
  · split at h
    · rename_i c hcc; cases h; exact .inl (hd _ hcc)
    · exact .inr (hx _ h)

theorem inv_seq {c : Code} {A B : Cd} (h : cmpC P im d ntmps c = some (.seq A B)) : ∃ x y, c = .seq x y ∧ cmpC P im d ntmps x = some A ∧ cmpC P im d ntmps y = some B := by
  cases c with
  | seq x y =>
    simp only [cmpC, Option.bind_eq_bind, Option.bind_eq_some_iff] at h
    obtain ⟨x', hx, y', hy, e⟩ := h
    cases e
    exact ⟨x, y, rfl, hx, hy⟩
  | region id ops draw =>
    simp only [cmpC] at h
    split at h
    · rcases cmpR_kind h with ⟨_, _, e⟩ | ⟨_, _, e⟩ <;> cases e
    · rw [Option.map_eq_some_iff] at h
      obtain ⟨_, _, e⟩ := h
      cases e
  | _ => simp [cmpC, Option.bind_eq_some_iff] at h

theorem inv_block {c : Code} {id : Nat} {B : Cd} (h : cmpC P im d ntmps c = some (.block id B)) : ∃ x, c = .block id x ∧ cmpC P im d ntmps x = some B := by
  cases c with
  | block i x =>
    simp only [cmpC, Option.bind_eq_bind, Option.bind_eq_some_iff] at h
    obtain ⟨x', hx, e⟩ := h
    cases e
    exact ⟨x, rfl, hx⟩
  | region id ops draw =>
    simp only [cmpC] at h
    split at h
    · rcases cmpR_kind h with ⟨_, _, e⟩ | ⟨_, _, e⟩ <;> cases e
    · rw [Option.map_eq_some_iff] at h
      obtain ⟨_, _, e⟩ := h
      cases e
  | _ => simp [cmpC, Option.bind_eq_some_iff] at h

theorem inv_loop {c : Code} {B : Cd} (h : cmpC P im d ntmps c = some (.loop B)) : ∃ x, c = .loop x ∧ cmpC P im d ntmps x = some B := by
  cases c with
  | loop x =>
    simp only [cmpC, Option.bind_eq_bind, Option.bind_eq_some_iff] at h
    obtain ⟨x', hx, e⟩ := h
    cases e
    exact ⟨x, rfl, hx⟩
  | region id ops draw =>
    simp only [cmpC] at h
    split at h
    · rcases cmpR_kind h with ⟨_, _, e⟩ | ⟨_, _, e⟩ <;> cases e
    · rw [Option.map_eq_some_iff] at h
      obtain ⟨_, _, e⟩ := h
      cases e
  | _ => simp [cmpC, Option.bind_eq_some_iff] at h

/-- what is known between two pieces -/
structure Mid (M : Maps) (ntmps : Nat) (t : T) (g0 g : G) (a : Act) : Prop where
  le : g0.Le g
  s : SR M g t
  n : a.tmps.size = ntmps
  d : a.defers = []

theorem fr_nil {g : G} {tmps : Array Value} (h : tmps.size ≤ 2 ^ d) : FR M g d .nil tmps := ⟨h, fun t _ => by rw [Fr.get_nil]; exact .und _⟩
theorem fr_row {g : G} {tmps : Array Value} {F : Fr} (hF : FR M g d F tmps) {q : Nat} (hq : q < 2 ^ d) {a : AV} (hv : VR M g a (tmps.getD q undef)) : FR M g d (F.put (pth d q) a) tmps := by
  refine ⟨hF.size, fun u hu => ?_⟩
  rw [Fr.get_put]
  by_cases h : q = u
  · subst h; rw [if_pos rfl]; exact hv
  · rw [if_neg (fun e => h (pth_inj d q u hq hu e))]; exact hF.rel u hu

theorem isRow_ok {q : Nat} {row : AV} {r : RR} (h : isRow q row r = true) : ∃ F t, r = .norm F t ∧ F.get (pth q 0) = row := by
  unfold isRow at h
  split at h
  · exact ⟨_, _, rfl, avE_ok _ _ _ h⟩
  · cases h
theorem isRowI_ok {d q : Nat} {row : AV} {i : Nat} {r : RR} (h : isRowI d q row i r = true) : ∃ F t, r = .norm F t ∧ F.get (pth d 0) = row ∧ F.get (pth d q) = .int .i64 (.ofNat i) := by
  unfold isRowI at h
  split at h
  · simp only [Bool.and_eq_true] at h
    exact ⟨_, _, rfl, avE_ok _ _ _ h.1, avE_ok _ _ _ h.2⟩
  · cases h
theorem isOut_ok {id : Nat} {r : RR} (h : isOut id r = true) : ∃ F t, r = .exit id F t := by
  unfold isOut at h
  split at h
  · rw [Nat.eq_of_beq_eq_true h]; exact ⟨_, _, rfl⟩
  · cases h

theorem loop_orc {tbl : Nat → Option AFunc} (hmix : P.follows .mixedOrders = true) (him : ∀ f x, im f = some x → M.fm x = f) (ht : Table P M im tbl) {sid : Nat} {fn : AFunc} (hfn : tbl sid = some fn) (hdp : fn.depth ≠ 77 := by decide)
    {a1 a2 b c : Cd} {lb : Nat} (hshape : fn.body = .seq a1 (.seq (.seq a2 (.block lb (.loop b))) c)) {q : Nat} (hq : q < 2 ^ fn.depth) (hpar : fn.params = [pth fn.depth 0])
    {id e pos cap alt : Nat} {es : List AV} (hid : id < 3) (hes : ∀ M x, x ∈ es → Free M x) {k N : Nat}
    (h1 : isRow fn.depth (.sl id e pos cap false alt es) (ev tbl N a1 (Fr.nil.put (pth fn.depth 0) (.sl id e pos cap false alt es)) ⟨3, [[]], [[]]⟩) = true)
    (h2 : isRowI fn.depth q (.sl id e pos cap false alt es) 0 (ev tbl N a2 (Fr.nil.put (pth fn.depth 0) (.sl id e pos cap false alt es)) ⟨3, [[]], [[]]⟩) = true)
    (h3 : ∀ i, i < k → isRowI fn.depth q (.sl id e pos cap false alt es) (i + 1) (ev tbl N b (frI fn.depth q (.sl id e pos cap false alt es) i) ⟨3, [[]], [[]]⟩) = true)
    (h4 : isOut lb (ev tbl N b (frI fn.depth q (.sl id e pos cap false alt es) k) ⟨3, [[]], [[]]⟩) = true)
    (h5 : okR (outC fn (ev tbl N c .nil ⟨3, [[]], [[]]⟩)) = true) : CallOK P M (orc sid [.sl id e pos cap false alt es] 3) := by
  generalize hrow : AV.sl id e pos cap false alt es = row at *
  have rlow : ∀ {g : G} {v : Value}, VR M g row v → VR M g.low row v := fun h => by subst hrow; exact sl_low (hes M) hid h
  have rupd : ∀ {g g' : G} {v v0 : Value}, VR M g row v0 → g.low.Le g' → VR M g' row v → VR M (g.upd g') row v := fun h0 hle h => by subst hrow; exact sl_upd (hes M) hid h0 hle h
  have hcode := code_sound (P := P) hmix him tbl N (fun m _ => call_sound hmix him ht m)
  intro f' args t r t1 hr
  unfold orc at hr
  split at hr
  · rename_i hc
    obtain ⟨rfl, rfl, hn⟩ := hc
    cases hr
    obtain ⟨gf, hgf, hcf⟩ := ht.cmp hfn hdp
    unfold cmpF at hcf
    split at hcf
    · rename_i hcond
      obtain ⟨c1, c2, c3⟩ := hcond
      simp only [Option.bind_eq_bind, Option.bind_eq_some_iff] at hcf
      obtain ⟨cc, hbody, bb, hb, rs, hrs, ee⟩ := hcf
      refine ⟨⟨gf, hgf, by simpa using c3, by simp [hbody]⟩, ?_⟩
      intro g cargs hS hsz hv
      have efn : fn = { depth := fn.depth, params := (List.range (gf.params.size + gf.nfree)).map (pth fn.depth), results := rs, keep := fn.keep, body := bb } := by simpa using ee.symm
      have eparams : fn.params = (List.range (gf.params.size + gf.nfree)).map (pth fn.depth) := by rw [efn]
      have ebody : fn.body = bb := by rw [efn]
      have eres : fn.results = rs := by rw [efn]
      have hsz1 : cargs.size = 1 := by simpa using hsz
      have hv0 : VR M g row (cargs.getD 0 undef) := hv 0 (by simp)
      have hnp : gf.params.size + gf.nfree = 1 := by
        rw [hpar] at eparams
        have := congrArg List.length eparams
        simpa using this.symm
      rw [← ebody, hshape] at hb
      obtain ⟨x, y0, rfl, hx, hy0⟩ := inv_seq hb
      obtain ⟨y1, u, rfl, hy1, hu⟩ := inv_seq hy0
      obtain ⟨y, z0, rfl, hy, hz0⟩ := inv_seq hy1
      obtain ⟨z1, rfl, hz1⟩ := inv_block hz0
      obtain ⟨z, rfl, hz⟩ := inv_loop hz1
      refine calls_of_wp hgf hbody ?_
      generalize hQ : bodyPost P gf (fun e w' => ∃ v g', e = .returned v ∧ g'.w = w' ∧ g.Le g' ∧ VR M g' (.bool true) v ∧ SR M g' t) = Q
      have hpw : gf.ntmps ≤ 2 ^ fn.depth := c1
      generalize ha0 : ({ tmps := cargs ++ Array.replicate (gf.ntmps - cargs.size) undef, defers := [] } : Act) = a0
      have m0 : Mid M gf.ntmps t g g a0 := ⟨.refl g, hS, by subst ha0; simp; omega, by subst ha0; rfl⟩
      have r0 : VR M g row (a0.tmps.getD 0 undef) := by
        subst ha0
        have e2 : (cargs ++ Array.replicate (gf.ntmps - cargs.size) undef).getD 0 undef = cargs.getD 0 undef := by
          simp only [Array.getD_eq_getD_getElem?]
          rw [Array.getElem?_append_left (by omega)]
        show VR M g row ((cargs ++ Array.replicate (gf.ntmps - cargs.size) undef).getD 0 undef)
        rw [e2]
        exact hv0
      have p0 : 0 < 2 ^ fn.depth := Nat.two_pow_pos _
      have fits : ∀ {g1 : G} {a : Act} {F : Fr}, Mid M gf.ntmps t g g1 a → FR M g1.low fn.depth F a.tmps → Fits M g1.low fn.depth gf.ntmps F ⟨3, [[]], [[]]⟩ a := fun hm hF => ⟨hF, low_sr hm.s, hm.n, hm.d⟩
      have next : ∀ {g1 g' : G} {a a' : Act} {F' : Fr} {t' : T}, Mid M gf.ntmps t g g1 a → g1.low.Le g' → Fits M g' fn.depth gf.ntmps F' t' a' → Mid M gf.ntmps t g (g1.upd g') a' :=
        fun hm hle hf => ⟨hm.le.trans (le_upd hle), sr_upd hm.s hle, hf.n, hf.d⟩
      have hsize : ∀ {g1 : G} {a : Act}, Mid M gf.ntmps t g g1 a → a.tmps.size ≤ 2 ^ fn.depth := fun hm => by rw [hm.n]; exact hpw
      have frow : ∀ {g1 : G} {a : Act}, Mid M gf.ntmps t g g1 a → VR M g1 row (a.tmps.getD 0 undef) → FR M g1.low fn.depth (Fr.nil.put (pth fn.depth 0) row) a.tmps :=
        fun hm hr => fr_row (fr_nil (hsize hm)) p0 (rlow hr)
      -- the end
      have hend : ∀ g1 a, Mid M gf.ntmps t g g1 a → u.wp P Q a g1.w := by
        intro g1 a hm
        have hp := hcode fn.depth gf.ntmps u c hu g1.low .nil ⟨3, [[]], [[]]⟩ a Q (fits hm (fr_nil (hsize hm)))
        refine hp ?_
        have hfin : ∀ F1 t1, afterBody fn F1 t1 = outC fn (ev tbl N c .nil ⟨3, [[]], [[]]⟩) → ∀ g' a', g1.low.Le g' → Fits M g' fn.depth gf.ntmps F1 t1 a' → bodyPost P gf (fun e w' => ∃ v g', e = .returned v ∧ g'.w = w' ∧ g.Le g' ∧ VR M g' (.bool true) v ∧ SR M g' t) .normal a' g'.w := by
          intro F1 t1 hE g' a' hle hf'
          obtain ⟨t2, ho⟩ := okR_ok h5
          rw [← hE] at ho
          unfold afterBody at ho
          rw [eres] at ho
          cases hrv : resultsOf F1 t1 rs with
          | none => rw [hrv] at ho; cases ho
          | some vs =>
            rw [hrv] at ho
            simp only [OR.ok.injEq] at ho
            obtain ⟨ws, w1, w2, w3⟩ := results_ok hf' gf.results.toList rs hrs vs hrv
            refine ⟨hf'.d, if h : ws.toArray.size = 1 then ws.toArray[0] else .tuple ws.toArray, ?_, ?_⟩
            · show (results gf a'.tmps).run P g'.w = _
              rw [results_eq, Array.mapM_eq_mapM_toList]
              simp only [Sem.run_bind, Sem.run_map, w1, Result.andThen_ok, Sem.run_pure]
            · have hvr := packed_ok w2 w3
              rw [ho.1] at hvr
              refine ⟨_, g1.upd g', rfl, rfl, hm.le.trans (le_upd hle), ?_, sr_upd hm.s hle⟩
              generalize (if h : ws.toArray.size = 1 then ws.toArray[0] else Value.tuple ws.toArray) = vv at hvr
              cases hvr
              exact .bool true
        subst hQ
        cases hev : ev tbl N c .nil ⟨3, [[]], [[]]⟩ with
        | fail => rw [hev] at h5; cases h5
        | norm F1 t1 => exact fun g' a' hle hf' => hfin F1 t1 (by rw [hev]; rfl) g' a' hle hf'
        | exit id F1 t1 => rw [hev] at h5; cases h5
        | ret F1 t1 => exact fun g' a' hle hf' => hfin F1 t1 (by rw [hev]; rfl) g' a' hle hf'
      refine wp_seq ?_
      obtain ⟨F1, t1, e1, v1⟩ := isRow_ok h1
      refine hcode fn.depth gf.ntmps x a1 hx g.low _ _ a0 _ (fits m0 (frow m0 r0)) ?_
      rw [e1]
      intro g1 a' hle hf'
      have m1 := next m0 hle hf'
      have r1 : VR M (g.upd g1) row (a'.tmps.getD 0 undef) := rupd r0 hle (by have := hf'.f.rel 0 p0; rwa [v1] at this)
      show Code.wp P _ Q a' (g.upd g1).w
      refine wp_seq (wp_seq ?_)
      obtain ⟨F2, t2, e2, v2, i2⟩ := isRowI_ok h2
      refine hcode fn.depth gf.ntmps y a2 hy (g.upd g1).low _ _ a' _ (fits m1 (frow m1 r1)) ?_
      rw [e2]
      intro g2 a2' hle2 hf2
      have m2 := next m1 hle2 hf2
      have r2 : VR M ((g.upd g1).upd g2) row (a2'.tmps.getD 0 undef) := rupd r1 hle2 (by have := hf2.f.rel 0 p0; rwa [v2] at this)
      have n2 : a2'.tmps.getD q undef = .int .i64 (.ofNat 0) := by
        have := hf2.f.rel q hq
        rw [i2] at this
        generalize a2'.tmps.getD q undef = vv at this
        cases this
        rfl
      show Code.wp P _ _ a2' ((g.upd g1).upd g2).w
      refine wp_block ?_
      refine wp_loop_n (fun m a w => ∃ i g3, i ≤ k ∧ m = k - i ∧ g3.w = w ∧ Mid M gf.ntmps t g g3 a ∧ VR M g3 row (a.tmps.getD 0 undef) ∧ a.tmps.getD q undef = .int .i64 (.ofNat i)) ?_ k a2' _
        ⟨0, _, Nat.zero_le _, rfl, rfl, m2, r2, n2⟩
      rintro m a3 w3 ⟨i, g3, hik, rfl, rfl, m3, r3, n3⟩
      have hF3 : FR M g3.low fn.depth (frI fn.depth q row i) a3.tmps := fr_row (frow m3 r3) hq (by rw [n3]; exact .int _ _)
      refine hcode fn.depth gf.ntmps z b hz g3.low _ _ a3 _ (fits m3 hF3) ?_
      by_cases hlt : i < k
      · obtain ⟨F4, t4, e4, v4, i4⟩ := isRowI_ok (h3 i hlt)
        rw [e4]
        intro g4 a4 hle4 hf4
        refine ⟨k - (i + 1), by omega, i + 1, g3.upd g4, hlt, rfl, rfl, next m3 hle4 hf4, rupd r3 hle4 (by have := hf4.f.rel 0 p0; rwa [v4] at this), ?_⟩
        have := hf4.f.rel q hq
        rw [i4] at this
        generalize a4.tmps.getD q undef = vv at this ⊢
        cases this
        rfl
      · have hk : i = k := by omega
        subst hk
        obtain ⟨F4, t4, e4⟩ := isOut_ok h4
        rw [e4]
        intro g4 a4 hle4 hf4
        simp only [Exit.then, Exit.inBlock, if_true]
        exact hend (g3.upd g4) a4 (next m3 hle4 hf4)
    · contradiction
  · cases hr

end

end M2
end
section
namespace M2
open Go
open Classical

/-! ### Code in pieces: each may be run by itself, from what it needs -/

section
variable (P : Program) (M : Maps) (im : FuncId → Option Nat) (d : Nat)

/-- code that compiles to c, from what F and t tell, ends as r tells -/
def Ex (c : Cd) (F : Fr) (t : T) (r : RR) : Prop :=
  ∀ ntmps z, cmpC P im d ntmps z = some c → ∀ g a Q, Fits M g d ntmps F t a → Post M g d ntmps Q r → z.wp P Q a g.w

end

section
variable {P : Program} {M : Maps} {im : FuncId → Option Nat} {d : Nat}

theorem Ex.run {tbl : Nat → Option AFunc} (hmix : P.follows .mixedOrders = true) (him : ∀ f x, im f = some x → M.fm x = f) (ht : Table P M im tbl) {N : Nat} {c : Cd} {F : Fr} {t : T} {r : RR}
    (h : ev tbl N c F t = r) : Ex P M im d c F t r := by
  intro ntmps z hz g a Q hf hp
  exact code_sound hmix him tbl N (fun m _ => call_sound hmix him ht m) d ntmps z c hz g F t a Q hf (by rw [h]; exact hp)

theorem Ex.seq {x y : Cd} {F F1 : Fr} {t t1 : T} {r : RR} (h1 : Ex P M im d x F t (.norm F1 t1)) (h2 : Ex P M im d y F1 t1 r) : Ex P M im d (.seq x y) F t r := by
  intro ntmps z hz g a Q hf hp
  obtain ⟨u, v, rfl, hu, hv⟩ := inv_seq hz
  refine wp_seq (h1 ntmps u hu g a _ hf ?_)
  intro g' a' hle hf'
  exact h2 ntmps v hv g' a' Q hf' (hp.later hle)

def RR.norm? : RR → Bool
  | .norm _ _ => true
  | _ => false

theorem Ex.seqx {x y : Cd} {F : Fr} {t : T} {r : RR} (h1 : Ex P M im d x F t r) (hr : r.norm? = false) : Ex P M im d (.seq x y) F t r := by
  intro ntmps z hz g a Q hf hp
  obtain ⟨u, v, rfl, hu, hv⟩ := inv_seq hz
  refine wp_seq (h1 ntmps u hu g a _ hf ?_)
  cases r with
  | fail => exact hp
  | norm F1 t1 => cases hr
  | exit id F1 t1 => exact hp
  | ret F1 t1 => exact hp

theorem Ex.loopx {b : Cd} {F : Fr} {t : T} {r : RR} (h1 : Ex P M im d b F t r) (hr : r.norm? = false) : Ex P M im d (.loop b) F t r := by
  intro ntmps z hz g a Q hf hp
  obtain ⟨u, rfl, hu⟩ := inv_loop hz
  refine wp_loop_n (fun m a' w => m = 0 ∧ a' = a ∧ w = g.w) ?_ 0 a g.w ⟨rfl, rfl, rfl⟩
  rintro m a' w ⟨-, rfl, rfl⟩
  refine h1 ntmps u hu g a' _ hf ?_
  cases r with
  | fail => exact hp
  | norm F1 t1 => cases hr
  | exit id F1 t1 => exact hp
  | ret F1 t1 => exact hp

/-- k rounds of a loop, and then what ends it -/
theorem Ex.loops {b : Cd} {F : Nat → Fr} {t : Nat → T} {k : Nat} {r : RR} (h1 : ∀ i, i < k → Ex P M im d b (F i) (t i) (.norm (F (i + 1)) (t (i + 1)))) (h2 : Ex P M im d b (F k) (t k) r) (hr : r.norm? = false) :
    Ex P M im d (.loop b) (F 0) (t 0) r := by
  intro ntmps z hz g a Q hf hp
  obtain ⟨u, rfl, hu⟩ := inv_loop hz
  refine wp_loop_n (fun m a' w => ∃ i g1, i ≤ k ∧ m = k - i ∧ g1.w = w ∧ g.Le g1 ∧ Fits M g1 d ntmps (F i) (t i) a') ?_ k a g.w ⟨0, g, Nat.zero_le _, rfl, rfl, .refl g, hf⟩
  rintro m a' w ⟨i, g1, hik, rfl, rfl, hle, hf1⟩
  by_cases hlt : i < k
  · refine h1 i hlt ntmps u hu g1 a' _ hf1 ?_
    intro g2 a2 hle2 hf2
    exact ⟨k - (i + 1), by omega, i + 1, g2, hlt, rfl, rfl, hle.trans hle2, hf2⟩
  · have hk : i = k := by omega
    subst hk
    refine h2 ntmps u hu g1 a' _ hf1 ?_
    have hp1 := hp.later hle
    cases r with
    | fail => exact hp1
    | norm F1 t1 => cases hr
    | exit id F1 t1 => exact hp1
    | ret F1 t1 => exact hp1

def inB (id : Nat) : RR → RR
  | .exit i F t => if i = id then .norm F t else .exit i F t
  | r => r

theorem Ex.block {b : Cd} {id : Nat} {F : Fr} {t : T} {r : RR} (h1 : Ex P M im d b F t r) : Ex P M im d (.block id b) F t (inB id r) := by
  intro ntmps z hz g a Q hf hp
  obtain ⟨u, rfl, hu⟩ := inv_block hz
  refine wp_block (h1 ntmps u hu g a _ hf ?_)
  cases r with
  | fail => exact hp
  | norm F1 t1 => exact hp
  | exit i F1 t1 =>
    intro g' a' hle hf'
    unfold Exit.inBlock
    by_cases hi : i = id
    · simp only [inB, hi, if_true] at hp
      simp only [hi, if_true]
      exact hp g' a' hle hf'
    · simp only [inB, hi, if_false] at hp
      simp only [hi, if_false]
      exact hp g' a' hle hf'
  | ret F1 t1 => exact hp

/-- to know less -/
def Fr.under (F0 F : Fr) : Prop := ∀ p, F0.get p = .und ∨ F0.get p = F.get p

theorem FR.under {g : G} {F0 F : Fr} {tmps : Array Value} (h : F0.under F) (hF : FR M g d F tmps) : FR M g d F0 tmps :=
  ⟨hF.size, fun u hu => by
    rcases h (pth d u) with e | e
    · rw [e]; exact .und _
    · rw [e]; exact hF.rel u hu⟩

theorem Ex.weak {c : Cd} {F0 F : Fr} {t : T} {r : RR} (hu : F0.under F) (h : Ex P M im d c F0 t r) : Ex P M im d c F t r := by
  intro ntmps z hz g a Q hf hp
  exact h ntmps z hz g a Q ⟨hf.f.under hu, hf.s, hf.n, hf.d⟩ hp

def underR (F0 : Fr) : RR → RR
  | .fail => .fail
  | .norm _ t => .norm F0 t
  | .exit i _ t => .exit i F0 t
  | .ret _ t => .ret F0 t
def frOf : RR → Fr
  | .fail => .nil
  | .norm F _ => F
  | .exit _ F _ => F
  | .ret F _ => F

/-- to forget -/
theorem Ex.less {c : Cd} {F F0 : Fr} {t : T} {r : RR} (h : Ex P M im d c F t r) (hu : F0.under (frOf r)) : Ex P M im d c F t (underR F0 r) := by
  intro ntmps z hz g a Q hf hp
  refine h ntmps z hz g a Q hf ?_
  cases r with
  | fail => exact hp
  | norm F1 t1 => exact fun g' a' hle hf' => hp g' a' hle ⟨hf'.f.under hu, hf'.s, hf'.n, hf'.d⟩
  | exit i F1 t1 => exact fun g' a' hle hf' => hp g' a' hle ⟨hf'.f.under hu, hf'.s, hf'.n, hf'.d⟩
  | ret F1 t1 => exact fun g' a' hle hf' => hp g' a' hle ⟨hf'.f.under hu, hf'.s, hf'.n, hf'.d⟩

/-- operations whose calls are answered by others -/
theorem Ex.reg (him : ∀ f x, im f = some x → M.fm x = f) {call : CallF} (hcall : CallOK P M call) {l : List AO} {F : Fr} {t : T} : Ex P M im d (.reg l) F t (runOps l call F t) := by
  intro ntmps z hz g a Q hf hp
  exact evC_sound him hcall d ntmps z (.reg l) hz g F t a Q hf hp

/-! ### In an empty state -/

noncomputable def G.lowN (g : G) (n : Nat) : G := g.view n (fun i => i < n) (allB g)

theorem lowN_sr {g : G} {n : Nat} : SR M (g.lowN n) ⟨n, [[]], [[]]⟩ :=
  SR.enter (t := ⟨n, [], []⟩)
    { n := rfl, wf := ⟨by simp, fun p hp => by simp at hp, by simp, fun p hp => by simp at hp⟩, okn := fun i hi => hi.2,
      var := fun x o hx => by simp [look2_nil] at hx, inj := fun x y o o' hx => by simp [look2_nil] at hx,
      ids := fun i en e hx => by simp [look2_nil] at hx, idinj := fun i j a b hx => by simp [look2_nil] at hx }

/-- a value that may be carried into an empty state, and back -/
def Down (M : Maps) (n : Nat) (a : AV) : Prop := ∀ g v, VR M g a v → VR M (g.lowN n) a v
def Back (M : Maps) (n : Nat) (a : AV) : Prop := ∀ g g' v v0, VR M g a v0 → (g.lowN n).Le g' → VR M g' a v → VR M (g.upd g') a v

theorem Free.down {n : Nat} {a : AV} (h : Free M a) : Down M n a := fun _ _ hv => h _ _ _ hv
theorem Free.back {n : Nat} {a : AV} (h : Free M a) : Back M n a := fun _ _ _ _ _ _ hv => h _ _ _ hv

theorem down_ptr {n x off : Nat} (h : x < n) : Down M n (.ptr x off) := by
  intro g v hv
  cases hv with
  | ptr x off hx => exact VR.ptr (g := g.lowN n) x off ⟨hx, h⟩
theorem back_ptr {n x off : Nat} (h : x < n) : Back M n (.ptr x off) := by
  intro g g' v v0 h0 hle hv
  cases h0 with
  | ptr x off hx0 =>
    cases hv with
    | ptr x off hx =>
      have : g'.ν x = g.ν x := hle.ν x ⟨hx0, h⟩
      rw [this]
      exact VR.ptr (g := g.upd g') x off hx0

theorem Ex.low {c : Cd} {F : Fr} {t : T} {n : Nat} {r : RR} (h : Ex P M im d c F ⟨n, [[]], [[]]⟩ r) (hd : ∀ p, Down M n (F.get p)) {F1 : Fr}
    (hu : F1.under (frOf r)) (hb : ∀ p, Free M (F1.get p) ∨ (F1.get p = F.get p ∧ Back M n (F1.get p))) (he : r ≠ .fail) {r' : RR}
    (hr' : r' = match r with | .fail => .fail | .norm _ _ => .norm F1 t | .exit i _ _ => .exit i F1 t | .ret _ _ => .ret F1 t) : Ex P M im d c F t r' := by
  intro ntmps z hz g a Q hf hp
  have hfl : Fits M (g.lowN n) d ntmps F ⟨n, [[]], [[]]⟩ a := ⟨⟨hf.f.size, fun u hu => hd _ g _ (hf.f.rel u hu)⟩, lowN_sr, hf.n, hf.d⟩
  have key : ∀ g' F2 t2 a', (g.lowN n).Le g' → Fits M g' d ntmps F2 t2 a' → F2 = frOf r → Fits M (g.upd g') d ntmps F1 t a' := by
    intro g' F2 t2 a' hle hf' e
    subst e
    refine ⟨⟨hf'.f.size, fun u hu1 => ?_⟩, sr_upd hf.s hle, hf'.n, hf'.d⟩
    have h1 := (hf'.f.under hu).rel u hu1
    rcases hb (pth d u) with hfree | ⟨e, hback⟩
    · exact hfree _ _ _ h1
    · have h0 := hf.f.rel u hu1
      rw [← e] at h0
      exact hback g g' _ _ h0 hle h1
  refine h ntmps z hz (g.lowN n) a Q hfl ?_
  cases r with
  | fail => exact absurd rfl he
  | norm F2 t2 => subst hr'; exact fun g' a' hle hf' => hp (g.upd g') a' (le_upd hle) (key g' F2 t2 a' hle hf' rfl)
  | exit i F2 t2 => subst hr'; exact fun g' a' hle hf' => hp (g.upd g') a' (le_upd hle) (key g' F2 t2 a' hle hf' rfl)
  | ret F2 t2 => subst hr'; exact fun g' a' hle hf' => hp (g.upd g') a' (le_upd hle) (key g' F2 t2 a' hle hf' rfl)

/-! ### Functions, by their pieces -/

/-- a call of our function f from these arguments and this state comes to v and leaves t' -/
def Rt (P : Program) (M : Maps) (f : Nat) (args : List AV) (t : T) (v : AV) (t' : T) : Prop :=
  Good P (M.fm f) ∧ ∀ g cargs, SR M g t → cargs.size = args.length → (∀ i (h : i < args.length), VR M g args[i] (cargs.getD i undef)) →
    Calls P (M.fm f) cargs g.w fun e w' => ∃ x g', e = .returned x ∧ g'.w = w' ∧ g.Le g' ∧ VR M g' v x ∧ SR M g' t'

theorem Rt.of {tbl : Nat → Option AFunc} (ht : Table P M im tbl) {f : Nat} {fn : AFunc} (hfn : tbl f = some fn) (hdp : fn.depth ≠ 77 := by decide) {args : List AV} {t t' : T} {F : Fr} {v : AV} {r : RR} (ha : argsIn fn.params args .nil = some F)
    (h : Ex P M im fn.depth fn.body F t.enter r) (hr : outC fn r = .ok v t') : Rt P M f args t v t' := by
  obtain ⟨gf, hgf, hcf⟩ := ht.cmp hfn hdp
  unfold cmpF at hcf
  split at hcf
  · rename_i hcond
    obtain ⟨c1, c2, c3⟩ := hcond
    simp only [Option.bind_eq_bind, Option.bind_eq_some_iff] at hcf
    obtain ⟨c, hbody, b, hb, rs, hrs, e⟩ := hcf
    refine ⟨⟨gf, hgf, by simpa using c3, by simp [hbody]⟩, ?_⟩
    intro g cargs hS hsz hv
    have efn : fn = { depth := fn.depth, params := (List.range (gf.params.size + gf.nfree)).map (pth fn.depth), results := rs, keep := fn.keep, body := b } := by simpa using e.symm
    have eparams : fn.params = (List.range (gf.params.size + gf.nfree)).map (pth fn.depth) := by rw [efn]
    have ebody : fn.body = b := by rw [efn]
    have eres : fn.results = rs := by rw [efn]
    have hnd : fn.params.Nodup := by
      rw [eparams]
      exact pth_nodup (by omega)
    obtain ⟨a1, a2⟩ := argsIn_ok _ _ _ _ ha hnd
    have hnp : gf.params.size + gf.nfree = args.length := by rw [← a1, eparams]; simp
    refine calls_of_wp hgf hbody ?_
    have hfits : Fits M g fn.depth gf.ntmps F t.enter { tmps := cargs ++ Array.replicate (gf.ntmps - cargs.size) undef, defers := [] } := by
      refine ⟨⟨by simp; omega, fun u hu => ?_⟩, hS.enter, by simp; omega, rfl⟩
      rw [a2, eparams, idx_pth (by omega) hu]
      by_cases hlt : u < gf.params.size + gf.nfree
      · rw [if_pos hlt]
        simp only
        have h1 := hv u (by omega)
        have e1 : args.getD u .und = args[u]'(by omega) := by simp [List.getD, show u < args.length by omega]
        rw [e1]
        have e2 : (cargs ++ Array.replicate (gf.ntmps - cargs.size) undef).getD u undef = cargs.getD u undef := by
          simp only [Array.getD_eq_getD_getElem?]
          rw [Array.getElem?_append_left (by omega)]
        show VR M g _ ((cargs ++ Array.replicate (gf.ntmps - cargs.size) undef).getD u undef)
        rw [e2]
        exact h1
      · rw [if_neg hlt]
        simp only [Fr.get_nil]
        exact .und _
    rw [ebody] at h
    refine h gf.ntmps c hb g _ _ hfits ?_
    have hfin : ∀ F1 t1, outC fn r = afterBody fn F1 t1 → ∀ g' a', g.Le g' → Fits M g' fn.depth gf.ntmps F1 t1 a' → bodyPost P gf (fun e w' => ∃ x g', e = .returned x ∧ g'.w = w' ∧ g.Le g' ∧ VR M g' v x ∧ SR M g' t') .normal a' g'.w := by
      intro F1 t1 hE g' a' hle hf'
      have ho := hr
      rw [hE] at ho
      unfold afterBody at ho
      rw [eres] at ho
      cases hrv : resultsOf F1 t1 rs with
      | none => rw [hrv] at ho; cases ho
      | some vs =>
        rw [hrv] at ho
        cases ho
        obtain ⟨ws, w1, w2, w3⟩ := results_ok hf' gf.results.toList rs hrs vs hrv
        refine ⟨hf'.d, if h : ws.toArray.size = 1 then ws.toArray[0] else .tuple ws.toArray, ?_, ?_⟩
        · show (results gf a'.tmps).run P g'.w = _
          rw [results_eq, Array.mapM_eq_mapM_toList]
          simp only [Sem.run_bind, Sem.run_map, w1, Result.andThen_ok, Sem.run_pure]
        · exact ⟨_, g', rfl, rfl, hle, packed_ok w2 w3, hf'.s.leave _ _⟩
    cases r with
    | fail => cases hr
    | norm F1 t1 => exact fun g' a' hle hf' => hfin F1 t1 rfl g' a' hle hf'
    | exit id F1 t1 => cases hr
    | ret F1 t1 => exact fun g' a' hle hf' => hfin F1 t1 rfl g' a' hle hf'
  · contradiction

end

end M2
end
section
namespace M2
open Go Go.ChangeShapes Go.WideShapes Go.ChangeAt Go.RowKit

/-! ### A law's call, by pieces -/

theorem link2 {P : Program} {M : Maps} {id : Nat} {avs : List AV} {args : Array Value} {t t' : T} {g : G} (hoth : ∀ b, b < g.w.heap.size → g.μ b = .oth) (hS : SR M g t) (hsz : args.size = avs.length)
    (hv : ∀ i (h : i < avs.length), VR M g avs[i] (args.getD i undef)) (hrun : Rt P M id avs t (.bool true) t') :
    Calls P (M.fm id) args g.w fun e w' => e = .returned (.bool true) ∧ Below g.w.heap.size g.w w' := by
  obtain ⟨-, h⟩ := hrun
  refine (h g args hS hsz hv).mono ?_
  rintro e w' ⟨v, g', rfl, rfl, hle, hvr, -⟩
  cases hvr
  exact ⟨rfl, hle.os, hle.tape, hle.output, hle.size, fun k hk => (hle.oth k hk (by rw [hoth k hk]; rfl)).2⟩

theorem law_run2 {P : Program} {M : Maps}
    {H : Type} {enc : TypeId × Value → H} {W : World} {base id tf : Nat} {t : TypeId} {fs : Array Field} (hu : P.underlying t = some (.struct fs)) (ha : argT P (tf + 1) t = true) {v : Value} {d : DataW H} {p : List MemPlace}
    (hval : Value.okWide P W .any base t v) (htr : DataW.Trod enc P W 0 (fun _ => true) true t v d p)
    {w j i : Nat} {fl : Field} {e : TypeId} (hw : P.cellsOf t = w) (hfl : fs[i]? = some fl) (hoff : fl.offset = j) (hjw : j < w) (hsl : P.underlying fl.type = some (.slice e)) (hc1 : P.cellsOf fl.type = 1) (htf : tf ≠ 0)
    (hrun : ∀ a, OneSl a → ∃ t', Rt P M id [.agg ((List.replicate w AV.und).set j a)] ⟨1, [], []⟩ (.bool true) t') :
    Calls P (M.fm id) #[v] W fun e W' => e = .returned (.bool true) ∧ Below W.heap.size W W' := by
  obtain ⟨K, hK0, hK⟩ := size_bound W
  obtain ⟨fuel, htr⟩ := htr
  unfold Value.okWide at hval
  rw [hu] at hval
  obtain ⟨cs, rfl, hcs, -⟩ := hval
  obtain ⟨ascs, h1, h2, h3, -⟩ := trod_vr (M := M) hK0 hK fuel (tf + 1) t _ _ ha htr
  have hl : ascs.length = cs.size := by simpa [Value.cells] using h2
  unfold DA at h1
  rw [hu] at h1
  obtain ⟨ps, -, hps, hasl, hf⟩ := h1
  obtain ⟨hi, hfi⟩ := Array.getElem?_eq_some_iff.mp hfl
  have h4 := hf i hi (by omega)
  rw [hfi, hoff, hc1] at h4
  have hjl : j < ascs.length := by rw [hasl, hw]; exact hjw
  have hone : (ascs.drop j).take 1 = [ascs[j]] := by rw [List.drop_eq_getElem_cons hjl]; rfl
  rw [hone] at h4
  have hkind : ascs[j] = .nils ∨ ascs[j] = .sl0 ∨ ∃ id e pos cap alt es, ascs[j] = .sl id e pos cap false alt es := by
    cases tf with
    | zero => exact absurd rfl htf
    | succ tf =>
      unfold DA at h4
      rw [hsl] at h4
      rcases h4 with ⟨-, h⟩ | ⟨elems, spare, es, -, -, -, -, ⟨-, h⟩ | ⟨id, pos, h⟩⟩
      · injection h with h; exact .inl h
      · injection h with h; exact .inr (.inl h)
      · injection h with h; exact .inr (.inr ⟨_, _, _, _, _, _, h⟩)
  have h5 := h3 j (by simpa using hjl)
  obtain ⟨a', pl, ho, hv'⟩ := oneSl_of h5 hkind
  obtain ⟨t', hr⟩ := hrun a' ho
  refine link2 (g := oneG W pl) (fun _ _ => rfl) (oneG_sr M W pl) rfl (fun q hq => ?_) hr
  have hq0 : q = 0 := by simpa using hq
  subst hq0
  simp only [List.getElem_cons_zero]
  refine .agg _ cs (by simp [← hl, hasl, hw]) (fun q hq => ?_)
  by_cases e : j = q
  · subst e
    simp only [List.getElem_set_self]
    simpa [Value.cells, Array.getD_eq_getD_getElem?, List.getD_eq_getElem?_getD] using hv'
  · rw [List.getElem_set_ne e, List.getElem_replicate]
    exact .und _

end M2
end
section
namespace M2
open Go
open Classical

/-! ### Several pieces of code, one after the other -/

def wpL (P : Program) (Q : Exit → Act → World → Prop) : List Code → Act → World → Prop
  | [], a, w => Q .normal a w
  | z :: zs, a, w => z.wp P (Exit.then (wpL P Q zs) Q) a w

def cmpL (P : Program) (im : FuncId → Option Nat) (d ntmps : Nat) : List Code → List Cd → Prop
  | [], [] => True
  | z :: zs, c :: cs => cmpC P im d ntmps z = some c ∧ cmpL P im d ntmps zs cs
  | _, _ => False

/-- our run of several pieces -/
noncomputable def evL (e : Ev) : List Cd → Fr → T → RR
  | [], F, t => .norm F t
  | c :: cs, F, t => RR.rec (motive := fun _ => RR) .fail (evL e cs) RR.exit RR.ret (e c F t)

section
variable (P : Program) (M : Maps) (im : FuncId → Option Nat) (d : Nat)

def ExL (cs : List Cd) (F : Fr) (t : T) (r : RR) : Prop :=
  ∀ ntmps zs, cmpL P im d ntmps zs cs → ∀ g a Q, Fits M g d ntmps F t a → Post M g d ntmps Q r → wpL P Q zs a g.w

end

/-- pieces ahead of a rest -/
def seqs : List Cd → Cd → Cd
  | [], c => c
  | x :: xs, c => .seq x (seqs xs c)

section
variable {P : Program} {M : Maps} {im : FuncId → Option Nat} {d : Nat}

theorem ExL.run {tbl : Nat → Option AFunc} (hmix : P.follows .mixedOrders = true) (him : ∀ f x, im f = some x → M.fm x = f) (ht : Table P M im tbl) {N : Nat} : ∀ {cs : List Cd} {F : Fr} {t : T} {r : RR},
    evL (ev tbl N) cs F t = r → ExL P M im d cs F t r := by
  intro cs
  induction cs with
  | nil =>
    intro F t r h ntmps zs hz g a Q hf hp
    subst h
    cases zs with
    | nil => exact hp g a (.refl g) hf
    | cons _ _ => exact hz.elim
  | cons c cs ih =>
    intro F t r h ntmps zs hz g a Q hf hp
    cases zs with
    | nil => exact hz.elim
    | cons z zs =>
      obtain ⟨h1, h2⟩ := hz
      have hh : RR.rec (motive := fun _ => RR) .fail (evL (ev tbl N) cs) RR.exit RR.ret (ev tbl N c F t) = r := h
      show z.wp P (Exit.then (wpL P Q zs) Q) a g.w
      refine code_sound hmix him tbl N (fun m _ => call_sound hmix him ht m) d ntmps z c h1 g F t a _ hf ?_
      cases hr : ev tbl N c F t with
      | fail => rw [hr] at hh; subst hh; exact hp.elim
      | norm F1 t1 =>
        rw [hr] at hh
        intro g' a' hle hf'
        exact ih hh ntmps zs h2 g' a' Q hf' (hp.later hle)
      | exit id F1 t1 => rw [hr] at hh; subst hh; exact hp
      | ret F1 t1 => rw [hr] at hh; subst hh; exact hp

theorem ExL.low {cs : List Cd} {F : Fr} {t : T} {n : Nat} {r : RR} (h : ExL P M im d cs F ⟨n, [[]], [[]]⟩ r) (hd : ∀ p, Down M n (F.get p)) {F1 : Fr}
    (hu : F1.under (frOf r)) (hb : ∀ p, Free M (F1.get p) ∨ (F1.get p = F.get p ∧ Back M n (F1.get p))) (he : r.norm? = true) : ExL P M im d cs F t (.norm F1 t) := by
  intro ntmps zs hz g a Q hf hp
  have hfl : Fits M (g.lowN n) d ntmps F ⟨n, [[]], [[]]⟩ a := ⟨⟨hf.f.size, fun u hu => hd _ g _ (hf.f.rel u hu)⟩, lowN_sr, hf.n, hf.d⟩
  refine h ntmps zs hz (g.lowN n) a Q hfl ?_
  cases r with
  | fail => cases he
  | exit i F2 t2 => cases he
  | ret F2 t2 => cases he
  | norm F2 t2 =>
    intro g' a' hle hf'
    refine hp (g.upd g') a' (le_upd hle) ⟨⟨hf'.f.size, fun u hu1 => ?_⟩, sr_upd hf.s hle, hf'.n, hf'.d⟩
    have h1 := (hf'.f.under hu).rel u hu1
    rcases hb (pth d u) with hfree | ⟨e, hback⟩
    · exact hfree _ _ _ h1
    · have h0 := hf.f.rel u hu1
      rw [← e] at h0
      exact hback g g' _ _ h0 hle h1

theorem Ex.seqs {F1 : Fr} {t1 : T} {r : RR} {c : Cd} : ∀ {cs : List Cd} {F : Fr} {t : T}, ExL P M im d cs F t (.norm F1 t1) → Ex P M im d c F1 t1 r → Ex P M im d (M2.seqs cs c) F t r := by
  intro cs F t h1 h2 ntmps z hz g a Q hf hp
  -- the code's pieces
  have split : ∀ (cs : List Cd) (z : Code), cmpC P im d ntmps z = some (M2.seqs cs c) → ∃ zs u, cmpL P im d ntmps zs cs ∧ cmpC P im d ntmps u = some c ∧
      ∀ Q a w, wpL P (fun e a w => match e with | .normal => u.wp P Q a w | e => Q e a w) zs a w → z.wp P Q a w := by
    intro cs
    induction cs with
    | nil => intro z hz; exact ⟨[], z, trivial, hz, fun Q a w h => h⟩
    | cons x xs ih =>
      intro z hz
      obtain ⟨y, u, rfl, hy, hu⟩ := inv_seq hz
      obtain ⟨zs, v, k1, k2, k3⟩ := ih u hu
      refine ⟨y :: zs, v, ⟨hy, k1⟩, k2, fun Q a w h => ?_⟩
      refine wp_seq (Code.wp_mono (fun e a w h => ?_) h)
      cases e <;> first | exact k3 Q _ _ h | exact h
  obtain ⟨zs, u, k1, k2, k3⟩ := split cs z hz
  refine k3 Q a g.w (h1 ntmps zs k1 g a _ hf ?_)
  intro g' a' hle hf'
  exact h2 ntmps u k2 g' a' Q hf' (hp.later hle)

end

end M2
end
section
namespace M2
open Go
open Classical

/-! ### Rows of rows: carried into an empty state, and back -/

def lowK (n : Nat) : Nat → AV → Bool
  | 0, _ => false
  | k + 1, a =>
    match a with
    | .und | .bool _ | .int _ _ | .str _ | .nilp | .nils | .sl0 | .nilf | .nilm | .nili => true
    | .sl id _ _ _ _ _ es => Nat.blt id n && es.all (lowK n k)
    | .agg cs => cs.all (lowK n k)
    | _ => false

theorem lowK_down {M : Maps} {g : G} {n : Nat} : ∀ (k : Nat) (a : AV) (v : Value), lowK n k a = true → VR M g a v → VR M (g.lowN n) a v := by
  intro k
  induction k with
  | zero => intro a v h; cases h
  | succ k ih =>
    intro a v h hv
    cases hv with
    | und v => exact .und v
    | bool b => exact .bool b
    | int kk i => exact .int kk i
    | str s => exact .str s
    | nilp => exact .nilp
    | nils => exact .nils
    | sl0 b o sp => exact .sl0 b o sp
    | nilf => exact .nilf
    | nilm => exact .nilm
    | nili => exact .nili
    | sl id e pos cap fl alt es b o ccap vs hid hcc hb ho hlen hv hs hc hf =>
      simp only [lowK, Bool.and_eq_true, List.all_eq_true] at h
      subst hb
      refine .sl id e pos cap fl alt es _ o ccap vs ⟨hid, by simpa [Nat.blt_eq] using h.1⟩ hcc rfl ho hlen (fun i hi => ih _ _ (h.2 _ (List.getElem_mem hi)) (hv i hi)) hs hc ⟨hf.1, ?_⟩
      show Own.fix _ (if allB g (g.ρ id).block then (g.μ (g.ρ id).block).frz else g.μ (g.ρ id).block)
      rw [if_pos (show allB g (g.ρ id).block from hf.1)]
      exact (seal_fix _ _).mpr hf.2
    | agg cs vs h1 hv =>
      simp only [lowK, List.all_eq_true] at h
      exact .agg cs vs h1 fun i hi => ih _ _ (h _ (List.getElem_mem hi)) (hv i hi)
    | _ => simp [lowK] at h

theorem lowK_back {M : Maps} {g g' : G} {n : Nat} (hle : (g.lowN n).Le g') : ∀ (k : Nat) (a : AV) (v v0 : Value), lowK n k a = true → VR M g a v0 → VR M g' a v → VR M (g.upd g') a v := by
  intro k
  induction k with
  | zero => intro a v v0 h; cases h
  | succ k ih =>
    intro a v v0 h h0 hv
    cases hv with
    | und v => exact .und v
    | bool b => exact .bool b
    | int kk i => exact .int kk i
    | str s => exact .str s
    | nilp => exact .nilp
    | nils => exact .nils
    | sl0 b o sp => exact .sl0 b o sp
    | nilf => exact .nilf
    | nilm => exact .nilm
    | nili => exact .nili
    | sl id e pos cap fl alt es b o ccap vs hid hcc hb ho hlen hv hs hc hf =>
      simp only [lowK, Bool.and_eq_true, List.all_eq_true] at h
      have hlt : id < n := by simpa [Nat.blt_eq] using h.1
      cases h0 with
      | sl _ _ _ _ _ _ _ b0 o0 ccap0 vs0 hid0 hcc0 hb0 ho0 hlen0 hv0 hs0 hc0 hf0 =>
        have hρ : g'.ρ id = g.ρ id := hle.ρ id ⟨hid0, hlt⟩
        subst hb
        have k2 : (g.ρ id).block < g.w.heap.size := hb0 ▸ hf0.1
        refine .sl id e pos cap fl alt es _ o ccap vs hid0 (by rw [hcc, hρ]; rfl) (by rw [hρ]; rfl) (by rw [ho, hρ]; rfl) hlen (fun i hi => ih _ _ _ (h.2 _ (List.getElem_mem hi)) (hv0 i hi) (hv i hi)) hs hc ⟨hf.1, ?_⟩
        have h2 := hf.2
        rw [hρ] at h2 ⊢
        have := (back_sealed (g := g) hle (fun _ hb => hb) k2).2
        rw [this] at h2
        show Own.fix _ (if (g.ρ id).block < g.w.heap.size then g.μ (g.ρ id).block else .oth)
        rw [if_pos k2]
        exact (seal_fix _ _).mp h2
    | agg cs vs h1 hv =>
      simp only [lowK, List.all_eq_true] at h
      cases h0 with
      | agg _ vs0 h10 hv0 => exact .agg cs vs h1 fun i hi => ih _ _ _ (h _ (List.getElem_mem hi)) (hv0 i hi) (hv i hi)
    | _ => simp [lowK] at h

theorem down_low {M : Maps} {n k : Nat} {a : AV} (h : lowK n k a = true) : Down M n a := fun _ v hv => lowK_down k a v h hv
theorem back_low {M : Maps} {n k : Nat} {a : AV} (h : lowK n k a = true) : Back M n a := fun _ _ v v0 h0 hle hv => lowK_back hle k a v v0 h h0 hv

/-! ### A frame that knows three slots -/

noncomputable def fr3 (d : Nat) (p q r : Nat) (a b c : AV) : Fr := ((Fr.nil.put (pth d p) a).put (pth d q) b).put (pth d r) c

theorem fr3_get {d p q r : Nat} {a b c : AV} (x : Bits) : (fr3 d p q r a b c).get x = if pth d r = x then c else if pth d q = x then b else if pth d p = x then a else .und := by
  unfold fr3
  rw [Fr.get_put, Fr.get_put, Fr.get_put, Fr.get_nil]

noncomputable def is3 (d p q r : Nat) (a b c : AV) (F : Fr) : Bool := avE 60 (F.get (pth d p)) a && (avE 60 (F.get (pth d q)) b && avE 60 (F.get (pth d r)) c)
noncomputable def isN3 (d p q r : Nat) (a b c : AV) (x : RR) : Bool := match x with | .norm F _ => is3 d p q r a b c F | _ => false
noncomputable def isX3 (id d p q r : Nat) (a b c : AV) (x : RR) : Bool := match x with | .exit j F _ => Nat.beq j id && is3 d p q r a b c F | _ => false

theorem is3_under {d p q r : Nat} {a b c : AV} {F : Fr} (h : is3 d p q r a b c F = true) : (fr3 d p q r a b c).under F := by
  unfold is3 at h
  simp only [Bool.and_eq_true] at h
  intro x
  rw [fr3_get]
  by_cases h1 : pth d r = x
  · subst h1; rw [if_pos rfl]; exact .inr (avE_ok _ _ _ h.2.2).symm
  · rw [if_neg h1]
    by_cases h2 : pth d q = x
    · subst h2; rw [if_pos rfl]; exact .inr (avE_ok _ _ _ h.2.1).symm
    · rw [if_neg h2]
      by_cases h3 : pth d p = x
      · subst h3; rw [if_pos rfl]; exact .inr (avE_ok _ _ _ h.1).symm
      · rw [if_neg h3]; exact .inl rfl

theorem free_und (M : Maps) : Free M .und := fun _ _ v _ => .und v
theorem free_int (M : Maps) (k : IntKind) (i : Int) : Free M (.int k i) := by
  intro g g' v h
  cases h
  exact .int k i

def stOf : RR → T
  | .fail => ⟨0, [], []⟩
  | .norm _ t => t
  | .exit _ _ t => t
  | .ret _ t => t
theorem norm_eq {r : RR} (h : r.norm? = true) : r = .norm (frOf r) (stOf r) := by
  cases r <;> first | rfl | cases h
theorem isN3_ok {d p q r : Nat} {a b c : AV} {x : RR} (h : isN3 d p q r a b c x = true) : ∃ F t, x = .norm F t ∧ (fr3 d p q r a b c).under F := by
  cases x with
  | norm F t => exact ⟨F, t, rfl, is3_under h⟩
  | fail => cases h
  | exit j F t => cases h
  | ret F t => cases h
def retOf : RR → RR
  | .norm F t => .ret F t
  | _ => .fail

section
variable {P : Program} {M : Maps} {im : FuncId → Option Nat} {d : Nat}

theorem Ex.fin {tbl : Nat → Option AFunc} (hmix : P.follows .mixedOrders = true) (him : ∀ f x, im f = some x → M.fm x = f) (ht : Table P M im tbl) {c : Cd} {F : Fr} {t : T} {r : RR} (h : Ex P M im d c F t r) :
    Ex P M im d (.seq c .ret) F t (retOf r) := by
  cases r with
  | norm F1 t1 => exact Ex.seq h (Ex.run hmix him ht (N := 1) rfl)
  | fail => exact fun _ _ _ _ _ _ _ hp => hp.elim
  | exit j F1 t1 => exact fun _ _ _ _ _ _ _ hp => hp.elim
  | ret F1 t1 => exact fun _ _ _ _ _ _ _ hp => hp.elim

/-- a loop over a row: each round by itself, from what it needs: one value, the row, the count -/
theorem Ex.rounds {tbl : Nat → Option AFunc} (hmix : P.follows .mixedOrders = true) (him : ∀ f x, im f = some x → M.fm x = f) (ht : Table P M im tbl) {N lb p q r n k : Nat} {b : Cd} {A L : AV} {kk : Nat}
    (hA : Down M n A) (hA2 : Back M n A) (hL : lowK n kk L = true)
    (h1 : ∀ i, i < k → isN3 d p q r A L (.int .i64 (.ofNat (i + 1))) (ev tbl N b (fr3 d p q r A L (.int .i64 (.ofNat i))) ⟨n, [[]], [[]]⟩) = true)
    (h2 : isX3 lb d p q r A L (.int .i64 (.ofNat k)) (ev tbl N b (fr3 d p q r A L (.int .i64 (.ofNat k))) ⟨n, [[]], [[]]⟩) = true) (t : T) :
    Ex P M im d (.block lb (.loop b)) (fr3 d p q r A L (.int .i64 (.ofNat 0))) t (.norm (fr3 d p q r A L (.int .i64 (.ofNat k))) t) := by
  have down : ∀ i y, Down M n ((fr3 d p q r A L (.int .i64 (.ofNat i))).get y) := by
    intro i y
    rw [fr3_get]
    split
    · exact (free_int M _ _).down
    · split
      · exact down_low hL
      · split
        · exact hA
        · exact (free_und M).down
  have back : ∀ i j y, Free M ((fr3 d p q r A L (.int .i64 (.ofNat j))).get y) ∨
      ((fr3 d p q r A L (.int .i64 (.ofNat j))).get y = (fr3 d p q r A L (.int .i64 (.ofNat i))).get y ∧ Back M n ((fr3 d p q r A L (.int .i64 (.ofNat j))).get y)) := by
    intro i j y
    rw [fr3_get, fr3_get]
    split
    · exact .inl (free_int M _ _)
    · split
      · exact .inr ⟨rfl, back_low hL⟩
      · split
        · exact .inr ⟨rfl, hA2⟩
        · exact .inl (free_und M)
  have round : ∀ i, i < k → Ex P M im d b (fr3 d p q r A L (.int .i64 (.ofNat i))) t (.norm (fr3 d p q r A L (.int .i64 (.ofNat (i + 1)))) t) := by
    intro i hi
    have h := h1 i hi
    cases hr : ev tbl N b (fr3 d p q r A L (.int .i64 (.ofNat i))) ⟨n, [[]], [[]]⟩ with
    | norm F1 t1 =>
      rw [hr] at h
      exact Ex.low (Ex.run hmix him ht hr) (down i) (F1 := fr3 d p q r A L (.int .i64 (.ofNat (i + 1)))) (is3_under h) (back i (i + 1)) (fun e => by cases e) rfl
    | fail => rw [hr] at h; cases h
    | exit j F1 t1 => rw [hr] at h; cases h
    | ret F1 t1 => rw [hr] at h; cases h
  have out : Ex P M im d b (fr3 d p q r A L (.int .i64 (.ofNat k))) t (.exit lb (fr3 d p q r A L (.int .i64 (.ofNat k))) t) := by
    cases hr : ev tbl N b (fr3 d p q r A L (.int .i64 (.ofNat k))) ⟨n, [[]], [[]]⟩ with
    | exit j F1 t1 =>
      rw [hr] at h2
      unfold isX3 at h2
      simp only [Bool.and_eq_true] at h2
      have e := Nat.eq_of_beq_eq_true h2.1
      subst e
      exact Ex.low (Ex.run hmix him ht hr) (down k) (F1 := fr3 d p q r A L (.int .i64 (.ofNat k))) (is3_under h2.2) (back k k) (fun e => by cases e) rfl
    | fail => rw [hr] at h2; cases h2
    | norm F1 t1 => rw [hr] at h2; cases h2
    | ret F1 t1 => rw [hr] at h2; cases h2
  have hl := Ex.loops (F := fun i => fr3 d p q r A L (.int .i64 (.ofNat i))) (t := fun _ => t) (k := k) round out rfl
  have hb := Ex.block (id := lb) hl
  have e : inB lb (RR.exit lb (fr3 d p q r A L (.int .i64 (.ofNat k))) t) = .norm (fr3 d p q r A L (.int .i64 (.ofNat k))) t := by simp [inB]
  rw [e] at hb
  exact hb

end

end M2
end
section
namespace M2
open Go
open Classical

/-! ### A law that makes its texts, and asks of all of them at once -/

def allN (f : Nat → Bool) : Nat → Nat → Bool
  | 0, _ => true
  | k + 1, i => f i && allN f k (i + 1)
theorem allN_ok {f : Nat → Bool} : ∀ (k i : Nat), allN f k i = true → ∀ j, i ≤ j → j < i + k → f j = true := by
  intro k
  induction k with
  | zero => intro i _ j h1 h2; omega
  | succ k ih =>
    intro i h j h1 h2
    simp only [allN, Bool.and_eq_true] at h
    rcases Nat.eq_or_lt_of_le h1 with e | e
    · subst e; exact h.1
    · exact ih (i + 1) h.2 j e (by omega)

theorem free_bool (M : Maps) (b : Bool) : Free M (.bool b) := by
  intro g g' v h
  cases h
  exact .bool b

noncomputable def isR3 (d z : Nat) (x : RR) : Bool := match x with | .ret F _ => is3 d z z z (.bool true) (.bool true) (.bool true) F | _ => false

section
variable {P : Program} {M : Maps} {im : FuncId → Option Nat}

/-- to know less of the state -/
theorem Ex.thin {d : Nat} {c : Cd} {F : Fr} {t t2 : T} {r : RR} (h : Ex P M im d c F t2 r) (hn : t2.n = t.n) (hv : t2.vs.flatten.Sublist t.vs.flatten) (hi : t2.is.flatten.Sublist t.is.flatten) : Ex P M im d c F t r := by
  intro ntmps z hz g a Q hf hp
  exact h ntmps z hz g a Q ⟨hf.f, hf.s.fewer hn hv hi, hf.n, hf.d⟩ hp

/-- a function that goes through a row, from any state -/
theorem same_rt {tbl : Nat → Option AFunc} (hmix : P.follows .mixedOrders = true) (him : ∀ f x, im f = some x → M.fm x = f) (ht : Table P M im tbl) {sid : Nat} {fn : AFunc} (hfn : tbl sid = some fn) {d : Nat} (hd : fn.depth = d) (hd77 : d ≠ 77)
    {a1 a2 b c : Cd} {lb q z n N k kk : Nat} {L : AV} (hshape : fn.body = .seq a1 (.seq (.seq a2 (.block lb (.loop b))) c)) (hpar : fn.params = [pth d 0]) (hres : fn.results = [(pth d z, none)])
    (hL : lowK n kk L = true)
    (h1 : isN3 d 0 0 0 L L L (ev tbl N a1 (fr3 d 0 0 0 L L L) ⟨n, [[]], [[]]⟩) = true)
    (h2 : isN3 d 0 0 q L L (.int .i64 (.ofNat 0)) (ev tbl N a2 (fr3 d 0 0 0 L L L) ⟨n, [[]], [[]]⟩) = true)
    (h3 : ∀ i, i < k → isN3 d 0 0 q L L (.int .i64 (.ofNat (i + 1))) (ev tbl N b (fr3 d 0 0 q L L (.int .i64 (.ofNat i))) ⟨n, [[]], [[]]⟩) = true)
    (h4 : isX3 lb d 0 0 q L L (.int .i64 (.ofNat k)) (ev tbl N b (fr3 d 0 0 q L L (.int .i64 (.ofNat k))) ⟨n, [[]], [[]]⟩) = true)
    (h5 : isR3 d z (ev tbl N c .nil ⟨n, [[]], [[]]⟩) = true) (t : T) : ∃ t', Rt P M sid [L] t (.bool true) t' := by
  have dn : ∀ x, Down M n ((fr3 d 0 0 0 L L L).get x) := by
    intro x
    rw [fr3_get]
    split
    · exact down_low hL
    · exact (free_und M).down
  have toL : ∀ (F : Fr) (t1 : T) (u : T) (c0 : Cd), is3 d 0 0 0 L L L F = true → ev tbl N c0 (fr3 d 0 0 0 L L L) ⟨n, [[]], [[]]⟩ = .norm F t1 → Ex P M im d c0 (fr3 d 0 0 0 L L L) u (.norm (fr3 d 0 0 0 L L L) u) := by
    intro F t1 u c0 h hr
    refine Ex.low (Ex.run hmix him ht hr) dn (F1 := fr3 d 0 0 0 L L L) (is3_under h) (fun x => ?_) (fun e => by cases e) rfl
    rw [fr3_get]
    split
    · exact .inr ⟨rfl, back_low hL⟩
    · exact .inl (free_und M)
  have toI : ∀ (F : Fr) (t1 : T) (u : T) (c0 : Cd), is3 d 0 0 q L L (.int .i64 (.ofNat 0)) F = true → ev tbl N c0 (fr3 d 0 0 0 L L L) ⟨n, [[]], [[]]⟩ = .norm F t1 →
      Ex P M im d c0 (fr3 d 0 0 0 L L L) u (.norm (fr3 d 0 0 q L L (.int .i64 (.ofNat 0))) u) := by
    intro F t1 u c0 h hr
    refine Ex.low (Ex.run hmix him ht hr) dn (F1 := fr3 d 0 0 q L L (.int .i64 (.ofNat 0))) (is3_under h) (fun x => ?_) (fun e => by cases e) rfl
    rw [fr3_get, fr3_get]
    by_cases e1 : pth d q = x
    · rw [if_pos e1]; exact .inl (free_int M _ _)
    · rw [if_neg e1]
      by_cases e2 : pth d 0 = x
      · simp only [e2, if_true]
        exact .inr ⟨trivial, back_low hL⟩
      · simp only [e2, if_false]
        exact .inl (free_und M)
  have fin : ∀ (F : Fr) (t1 u : T), is3 d z z z (.bool true) (.bool true) (.bool true) F = true → ev tbl N c .nil ⟨n, [[]], [[]]⟩ = .ret F t1 → Ex P M im d c .nil u (.ret (fr3 d z z z (.bool true) (.bool true) (.bool true)) u) := by
    intro F t1 u h hr
    refine Ex.low (Ex.run hmix him ht hr) (fun x => by rw [Fr.get_nil]; exact (free_und M).down) (F1 := fr3 d z z z (.bool true) (.bool true) (.bool true)) (is3_under h) (fun x => .inl ?_) (fun e => by cases e) rfl
    rw [fr3_get]
    split
    · exact free_bool M _
    · exact free_und M
  obtain ⟨F1, t1, e1, -⟩ := isN3_ok h1
  have k1 : is3 d 0 0 0 L L L F1 = true := by rw [e1] at h1; exact h1
  obtain ⟨F2, t2, e2, -⟩ := isN3_ok h2
  have k2 : is3 d 0 0 q L L (.int .i64 (.ofNat 0)) F2 = true := by rw [e2] at h2; exact h2
  have key : Ex P M im d fn.body (fr3 d 0 0 0 L L L) t.enter (.ret (fr3 d z z z (.bool true) (.bool true) (.bool true)) t.enter) := by
    rw [hshape]
    refine Ex.seq (toL F1 t1 t.enter a1 k1 e1) ?_
    refine Ex.seq (Ex.seq (toI F2 t2 t.enter a2 k2 e2) (Ex.rounds hmix him ht (down_low hL) (back_low hL) hL h3 h4 t.enter)) ?_
    refine Ex.weak (F0 := .nil) (fun x => .inl (Fr.get_nil x)) ?_
    cases hr : ev tbl N c .nil ⟨n, [[]], [[]]⟩ with
    | ret F t1 => rw [hr] at h5; exact fin F t1 t.enter h5 hr
    | fail => rw [hr] at h5; cases h5
    | exit j F t1 => rw [hr] at h5; cases h5
    | norm F t1 => rw [hr] at h5; cases h5
  have harg : argsIn fn.params [L] .nil = some (Fr.nil.put (pth d 0) L) := by rw [hpar]; rfl
  refine ⟨t.enter.leave fn.keep (.bool true), Rt.of ht hfn (by rw [hd]; exact hd77) harg (r := .ret (fr3 d z z z (.bool true) (.bool true) (.bool true)) t.enter) ?_ ?_⟩
  · rw [hd]
    refine Ex.weak (F0 := fr3 d 0 0 0 L L L) (fun x => ?_) key
    rw [fr3_get, Fr.get_put, Fr.get_nil]
    by_cases e : pth d 0 = x
    · simp only [e, if_true]; exact .inr trivial
    · simp only [e, if_false]; exact .inl trivial
  · show afterBody fn _ _ = _
    unfold afterBody
    rw [hres]
    simp only [resultsOf, resultOf, fr3_get, if_true, packed]

/-- a call that is known from one state -/
noncomputable def orcR (f : Nat) (avs : List AV) (t t' : T) : CallF := fun f' args u => if f' = f ∧ args = avs ∧ u = t then .ok (.bool true) t' else .fail
theorem orcR_eq {f : Nat} {avs : List AV} {t t' : T} : orcR f avs t t' f avs t = .ok (.bool true) t' := if_pos ⟨rfl, rfl, rfl⟩
theorem orcR_ok {f : Nat} {avs : List AV} {t t' : T} (h : Rt P M f avs t (.bool true) t') : CallOK P M (orcR f avs t t') := by
  intro f' args u r u' hr
  unfold orcR at hr
  split at hr
  · rename_i hc
    obtain ⟨rfl, rfl, rfl⟩ := hc
    cases hr
    obtain ⟨hg, hs⟩ := h
    refine ⟨hg, fun g cargs hS hsz hv => (hs g cargs hS hsz hv).mono ?_⟩
    rintro e w' ⟨x, g', h1, h2, h3, h4, h5⟩
    exact ⟨x, g', h1, h2, h3, h4, h5⟩
  · cases hr

end

end M2
end
section
/- The law LexNames: its code in pieces, and its texts. -/
namespace M2
open Go

noncomputable def lexNamesC0 : Cd := (.reg [⟨(some p6n1), none, (.box (.t p6n0))⟩, ⟨(some p6n2), none, (.mv (.c (.bool false)))⟩])
noncomputable def lexNamesC1 : Cd := (.reg [⟨(some p6n7), none, (.buildS 1 28 (.str []) [(0, (.c (.str []))), (1, (.c (.str [32]))), (2, (.c (.str [59]))), (3, (.c (.str [97, 59, 98]))), (4, (.c (.str [97, 32, 59, 32, 98, 10]))), (5, (.c (.str [10]))), (6, (.c (.str [46]))), (7, (.c (.str [46, 46]))), (8, (.c (.str [46, 97]))), (9, (.c (.str [97, 46, 98]))), (10, (.c (.str [95]))), (11, (.c (.str [97, 49]))), (12, (.c (.str [49, 97]))), (13, (.c (.str [97, 98, 99, 100, 101, 102, 103, 104, 105, 106, 107, 108]))), (14, (.c (.str [97, 98, 99, 100, 101, 102, 103, 104, 105, 106, 107, 108, 109]))), (15, (.c (.str [65]))), (16, (.c (.str [64, 49]))), (17, (.c (.str [97, 64, 98]))), (18, (.c (.str [58]))), (19, (.c (.str [58, 58]))), (20, (.c (.str [97, 58, 98]))), (21, (.c (.str [40]))), (22, (.c (.str [40, 41]))), (23, (.c (.str [97, 43, 98, 45, 99, 42, 100]))), (24, (.c (.str [35]))), (25, (.c (.str [114, 49, 44, 114, 50]))), (26, (.c (.str [9, 9, 120]))), (27, (.c (.str [128])))])⟩, ⟨(some p6n3), none, (.mv (.t p6n7))⟩])
noncomputable def lexNamesC2 : Cd := (.seq (.reg [⟨(some p6n4), none, (.mv (.c (.int .i64 (.ofNat 0))))⟩]) (.block 0 (.loop (.seq (.seq (.reg [⟨(some p6n8), none, (.mv (.t p6n4))⟩, ⟨(some p6n9), none, (.bin .lss (.t p6n8) (.c (.int .i64 (.ofNat 256))))⟩]) (.cond (.t p6n9) .skip (.exit 0))) (.seq (.block 1 (.reg [⟨(some p6n12), none, (.mv (.t p6n3))⟩, ⟨(some p6n13), none, (.mv (.t p6n4))⟩, ⟨(some p6n14), none, (.cv (.int .u8) (.t p6n13))⟩, ⟨(some p6n15), none, (.buildSo 1 1 (.int .u8 (.ofNat 0)) [(0, (.t p6n14))])⟩, ⟨(some p6n16), none, (.mem .b2s [(.t p6n15)])⟩, ⟨(some p6n17), none, (.mv (.t p6n4))⟩, ⟨(some p6n18), none, (.cv (.int .u8) (.t p6n17))⟩, ⟨(some p6n19), none, (.buildSo 1 1 (.int .u8 (.ofNat 0)) [(0, (.t p6n18))])⟩, ⟨(some p6n20), none, (.mem .b2s [(.t p6n19)])⟩, ⟨(some p6n21), none, (.bin .add (.c (.str [97])) (.t p6n20))⟩, ⟨(some p6n22), none, (.bin .add (.t p6n21) (.c (.str [49])))⟩, ⟨(some p6n23), none, (.buildS 1 2 (.str []) [(0, (.t p6n16)), (1, (.t p6n22))])⟩, ⟨(some p6n24), none, (.app 1 16 (.str []) (.t p6n12) (.t p6n23))⟩, ⟨(some p6n3), none, (.mv (.t p6n24))⟩])) (.reg [⟨(some p6n10), none, (.mv (.t p6n4))⟩, ⟨(some p6n11), none, (.bin .add (.t p6n10) (.c (.int .i64 (.ofNat 1))))⟩, ⟨(some p6n4), none, (.mv (.t p6n11))⟩]))))))
noncomputable def lexNamesC3 : Cd := (.reg [⟨(some p6n5), none, (.mv (.c (.str [])))⟩])
noncomputable def lexNamesC4 : Cd := (.seq (.reg [⟨(some p6n6), none, (.mv (.c (.int .i64 (.ofNat 0))))⟩]) (.block 2 (.loop (.seq (.seq (.reg [⟨(some p6n25), none, (.mv (.t p6n6))⟩, ⟨(some p6n26), none, (.bin .lss (.t p6n25) (.c (.int .i64 (.ofNat 45))))⟩]) (.cond (.t p6n26) .skip (.exit 2))) (.seq (.block 3 (.seq (.reg [⟨(some p6n29), none, (.mv (.t p6n5))⟩, ⟨(some p6n30), none, (.bin .add (.t p6n29) (.c (.str [43])))⟩, ⟨(some p6n5), none, (.mv (.t p6n30))⟩]) (.reg [⟨(some p6n31), none, (.mv (.t p6n3))⟩, ⟨(some p6n32), none, (.mv (.t p6n5))⟩, ⟨(some p6n33), none, (.buildS 1 1 (.str []) [(0, (.t p6n32))])⟩, ⟨(some p6n34), none, (.app 1 16 (.str []) (.t p6n31) (.t p6n33))⟩, ⟨(some p6n3), none, (.mv (.t p6n34))⟩]))) (.reg [⟨(some p6n27), none, (.mv (.t p6n6))⟩, ⟨(some p6n28), none, (.bin .add (.t p6n27) (.c (.int .i64 (.ofNat 1))))⟩, ⟨(some p6n6), none, (.mv (.t p6n28))⟩]))))))
noncomputable def lexNamesE : List AO := [⟨(some p6n35), none, (.faddr 1 (.t p6n1))⟩, ⟨(some p6n36), none, (.ld1 (.t p6n35))⟩, ⟨(some p6n37), none, (.len false (.t p6n36))⟩, ⟨(some p6n38), none, (.bin .geq (.t p6n37) (.c (.int .i64 (.ofNat 0))))⟩, ⟨(some p6n39), none, (.mv (.t p6n38))⟩, ⟨(some p6n40), (some (p6n39, true)), (.mv (.t p6n3))⟩, ⟨(some p6n41), (some (p6n39, true)), (.call 279 [(.t p6n40)])⟩, ⟨(some p6n42), none, (.pick (.t p6n39) (.t p6n41) (.c (.bool false)))⟩, ⟨(some p6n2), none, (.mv (.t p6n42))⟩]
theorem lexNames_shape : a278.body = seqs [lexNamesC0, lexNamesC1, lexNamesC2, lexNamesC3, lexNamesC4] (.seq (.reg lexNamesE) .ret) := by kernel_rfl
def lexNamesTexts : List AV := [.str [], .str [32], .str [59], .str [97, 59, 98], .str [97, 32, 59, 32, 98, 10], .str [10], .str [46], .str [46, 46], .str [46, 97], .str [97, 46, 98], .str [95], .str [97, 49], .str [49, 97], .str [97, 98, 99, 100, 101, 102, 103, 104, 105, 106, 107, 108], .str [97, 98, 99, 100, 101, 102, 103, 104, 105, 106, 107, 108, 109], .str [65], .str [64, 49], .str [97, 64, 98], .str [58], .str [58, 58], .str [97, 58, 98], .str [40], .str [40, 41], .str [97, 43, 98, 45, 99, 42, 100], .str [35], .str [114, 49, 44, 114, 50], .str [9, 9, 120], .str [128], .str [0], .str [97, 0, 49], .str [1], .str [97, 1, 49], .str [2], .str [97, 2, 49], .str [3], .str [97, 3, 49], .str [4], .str [97, 4, 49], .str [5], .str [97, 5, 49], .str [6], .str [97, 6, 49], .str [7], .str [97, 7, 49], .str [8], .str [97, 8, 49], .str [9], .str [97, 9, 49], .str [10], .str [97, 10, 49], .str [11], .str [97, 11, 49], .str [12], .str [97, 12, 49], .str [13], .str [97, 13, 49], .str [14], .str [97, 14, 49], .str [15], .str [97, 15, 49], .str [16], .str [97, 16, 49], .str [17], .str [97, 17, 49], .str [18], .str [97, 18, 49], .str [19], .str [97, 19, 49], .str [20], .str [97, 20, 49], .str [21], .str [97, 21, 49], .str [22], .str [97, 22, 49], .str [23], .str [97, 23, 49], .str [24], .str [97, 24, 49], .str [25], .str [97, 25, 49], .str [26], .str [97, 26, 49], .str [27], .str [97, 27, 49], .str [28], .str [97, 28, 49], .str [29], .str [97, 29, 49], .str [30], .str [97, 30, 49], .str [31], .str [97, 31, 49], .str [32], .str [97, 32, 49], .str [33], .str [97, 33, 49], .str [34], .str [97, 34, 49], .str [35], .str [97, 35, 49], .str [36], .str [97, 36, 49], .str [37], .str [97, 37, 49], .str [38], .str [97, 38, 49], .str [39], .str [97, 39, 49], .str [40], .str [97, 40, 49], .str [41], .str [97, 41, 49], .str [42], .str [97, 42, 49], .str [43], .str [97, 43, 49], .str [44], .str [97, 44, 49], .str [45], .str [97, 45, 49], .str [46], .str [97, 46, 49], .str [47], .str [97, 47, 49], .str [48], .str [97, 48, 49], .str [49], .str [97, 49, 49], .str [50], .str [97, 50, 49], .str [51], .str [97, 51, 49], .str [52], .str [97, 52, 49], .str [53], .str [97, 53, 49], .str [54], .str [97, 54, 49], .str [55], .str [97, 55, 49], .str [56], .str [97, 56, 49], .str [57], .str [97, 57, 49], .str [58], .str [97, 58, 49], .str [59], .str [97, 59, 49], .str [60], .str [97, 60, 49], .str [61], .str [97, 61, 49], .str [62], .str [97, 62, 49], .str [63], .str [97, 63, 49], .str [64], .str [97, 64, 49], .str [65], .str [97, 65, 49], .str [66], .str [97, 66, 49], .str [67], .str [97, 67, 49], .str [68], .str [97, 68, 49], .str [69], .str [97, 69, 49], .str [70], .str [97, 70, 49], .str [71], .str [97, 71, 49], .str [72], .str [97, 72, 49], .str [73], .str [97, 73, 49], .str [74], .str [97, 74, 49], .str [75], .str [97, 75, 49], .str [76], .str [97, 76, 49], .str [77], .str [97, 77, 49], .str [78], .str [97, 78, 49], .str [79], .str [97, 79, 49], .str [80], .str [97, 80, 49], .str [81], .str [97, 81, 49], .str [82], .str [97, 82, 49], .str [83], .str [97, 83, 49], .str [84], .str [97, 84, 49], .str [85], .str [97, 85, 49], .str [86], .str [97, 86, 49], .str [87], .str [97, 87, 49], .str [88], .str [97, 88, 49], .str [89], .str [97, 89, 49], .str [90], .str [97, 90, 49], .str [91], .str [97, 91, 49], .str [92], .str [97, 92, 49], .str [93], .str [97, 93, 49], .str [94], .str [97, 94, 49], .str [95], .str [97, 95, 49], .str [96], .str [97, 96, 49], .str [97], .str [97, 97, 49], .str [98], .str [97, 98, 49], .str [99], .str [97, 99, 49], .str [100], .str [97, 100, 49], .str [101], .str [97, 101, 49], .str [102], .str [97, 102, 49], .str [103], .str [97, 103, 49], .str [104], .str [97, 104, 49], .str [105], .str [97, 105, 49], .str [106], .str [97, 106, 49], .str [107], .str [97, 107, 49], .str [108], .str [97, 108, 49], .str [109], .str [97, 109, 49], .str [110], .str [97, 110, 49], .str [111], .str [97, 111, 49], .str [112], .str [97, 112, 49], .str [113], .str [97, 113, 49], .str [114], .str [97, 114, 49], .str [115], .str [97, 115, 49], .str [116], .str [97, 116, 49], .str [117], .str [97, 117, 49], .str [118], .str [97, 118, 49], .str [119], .str [97, 119, 49], .str [120], .str [97, 120, 49], .str [121], .str [97, 121, 49], .str [122], .str [97, 122, 49], .str [123], .str [97, 123, 49], .str [124], .str [97, 124, 49], .str [125], .str [97, 125, 49], .str [126], .str [97, 126, 49], .str [127], .str [97, 127, 49], .str [128], .str [97, 128, 49], .str [129], .str [97, 129, 49], .str [130], .str [97, 130, 49], .str [131], .str [97, 131, 49], .str [132], .str [97, 132, 49], .str [133], .str [97, 133, 49], .str [134], .str [97, 134, 49], .str [135], .str [97, 135, 49], .str [136], .str [97, 136, 49], .str [137], .str [97, 137, 49], .str [138], .str [97, 138, 49], .str [139], .str [97, 139, 49], .str [140], .str [97, 140, 49], .str [141], .str [97, 141, 49], .str [142], .str [97, 142, 49], .str [143], .str [97, 143, 49], .str [144], .str [97, 144, 49], .str [145], .str [97, 145, 49], .str [146], .str [97, 146, 49], .str [147], .str [97, 147, 49], .str [148], .str [97, 148, 49], .str [149], .str [97, 149, 49], .str [150], .str [97, 150, 49], .str [151], .str [97, 151, 49], .str [152], .str [97, 152, 49], .str [153], .str [97, 153, 49], .str [154], .str [97, 154, 49], .str [155], .str [97, 155, 49], .str [156], .str [97, 156, 49], .str [157], .str [97, 157, 49], .str [158], .str [97, 158, 49], .str [159], .str [97, 159, 49], .str [160], .str [97, 160, 49], .str [161], .str [97, 161, 49], .str [162], .str [97, 162, 49], .str [163], .str [97, 163, 49], .str [164], .str [97, 164, 49], .str [165], .str [97, 165, 49], .str [166], .str [97, 166, 49], .str [167], .str [97, 167, 49], .str [168], .str [97, 168, 49], .str [169], .str [97, 169, 49], .str [170], .str [97, 170, 49], .str [171], .str [97, 171, 49], .str [172], .str [97, 172, 49], .str [173], .str [97, 173, 49], .str [174], .str [97, 174, 49], .str [175], .str [97, 175, 49], .str [176], .str [97, 176, 49], .str [177], .str [97, 177, 49], .str [178], .str [97, 178, 49], .str [179], .str [97, 179, 49], .str [180], .str [97, 180, 49], .str [181], .str [97, 181, 49], .str [182], .str [97, 182, 49], .str [183], .str [97, 183, 49], .str [184], .str [97, 184, 49], .str [185], .str [97, 185, 49], .str [186], .str [97, 186, 49], .str [187], .str [97, 187, 49], .str [188], .str [97, 188, 49], .str [189], .str [97, 189, 49], .str [190], .str [97, 190, 49], .str [191], .str [97, 191, 49], .str [192], .str [97, 192, 49], .str [193], .str [97, 193, 49], .str [194], .str [97, 194, 49], .str [195], .str [97, 195, 49], .str [196], .str [97, 196, 49], .str [197], .str [97, 197, 49], .str [198], .str [97, 198, 49], .str [199], .str [97, 199, 49], .str [200], .str [97, 200, 49], .str [201], .str [97, 201, 49], .str [202], .str [97, 202, 49], .str [203], .str [97, 203, 49], .str [204], .str [97, 204, 49], .str [205], .str [97, 205, 49], .str [206], .str [97, 206, 49], .str [207], .str [97, 207, 49], .str [208], .str [97, 208, 49], .str [209], .str [97, 209, 49], .str [210], .str [97, 210, 49], .str [211], .str [97, 211, 49], .str [212], .str [97, 212, 49], .str [213], .str [97, 213, 49], .str [214], .str [97, 214, 49], .str [215], .str [97, 215, 49], .str [216], .str [97, 216, 49], .str [217], .str [97, 217, 49], .str [218], .str [97, 218, 49], .str [219], .str [97, 219, 49], .str [220], .str [97, 220, 49], .str [221], .str [97, 221, 49], .str [222], .str [97, 222, 49], .str [223], .str [97, 223, 49], .str [224], .str [97, 224, 49], .str [225], .str [97, 225, 49], .str [226], .str [97, 226, 49], .str [227], .str [97, 227, 49], .str [228], .str [97, 228, 49], .str [229], .str [97, 229, 49], .str [230], .str [97, 230, 49], .str [231], .str [97, 231, 49], .str [232], .str [97, 232, 49], .str [233], .str [97, 233, 49], .str [234], .str [97, 234, 49], .str [235], .str [97, 235, 49], .str [236], .str [97, 236, 49], .str [237], .str [97, 237, 49], .str [238], .str [97, 238, 49], .str [239], .str [97, 239, 49], .str [240], .str [97, 240, 49], .str [241], .str [97, 241, 49], .str [242], .str [97, 242, 49], .str [243], .str [97, 243, 49], .str [244], .str [97, 244, 49], .str [245], .str [97, 245, 49], .str [246], .str [97, 246, 49], .str [247], .str [97, 247, 49], .str [248], .str [97, 248, 49], .str [249], .str [97, 249, 49], .str [250], .str [97, 250, 49], .str [251], .str [97, 251, 49], .str [252], .str [97, 252, 49], .str [253], .str [97, 253, 49], .str [254], .str [97, 254, 49], .str [255], .str [97, 255, 49], .str [43], .str [43, 43], .str [43, 43, 43], .str [43, 43, 43, 43], .str [43, 43, 43, 43, 43], .str [43, 43, 43, 43, 43, 43], .str [43, 43, 43, 43, 43, 43, 43], .str [43, 43, 43, 43, 43, 43, 43, 43], .str [43, 43, 43, 43, 43, 43, 43, 43, 43], .str [43, 43, 43, 43, 43, 43, 43, 43, 43, 43], .str [43, 43, 43, 43, 43, 43, 43, 43, 43, 43, 43], .str [43, 43, 43, 43, 43, 43, 43, 43, 43, 43, 43, 43], .str [43, 43, 43, 43, 43, 43, 43, 43, 43, 43, 43, 43, 43], .str [43, 43, 43, 43, 43, 43, 43, 43, 43, 43, 43, 43, 43, 43], .str [43, 43, 43, 43, 43, 43, 43, 43, 43, 43, 43, 43, 43, 43, 43], .str [43, 43, 43, 43, 43, 43, 43, 43, 43, 43, 43, 43, 43, 43, 43, 43], .str [43, 43, 43, 43, 43, 43, 43, 43, 43, 43, 43, 43, 43, 43, 43, 43, 43], .str [43, 43, 43, 43, 43, 43, 43, 43, 43, 43, 43, 43, 43, 43, 43, 43, 43, 43], .str [43, 43, 43, 43, 43, 43, 43, 43, 43, 43, 43, 43, 43, 43, 43, 43, 43, 43, 43], .str [43, 43, 43, 43, 43, 43, 43, 43, 43, 43, 43, 43, 43, 43, 43, 43, 43, 43, 43, 43], .str [43, 43, 43, 43, 43, 43, 43, 43, 43, 43, 43, 43, 43, 43, 43, 43, 43, 43, 43, 43, 43], .str [43, 43, 43, 43, 43, 43, 43, 43, 43, 43, 43, 43, 43, 43, 43, 43, 43, 43, 43, 43, 43, 43], .str [43, 43, 43, 43, 43, 43, 43, 43, 43, 43, 43, 43, 43, 43, 43, 43, 43, 43, 43, 43, 43, 43, 43], .str [43, 43, 43, 43, 43, 43, 43, 43, 43, 43, 43, 43, 43, 43, 43, 43, 43, 43, 43, 43, 43, 43, 43, 43], .str [43, 43, 43, 43, 43, 43, 43, 43, 43, 43, 43, 43, 43, 43, 43, 43, 43, 43, 43, 43, 43, 43, 43, 43, 43], .str [43, 43, 43, 43, 43, 43, 43, 43, 43, 43, 43, 43, 43, 43, 43, 43, 43, 43, 43, 43, 43, 43, 43, 43, 43, 43], .str [43, 43, 43, 43, 43, 43, 43, 43, 43, 43, 43, 43, 43, 43, 43, 43, 43, 43, 43, 43, 43, 43, 43, 43, 43, 43, 43], .str [43, 43, 43, 43, 43, 43, 43, 43, 43, 43, 43, 43, 43, 43, 43, 43, 43, 43, 43, 43, 43, 43, 43, 43, 43, 43, 43, 43], .str [43, 43, 43, 43, 43, 43, 43, 43, 43, 43, 43, 43, 43, 43, 43, 43, 43, 43, 43, 43, 43, 43, 43, 43, 43, 43, 43, 43, 43], .str [43, 43, 43, 43, 43, 43, 43, 43, 43, 43, 43, 43, 43, 43, 43, 43, 43, 43, 43, 43, 43, 43, 43, 43, 43, 43, 43, 43, 43, 43], .str [43, 43, 43, 43, 43, 43, 43, 43, 43, 43, 43, 43, 43, 43, 43, 43, 43, 43, 43, 43, 43, 43, 43, 43, 43, 43, 43, 43, 43, 43, 43], .str [43, 43, 43, 43, 43, 43, 43, 43, 43, 43, 43, 43, 43, 43, 43, 43, 43, 43, 43, 43, 43, 43, 43, 43, 43, 43, 43, 43, 43, 43, 43, 43], .str [43, 43, 43, 43, 43, 43, 43, 43, 43, 43, 43, 43, 43, 43, 43, 43, 43, 43, 43, 43, 43, 43, 43, 43, 43, 43, 43, 43, 43, 43, 43, 43, 43], .str [43, 43, 43, 43, 43, 43, 43, 43, 43, 43, 43, 43, 43, 43, 43, 43, 43, 43, 43, 43, 43, 43, 43, 43, 43, 43, 43, 43, 43, 43, 43, 43, 43, 43], .str [43, 43, 43, 43, 43, 43, 43, 43, 43, 43, 43, 43, 43, 43, 43, 43, 43, 43, 43, 43, 43, 43, 43, 43, 43, 43, 43, 43, 43, 43, 43, 43, 43, 43, 43], .str [43, 43, 43, 43, 43, 43, 43, 43, 43, 43, 43, 43, 43, 43, 43, 43, 43, 43, 43, 43, 43, 43, 43, 43, 43, 43, 43, 43, 43, 43, 43, 43, 43, 43, 43, 43], .str [43, 43, 43, 43, 43, 43, 43, 43, 43, 43, 43, 43, 43, 43, 43, 43, 43, 43, 43, 43, 43, 43, 43, 43, 43, 43, 43, 43, 43, 43, 43, 43, 43, 43, 43, 43, 43], .str [43, 43, 43, 43, 43, 43, 43, 43, 43, 43, 43, 43, 43, 43, 43, 43, 43, 43, 43, 43, 43, 43, 43, 43, 43, 43, 43, 43, 43, 43, 43, 43, 43, 43, 43, 43, 43, 43], .str [43, 43, 43, 43, 43, 43, 43, 43, 43, 43, 43, 43, 43, 43, 43, 43, 43, 43, 43, 43, 43, 43, 43, 43, 43, 43, 43, 43, 43, 43, 43, 43, 43, 43, 43, 43, 43, 43, 43], .str [43, 43, 43, 43, 43, 43, 43, 43, 43, 43, 43, 43, 43, 43, 43, 43, 43, 43, 43, 43, 43, 43, 43, 43, 43, 43, 43, 43, 43, 43, 43, 43, 43, 43, 43, 43, 43, 43, 43, 43], .str [43, 43, 43, 43, 43, 43, 43, 43, 43, 43, 43, 43, 43, 43, 43, 43, 43, 43, 43, 43, 43, 43, 43, 43, 43, 43, 43, 43, 43, 43, 43, 43, 43, 43, 43, 43, 43, 43, 43, 43, 43], .str [43, 43, 43, 43, 43, 43, 43, 43, 43, 43, 43, 43, 43, 43, 43, 43, 43, 43, 43, 43, 43, 43, 43, 43, 43, 43, 43, 43, 43, 43, 43, 43, 43, 43, 43, 43, 43, 43, 43, 43, 43, 43], .str [43, 43, 43, 43, 43, 43, 43, 43, 43, 43, 43, 43, 43, 43, 43, 43, 43, 43, 43, 43, 43, 43, 43, 43, 43, 43, 43, 43, 43, 43, 43, 43, 43, 43, 43, 43, 43, 43, 43, 43, 43, 43, 43], .str [43, 43, 43, 43, 43, 43, 43, 43, 43, 43, 43, 43, 43, 43, 43, 43, 43, 43, 43, 43, 43, 43, 43, 43, 43, 43, 43, 43, 43, 43, 43, 43, 43, 43, 43, 43, 43, 43, 43, 43, 43, 43, 43, 43], .str [43, 43, 43, 43, 43, 43, 43, 43, 43, 43, 43, 43, 43, 43, 43, 43, 43, 43, 43, 43, 43, 43, 43, 43, 43, 43, 43, 43, 43, 43, 43, 43, 43, 43, 43, 43, 43, 43, 43, 43, 43, 43, 43, 43, 43]]
def lexNamesL : AV := .sl 1116 1 0 585 true 0 lexNamesTexts
noncomputable def lexNamesA1 : Cd := (.reg [⟨(some p6n2), none, (.mv (.c (.bool false)))⟩])
noncomputable def lexNamesA2 : Cd := (.reg [⟨(some p6n3), none, (.mv (.c (.int .i64 (.ofNat 0))))⟩])
noncomputable def lexNamesB : Cd := (.seq (.seq (.reg [⟨(some p6n10), none, (.mv (.t p6n3))⟩, ⟨(some p6n11), none, (.mv (.t p6n0))⟩, ⟨(some p6n12), none, (.len false (.t p6n11))⟩, ⟨(some p6n13), none, (.bin .lss (.t p6n10) (.t p6n12))⟩]) (.cond (.t p6n13) .skip (.exit 0))) (.seq (.block 1 (.seq (.reg [⟨(some p6n17), none, (.mv (.t p6n0))⟩, ⟨(some p6n18), none, (.mv (.t p6n3))⟩, ⟨(some p6n19), none, (.iaddr 1 (.t p6n17) (.t p6n18))⟩, ⟨(some p6n20), none, (.ld1 (.t p6n19))⟩, ⟨(some p6n21), none, (.call 280 [(.t p6n20)])⟩, ⟨(some p6n16), none, (.mv (.t p6n21))⟩, ⟨(some p6n22), none, (.ext (.t p6n16) 0)⟩, ⟨(some p6n23), none, (.ext (.t p6n16) 1)⟩, ⟨(some p6n24), none, (.ext (.t p6n16) 2)⟩, ⟨(some p6n4), none, (.mv (.t p6n22))⟩, ⟨(some p6n5), none, (.mv (.t p6n23))⟩, ⟨(some p6n6), none, (.mv (.t p6n24))⟩]) (.seq (.reg [⟨(some p6n26), none, (.mv (.t p6n0))⟩, ⟨(some p6n27), none, (.mv (.t p6n3))⟩, ⟨(some p6n28), none, (.iaddr 1 (.t p6n26) (.t p6n27))⟩, ⟨(some p6n29), none, (.ld1 (.t p6n28))⟩, ⟨(some p6n30), none, (.call 48 [(.t p6n29)])⟩, ⟨(some p6n25), none, (.mv (.t p6n30))⟩, ⟨(some p6n31), none, (.ext (.t p6n25) 0)⟩, ⟨(some p6n32), none, (.ext (.t p6n25) 1)⟩, ⟨(some p6n33), none, (.ext (.t p6n25) 2)⟩, ⟨(some p6n7), none, (.mv (.t p6n31))⟩, ⟨(some p6n8), none, (.mv (.t p6n32))⟩, ⟨(some p6n9), none, (.mv (.t p6n33))⟩]) (.seq (.reg [⟨(some p6n34), none, (.mv (.t p6n6))⟩, ⟨(some p6n35), none, (.call 281 [(.t p6n34)])⟩, ⟨(some p6n36), none, (.mv (.t p6n9))⟩, ⟨(some p6n37), none, (.bin .neq (.t p6n35) (.t p6n36))⟩, ⟨(some p6n38), none, (.mv (.t p6n37))⟩, ⟨(some p6n39), (some (p6n38, false)), (.mv (.t p6n5))⟩, ⟨(some p6n40), (some (p6n38, false)), (.mv (.t p6n8))⟩, ⟨(some p6n41), (some (p6n38, false)), (.bin .neq (.t p6n39) (.t p6n40))⟩, ⟨(some p6n42), none, (.pick (.t p6n38) (.c (.bool true)) (.t p6n41))⟩, ⟨(some p6n43), none, (.mv (.t p6n42))⟩, ⟨(some p6n44), (some (p6n43, false)), (.mv (.t p6n4))⟩, ⟨(some p6n45), (some (p6n43, false)), (.mv (.t p6n7))⟩, ⟨(some p6n46), (some (p6n43, false)), (.call 38 [(.t p6n44), (.t p6n45)])⟩, ⟨(some p6n47), (some (p6n43, false)), (.un .not (.t p6n46))⟩, ⟨(some p6n48), none, (.pick (.t p6n43) (.c (.bool true)) (.t p6n47))⟩]) (.cond (.t p6n48) (.seq (.reg [⟨(some p6n2), none, (.mv (.c (.bool false)))⟩]) .ret) .skip))))) (.reg [⟨(some p6n14), none, (.mv (.t p6n3))⟩, ⟨(some p6n15), none, (.bin .add (.t p6n14) (.c (.int .i64 (.ofNat 1))))⟩, ⟨(some p6n3), none, (.mv (.t p6n15))⟩])))
noncomputable def lexNamesC : Cd := (.seq (.reg [⟨(some p6n49), none, (.call 282 [])⟩, ⟨(some p6n2), none, (.mv (.t p6n49))⟩]) .ret)
theorem lexNames_same : a279.body = .seq lexNamesA1 (.seq (.seq lexNamesA2 (.block 0 (.loop lexNamesB))) lexNamesC) := by kernel_rfl
noncomputable def lexNamesRd (i : Nat) : Bool := isN3 6 0 0 3 lexNamesL lexNamesL (.int .i64 (.ofNat (i + 1))) (ev tab.get 1000000 lexNamesB (fr3 6 0 0 3 lexNamesL lexNamesL (.int .i64 (.ofNat i))) ⟨1117, [[]], [[]]⟩)
noncomputable def lexNamesF (a : AV) : Fr := Fr.nil.put (pth 6 0) (.agg ((List.replicate 2 AV.und).set 1 a))
noncomputable def lexNamesIn (a : AV) : RR := evL (ev tab.get 1000000) [lexNamesC0, lexNamesC1, lexNamesC2, lexNamesC3, lexNamesC4] (lexNamesF a) ⟨1, [[]], [[]]⟩

end M2
end
