/- General ground for the statement: an abstract machine that the program's code is shown to follow, and the contracts of the functions that the law reaches. Part 5. -/
import Derived.Test.YtbhcijlhcgnliaaDoorA4
set_option linter.unusedVariables false
set_option linter.unusedSimpArgs false
section
namespace M2
open Go
noncomputable section
variable {tbl : Nat → Option AFunc}

/-! ### Words of a text: how many, how long -/

theorem oneF_text {s : List UInt8} : (oneF s).1.text.length ≤ s.length := by
  unfold oneF
  cases s with
  | nil => simp [t0]
  | cons c s =>
    have hn : ∀ (v : Option Int) (n : Nat) (f : Int), (numT v n f).1.text.length ≤ (c :: s).length := by
      intro v n f
      unfold numT
      cases v with
      | none => simp [t0]
      | some x => simp only; split <;> simp [t0]
    simp only
    repeat' split
    all_goals first | exact hn _ _ _ | (simp only [t0, List.length_nil, List.length_take, List.length_cons, List.length_singleton]; omega)

theorem wordsL_sz (s : List UInt8) : ∀ (i : Nat) (l : List Tok), l.length ≤ 40 → (∀ t ∈ l, t.text.length ≤ s.length) → (wordsL s i l).1.length ≤ 40 ∧ ∀ t ∈ (wordsL s i l).1, t.text.length ≤ s.length := by
  intro i l
  induction i, l using wordsL.induct s with
  | case1 i l h h59 => intro h1 h2; rw [wordsL, dif_pos h, if_pos h59]; exact ⟨h1, h2⟩
  | case2 i l h h59 h32 ih => intro h1 h2; rw [wordsL, dif_pos h, if_neg h59, if_pos h32]; exact ih h1 h2
  | case3 i l h h59 h32 h0 => intro h1 h2; rw [wordsL, dif_pos h, if_neg h59, if_neg h32, if_pos h0]; simp
  | case4 i l h h59 h32 h0 h40 => intro h1 h2; rw [wordsL, dif_pos h, if_neg h59, if_neg h32, if_neg h0, if_pos h40]; simp
  | case5 i l h h59 h32 h0 h40 ih =>
    intro h1 h2
    rw [wordsL, dif_pos h, if_neg h59, if_neg h32, if_neg h0, if_neg h40]
    refine ih (by simp; omega) fun t ht => ?_
    rcases List.mem_append.mp ht with ht | ht
    · exact h2 t ht
    · rw [List.mem_singleton.mp ht]
      have := oneF_text (s := s.drop i)
      rw [List.length_drop] at this
      simp only
      omega
  | case6 i l h => intro h1 h2; rw [wordsL, dif_neg h]; exact ⟨h1, h2⟩

theorem wordsF_sz (s : List UInt8) (hs : s.length ≤ 140737488351232) : (wordsF s).1.length ≤ 40 ∧ szToks (wordsF s).1 := by
  unfold wordsF
  split
  · exact ⟨by simp, fun t ht => by simp at ht⟩
  · have := wordsL_sz s 0 [] (by simp) (fun t ht => by simp at ht)
    exact ⟨this.1, fun t ht => Nat.le_trans (this.2 t ht) hs⟩

/-! ### A row of slices that may be written -/

def MrO (H : Heap) (v : AV) (es : List AV) : Prop :=
  (v = .nils ∧ es = []) ∨ (∃ id pos alt a, v = .sl id 1 pos 1 false alt [a] ∧ es = [a]) ∨ ∃ x cap cs, v = .ms x 1 0 es.length cap ∧ look x H = some (.cells cs) ∧ cs.take es.length = es ∧ es.length ≤ cs.length ∧ es.length ≤ cap

structure Mr (H : Heap) (v : AV) (es : List AV) : Prop where
  o : MrO H v es
  le : es.length ≤ 281474976710656
  cell : ∀ x ∈ es, x.isCell = true

theorem Mr.len {H : Heap} {v : AV} {es : List AV} (h : Mr H v es) : avLen false v = some (.int .i64 es.length) := by
  rcases h.o with ⟨rfl, rfl⟩ | ⟨_, _, _, a, rfl, rfl⟩ | ⟨x, cap, cs, rfl, -⟩ <;> rfl

theorem Mr.ix {H : Heap} {v : AV} {es : List AV} (h : Mr H v es) {k : Nat} (hk : k < es.length) (Q : AV → Prop) : ixv (.ld1 hh) 1 v (.int .i64 k) H Q = Q es[k] := by
  have hc := h.cell _ (List.getElem_mem hk)
  rcases h.o with ⟨rfl, rfl⟩ | ⟨id, pos, alt, a, rfl, rfl⟩ | ⟨x, cap, cs, rfl, hl, ht, hle, hcap⟩
  · simp at hk
  · have : IsSl 1 (.sl id 1 pos 1 false alt [a]) [a] := ⟨.inr ⟨id, pos, 1, false, alt, rfl, by simp⟩, by simp⟩
    exact this.ix1 (k := .i64) (n := k) (by omega) (by omega) (by simpa using hc) H Q
  · unfold ixv
    have h1 : pureV (.iaddr 1 hh hh) [.ms x 1 0 es.length cap, .int .i64 k] = some (.ptr x k) := by
      show (opIaddr 1 (.c (.ms x 1 0 es.length cap)) (.c (.int .i64 k)) noCall .nil ⟨0, [], []⟩).val = _
      unfold opIaddr
      show (if 1 = 1 ∧ (0 : Int) ≤ k ∧ (k : Int) < es.length then OR.ok (.ptr x (0 + (k : Int).toNat * 1)) ⟨0, [], []⟩ else .fail).val = _
      rw [if_pos ⟨rfl, by omega, by omega⟩]
      simp [OR.val]
    rw [h1, opt_some]
    have h2 : hread H (.ptr x k) = some (cs.drop k) := by
      unfold hread
      simp only [hl]
    rw [h2, opt_some]
    have h3 : cs.drop k = es[k] :: cs.drop (k + 1) := by
      have hk' : k < cs.length := by omega
      rw [List.drop_eq_getElem_cons hk']
      congr 1
      have : (cs.take es.length)[k]'(by rw [ht]; exact hk) = cs[k] := List.getElem_take
      rw [← this]
      simp only [ht]
    rw [h3]
    rfl

/-- cut -/
theorem Mr.cut {H : Heap} {v : AV} {es : List AV} (h : Mr H v es) {n : Nat} (h1 : 1 < n) (hn : n ≤ es.length) : ∃ r, pureV (.slL 1 hh none (some hh) none) [v, .int .i64 n] = some r ∧ Mr H r (es.take n) := by
  rcases h.o with ⟨rfl, rfl⟩ | ⟨id, pos, alt, a, rfl, rfl⟩ | ⟨x, cap, cs, rfl, hl, ht, hle, hcap⟩
  · simp at hn; omega
  · simp at hn; omega
  · have hlen : (es.take n).length = n := by rw [List.length_take]; omega
    refine ⟨.ms x 1 0 n cap, ?_, ⟨.inr (.inr ⟨x, cap, cs, by rw [hlen], hl, ?_, by omega, by omega⟩), by rw [hlen]; have := h.le; omega, fun y hy => h.cell y (List.mem_of_mem_take hy)⟩⟩
    · show (opSlL 1 (.c (.ms x 1 0 es.length cap)) none (some (.c (.int .i64 n))) none noCall .nil ⟨0, [], []⟩).val = _
      unfold opSlL
      show (match Nat.beq 1 1 with
        | true => match bnd none Fr.nil cap cap with
          | some m => match (if (0 : Int) ≤ n ∧ (n : Int) ≤ m then some (n : Int).toNat else none) with
            | some h => match bnd none Fr.nil 0 h with
              | some l => match true with
                | true => if l = 0 ∨ l < cap then OR.ok (.ms x 1 (0 + l * 1) (h - l) (cap - l)) ⟨0, [], []⟩ else .fail
                | false => if m = l then .ok .sl0 ⟨0, [], []⟩ else .fail
              | none => .fail
            | none => .fail
          | none => .fail
        | false => .fail : OR).val = _
      simp only [bnd]
      rw [if_pos ⟨by omega, by omega⟩]
      simp [OR.val]
    · rw [hlen, ← ht, List.take_take, Nat.min_eq_left hn]

/-- more at its end -/
theorem Mr.app {H : Heap} {O : Rows} {v y : AV} {es ys : List AV} (h : Mr H v es) (hy : memCells (hT H) 1 y = some (ys.length, ys)) (hc : ∀ x ∈ ys, x.isCell = true) {b : Nat} {z : AV} (hz : 1 ≤ z.cells.length) (hb : 2 * (es.length + ys.length) * b ≤ 2 ^ 48) (hb1 : 1 ≤ b)
    {Q : AV → Heap → Rows → Prop} (hq : ∀ r H', Mr H' r (es ++ ys) → Q r H' O) : wMapp 1 b z v y H O Q := by
  unfold wMapp
  rw [hy]
  show (match ys.length with | 0 => _ | k + 1 => _)
  have hbb : es.length + ys.length ≤ 281474976710656 := by
    have : (es.length + ys.length) * 1 ≤ (es.length + ys.length) * b := Nat.mul_le_mul_left _ hb1
    rw [Nat.mul_assoc] at hb
    omega
  cases hys : ys.length with
  | zero =>
    have : ys = [] := List.length_eq_zero_iff.mp hys
    subst this
    refine ⟨?_, hq v H (by simpa using h)⟩
    rcases h.o with ⟨rfl, rfl⟩ | ⟨_, _, _, a, rfl, rfl⟩ | ⟨x, cap, cs, rfl, -⟩ <;> rfl
  | succ k =>
    have hall : ys.all AV.isCell = true := List.all_eq_true.mpr hc
    have key : ∀ (n : Nat) (o : Option Nat), oldH H 1 (k + 1) v = some (es.length, es, o) → opt (oldH H 1 (k + 1) v) fun o => (2 * (o.1 + (k + 1)) * b ≤ 2 ^ 48 ∧ 1 ≤ z.cells.length ∧ ys.all AV.isCell = true) ∧
        ∀ id, id ∉ ids H → Q (.ms id 1 0 (o.1 + (k + 1)) (o.1 + (k + 1))) ((id, .cells (o.2.1 ++ ys)) :: delO o.2.2 H) O := by
      intro n o ho
      rw [ho, opt_some]
      refine ⟨⟨by rw [← hys]; exact hb, hz, hall⟩, fun id _ => hq _ _ ⟨.inr (.inr ⟨id, es.length + (k + 1), es ++ ys, by rw [List.length_append, hys], look_self _ _ _, List.take_length, Nat.le_refl _, by rw [List.length_append, hys]; exact Nat.le_refl _⟩), by rw [List.length_append]; exact hbb, fun x hx => ?_⟩⟩
      rcases List.mem_append.mp hx with hx | hx
      · exact h.cell x hx
      · exact hc x hx
    rcases h.o with ⟨rfl, rfl⟩ | ⟨id, pos, alt, a, rfl, rfl⟩ | ⟨x, cap, cs, rfl, hl, ht, hle, hcap⟩
    · exact key 0 none rfl
    · refine key 0 none ?_
      have ha := h.cell a (by simp)
      have hk : a.known = true ∧ a.cells = [a] := by cases a <;> first | exact ⟨rfl, rfl⟩ | cases ha
      show Option.map _ (if 1 = 1 ∧ 1 < 1 + (k + 1) ∧ _ then _ else _) = _
      rw [if_pos ⟨rfl, by omega, by simp [hk]⟩]
      simp [hk]
    · refine key 0 (some x) ?_
      unfold oldH
      simp only [hl]
      rw [if_pos ⟨trivial, trivial, by omega⟩]
      simp [ht]

end
end M2
end
section
namespace M2
open Go
noncomputable section
variable {tbl : Nat → Option AFunc}

/-! ### Errors, rows of bytes, functions known otherwise -/

section
variable {dr : Bool} {H : Heap} {O : Rows} {Q : AV → Heap → Rows → Prop} {l : List Opd}
@[go_sem] theorem wo_mki (ty : Nat) (k : IntKind) (n : Int) : wpo tbl dr (.mem (.mki ty) l) [.int k n] H O Q = Q (.ifc ty (.int k n)) H O := rfl
@[go_sem] theorem wo_s2b (s : List UInt8) : wpo tbl dr (.mem .s2b l) [.str s] H O Q = ∀ id, id ∉ ids O → Q (.sl id 1 0 s.length true 0 (s.map fun b => .int .u8 b.toNat)) H ((id, s.length * 1, 1) :: O) := rfl
theorem wo_eqi (neg : Bool) (ts : List Nat) (a b : AV) : wpo tbl dr (.mem (.eqi neg ts) l) [a, b] H O Q = opt (eqI ts a b) fun r => Q (.bool (r != neg)) H O := by
  show opt (memV (.eqi neg ts) [a, b]) _ = _
  unfold memV
  show opt (match memEqi neg ts a b ⟨0, [], []⟩ with | .ok v _ => some v | .fail => none) _ = _
  unfold memEqi
  cases eqI ts a b <;> rfl
@[go_sem] theorem eqi_n (neg : Bool) (a : Nat) (m n : Int) (ts : List Nat) : wpo tbl dr (.mem (.eqi neg (ts)) l) [.ifc a (.int .i64 m), .ifc a (.int .i64 n)] H O Q = (ts.any (Nat.beq a) = true ∧ Q (.bool (decide (m = n) != neg)) H O) := by
  rw [wo_eqi]
  have : eqI ts (.ifc a (.int .i64 m)) (.ifc a (.int .i64 n)) = (match ts.any (Nat.beq a) && decide (IntKind.i64 = .i64) with | true => some (m == n) | false => none) := by
    show (match Nat.beq a a with | false => some false | true => _) = _
    rw [beq_true rfl]
    rfl
  rw [this]
  cases h : ts.any (Nat.beq a) with
  | true =>
    simp only [Bool.true_and, decide_true, true_and]
    have e : (m == n) = decide (m = n) := by by_cases h : m = n <;> simp [h]
    rw [e]; rfl
  | false =>
    simp only [Bool.false_and, Bool.false_eq_true, false_and]
    rfl
@[go_sem] theorem eqk_if0 : pureV (.eqk .iface true hh hh) [.nili, .nili] = some (.bool false) := rfl
@[go_sem] theorem eqk_if1 (a : Nat) (v : AV) : pureV (.eqk .iface true hh hh) [.ifc a v, .nili] = some (.bool true) := rfl
end

theorem enter_leave {t : T} (h1 : t.vs ≠ []) (h2 : t.is ≠ []) (v : AV) : t.enter.leave false v = t := by
  obtain ⟨n, vs, is⟩ := t
  cases vs with
  | nil => exact absurd rfl h1
  | cons a vs =>
    cases is with
    | nil => exact absurd rfl h2
    | cons b is => rfl

theorem pr_pu {i : Nat} {vs : List AV} {v : AV} (hr : ∀ (t : T) (n : Nat), callA tbl (ev tbl (n + 1)) i vs t = .ok v (t.enter.leave false v)) : PuR tbl i vs (· = v) := by
  intro t ht
  refine ⟨v, t, [], [], 1, fun n hn => ?_, .refl ht, rfl⟩
  obtain ⟨m, rfl⟩ : ∃ m, n = m + 1 := ⟨n - 1, by omega⟩
  rw [hr t m, enter_leave ht.v0 ht.i0]

theorem prim1_run {i : Nat} {k : MK} {x v : AV} (hi : tbl i = some ⟨77, [pth 3 0], [(pth 3 1, none)], false, .reg [⟨some (pth 3 1), none, .mem k [.t (pth 3 0)]⟩]⟩) (hk : memPu k = true) (hv : memV k [x] = some v) : PuR tbl i [x] (· = v) := by
  refine pr_pu fun t n => ?_
  unfold callA
  rw [hi]
  simp only [argsIn]
  rw [ev_reg, runOps_one]
  have e : AOp.run (.mem k [.t (pth 3 0)]) (callA tbl (ev tbl n)) (Fr.nil.put (pth 3 0) x) t.enter = .ok v t.enter := by
    show memStep k [(Fr.nil.put (pth 3 0) x).get (pth 3 0)] t.enter = _
    rw [Fr.get_put, if_pos rfl, memPu_step k hk, hv]
  rw [e]
  simp only [afterBody, resultsOf, resultOf, packed]
  rw [Fr.get_put, if_pos rfl]
theorem prim2_run {i : Nat} {k : MK} {x y v : AV} (hi : tbl i = some ⟨77, [pth 3 0, pth 3 1], [(pth 3 2, none)], false, .reg [⟨some (pth 3 2), none, .mem k [.t (pth 3 0), .t (pth 3 1)]⟩]⟩) (hk : memPu k = true) (hv : memV k [x, y] = some v) : PuR tbl i [x, y] (· = v) := by
  refine pr_pu fun t n => ?_
  unfold callA
  rw [hi]
  simp only [argsIn]
  rw [ev_reg, runOps_one]
  have e : AOp.run (.mem k [.t (pth 3 0), .t (pth 3 1)]) (callA tbl (ev tbl n)) ((Fr.nil.put (pth 3 0) x).put (pth 3 1) y) t.enter = .ok v t.enter := by
    show memStep k [((Fr.nil.put (pth 3 0) x).put (pth 3 1) y).get (pth 3 0), ((Fr.nil.put (pth 3 0) x).put (pth 3 1) y).get (pth 3 1)] t.enter = _
    rw [Fr.get_put, Fr.get_put, Fr.get_put, if_pos rfl, if_pos rfl, if_neg (by decide), memPu_step k hk, hv]
  rw [e]
  simp only [afterBody, resultsOf, resultOf, packed]
  rw [Fr.get_put, if_pos rfl]
theorem terr_run {i t1 t2 : Nat} (hi : tbl i = some (primTerr t1 t2)) {fn s : List UInt8} {a b e : Int} (he : e = 1 ∨ e = 2) (hs : s.length ≤ 281474976710656) : PuR tbl i [.str fn, .str s, .int .i64 a, .int .i64 b, .ifc t1 (.int .i64 e)] (· = .ifc t2 .und) := by
  refine pr_pu fun t n => ?_
  unfold callA
  rw [hi]
  simp only [argsIn, primTerr]
  rw [ev_reg, runOps_one]
  generalize hF : ((((Fr.nil.put (pth 3 0) (.str fn)).put (pth 3 1) (.str s)).put (pth 3 2) (.int .i64 a)).put (pth 3 3) (.int .i64 b)).put (pth 3 4) (.ifc t1 (.int .i64 e)) = F
  have g0 : F.get (pth 3 0) = .str fn := by rw [← hF]; rfl
  have g1 : F.get (pth 3 1) = .str s := by rw [← hF]; rfl
  have g2 : F.get (pth 3 2) = .int .i64 a := by rw [← hF]; rfl
  have g3 : F.get (pth 3 3) = .int .i64 b := by rw [← hF]; rfl
  have g4 : F.get (pth 3 4) = .ifc t1 (.int .i64 e) := by rw [← hF]; rfl
  have e : AOp.run (.mem (.terr t1 t2) [.t (pth 3 0), .t (pth 3 1), .t (pth 3 2), .t (pth 3 3), .t (pth 3 4)]) (callA tbl (ev tbl n)) F t.enter = .ok (.ifc t2 .und) t.enter := by
    show memStep (.terr t1 t2) [F.get (pth 3 0), F.get (pth 3 1), F.get (pth 3 2), F.get (pth 3 3), F.get (pth 3 4)] t.enter = _
    rw [g0, g1, g2, g3, g4]
    have h1 : Nat.ble s.length 281474976710656 = true := Nat.ble_eq_true_of_le hs
    rcases he with rfl | rfl
    · show (match Nat.beq t1 t1 && ((Nat.beq 1 1 || Nat.beq 1 2) && Nat.ble s.length 281474976710656) with | true => OR.ok (.ifc t2 .und) t.enter | false => .fail) = _
      rw [h1, beq_true rfl]; rfl
    · show (match Nat.beq t1 t1 && ((Nat.beq 2 1 || Nat.beq 2 2) && Nat.ble s.length 281474976710656) with | true => OR.ok (.ifc t2 .und) t.enter | false => .fail) = _
      rw [h1, beq_true rfl]; rfl
  rw [e]
  simp only [afterBody, resultsOf, resultOf, packed]
  rw [Fr.get_put, if_pos rfl]

end
end M2
end
section
namespace M2
open Go
noncomputable section
variable {tbl : Nat → Option AFunc}

/-! ### Numbers of digits -/

abbrev u64 (n : Int) : AV := .int .u64 n
def big (base : Int) : Int → List UInt8 → Int
  | n, [] => n
  | n, c :: r => big base (n * base + dv c) r
/-- a digit by a base -/
def digB (base : Int) (c : UInt8) : Prop := (dig8 c = true ∨ (base = 16 ∧ hex8 c = true))
theorem dv_dig {base : Int} (hb : base = 10 ∨ base = 16) {c : UInt8} (h : digB base c) : 0 ≤ dv c ∧ dv c < base ∧ ((48 ≤ (c.toNat : Int) ∧ (c.toNat : Int) ≤ 57 ∧ dv c = c.toNat - 48) ∨ (base = 16 ∧ 97 ≤ (c.toNat : Int) ∧ (c.toNat : Int) ≤ 102 ∧ dv c = c.toNat - 87)) := by
  have hc := c.toNat_lt
  have key : dig8 c = true → 0 ≤ dv c ∧ dv c < base ∧ ((48 ≤ (c.toNat : Int) ∧ (c.toNat : Int) ≤ 57 ∧ dv c = c.toNat - 48) ∨ (base = 16 ∧ 97 ≤ (c.toNat : Int) ∧ (c.toNat : Int) ≤ 102 ∧ dv c = c.toNat - 87)) := by
    intro h
    unfold dv
    rw [if_pos h]
    unfold dig8 digI at h
    simp at h
    rcases hb with rfl | rfl <;> omega
  rcases h with h | ⟨hb16, h⟩
  · exact key h
  · by_cases hd : dig8 c = true
    · exact key hd
    · unfold dv
      rw [if_neg hd, wrap_u8m]
      unfold hex8 hexI at h
      rw [Bool.or_eq_true] at h
      have h := h.resolve_left hd
      rw [decide_eq_true_eq] at h
      omega
theorem big_nonneg {base : Int} (hb : 0 ≤ base) : ∀ (s : List UInt8) (n : Int), 0 ≤ n → n ≤ big base n s ∨ base = 0
  | [], n, _ => .inl (Int.le_refl _)
  | c :: r, n, hn => by
    by_cases h0 : base = 0
    · exact .inr h0
    · have h1 : n ≤ n * base := by
        have := Int.mul_le_mul_of_nonneg_left (show (1 : Int) ≤ base by omega) hn
        omega
      have h2 := (dv_b c).1
      have := (big_nonneg hb r (n * base + dv c) (by omega)).resolve_right h0
      left
      show n ≤ big base (n * base + dv c) r
      omega
theorem big_ge {base : Int} (hb : 0 < base) (s : List UInt8) {n : Int} (hn : 0 ≤ n) : n ≤ big base n s := (big_nonneg (by omega) s n hn).resolve_right (by omega)
theorem valF_big {base : Int} (hb : 0 < base) : ∀ (s : List UInt8) (n : Int), 0 ≤ n → n < 2147483648 → valF base n s = if big base n s < 2147483648 then some (big base n s) else none
  | [], n, _, h => by show some n = if n < _ then some n else none; rw [if_pos h]
  | c :: r, n, hn, _ => by
    have h2 := (dv_b c).1
    have h1 : 0 ≤ n * base := Int.mul_nonneg hn (by omega)
    show (if 2147483648 ≤ n * base + dv c then none else valF base (n * base + dv c) r) = if big base (n * base + dv c) r < 2147483648 then some (big base (n * base + dv c) r) else none
    by_cases h : 2147483648 ≤ n * base + dv c
    · have := big_ge hb r (n := n * base + dv c) (by omega)
      rw [if_pos h, if_neg (by omega)]
    · rw [if_neg h]
      exact valF_big hb r _ (by omega) (by omega)

def errR : AV := .ifc 108 (i64 1)
def uintR (base : Int) (s : List UInt8) : AV := if big base 0 s < 18446744073709551616 then .tup [u64 (big base 0 s), .nili] else .tup [u64 18446744073709551615, errR]

theorem wrap_u64 {n : Int} (h : 0 ≤ n) (h' : n < 18446744073709551616) : IntKind.u64.wrap n = n := by
  simp only [IntKind.wrap, IntKind.bits, IntKind.signed, Bool.false_and]
  simp
  omega
theorem wrap_u64m (n : Int) : IntKind.u64.wrap n = n % 18446744073709551616 := by
  simp only [IntKind.wrap, IntKind.bits, IntKind.signed, Bool.false_and]
  simp
theorem wrap_u8 {n : Int} (h : 0 ≤ n) (h' : n < 256) : IntKind.u8.wrap n = n := by rw [wrap_u8m]; omega

theorem lower_or : ∀ c : Fin 256, 97 ≤ c.val → c.val ≤ 102 → orI .u8 (c.val : Int) 32 = (c.val : Int) := by decide +kernel
theorem lower_ok (h : tbl 320 = some (flatF x320)) {c : UInt8} (h1 : 97 ≤ (c.toNat : Int)) (h2 : (c.toNat : Int) ≤ 102) : PuR tbl 320 [chV c] (· = chV c) := by
  refine pu_of h w320 rfl rfl ?_
  simp only [x320, go_sem]
  have := lower_or ⟨c.toNat, c.toNat_lt⟩ (by simp only; omega) (by simp only; omega)
  simp only at this
  simp [this]

theorem uint_in (h320 : tbl 320 = some (flatF x320)) {s : List UInt8} (hs : s.length ≤ 140737488351232) {base : Int} (hb : base = 10 ∨ base = 16) (hd : ∀ c ∈ s, digB base c) {cut : Int} (hcut : cut = if base = 10 then 1844674407370955162 else 1152921504606846976) {row : AV} (hrow : IsSl 1 row (s.map chV)) {O0 : Rows} {s0 : AV} {Q : XR → Prop}
    (hx : ∀ env, big base 0 s < 18446744073709551616 → env.length = 19 → nth env 9 = .bool false → nth env 10 = u64 (big base 0 s) → Q (.exit 3 env [] O0))
    (hr : ∀ env, ¬ big base 0 s < 18446744073709551616 → env.length = 19 → nth env 3 = u64 18446744073709551615 → nth env 4 = errR → Q (.ret env [] O0)) (env : List AV)
    (he : env.length = 19 ∧ nth env 1 = i64 base ∧ nth env 5 = .bool false ∧ nth env 7 = u64 cut ∧ nth env 8 = u64 18446744073709551615 ∧ nth env 9 = .bool false ∧ nth env 10 = u64 0 ∧ nth env 15 = row ∧ nth env 16 = i64 s.length ∧ nth env 17 = i64 0) : wLoop (wpc tbl x309l0) env [] O0 Q := by
  refine wLoop_up x309l0.eq_1 s.length (fun k env H O => H = [] ∧ O = O0 ∧ ∃ n : Int, (0 ≤ n ∧ n < 18446744073709551616) ∧ big base 0 s = big base n (s.drop k) ∧ env.length = 19 ∧ nth env 1 = i64 base ∧ nth env 5 = .bool false ∧ nth env 7 = u64 cut ∧ nth env 8 = u64 18446744073709551615 ∧ nth env 9 = .bool false ∧ nth env 10 = u64 n ∧ nth env 15 = row ∧ nth env 16 = i64 s.length ∧ nth env 17 = i64 k) ?_ ?_ 0 env [] O0 (by omega) ⟨rfl, rfl, 0, by omega, rfl, he⟩
  · rintro k env H O hk ⟨rfl, rfl, n, hn, hv, e0, e1, e5, e7, e8, e9, e10, e15, e16, e17⟩
    have hk1 : IntKind.i64.wrap ((k : Int) + 1) = ((k + 1 : Nat) : Int) := by rw [wrap_i64 (by omega) (by omega)]; omega
    have g1 : (k : Int) < s.length := by omega
    have hlm : (s.map chV).length = s.length := List.length_map ..
    have hix := fun H Q => hrow.ix1 (k := .i64) (n := (k : Int)) (by omega) (by rw [hlm]; omega) (by simp [AV.isCell]) H Q
    simp only [Int.toNat_natCast, List.getElem_map] at hix
    have hdk := hd _ (List.getElem_mem hk)
    have hd1 : s.drop k = s[k] :: s.drop (k + 1) := List.drop_eq_getElem_cons hk
    rw [hd1] at hv
    change big base 0 s = big base (n * base + dv s[k]) (s.drop (k + 1)) at hv
    generalize s[k] = c at *
    have hdv := dv_dig hb hdk
    have hcl := c.toNat_lt
    have eq95 : ¬ (c.toNat : Int) = 95 := by omega
    have w4 : IntKind.u64.wrap (dv c) = dv c := wrap_u64 (by omega) (by omega)
    have hge := big_ge (base := base) (by omega) (s.drop (k + 1)) (n := n * base + dv c) (by rcases hb with rfl | rfl <;> omega)
    rcases hb with rfl | rfl
    · rw [if_pos rfl] at hcut
      subst hcut
      obtain ⟨d1, d2, d3⟩ : 48 ≤ (c.toNat : Int) ∧ (c.toNat : Int) ≤ 57 ∧ dv c = c.toNat - 48 := by omega
      have d3' : IntKind.u8.wrap ((c.toNat : Int) - 48) = dv c := by rw [d3]; exact wrap_u8 (by omega) (by omega)
      have w2 : IntKind.u8.wrap 10 = 10 := by decide
      have w3 : IntKind.u64.wrap 10 = 10 := by decide
      simp only [go_sem, e0, e1, e5, e7, e8, e9, e10, e15, e16, e17, g1, decide_true, decide_false, hix, eq95, d1, d2, d3', nth_puts, length_put, Nat.reduceEqDiff, ↓reduceIte, Nat.reduceLT, w2, w3, w4, hk1]
      refine ⟨fun g => absurd g (by omega), fun _ => ⟨fun g => ?_, fun g => ?_⟩⟩
      · refine hr _ (by omega) (by simp [length_put, e0]) (by simp [nth_puts, length_put, e0]) (by simp [nth_puts, length_put, e0, errR])
      · have wP : IntKind.u64.wrap (n * 10) = n * 10 := wrap_u64 (by omega) (by omega)
        rw [wP]
        by_cases hov : n * 10 + dv c < 18446744073709551616
        · have wN : IntKind.u64.wrap (n * 10 + dv c) = n * 10 + dv c := wrap_u64 (by omega) hov
          rw [wN]
          refine ⟨fun g2 => absurd g2 (by omega), fun _ => ⟨fun g3 => absurd g3 (by omega), fun _ => ?_⟩⟩
          exact ⟨n * 10 + dv c, by omega, hv, rfl⟩
        · refine ⟨fun _ => ?_, fun g2 => absurd (show IntKind.u64.wrap (n * 10 + dv c) < n * 10 by rw [wrap_u64m]; omega) g2⟩
          exact hr _ (by omega) (by simp [length_put, e0]) (by simp [nth_puts, length_put, e0]) (by simp [nth_puts, length_put, e0, errR])
    · rw [if_neg (by decide)] at hcut
      subst hcut
      have w2 : IntKind.u8.wrap 16 = 16 := by decide
      have w3 : IntKind.u64.wrap 16 = 16 := by decide
      rcases hdv.2.2 with ⟨d1, d2, d3⟩ | ⟨-, h1, h2, d3⟩
      · have d3' : IntKind.u8.wrap ((c.toNat : Int) - 48) = dv c := by rw [d3]; exact wrap_u8 (by omega) (by omega)
        simp only [go_sem, e0, e1, e5, e7, e8, e9, e10, e15, e16, e17, g1, decide_true, decide_false, hix, eq95, d1, d2, d3', nth_puts, length_put, Nat.reduceEqDiff, ↓reduceIte, Nat.reduceLT, w2, w3, w4, hk1]
        refine ⟨fun g => absurd g (by omega), fun _ => ⟨fun g => ?_, fun g => ?_⟩⟩
        · refine hr _ (by omega) (by simp [length_put, e0]) (by simp [nth_puts, length_put, e0]) (by simp [nth_puts, length_put, e0, errR])
        · have wP : IntKind.u64.wrap (n * 16) = n * 16 := wrap_u64 (by omega) (by omega)
          rw [wP]
          by_cases hov : n * 16 + dv c < 18446744073709551616
          · have wN : IntKind.u64.wrap (n * 16 + dv c) = n * 16 + dv c := wrap_u64 (by omega) hov
            rw [wN]
            refine ⟨fun g2 => absurd g2 (by omega), fun _ => ⟨fun g3 => absurd g3 (by omega), fun _ => ?_⟩⟩
            exact ⟨n * 16 + dv c, by omega, hv, rfl⟩
          · refine ⟨fun _ => ?_, fun g2 => absurd (show IntKind.u64.wrap (n * 16 + dv c) < n * 16 by rw [wrap_u64m]; omega) g2⟩
            exact hr _ (by omega) (by simp [length_put, e0]) (by simp [nth_puts, length_put, e0]) (by simp [nth_puts, length_put, e0, errR])
      · have d3' : IntKind.u8.wrap (IntKind.u8.wrap ((c.toNat : Int) - 97) + 10) = dv c := by rw [wrap_u8 (n := (c.toNat : Int) - 97) (by omega) (by omega), wrap_u8 (by omega) (by omega)]; omega
        have d1 : 48 ≤ (c.toNat : Int) := by omega
        have d2 : ¬ (c.toNat : Int) ≤ 57 := by omega
        have h3 : (c.toNat : Int) ≤ 122 := by omega
        simp only [go_sem, e0, e1, e5, e7, e8, e9, e10, e15, e16, e17, g1, decide_true, decide_false, hix, eq95, d1, d2, d3', nth_puts, length_put, Nat.reduceEqDiff, ↓reduceIte, Nat.reduceLT, w2, w3, w4, hk1]
        refine call_pu (lower_ok h320 h1 h2) ?_
        rintro q rfl
        simp only [go_sem, e0, e1, e5, e7, e8, e9, e10, e15, e16, e17, h1, h3, decide_true, decide_false, d3', nth_puts, length_put, Nat.reduceEqDiff, ↓reduceIte, Nat.reduceLT, w2, w3, w4, hk1]
        refine call_pu (lower_ok h320 h1 h2) ?_
        rintro q rfl
        simp only [go_sem, e0, e1, e5, e7, e8, e9, e10, e15, e16, e17, h1, h3, decide_true, decide_false, d3', nth_puts, length_put, Nat.reduceEqDiff, ↓reduceIte, Nat.reduceLT, w2, w3, w4, hk1]
        refine call_pu (lower_ok h320 h1 h2) ?_
        rintro q rfl
        simp only [go_sem, e0, e1, e5, e7, e8, e9, e10, e15, e16, e17, h1, h3, decide_true, decide_false, d3', nth_puts, length_put, Nat.reduceEqDiff, ↓reduceIte, Nat.reduceLT, w2, w3, w4, hk1]
        refine ⟨fun g => absurd g (by omega), fun _ => ⟨fun g => ?_, fun g => ?_⟩⟩
        · refine hr _ (by omega) (by simp [length_put, e0]) (by simp [nth_puts, length_put, e0]) (by simp [nth_puts, length_put, e0, errR])
        · have wP : IntKind.u64.wrap (n * 16) = n * 16 := wrap_u64 (by omega) (by omega)
          rw [wP]
          by_cases hov : n * 16 + dv c < 18446744073709551616
          · have wN : IntKind.u64.wrap (n * 16 + dv c) = n * 16 + dv c := wrap_u64 (by omega) hov
            rw [wN]
            refine ⟨fun g2 => absurd g2 (by omega), fun _ => ⟨fun g3 => absurd g3 (by omega), fun _ => ?_⟩⟩
            exact ⟨n * 16 + dv c, by omega, hv, rfl⟩
          · refine ⟨fun _ => ?_, fun g2 => absurd (show IntKind.u64.wrap (n * 16 + dv c) < n * 16 by rw [wrap_u64m]; omega) g2⟩
            exact hr _ (by omega) (by simp [length_put, e0]) (by simp [nth_puts, length_put, e0]) (by simp [nth_puts, length_put, e0, errR])
  · rintro env H O ⟨rfl, rfl, n, hn, hv, e0, e1, e5, e7, e8, e9, e10, e15, e16, e17⟩
    have g1 : ¬ (s.length : Int) < s.length := by omega
    rw [List.drop_length] at hv
    change big base 0 s = n at hv
    simp only [go_sem, e0, e16, e17, g1, decide_false, nth_puts, length_put, Nat.reduceEqDiff, ↓reduceIte, Nat.reduceLT]
    exact hx _ (by omega) (by simp [length_put, e0]) (by simp [nth_puts, e9]) (by simp [nth_puts, e10, hv])

theorem uint10_ok (h : tbl 309 = some (flatF x309)) (h320 : tbl 320 = some (flatF x320)) {s : List UInt8} (hs : s.length ≤ 140737488351232) (hne : s ≠ []) (hd : ∀ c ∈ s, digB 10 c) : PuR tbl 309 [.str s, i64 10, i64 64] (· = uintR 10 s) := by
  refine pu_of h w309 rfl rfl ?_
  have hm : (s.map fun b => AV.int .u8 b.toNat) = s.map chV := rfl
  have sh : shlI .u64 1 (IntKind.u64.wrap 64) = 0 := by decide
  have sm : IntKind.u64.wrap ((0 : Int) - 1) = 18446744073709551615 := by decide
  have hlm : (s.map chV).length = s.length := List.length_map ..
  simp (config := { maxSteps := 2000000 }) only [x309, go_sem, hne, decide_true, decide_false, Int.reduceLE, Int.reduceLT, Int.reduceEq, true_implies, false_implies, and_true, true_and, not_true_eq_false, not_false_eq_true, sh, sm, if_false, hm]
  rw [if_neg (by decide), opt_some]
  simp only [go_sem, sm]
  intro id _
  have hrow : IsSl 1 (.sl id 1 0 s.length true 0 (s.map chV)) (s.map chV) := ⟨.inr ⟨id, 0, s.length, true, 0, rfl, by omega⟩, by omega⟩
  rw [hrow.len, opt_some, hlm]
  refine uint_in (base := 10) (s0 := .nils) h320 hs (.inl rfl) hd (cut := 1844674407370955162) (by decide) hrow ?_ ?_ _ ⟨rfl, rfl, rfl, rfl, rfl, rfl, rfl, rfl, rfl, rfl⟩
  · intro env hlt e0 e9 e10
    simp only [go_sem, nth_puts, length_put, e0, e9, e10, Nat.reduceEqDiff, ↓reduceIte, Nat.reduceLT]
    unfold uintR
    rw [if_pos hlt]
  · intro env hlt e0 e3 e4
    simp only [go_sem, e3, e4]
    unfold uintR
    rw [if_neg hlt]
theorem uint16_ok (h : tbl 309 = some (flatF x309)) (h320 : tbl 320 = some (flatF x320)) {s : List UInt8} (hs : s.length ≤ 140737488351232) (hne : s ≠ []) (hd : ∀ c ∈ s, digB 16 c) : PuR tbl 309 [.str s, i64 16, i64 64] (· = uintR 16 s) := by
  refine pu_of h w309 rfl rfl ?_
  have hm : (s.map fun b => AV.int .u8 b.toNat) = s.map chV := rfl
  have sh : shlI .u64 1 (IntKind.u64.wrap 64) = 0 := by decide
  have sm : IntKind.u64.wrap ((0 : Int) - 1) = 18446744073709551615 := by decide
  have hlm : (s.map chV).length = s.length := List.length_map ..
  simp (config := { maxSteps := 2000000 }) only [x309, go_sem, hne, decide_true, decide_false, Int.reduceLE, Int.reduceLT, Int.reduceEq, true_implies, false_implies, and_true, true_and, not_true_eq_false, not_false_eq_true, sh, sm, if_false, hm]
  rw [if_neg (by decide), opt_some]
  simp only [go_sem, sm]
  intro id _
  have hrow : IsSl 1 (.sl id 1 0 s.length true 0 (s.map chV)) (s.map chV) := ⟨.inr ⟨id, 0, s.length, true, 0, rfl, by omega⟩, by omega⟩
  rw [hrow.len, opt_some, hlm]
  refine uint_in (base := 16) (s0 := .nils) h320 hs (.inr rfl) hd (cut := 1152921504606846976) (by decide) hrow ?_ ?_ _ ⟨rfl, rfl, rfl, rfl, rfl, rfl, rfl, rfl, rfl, rfl⟩
  · intro env hlt e0 e9 e10
    simp only [go_sem, nth_puts, length_put, e0, e9, e10, Nat.reduceEqDiff, ↓reduceIte, Nat.reduceLT]
    unfold uintR
    rw [if_pos hlt]
  · intro env hlt e0 e3 e4
    simp only [go_sem, e3, e4]
    unfold uintR
    rw [if_neg hlt]
theorem uint_ok (h : tbl 309 = some (flatF x309)) (h320 : tbl 320 = some (flatF x320)) {s : List UInt8} (hs : s.length ≤ 140737488351232) (hne : s ≠ []) {base : Int} (hb : base = 10 ∨ base = 16) (hd : ∀ c ∈ s, digB base c) : PuR tbl 309 [.str s, i64 base, i64 64] (· = uintR base s) := by
  rcases hb with rfl | rfl
  · exact uint10_ok h h320 hs hne hd
  · exact uint16_ok h h320 hs hne hd

end
end M2
end
section
namespace M2
open Go
noncomputable section
variable {tbl : Nat → Option AFunc}

def errS : AV := .ifc 108 (i64 2)
def intR (base : Int) (s : List UInt8) : AV := if s = [] then .tup [i64 0, errS] else if big base 0 s < 9223372036854775808 then .tup [i64 (big base 0 s), .nili] else .tup [i64 9223372036854775807, errR]

structure NumbT (tbl : Nat → Option AFunc) : Prop where
  h303 : tbl 303 = some (flatF x303)
  h309 : tbl 309 = some (flatF x309)
  h320 : tbl 320 = some (flatF x320)
  h294 : tbl 294 = some (flatF x294)
  h292 : tbl 292 = some (flatF x292)
  h302 : tbl 302 = some (flatF x302)
  h288 : tbl 288 = some (flatF x288)
  h293 : tbl 293 = some (flatF x293)
  h86 : tbl 86 = some (flatF x86)
  h95 : tbl 95 = some (flatF x95)

theorem int303_ok (h : NumbT tbl) {s : List UInt8} (hs : s.length ≤ 140737488351232) {base : Int} (hb : base = 10 ∨ base = 16) (hd : ∀ c ∈ s, digB base c) : PuR tbl 303 [.str s, i64 base, i64 64] (· = intR base s) := by
  refine pu_of h.h303 w303 rfl rfl ?_
  cases s with
  | nil =>
    simp (config := { maxSteps := 2000000 }) only [x303, go_sem, true_implies, not_true_eq_false, false_implies, and_true]
    rfl
  | cons c r =>
    have hdv := dv_dig hb (hd c List.mem_cons_self)
    have e43 : ¬ (c.toNat : Int) = 43 := by omega
    have e45 : ¬ (c.toNat : Int) = 45 := by omega
    have hc := pureV_idxS (c :: r) .i64 (i := 0) (by simp)
    have sh : shlI .u64 1 (IntKind.u64.wrap (IntKind.i64.wrap (64 - 1))) = 9223372036854775808 := by decide
    have sw : IntKind.u64.wrap (IntKind.i64.wrap (64 - 1)) = 63 := by decide
    have hbg := big_ge (base := base) (by omega) (c :: r) (n := 0) (by omega)
    simp (config := { maxSteps := 2000000 }) only [x303, go_sem, reduceCtorEq, decide_false, e43, e45, true_implies, false_implies, and_true, true_and, not_false_eq_true, hc]
    refine call_pu (uint_ok h.h309 h.h320 hs (by simp) hb hd) ?_
    rintro r' rfl
    unfold uintR
    by_cases h64 : big base 0 (c :: r) < 18446744073709551616
    · rw [if_pos h64]
      have hI : intR base (c :: r) = if big base 0 (c :: r) < 9223372036854775808 then .tup [i64 (big base 0 (c :: r)), .nili] else .tup [i64 9223372036854775807, errR] := by
        unfold intR; rw [if_neg (by simp)]
      rw [hI]
      generalize big base 0 (c :: r) = N at *
      have g1 : avBin .geq (u64 N) (.int .u64 9223372036854775808) = some (.bool (decide (N ≥ 9223372036854775808))) := by rfl
      simp (config := { maxSteps := 2000000 }) only [go_sem, sh, sw, Int.reduceEq, decide_false, decide_true, true_implies, false_implies, and_true, true_and, not_false_eq_true, not_true_eq_false]
      rw [if_neg (by decide), opt_some, show shlI IntKind.u64 1 63 = 9223372036854775808 by decide]
      refine ⟨fun _ => ?_, fun hh => absurd hh (by simp)⟩
      rw [g1, opt_some]
      by_cases h63 : N < 9223372036854775808
      · rw [if_pos h63, decide_eq_false (by omega), bcase_f, wrap_i64 (by omega) (by omega)]
      · rw [if_neg h63, decide_eq_true (by omega), bcase_t]
        rfl
    · rw [if_neg h64]
      have hI : intR base (c :: r) = .tup [i64 9223372036854775807, errR] := by
        unfold intR; rw [if_neg (by simp), if_neg (by omega)]
      rw [hI]
      generalize big base 0 (c :: r) = N at *
      simp (config := { maxSteps := 2000000 }) only [go_sem, sh, sw, errR, Int.reduceEq, decide_false, decide_true, true_implies, false_implies, and_true, true_and, not_false_eq_true, not_true_eq_false]
      refine ⟨by decide, fun hh => absurd hh (by simp), fun _ => ?_⟩
      rw [if_neg (by decide), opt_some, show shlI IntKind.u64 1 63 = 9223372036854775808 by decide]
      refine ⟨fun _ => ?_, fun hh => absurd hh (by simp)⟩
      have g1 : avBin .geq (u64 18446744073709551615) (.int .u64 9223372036854775808) = some (.bool (decide ((18446744073709551615 : Int) ≥ 9223372036854775808))) := rfl
      rw [g1, opt_some, decide_eq_true (by decide), bcase_t]
      rfl

end
end M2
end
section
namespace M2
open Go
noncomputable section
variable {tbl : Nat → Option AFunc}

/-! ### Texts: what a row of words is as a text; a text's lines -/

def tokS (t : Tok) : List UInt8 := if t.kind = 2 then decA 10 t.n.toNat else t.text
def textL (l : List Tok) : List UInt8 := joinA [32] (l.map tokS)

theorem joinA_snoc (sep x : List UInt8) : ∀ l : List (List UInt8), joinA sep (l ++ [x]) = if l = [] then x else joinA sep l ++ (sep ++ x)
  | [] => by rfl
  | y :: l => by
    rw [if_neg (by simp)]
    cases l with
    | nil => rfl
    | cons z l =>
      have := joinA_snoc sep x (z :: l)
      rw [if_neg (by simp)] at this
      show y ++ (sep ++ joinA sep ((z :: l) ++ [x])) = (y ++ (sep ++ joinA sep (z :: l))) ++ (sep ++ x)
      rw [this]
      simp only [List.append_assoc]
theorem joinA_len {n : Nat} : ∀ {l : List (List UInt8)}, (∀ x ∈ l, x.length ≤ n) → (joinA [32] l).length ≤ l.length * (n + 1)
  | [], _ => by simp [joinA]
  | y :: l, h => by
    have hy := h y List.mem_cons_self
    cases l with
    | nil => show y.length ≤ 1 * (n + 1); omega
    | cons z l =>
      have := joinA_len (n := n) (l := z :: l) fun x hx => h x (List.mem_cons_of_mem _ hx)
      show (y ++ ([32] ++ joinA [32] (z :: l))).length ≤ (l.length + 1 + 1) * (n + 1)
      simp only [List.length_append, List.length_cons, List.length_nil] at this ⊢
      rw [Nat.add_mul (l.length + 1)]
      omega
theorem strsA_map : ∀ l : List (List UInt8), strsA (l.map AV.str) = some l
  | [] => rfl
  | x :: l => by
    show (match strsA (l.map AV.str) with | some r => some (x :: r) | none => none) = _
    rw [strsA_map l]
theorem decA_len : ∀ (f n : Nat), (decA f n).length ≤ f
  | 0, n => by simp [decA]
  | f + 1, n => by
    unfold decA
    cases Nat.blt n 10
    · have := decA_len f (n / 10); simp; omega
    · simp
theorem tokS_len {t : Tok} (h : tokOk t = true) : (tokS t).length ≤ 12 := by
  unfold tokS
  by_cases k : t.kind = 2
  · rw [if_pos k]; have := decA_len 10 t.n.toNat; omega
  · rw [if_neg k]
    obtain ⟨kind, text, n, pos⟩ := t
    simp only at k ⊢
    by_cases k1 : kind = 1
    · subst k1
      have h := h
      simp only [tokOk, wordOk] at h
      simp at h
      cases text with
      | nil => simp
      | cons c r => simp at h ⊢; omega
    · by_cases k3 : kind = 3
      · subst k3
        simp only [tokOk] at h
        simp at h
        match text, h with
        | [], _ => simp
        | [c], _ => simp
        | _ :: _ :: _, h => simp at h
      · simp [tokOk, k, k1, k3] at h
theorem tok_num {t : Tok} (h : tokOk t = true) (k : t.kind = 2) : 0 ≤ t.n ∧ t.n ≤ 2147483647 := by
  obtain ⟨kind, text, n, pos⟩ := t
  simp only at k
  subst k
  simp [tokOk] at h
  exact ⟨h.2.1, h.2.2⟩
theorem toks_mem {l : List Tok} (h : toksOk l = true) : l.length ≤ 40 ∧ ∀ t ∈ l, tokOk t = true := by
  unfold toksOk at h
  simpa using h

theorem itoa_run {n : Int} (hi : tbl 289 = some primItoag) (h0 : 0 ≤ n) (h1 : n ≤ 2147483647) : PuR tbl 289 [i64 n] (· = .str (decA 10 n.toNat)) := by
  refine prim1_run hi rfl ?_
  obtain ⟨m, rfl⟩ := Int.eq_ofNat_of_zero_le h0
  show memV (.prim 2) [.int .i64 (Int.ofNat m)] = _
  have h2 : Nat.blt m 4294967296 = true := Nat.ble_eq_true_of_le (by omega)
  show (match (match primA 2 [.int .i64 (Int.ofNat m)] with | some v => OR.ok v (⟨0, [], []⟩ : T) | none => .fail) with | .ok v _ => some v | .fail => none) = _
  have h3 : primA 2 [.int .i64 (Int.ofNat m)] = some (.str (decA 10 m)) := by
    show (match decide (IntKind.i64 = .i64) && Nat.blt m 4294967296 with | true => some (AV.str (decA 10 m)) | false => none) = _
    rw [h2]; rfl
  rw [h3]
  rfl
theorem join_run {v : AV} {l : List (List UInt8)} (hi : tbl 290 = some primJoin) (hv : IsSl 1 v (l.map AV.str)) (hl : l.length ≤ 1000000) {sep : List UInt8} (hb : (joinA sep l).length ≤ 100000000) : PuR tbl 290 [v, .str sep] (· = .str (joinA sep l)) := by
  refine prim2_run hi rfl ?_
  have h3 : primA 0 [v, .str sep] = some (.str (joinA sep l)) := by
    obtain ⟨⟨rfl | rfl, h⟩ | ⟨id, pos, cap, fl, alt, rfl, -⟩, -⟩ := hv
    · have : l = [] := by simpa using h
      subst this; rfl
    · have : l = [] := by simpa using h
      subst this; rfl
    · show (match strsA (l.map AV.str) with | some l' => (match Nat.beq 1 1 && Nat.ble (l.map AV.str).length 1000000 && Nat.ble (joinA sep l').length 100000000 with | true => some (AV.str (joinA sep l')) | false => none) | none => none) = _
      rw [strsA_map]
      simp only [List.length_map]
      rw [Nat.ble_eq_true_of_le hl, Nat.ble_eq_true_of_le hb]
      rfl
  show (match (match primA 0 [v, .str sep] with | some v => OR.ok v (⟨0, [], []⟩ : T) | none => .fail) with | .ok v _ => some v | .fail => none) = _
  rw [h3]

theorem split_run {s : List UInt8} (hi : tbl 388 = some primSplit) (hs : s.length < 1000000000) : PuR tbl 388 [.str s, .str [10], i64 0, .int .i64 (.negSucc 0)] (fun r => IsSl 1 r ((cutGo 10 [] s).map AV.str)) := by
  intro t ht
  have hl : (cutGo 10 [] s).length ≤ s.length + 1 := by
    have : ∀ (s cur : List UInt8), (cutGo 10 cur s).length ≤ s.length + 1 := by
      intro s
      induction s with
      | nil => intro cur; simp [cutGo]
      | cons b l ih =>
        intro cur
        unfold cutGo
        cases Nat.beq b.toNat 10
        · have := ih (cur ++ [b]); simp; omega
        · have := ih []; simp; omega
    exact this s []
  refine ⟨.sl t.n 1 0 (cutGo 10 [] s).length true 0 ((cutGo 10 [] s).map AV.str), t.newI ((cutGo 10 [] s).length * 1) 1, [], _, 1, fun n hn => ?_, .newI ht _ _, ⟨.inr ⟨_, _, _, _, _, rfl, by simp⟩, by simp; omega⟩⟩
  obtain ⟨m, rfl⟩ : ∃ m, n = m + 1 := ⟨n - 1, by omega⟩
  unfold callA
  rw [hi]
  simp only [argsIn, primSplit]
  rw [ev_reg, runOps_one]
  generalize hF : (((Fr.nil.put (pth 3 0) (.str s)).put (pth 3 1) (.str [10])).put (pth 3 2) (i64 0)).put (pth 3 3) (.int .i64 (.negSucc 0)) = F
  have g0 : F.get (pth 3 0) = .str s := by rw [← hF]; rfl
  have g1 : F.get (pth 3 1) = .str [10] := by rw [← hF]; rfl
  have g2 : F.get (pth 3 2) = i64 0 := by rw [← hF]; rfl
  have g3 : F.get (pth 3 3) = .int .i64 (.negSucc 0) := by rw [← hF]; rfl
  have e : AOp.run (.mem .splt [.t (pth 3 0), .t (pth 3 1), .t (pth 3 2), .t (pth 3 3)]) (callA tbl (ev tbl m)) F t.enter = .ok (.sl t.n 1 0 (cutGo 10 [] s).length true 0 ((cutGo 10 [] s).map AV.str)) (t.enter.newI ((cutGo 10 [] s).length * 1) 1) := by
    show memStep .splt [F.get (pth 3 0), F.get (pth 3 1), F.get (pth 3 2), F.get (pth 3 3)] t.enter = _
    rw [g0, g1, g2, g3]
    show (match Nat.blt s.length 1000000000 with | true => OR.ok (.sl t.n 1 0 (cutGo 10 [] s).length true 0 ((cutGo 10 [] s).map AV.str)) (t.enter.newI ((cutGo 10 [] s).length * 1) 1) | false => .fail) = _
    have : Nat.blt s.length 1000000000 = true := Nat.ble_eq_true_of_le hs
    rw [this]
  rw [e]
  simp only [afterBody, resultsOf, resultOf, packed]
  rw [Fr.get_put, if_pos rfl]
  have hv := ht.v0
  have hi0 := ht.i0
  obtain ⟨tn, vs, is⟩ := t
  cases vs with
  | nil => exact absurd rfl hv
  | cons a vs =>
    cases is with
    | nil => exact absurd rfl hi0
    | cons b is =>
      show OR.ok _ (T.leave ⟨tn + 1, [] :: a :: vs, [(tn, (cutGo 10 [] s).length * 1, 1)] :: b :: is⟩ false _) = _
      simp [T.leave, leaveVs, leaveIs, AV.tops, T.newI, push, List.filter]

end
end M2
end
section
namespace M2
open Go
noncomputable section
variable {tbl : Nat → Option AFunc}

structure TxtT (tbl : Nat → Option AFunc) : Prop extends LexT tbl, RLexT tbl where
  h286 : tbl 286 = some (flatF x286)
  h289 : tbl 289 = some primItoag
  h290 : tbl 290 = some primJoin
  h560 : tbl 560 = some (flatF x560)
  h561 : tbl 561 = some (flatF x561)

theorem add_str {a b : List UInt8} (h : ((a.length + b.length : Nat) : Int) ≤ 9223372036854775807) : avBin .add (.str a) (.str b) = some (.str (a ++ b)) := by
  show binStr .add a b = _
  unfold binStr
  simp only
  rw [if_pos h]
theorem check_ok (h : TxtT tbl) {v : AV} {l : List Tok} (hv : ToksAre v l) (hz : szToks l) : PuR tbl 561 [v] (· = i64 (if toksOk l then 0 else 1)) := by
  refine pu_of h.h561 w561 rfl rfl ?_
  simp only [x561, go_sem]
  refine call_pu (lexmay_ok h.toLexT hv hz) ?_
  rintro r rfl
  cases toksOk l <;> simp [go_sem]

theorem rtext_ok (h : TxtT tbl) {v : AV} {l : List Tok} (hv : ToksAre v l) (ho : toksOk l = true) : PuR tbl 560 [v] (· = .str (textL l)) := by
  obtain ⟨h40, hok⟩ := toks_mem ho
  refine pu_of h.h560 w560 rfl rfl ?_
  simp only [x560, go_sem]
  refine wLoop_up x560l0.eq_1 l.length (fun k env H O => H = [] ∧ O = [] ∧ env.length = 4 ∧ nth env 0 = v ∧ nth env 2 = .str (joinA [32] ((l.take k).map tokS)) ∧ nth env 3 = i64 k) ?_ ?_ 0 _ [] [] (by omega) ⟨rfl, rfl, rfl, rfl, rfl, rfl⟩
  · rintro k env H O hk ⟨rfl, rfl, e0, e1, e2, e3⟩
    have g1 : (k : Int) < l.length := by omega
    have hk1 : IntKind.i64.wrap ((k : Int) + 1) = ((k + 1 : Nat) : Int) := by rw [wrap_i64 (by omega) (by omega)]; omega
    have hia := hv.ia hk
    have hlen : (joinA [32] ((l.take k).map tokS)).length ≤ 600 := by
      have := joinA_len (n := 12) (l := (l.take k).map tokS) fun x hx => by
        obtain ⟨t, ht, rfl⟩ := List.mem_map.mp hx
        exact tokS_len (hok t (List.mem_of_mem_take ht))
      simp only [List.length_map, List.length_take] at this
      omega
    have hsn : joinA [32] ((l.take (k + 1)).map tokS) = if k = 0 then tokS l[k] else joinA [32] ((l.take k).map tokS) ++ (([32] : List UInt8) ++ tokS l[k]) := by
      rw [List.take_succ_eq_append_getElem hk, List.map_append]
      show joinA [32] (_ ++ [tokS l[k]]) = _
      rw [joinA_snoc]
      by_cases hk0 : k = 0
      · rw [if_pos (by subst hk0; rfl), if_pos hk0]
      · rw [if_neg (by intro hh; have := congrArg List.length hh; rw [List.length_map, List.length_take, List.length_nil] at this; omega), if_neg hk0]
    have hz := tokS_len (hok _ (List.getElem_mem hk))
    have hnum := tok_num (hok _ (List.getElem_mem hk))
    rw [hsn]
    clear hsn
    generalize hp : joinA [32] ((l.take k).map tokS) = pre at hlen e2 ⊢
    generalize hT : l[k] = t at hia hz hnum ⊢
    unfold tokS at hz ⊢
    by_cases hk0 : k = 0
    · have g0 : ¬ (0 : Int) < (k : Int) := by omega
      have hp0 : pre = [] := by rw [← hp, hk0]; rfl
      subst hp0
      rw [if_pos hk0]
      by_cases k2 : t.kind = 2
      · rw [if_pos k2] at hz ⊢
        obtain ⟨n0, n1⟩ := hnum k2
        have a1 : avBin .add (.str []) (.str (decA 10 t.n.toNat)) = some (.str (decA 10 t.n.toNat)) := add_str (by simp; omega)
        simp only [go_sem, e0, e1, e2, e3, hv.len, g1, g0, hia, k2, decide_true, decide_false, nth_puts, length_put, Nat.reduceEqDiff, ↓reduceIte, Nat.reduceLT, hk1]
        refine call_pu (itoa_run h.h289 n0 n1) ?_
        rintro r rfl
        simp only [go_sem, a1, nth_puts, length_put, e0, e1, e2, e3, Nat.reduceEqDiff, ↓reduceIte, Nat.reduceLT, hk1]
      · rw [if_neg k2] at hz ⊢
        have a1 : avBin .add (.str []) (.str t.text) = some (.str t.text) := add_str (by simp; omega)
        simp only [go_sem, a1, e0, e1, e2, e3, hv.len, g1, g0, hia, k2, decide_true, decide_false, nth_puts, length_put, Nat.reduceEqDiff, ↓reduceIte, Nat.reduceLT, hk1]
    · have g0 : (0 : Int) < (k : Int) := by omega
      rw [if_neg hk0]
      have a0 : avBin .add (.str pre) (.str [32]) = some (.str (pre ++ [32])) := add_str (by simp; omega)
      by_cases k2 : t.kind = 2
      · rw [if_pos k2] at hz ⊢
        obtain ⟨n0, n1⟩ := hnum k2
        have a1 : avBin .add (.str (pre ++ [32])) (.str (decA 10 t.n.toNat)) = some (.str (pre ++ [32] ++ decA 10 t.n.toNat)) := add_str (by simp; omega)
        simp only [go_sem, a0, e0, e1, e2, e3, hv.len, g1, g0, hia, k2, decide_true, decide_false, nth_puts, length_put, Nat.reduceEqDiff, ↓reduceIte, Nat.reduceLT, hk1]
        refine call_pu (itoa_run h.h289 n0 n1) ?_
        rintro r rfl
        simp only [go_sem, a1, nth_puts, length_put, e0, e1, e2, e3, Nat.reduceEqDiff, ↓reduceIte, Nat.reduceLT, hk1, List.append_assoc]
      · rw [if_neg k2] at hz ⊢
        have a1 : avBin .add (.str (pre ++ [32])) (.str t.text) = some (.str (pre ++ [32] ++ t.text)) := add_str (by simp; omega)
        simp only [go_sem, a0, a1, e0, e1, e2, e3, hv.len, g1, g0, hia, k2, decide_true, decide_false, nth_puts, length_put, Nat.reduceEqDiff, ↓reduceIte, Nat.reduceLT, hk1, List.append_assoc]
  · rintro env H O ⟨rfl, rfl, e0, e1, e2, e3⟩
    have g1 : ¬ (l.length : Int) < l.length := by omega
    rw [List.take_length] at e2
    simp only [go_sem, e0, e1, e2, e3, hv.len, g1, decide_false, nth_puts, length_put, Nat.reduceEqDiff, ↓reduceIte, Nat.reduceLT]
    rfl

end
end M2
end
section
namespace M2
open Go
noncomputable section
variable {tbl : Nat → Option AFunc}

theorem text_ok (h : TxtT tbl) {v : AV} {l : List Tok} (hv : ToksAre v l) (hz : szToks l) : PuR tbl 286 [v] (· = if toksOk l then .tup [.str (textL l), i64 0] else .tup [.str [], i64 1]) := by
  refine pu_of h.h286 w286 rfl rfl ?_
  simp only [x286, go_sem]
  refine call_pu (lexmay_ok h.toLexT hv hz) ?_
  rintro r rfl
  cases ho : toksOk l
  · simp [go_sem]
  · obtain ⟨h40, hok⟩ := toks_mem ho
    simp only [go_sem, hv.len]
    refine ⟨(fun hh => by cases hh), fun _ => ?_⟩
    refine wLoop_up x286l0.eq_1 l.length (fun k env H O => H = [] ∧ ∃ u, Ap O 1 u ((l.take k).map fun t => .str (tokS t)) ∧ env.length = 9 ∧ nth env 3 = u ∧ nth env 5 = v ∧ nth env 6 = i64 l.length ∧ nth env 7 = i64 k) ?_ ?_ 0 _ [] [] (by omega) ⟨rfl, .nils, ap_nils _ _, rfl, rfl, rfl, rfl, rfl⟩
    · rintro k env H O hk ⟨rfl, u, hu, e0, e3, e5, e6, e7⟩
      have g1 : (k : Int) < l.length := by omega
      have hk1 : IntKind.i64.wrap ((k : Int) + 1) = ((k + 1 : Nat) : Int) := by rw [wrap_i64 (by omega) (by omega)]; omega
      have hok1 := hok _ (List.getElem_mem hk)
      have hnum := tok_num hok1
      have hix := fun H Q => hv.ix hk H Q
      have hsn : (l.take (k + 1)).map (fun t => AV.str (tokS t)) = (l.take k).map (fun t => AV.str (tokS t)) ++ [.str (tokS l[k])] := by
        rw [List.take_succ_eq_append_getElem hk, List.map_append]; rfl
      have hul : ((l.take k).map fun t => AV.str (tokS t)).length ≤ 40 := by rw [List.length_map, List.length_take]; omega
      rw [hsn]
      clear hsn
      generalize l[k] = t at *
      unfold tokS at hu hul ⊢
      by_cases k2 : t.kind = 2
      · rw [if_pos k2]
        obtain ⟨n0, n1⟩ := hnum k2
        simp only [go_sem, e0, e3, e5, e6, e7, g1, hix, k2, decide_true, decide_false, nth_puts, length_put, Nat.reduceEqDiff, ↓reduceIte, Nat.reduceLT, Nat.reduceAdd, Nat.reduceLeDiff, and_self, hk1]
        refine call_pu (itoa_run h.h289 n0 n1) ?_
        rintro r rfl
        simp only [go_sem, e0, e3, e5, e6, e7, nth_puts, length_put, Nat.reduceEqDiff, ↓reduceIte, Nat.reduceLT, Nat.reduceAdd, Nat.reduceLeDiff, and_self, hk1]
        intro id
        refine ap1_ok hu (v := .str (decA 10 t.n.toNat)) rfl rfl rfl (by decide) (by omega) (by decide) ?_ id
        intro r O' hr _
        simp only [go_sem, e0, e3, e5, e6, e7, nth_puts, length_put, Nat.reduceEqDiff, ↓reduceIte, Nat.reduceLT, Nat.reduceAdd, Nat.reduceLeDiff, and_self, hk1]
        exact ⟨r, hr, by simp⟩
      · rw [if_neg k2]
        simp only [go_sem, e0, e3, e5, e6, e7, g1, hix, k2, decide_true, decide_false, nth_puts, length_put, Nat.reduceEqDiff, ↓reduceIte, Nat.reduceLT, Nat.reduceAdd, Nat.reduceLeDiff, and_self, hk1]
        intro id
        refine ap1_ok hu (v := .str t.text) rfl rfl rfl (by decide) (by omega) (by decide) ?_ id
        intro r O' hr _
        simp only [go_sem, e0, e3, e5, e6, e7, nth_puts, length_put, Nat.reduceEqDiff, ↓reduceIte, Nat.reduceLT, Nat.reduceAdd, Nat.reduceLeDiff, and_self, hk1]
        exact ⟨r, hr, by simp⟩
    · rintro env H O ⟨rfl, u, hu, e0, e3, e5, e6, e7⟩
      have g1 : ¬ (l.length : Int) < l.length := by omega
      rw [List.take_length] at hu
      simp only [go_sem, e0, e3, e5, e6, e7, g1, decide_false, nth_puts, length_put, Nat.reduceEqDiff, ↓reduceIte, Nat.reduceLT]
      have hs : IsSl 1 u ((l.map tokS).map AV.str) := by
        have := hu.sl
        rwa [List.map_map]
      have hb := joinA_len (n := 12) (l := l.map tokS) fun x hx => by
        obtain ⟨t, ht, rfl⟩ := List.mem_map.mp hx
        exact tokS_len (hok t ht)
      rw [List.length_map] at hb
      refine call_pu (join_run h.h290 hs (by simp; omega) (by omega)) ?_
      rintro r rfl
      rfl

end
end M2
end
section
namespace M2
open Go
noncomputable section
variable {tbl : Nat → Option AFunc}

structure SplT (tbl : Nat → Option AFunc) : Prop where
  h357 : tbl 357 = some (flatF x357)
  h370 : tbl 370 = some (flatF x370)
  h388 : tbl 388 = some primSplit
  h147 : tbl 147 = some (flatF x147)
  h368 : tbl 368 = some (flatF x368)

abbrev linesL (s : List UInt8) : List (List UInt8) := cutGo 10 [] s

theorem IsSl.ixStr {v : AV} {xs : List (List UInt8)} (h : IsSl 1 v (xs.map AV.str)) {k : Nat} (hk : k < xs.length) (H : Heap) (Q : AV → Prop) : ixv (.ld1 hh) 1 v (.int .i64 k) H Q = Q (.str xs[k]) := by
  have := h.ix1 (k := .i64) (n := (k : Int)) (by omega) (by rw [List.length_map]; omega) (by simp [AV.isCell]) H Q
  simpa using this

theorem cutGo_len (s : List UInt8) : ∀ cur : List UInt8, (cutGo 10 cur s).length ≤ s.length + 1 := by
  induction s with
  | nil => intro cur; simp [cutGo]
  | cons b l ih =>
    intro cur
    unfold cutGo
    cases Nat.beq b.toNat 10
    · have := ih (cur ++ [b]); simp; omega
    · have := ih []; simp; omega

theorem ssplit_ok (h : SplT tbl) {s : List UInt8} (hs : s.length < 1000000000) : PuR tbl 370 [.str s, .str [10]] (fun r => IsSl 1 r ((linesL s).map AV.str)) := by
  refine pu_of h.h370 w370 rfl rfl ?_
  simp only [x370, go_sem]
  refine call_pu (split_run h.h388 hs) ?_
  intro r hr
  exact hr

def SplR (s : List UInt8) (r : AV) : Prop := (s.length ≤ 4000 ∧ (linesL s).length ≤ 300 ∧ ∃ v, r = .tup [v, i64 0] ∧ IsSl 1 v ((linesL s).map AV.str)) ∨ (¬(s.length ≤ 4000 ∧ (linesL s).length ≤ 300) ∧ r = .tup [.nils, i64 2])

theorem split_ok (h : SplT tbl) {s : List UInt8} (hs : s.length < 1000000000) : PuR tbl 357 [.str s] (SplR s) := by
  refine pu_of h.h357 w357 rfl rfl ?_
  simp only [x357, go_sem]
  refine call_pu (ssplit_ok h hs) ?_
  intro v hv
  have hl := hv.len
  rw [List.length_map] at hl
  simp only [go_sem, hl]
  refine ⟨fun g1 => .inr ⟨by omega, rfl⟩, fun g1 => ⟨fun g2 => .inr ⟨by omega, rfl⟩, fun g2 => .inl ⟨by omega, by omega, _, rfl, hv⟩⟩⟩

def RSplR (s : List UInt8) (r : AV) : Prop := (s.length ≤ 4000 ∧ ∃ v, r = .tup [v, .bool (decide ((linesL s).length ≤ 300))] ∧ IsSl 1 v ((linesL s).map AV.str)) ∨ (¬ s.length ≤ 4000 ∧ r = .tup [.nils, .bool false])

theorem rsplit_ok (h : SplT tbl) {s : List UInt8} (hs : s.length ≤ 140737488351232) : PuR tbl 147 [.str s] (RSplR s) := by
  refine pu_of h.h147 w147 rfl rfl ?_
  simp only [x147, go_sem]
  refine ⟨fun g => .inr ⟨by omega, rfl⟩, fun g => ?_⟩
  have g : s.length ≤ 4000 := by omega
  refine wLoop_up x147l0.eq_1 s.length (fun k env H O => H = [] ∧ ∃ u pre, ∃ f : Nat, Ap O 1 u (pre.map AV.str) ∧ pre.length ≤ k ∧ f ≤ k ∧ linesL s = pre ++ cutGo 10 ((s.drop f).take (k - f)) (s.drop k) ∧ env.length = 6 ∧ nth env 0 = .str s ∧ nth env 3 = u ∧ nth env 4 = i64 f ∧ nth env 5 = i64 k) ?_ ?_ 0 _ [] [] (by omega) ⟨rfl, .nils, [], 0, ap_nils _ _, by simp, by omega, rfl, rfl, rfl, rfl, rfl, rfl⟩
  · rintro k env H O hk ⟨rfl, u, pre, f, hu, hpl, hf, hc, e0, e00, e3, e4, e5⟩
    have g1 : (k : Int) < s.length := by omega
    have hk1 : IntKind.i64.wrap ((k : Int) + 1) = ((k + 1 : Nat) : Int) := by rw [wrap_i64 (by omega) (by omega)]; omega
    have hix := pureV_idxS s .i64 (i := k) hk
    have hsl := slS_lh s .i64 .i64 (n := f) (m := k) hf (by omega)
    have hd1 : s.drop k = s[k] :: s.drop (k + 1) := List.drop_eq_getElem_cons hk
    rw [hd1] at hc
    have htk : (s.drop f).take (k + 1 - f) = (s.drop f).take (k - f) ++ [s[k]] := by
      rw [show k + 1 - f = (k - f) + 1 by omega, List.take_succ_eq_append_getElem (by rw [List.length_drop]; omega)]
      congr 2
      rw [List.getElem_drop]
      congr 1
      omega
    generalize s[k] = c at *
    by_cases hc10 : (c.toNat : Int) = 10
    · have hb : Nat.beq c.toNat 10 = true := by rw [show c.toNat = 10 by omega]; rfl
      have hcg : cutGo 10 ((s.drop f).take (k - f)) (c :: s.drop (k + 1)) = (s.drop f).take (k - f) :: cutGo 10 [] (s.drop (k + 1)) := by
        conv => lhs; unfold cutGo
        rw [hb]
      rw [hcg] at hc
      simp only [go_sem, e0, e00, e3, e4, e5, g1, hix, hsl, hc10, decide_true, decide_false, nth_puts, length_put, Nat.reduceEqDiff, ↓reduceIte, Nat.reduceLT, Nat.reduceAdd, Nat.reduceLeDiff, and_self, hk1]
      intro id
      refine ap1_ok hu (v := .str ((s.drop f).take (k - f))) rfl rfl rfl (by decide) (by rw [List.length_map]; omega) (by decide) ?_ id
      intro r O' hr _
      simp only [go_sem, e0, e00, e3, e4, e5, g1, hix, hsl, hc10, decide_true, decide_false, nth_puts, length_put, Nat.reduceEqDiff, ↓reduceIte, Nat.reduceLT, Nat.reduceAdd, Nat.reduceLeDiff, and_self, hk1]
      refine ⟨r, pre ++ [(s.drop f).take (k - f)], k + 1, ?_, by simp; omega, by omega, ?_, rfl, rfl⟩
      · rw [List.map_append]; exact hr
      · rw [hc, Nat.sub_self, List.take_zero, List.append_assoc]; rfl
    · have hb : Nat.beq c.toNat 10 = false := by
        cases hh : Nat.beq c.toNat 10 with
        | false => rfl
        | true => exact absurd (Nat.eq_of_beq_eq_true hh) (by omega)
      have hcg : cutGo 10 ((s.drop f).take (k - f)) (c :: s.drop (k + 1)) = cutGo 10 ((s.drop f).take (k - f) ++ [c]) (s.drop (k + 1)) := by
        conv => lhs; unfold cutGo
        rw [hb]
      rw [hcg] at hc
      simp only [go_sem, e0, e00, e3, e4, e5, g1, hix, hsl, hc10, decide_true, decide_false, nth_puts, length_put, Nat.reduceEqDiff, ↓reduceIte, Nat.reduceLT, Nat.reduceAdd, Nat.reduceLeDiff, and_self, hk1]
      exact ⟨u, pre, f, hu, by omega, by omega, by rw [htk]; exact hc, rfl, rfl⟩
  · rintro env H O ⟨rfl, u, pre, f, hu, hpl, hf, hc, e0, e00, e3, e4, e5⟩
    have g1 : ¬ (s.length : Int) < s.length := by omega
    have hsl := slS_lo s .i64 (n := f) hf
    rw [List.drop_length, List.take_of_length_le (by rw [List.length_drop]; omega)] at hc
    change linesL s = pre ++ [s.drop f] at hc
    simp only [go_sem, e0, e00, e3, e4, e5, g1, hsl, decide_false, nth_puts, length_put, Nat.reduceEqDiff, ↓reduceIte, Nat.reduceLT]
    intro id
    refine ap1_ok hu (v := .str (s.drop f)) rfl rfl rfl (by decide) (by rw [List.length_map]; omega) (by decide) ?_ id
    intro r O' hr _
    have hr' : IsSl 1 r ((linesL s).map AV.str) := by
      rw [hc, List.map_append]; exact hr.sl
    have hl := hr'.len
    rw [List.length_map] at hl
    simp only [go_sem, e0, e00, e3, e4, e5, hl, nth_puts, length_put, Nat.reduceEqDiff, ↓reduceIte, Nat.reduceLT, Nat.reduceAdd, Nat.reduceLeDiff, and_self]
    refine .inl ⟨g, r, ?_, hr'⟩
    congr 3
    simp
    omega

theorem eqstr_ok (h : SplT tbl) {va vb : AV} {xs ys : List (List UInt8)} (ha : IsSl 1 va (xs.map AV.str)) (hb : IsSl 1 vb (ys.map AV.str)) : PuR tbl 368 [va, vb] (· = .bool (decide (xs = ys))) := by
  have hle := ha.le
  rw [List.length_map] at hle
  have la := ha.len
  have lb := hb.len
  rw [List.length_map] at la lb
  refine pu_of h.h368 w368 rfl rfl ?_
  simp only [x368, go_sem, la, lb]
  refine ⟨fun hl => ?_, fun hl => ?_⟩
  · have : ¬ xs = ys := fun e => hl (by rw [e])
    rw [decide_eq_false this]
  · simp only [Classical.not_not] at hl
    have hl : xs.length = ys.length := by omega
    refine wLoop_up x368l0.eq_1 xs.length (fun k env H O => H = [] ∧ O = [] ∧ (∀ i (h1 : i < xs.length) (h2 : i < ys.length), i < k → xs[i] = ys[i]) ∧ env.length = 4 ∧ nth env 0 = va ∧ nth env 1 = vb ∧ nth env 3 = i64 k) ?_ ?_ 0 _ [] [] (by omega) ⟨rfl, rfl, fun i _ _ hi => absurd hi (by omega), rfl, rfl, rfl, rfl⟩
    · rintro k env H O hk ⟨rfl, rfl, hal, e0, e1, e2, e3⟩
      have hk2 : k < ys.length := by omega
      have g1 : (k : Int) < xs.length := by omega
      have hk1 : IntKind.i64.wrap ((k : Int) + 1) = ((k + 1 : Nat) : Int) := by rw [wrap_i64 (by omega) (by omega)]; omega
      simp only [go_sem, e0, e1, e2, e3, la, g1, decide_true, ha.ixStr hk, hb.ixStr hk2, nth_puts, length_put, Nat.reduceEqDiff, ↓reduceIte, Nat.reduceLT, hk1]
      refine ⟨fun hne => ?_, fun heq => ?_⟩
      · have : ¬ xs = ys := fun e => hne (by subst e; rfl)
        rw [decide_eq_false this]
      · intro i h1 h2 hi
        by_cases hik : i < k
        · exact hal i h1 h2 hik
        · obtain rfl : i = k := by omega
          exact Classical.not_not.mp heq
    · rintro env H O ⟨rfl, rfl, hal, e0, e1, e2, e3⟩
      have g1 : ¬ (xs.length : Int) < xs.length := by omega
      simp only [go_sem, e0, e1, e2, e3, la, g1, decide_false, nth_puts, length_put, Nat.reduceEqDiff, ↓reduceIte, Nat.reduceLT]
      have : xs = ys := List.ext_getElem hl fun i h1 h2 => hal i h1 h2 h1
      rw [decide_eq_true this]

end
end M2
end
section
namespace M2
open Go
noncomputable section
variable {tbl : Nat → Option AFunc}

structure Hv8T (tbl : Nat → Option AFunc) : Prop where
  h47 : tbl 47 = some (flatF x47)
  h58 : tbl 58 = some (flatF x58)
  h59 : tbl 59 = some (flatF x59)

def TextsR (es : List AV) (r : AV) : Prop := ∃ n : Int, r = i64 n ∧ 0 ≤ n ∧ n ≤ 562949953421312 ∧ (n < 1048576 → ∀ s, AV.str s ∈ es → (s.length : Int) ≤ n)

theorem texts8_ok (h : Hv8T tbl) {v : AV} {es : List AV} (hv : IsSl 1 v es) (hs : IsSS es) : PuR tbl 58 [v] (TextsR es) := by
  have hle := hv.le
  refine pu_of h.h58 w58 rfl rfl ?_
  simp only [x58, go_sem, hv.len]
  refine wLoop_wf x58l0.eq_1 (fun k : Nat => es.length - k) (fun k env H O => H = [] ∧ O = [] ∧ k ≤ es.length ∧ ∃ n : Int, (0 ≤ n ∧ n ≤ 562949953421312) ∧ (∀ i (hi : i < es.length), i < k → ∀ s, es[i] = AV.str s → (s.length : Int) ≤ n) ∧ env.length = 4 ∧ nth env 0 = v ∧ nth env 2 = i64 n ∧ nth env 3 = i64 k) ?_ 0 _ [] [] ⟨rfl, rfl, by omega, es.length, by omega, fun i _ hi => absurd hi (by omega), rfl, rfl, rfl, rfl⟩
  rintro k env H O ⟨rfl, rfl, hk, n, hn, hall, e0, e1, e2, e3⟩
  simp only [go_sem, e0, e1, e2, e3, hv.len]
  have fin : (¬ (k : Int) < es.length ∨ ¬ n < 1048576) → TextsR es (nth (put env 1 (i64 n)) 1) := fun hh => by
    simp only [nth_puts, e0]
    refine ⟨n, rfl, hn.1, hn.2, fun hlt s hm => ?_⟩
    obtain ⟨i, hi, he⟩ := List.getElem_of_mem hm
    exact hall i hi (by omega) s he
  refine ⟨fun g1 => ⟨fun g2 => ?_, fun g2 => ?_⟩, fun g1 => ?_⟩
  · obtain ⟨s, he, hsl⟩ := hs _ (List.getElem_mem (show k < es.length by omega))
    have hix : ∀ (H : Heap) (Q : AV → Prop), ixv (.ld1 hh) 1 v (.int .i64 k) H Q = Q (.str s) := fun H Q => by
      rw [hv.ix1 (k := .i64) (n := (k : Int)) (by omega) (by omega) (by simp only [Int.toNat_natCast]; rw [he]; rfl) H Q]
      simp only [Int.toNat_natCast]; rw [he]
    have hk1 : IntKind.i64.wrap ((k : Int) + 1) = ((k + 1 : Nat) : Int) := by rw [wrap_i64 (by omega) (by omega)]; omega
    have hw : IntKind.i64.wrap (n + s.length) = n + s.length := wrap_i64 (by omega) (by omega)
    simp only [go_sem, hix, hw, hk1, nth_puts, length_put, e0, e1, e2, e3, Nat.reduceEqDiff, ↓reduceIte, Nat.reduceLT]
    refine ⟨k + 1, by omega, by omega, n + s.length, by omega, fun i hi hik s' he' => ?_, rfl, rfl⟩
    by_cases hlt : i < k
    · have := hall i hi hlt s' he'; omega
    · obtain rfl : i = k := by omega
      rw [he] at he'
      injection he' with he'
      subst he'
      omega
  · exact fin (.inr g2)
  · exact fin (.inl g1)

theorem tokw8_ok (h : Hv8T tbl) {v : AV} {l : List Tok} (hv : ToksAre v l) (hz : szToks l) : PuR tbl 59 [v] Small := by
  have hle := hv.le
  refine pu_of h.h59 w59 rfl rfl ?_
  simp only [x59, go_sem, hv.len]
  refine wLoop_wf x59l0.eq_1 (fun k : Nat => l.length - k) (fun k env H O => H = [] ∧ O = [] ∧ k ≤ l.length ∧ ∃ n : Int, (0 ≤ n ∧ n ≤ 562949953421312) ∧ env.length = 4 ∧ nth env 0 = v ∧ nth env 2 = i64 n ∧ nth env 3 = i64 k) ?_ 0 _ [] [] ⟨rfl, rfl, by omega, l.length, by omega, rfl, rfl, rfl, rfl⟩
  rintro k env H O ⟨rfl, rfl, hk, n, hn, e0, e1, e2, e3⟩
  simp only [go_sem, e0, e1, e2, e3, hv.len]
  have fin : Small (nth (put env 1 (i64 n)) 1) := by simp only [nth_puts, e0]; exact ⟨n, rfl, hn.1, hn.2⟩
  refine ⟨fun g1 => ⟨fun g2 => ?_, fun g2 => ?_⟩, fun g1 => ?_⟩
  · have hkl : k < l.length := by omega
    have hia := hv.ia hkl
    have hsl := hz _ (List.getElem_mem hkl)
    have hk1 : IntKind.i64.wrap ((k : Int) + 1) = ((k + 1 : Nat) : Int) := by rw [wrap_i64 (by omega) (by omega)]; omega
    generalize l[k] = t at *
    have hq : (t.text.length : Int).tdiv 4 = ((t.text.length / 4 : Nat) : Int) := by rw [Int.tdiv_eq_ediv_of_nonneg (by omega)]; rfl
    have hq4 : t.text.length / 4 ≤ t.text.length := Nat.div_le_self _ _
    have hw0 : IntKind.i64.wrap ((t.text.length / 4 : Nat) : Int) = ((t.text.length / 4 : Nat) : Int) := wrap_i64 (by omega) (by omega)
    have hw : IntKind.i64.wrap (n + ((t.text.length / 4 : Nat) : Int)) = n + ((t.text.length / 4 : Nat) : Int) := wrap_i64 (by omega) (by omega)
    simp only [go_sem, hia, hq, hw0, hw, hk1, nth_puts, length_put, e0, e1, e2, e3, Nat.reduceEqDiff, ↓reduceIte, Nat.reduceLT, show ¬ (4 : Int) = 0 by omega, if_false]
    exact ⟨k + 1, by omega, by omega, n + ((t.text.length / 4 : Nat) : Int), by omega, rfl, rfl⟩
  · exact fin
  · exact fin

def HeavyR (ss : List AV) (r : AV) : Prop := ∃ b, r = .bool b ∧ (b = false → ∀ s, AV.str s ∈ ss → s.length ≤ 7207)

theorem heavy8x_ok (h : Hv8T tbl) {vT vS : AV} {tt ss : List AV} (hT : IsSl 1 vT tt) (hTT : IsTT tt) (hS : IsSl 1 vS ss) (hSS : IsSS ss) : PuR tbl 47 [.agg [vS, vT]] (HeavyR ss) := by
  have hle := hT.le
  refine pu_of h.h47 w47 rfl rfl ?_
  simp only [x47, go_sem, hT.len]
  refine call_pu (texts8_ok h hS hSS) ?_
  rintro r ⟨m, rfl, hm0, hm1, hmx⟩
  have hq : m.tdiv 8 = m / 8 := Int.tdiv_eq_ediv_of_nonneg hm0
  have hw0 : IntKind.i64.wrap (m / 8) = m / 8 := wrap_i64 (by omega) (by omega)
  have hw : IntKind.i64.wrap ((tt.length : Int) + m / 8) = (tt.length : Int) + m / 8 := wrap_i64 (by omega) (by omega)
  simp only [go_sem, hq, hw0, hw, show ¬ (8 : Int) = 0 by omega, if_false]
  refine wLoop_wf x47l0.eq_1 (fun k : Nat => tt.length - k) (fun k env H O => H = [] ∧ O = [] ∧ k ≤ tt.length ∧ ∃ n : Int, (0 ≤ n ∧ n ≤ 1125899906842624) ∧ m / 8 ≤ n ∧ env.length = 5 ∧ nth env 1 = .agg [vS, vT] ∧ nth env 3 = i64 n ∧ nth env 4 = i64 k) ?_ 0 _ [] [] ⟨rfl, rfl, by omega, _, ⟨by omega, by omega⟩, by omega, rfl, rfl, rfl, rfl⟩
  rintro k env H O ⟨rfl, rfl, hk, n, hn, hmn, e0, e1, e2, e3⟩
  simp only [go_sem, e0, e1, e2, e3, hT.len, Nat.reduceAdd, Nat.reduceLeDiff]
  have fin : HeavyR ss (nth (put env 2 (.bool (decide (n > 900)))) 2) := by
    refine ⟨_, by simp only [nth_puts, e0]; rfl, fun hb s hs => ?_⟩
    simp at hb
    have := hmx (by omega) s hs
    omega
  refine ⟨fun g1 => ⟨fun g2 => ?_, fun g2 => fin⟩, fun g1 => fin⟩
  obtain ⟨x, l, hx, hz, -, hix⟩ := hT.ixT hTT (i := k) (by omega)
  simp only [go_sem, hix]
  refine call_pu (tokw8_ok h hx hz) ?_
  rintro r ⟨m2, rfl, hm2⟩
  have hk1 : IntKind.i64.wrap ((k : Int) + 1) = ((k + 1 : Nat) : Int) := by rw [wrap_i64 (by omega) (by omega)]; omega
  have hw2 : IntKind.i64.wrap (n + m2) = n + m2 := wrap_i64 (by omega) (by omega)
  simp only [go_sem, hw2, hk1, nth_puts, length_put, e0, e1, e2, e3, Nat.reduceEqDiff, ↓reduceIte, Nat.reduceLT]
  exact ⟨k + 1, by omega, by omega, n + m2, by omega, by omega, rfl, rfl⟩

theorem num_ok (h : tbl 281 = some (flatF x281)) (n : Int) : PuR tbl 281 [i64 n] (· = i64 n) := by
  refine pu_of h w281 rfl rfl ?_
  simp [x281, go_sem]

end
end M2
end
section
namespace M2
open Go
noncomputable section
variable {tbl : Nat → Option AFunc}

theorem prim0_run {i : Nat} (hi : tbl i = some primTrue) : PuR tbl i [] (· = .bool true) := by
  refine pr_pu fun t n => ?_
  unfold callA
  rw [hi]
  simp only [argsIn, primTrue]
  have e : ev tbl (n + 1) (.reg [⟨some (pth 3 0), none, .mv (.c (.bool true))⟩]) Fr.nil t.enter = .norm (Fr.nil.put (pth 3 0) (.bool true)) t.enter := rfl
  rw [e]
  simp only [afterBody, resultsOf, resultOf, packed]
  rw [Fr.get_put, if_pos rfl]

theorem ask8_of {cs : List AV} (h : TyR ask8Ty cs) : ∃ vT vS tt ss, cs = [vS, vT] ∧ IsSl 1 vT tt ∧ IsTT tt ∧ IsSl 1 vS ss ∧ IsSS ss ∧ tt.length * 24 ≤ 140737488351232 ∧ ss.length * 16 ≤ 140737488351232 := by
  obtain ⟨x1, y1, rfl, -, ⟨vS, ss, rfl, h2, h2b, h2e⟩, x2, y2, rfl, -, ⟨vT, tt, rfl, h1, h1b, h1e⟩, rfl⟩ := h
  refine ⟨vT, vS, tt, ss, rfl, h1, fun x hx => ?_, h2, fun x hx => ?_, h1b, h2b⟩
  · obtain ⟨cs, -, hc, rfl⟩ := h1e x hx
    obtain ⟨v, l, rfl, k1, k2, k3⟩ := toks_of hc
    exact ⟨l, k1, k2, k3⟩
  · obtain ⟨cs, -, ⟨s, hs, rfl⟩, rfl⟩ := h2e x hx
    exact ⟨s, rfl, hs⟩

structure LexTextsT (tbl : Nat → Option AFunc) : Prop extends TxtT tbl, SplT tbl, Hv8T tbl where
  h27 : tbl 27 = some (flatF x27)
  h38 : tbl 38 = some (flatF x38)
  h281 : tbl 281 = some (flatF x281)
  h282 : tbl 282 = some primTrue
structure LexTextsH (tbl : Nat → Option AFunc) : Prop extends LexTextsT tbl where
  h559 : tbl 559 = some (flatF x559)

theorem lt_loop0 (h : LexTextsT tbl) {vT vS : AV} {es : List AV} (hv : IsSl 1 vT es) (ht : IsTT es) {O0 : Rows} {Q : XR → Prop}
    (hx : ∀ env O, env.length = 16 → nth env 1 = .agg [vS, vT] → nth env 2 = .bool false → Q (.exit 0 env [] O)) (env : List AV) (O : Rows)
    (he : env.length = 16 ∧ nth env 1 = .agg [vS, vT] ∧ nth env 2 = .bool false ∧ nth env 3 = i64 0) : wLoop (wpc tbl x559l0) env [] O Q := by
  have hle := hv.le
  refine wLoop_up x559l0.eq_1 (min es.length 8) (fun i env H O => H = [] ∧ env.length = 16 ∧ nth env 1 = .agg [vS, vT] ∧ nth env 2 = .bool false ∧ nth env 3 = i64 i) ?_ ?_ 0 env [] O (by omega) ⟨rfl, he⟩
  · rintro i env H O hi' ⟨rfl, e0, e1, e2, e3⟩
    have hi : i < es.length := by omega
    have g1 : (i : Int) < es.length := by omega
    have g2 : (i : Int) < 8 := by omega
    have hk1 : IntKind.i64.wrap ((i : Int) + 1) = ((i + 1 : Nat) : Int) := by rw [wrap_i64 (by omega) (by omega)]; omega
    obtain ⟨tv, toks, tt, tz, tb, hix⟩ := hv.ixT ht hi
    simp only [go_sem, e0, e1, e2, e3, hv.len, g1, g2, decide_true, hix, Nat.reduceAdd, Nat.reduceLeDiff, Nat.reduceLT, ↓reduceIte, and_self]
    refine call_puO (copyT_ok h.h27 tt tb) ?_
    intro r7 _ O1 h7 _
    have t7 : ToksAre r7 toks := h7.sl
    simp only [go_sem, nth_puts, length_put, e0, e1, e2, e3, Nat.reduceEqDiff, ↓reduceIte, Nat.reduceLT]
    refine call_pu (text_ok h.toTxtT t7 tz) ?_
    rintro q rfl
    have he3 := eqtoks_ok h.h38 t7 tt
    cases ho : toksOk toks
    · simp only [go_sem, Bool.false_eq_true, nth_puts, length_put, e0, e1, e2, e3, hix, Nat.reduceEqDiff, ↓reduceIte, Nat.reduceLT, Nat.reduceAdd, Nat.reduceLeDiff, and_self]
      refine call_pu (rtokens_ok h.toRLexT tt tz) ?_
      rintro q rfl
      rw [ho]
      simp only [go_sem, Bool.false_eq_true, nth_puts, length_put, e0, e1, e2, e3, hix, Nat.reduceEqDiff, ↓reduceIte, Nat.reduceLT, Nat.reduceAdd, Nat.reduceLeDiff, and_self]
      refine call_pu (check_ok h.toTxtT t7 tz) ?_
      rintro q rfl
      rw [ho]
      simp only [go_sem, Bool.false_eq_true, nth_puts, length_put, e0, e1, e2, e3, hix, Nat.reduceEqDiff, ↓reduceIte, Nat.reduceLT, Nat.reduceAdd, Nat.reduceLeDiff, and_self, decide_true, decide_false, not_true_eq_false, ne_eq]
      refine call_pu (num_ok h.h281 _) ?_
      rintro q rfl
      simp only [go_sem, Bool.false_eq_true, nth_puts, length_put, e0, e1, e2, e3, hix, Nat.reduceEqDiff, ↓reduceIte, Nat.reduceLT, Nat.reduceAdd, Nat.reduceLeDiff, and_self, decide_true, decide_false, not_true_eq_false, ne_eq]
      refine call_pu (num_ok h.h281 _) ?_
      rintro q rfl
      simp only [go_sem, Bool.false_eq_true, nth_puts, length_put, e0, e1, e2, e3, hix, Nat.reduceEqDiff, ↓reduceIte, Nat.reduceLT, Nat.reduceAdd, Nat.reduceLeDiff, and_self, decide_true, decide_false, not_true_eq_false, ne_eq]
      refine call_pu he3 ?_
      rintro q rfl
      simp only [go_sem, Bool.false_eq_true, nth_puts, length_put, e0, e1, e2, e3, hix, Nat.reduceEqDiff, ↓reduceIte, Nat.reduceLT, Nat.reduceAdd, Nat.reduceLeDiff, and_self, decide_true, decide_false, not_true_eq_false, ne_eq]
      exact ⟨(fun hh => by cases hh), fun _ => by rw [hk1]⟩
    · simp only [go_sem, nth_puts, length_put, e0, e1, e2, e3, hix, Nat.reduceEqDiff, ↓reduceIte, Nat.reduceLT, Nat.reduceAdd, Nat.reduceLeDiff, and_self]
      refine call_pu (rtokens_ok h.toRLexT tt tz) ?_
      rintro q rfl
      rw [ho]
      simp only [go_sem, nth_puts, length_put, e0, e1, e2, e3, hix, Nat.reduceEqDiff, ↓reduceIte, Nat.reduceLT, Nat.reduceAdd, Nat.reduceLeDiff, and_self]
      refine call_pu (rtext_ok h.toTxtT t7 ho) ?_
      rintro q rfl
      simp only [go_sem, nth_puts, length_put, e0, e1, e2, e3, hix, Nat.reduceEqDiff, ↓reduceIte, Nat.reduceLT, Nat.reduceAdd, Nat.reduceLeDiff, and_self]
      refine call_pu (check_ok h.toTxtT t7 tz) ?_
      rintro q rfl
      rw [ho]
      simp only [go_sem, Bool.false_eq_true, nth_puts, length_put, e0, e1, e2, e3, hix, Nat.reduceEqDiff, ↓reduceIte, Nat.reduceLT, Nat.reduceAdd, Nat.reduceLeDiff, and_self, decide_true, decide_false, not_true_eq_false, ne_eq]
      refine call_pu (num_ok h.h281 _) ?_
      rintro q rfl
      simp only [go_sem, Bool.false_eq_true, nth_puts, length_put, e0, e1, e2, e3, hix, Nat.reduceEqDiff, ↓reduceIte, Nat.reduceLT, Nat.reduceAdd, Nat.reduceLeDiff, and_self, decide_true, decide_false, not_true_eq_false, ne_eq]
      refine call_pu (num_ok h.h281 _) ?_
      rintro q rfl
      simp only [go_sem, Bool.false_eq_true, nth_puts, length_put, e0, e1, e2, e3, hix, Nat.reduceEqDiff, ↓reduceIte, Nat.reduceLT, Nat.reduceAdd, Nat.reduceLeDiff, and_self, decide_true, decide_false, not_true_eq_false, ne_eq]
      refine call_pu he3 ?_
      rintro q rfl
      simp only [go_sem, Bool.false_eq_true, nth_puts, length_put, e0, e1, e2, e3, hix, Nat.reduceEqDiff, ↓reduceIte, Nat.reduceLT, Nat.reduceAdd, Nat.reduceLeDiff, and_self, decide_true, decide_false, not_true_eq_false, ne_eq]
      exact ⟨(fun hh => by cases hh), fun _ => by rw [hk1]⟩
  · rintro env H O ⟨rfl, e0, e1, e2, e3⟩
    simp only [go_sem, e0, e1, e2, e3, hv.len, Nat.reduceAdd, Nat.reduceLeDiff, Nat.reduceLT, ↓reduceIte, and_self]
    exact ⟨fun g1 => ⟨fun g2 => absurd g2 (by omega), fun _ => hx _ _ e0 e1 e2⟩, fun _ => hx _ _ e0 e1 e2⟩

theorem lt_loop1 (h : LexTextsT tbl) {vT vS : AV} {es : List AV} (hv : IsSl 1 vS es) (hs : IsSS es) (hb : ∀ s, AV.str s ∈ es → s.length ≤ 7207) {Q : XR → Prop}
    (hx : ∀ env O, env.length = 16 → nth env 2 = .bool false → Q (.exit 2 env [] O)) (env : List AV) (O : Rows)
    (he : env.length = 16 ∧ nth env 1 = .agg [vS, vT] ∧ nth env 2 = .bool false ∧ nth env 9 = i64 0) : wLoop (wpc tbl x559l1) env [] O Q := by
  have hle := hv.le
  refine wLoop_up x559l1.eq_1 (min es.length 8) (fun i env H O => H = [] ∧ env.length = 16 ∧ nth env 1 = .agg [vS, vT] ∧ nth env 2 = .bool false ∧ nth env 9 = i64 i) ?_ ?_ 0 env [] O (by omega) ⟨rfl, he⟩
  · rintro i env H O hi' ⟨rfl, e0, e1, e2, e3⟩
    have hi : i < es.length := by omega
    have g1 : (i : Int) < es.length := by omega
    have g2 : (i : Int) < 8 := by omega
    have hk1 : IntKind.i64.wrap ((i : Int) + 1) = ((i + 1 : Nat) : Int) := by rw [wrap_i64 (by omega) (by omega)]; omega
    obtain ⟨s, hes, hsl⟩ := hs _ (List.getElem_mem hi)
    have hs7 := hb s (by rw [← hes]; exact List.getElem_mem hi)
    have hix : ∀ (H : Heap) (Q : AV → Prop), ixv (.ld1 hh) 1 vS (.int .i64 i) H Q = Q (.str s) := fun H Q => by
      rw [hv.ix1 (k := .i64) (n := (i : Int)) (by omega) (by omega) (by simp only [Int.toNat_natCast]; rw [hes]; rfl) H Q]
      simp only [Int.toNat_natCast]; rw [hes]
    simp only [go_sem, e0, e1, e2, e3, hv.len, g1, g2, decide_true, hix, Nat.reduceAdd, Nat.reduceLeDiff, Nat.reduceLT, ↓reduceIte, and_self]
    refine call_pu (split_ok h.toSplT (by omega)) ?_
    intro q hq
    rcases hq with ⟨q1, q2, v1, rfl, hv1⟩ | ⟨q1, rfl⟩
    · simp only [go_sem, nth_puts, length_put, e0, e1, e2, e3, hix, Nat.reduceEqDiff, ↓reduceIte, Nat.reduceLT, Nat.reduceAdd, Nat.reduceLeDiff, and_self]
      refine call_pu (rsplit_ok h.toSplT hsl) ?_
      intro q hq
      rcases hq with ⟨-, v2, rfl, hv2⟩ | ⟨q3, rfl⟩
      · rw [decide_eq_true q2]
        simp only [go_sem, nth_puts, length_put, e0, e1, e2, e3, hix, Nat.reduceEqDiff, ↓reduceIte, Nat.reduceLT, Nat.reduceAdd, Nat.reduceLeDiff, and_self]
        refine call_pu (num_ok h.h281 _) ?_
        rintro q rfl
        simp only [go_sem, nth_puts, length_put, e0, e1, e2, e3, hix, Nat.reduceEqDiff, ↓reduceIte, Nat.reduceLT, Nat.reduceAdd, Nat.reduceLeDiff, and_self]
        refine ⟨fun hh => absurd hh (by simp), fun _ => ⟨fun hh => absurd hh (by simp), fun _ => ?_⟩⟩
        refine call_pu (eqstr_ok h.toSplT hv1 hv2) ?_
        rintro q rfl
        simp only [go_sem, nth_puts, length_put, e0, e1, e2, e3, hix, Nat.reduceEqDiff, ↓reduceIte, Nat.reduceLT, Nat.reduceAdd, Nat.reduceLeDiff, and_self]
        refine ⟨fun hh => absurd hh (by simp), fun _ => by rw [hk1]⟩
      · exact absurd q1 q3
    · simp only [go_sem, nth_puts, length_put, e0, e1, e2, e3, hix, Nat.reduceEqDiff, ↓reduceIte, Nat.reduceLT, Nat.reduceAdd, Nat.reduceLeDiff, and_self]
      refine call_pu (rsplit_ok h.toSplT hsl) ?_
      intro q hq
      have hq' : ∃ v2, q = .tup [v2, .bool false] := by
        rcases hq with ⟨q3, v2, rfl, hv2⟩ | ⟨q3, rfl⟩
        · rw [decide_eq_false (fun hh => q1 ⟨q3, hh⟩)]; exact ⟨_, rfl⟩
        · exact ⟨_, rfl⟩
      obtain ⟨v2, rfl⟩ := hq'
      simp only [go_sem, nth_puts, length_put, e0, e1, e2, e3, hix, Nat.reduceEqDiff, ↓reduceIte, Nat.reduceLT, Nat.reduceAdd, Nat.reduceLeDiff, and_self]
      refine call_pu (num_ok h.h281 _) ?_
      rintro q rfl
      simp only [go_sem, nth_puts, length_put, e0, e1, e2, e3, hix, Nat.reduceEqDiff, ↓reduceIte, Nat.reduceLT, Nat.reduceAdd, Nat.reduceLeDiff, and_self]
      refine ⟨fun hh => absurd hh (by simp), fun _ => ⟨fun _ => ?_, fun _ => by rw [hk1]⟩⟩
      refine call_pu (num_ok h.h281 _) ?_
      rintro q rfl
      simp only [go_sem, nth_puts, length_put, e0, e1, e2, e3, hix, Nat.reduceEqDiff, ↓reduceIte, Nat.reduceLT, Nat.reduceAdd, Nat.reduceLeDiff, and_self, hk1]
      try simp
  · rintro env H O ⟨rfl, e0, e1, e2, e3⟩
    simp only [go_sem, e0, e1, e2, e3, hv.len, Nat.reduceAdd, Nat.reduceLeDiff, Nat.reduceLT, ↓reduceIte, and_self]
    exact ⟨fun g1 => ⟨fun g2 => absurd g2 (by omega), fun _ => hx _ _ e0 e2⟩, fun _ => hx _ _ e0 e2⟩

theorem b2s_zeros (n : Nat) : bytesA (List.replicate n (.int .u8 (Int.ofNat 0))) = some (List.replicate n 0) := by
  induction n with
  | zero => rfl
  | succ n ih =>
    rw [List.replicate_succ, List.replicate_succ]
    show (match bytesA (List.replicate n (.int .u8 (Int.ofNat 0))) with | some r => some (UInt8.ofNat 0 :: r) | none => none) = _
    rw [ih]
    rfl
section
variable {dr : Bool} {H : Heap} {O : Rows} {Q : AV → Heap → Rows → Prop} {l c : Opd}
@[go_sem] theorem wo_mkS (e b : Nat) (z : AV) (n m : Int) : wpo tbl dr (.mkS e b z l c) [.int .i64 n, .int .i64 m] H O Q = ((0 ≤ n ∧ n ≤ m ∧ b * m ≤ 2 ^ 48 ∧ m ≤ 2 ^ 48) ∧ ∀ id, id ∉ ids O → Q (.sl id e 0 n.toNat true 0 (List.replicate n.toNat z)) H ((id, n.toNat * e, e) :: O)) := rfl
theorem wo_b2s0 (id : Nat) (n : Nat) (os : List Opd) : wpo tbl dr (.mem .b2s os) [.sl id 1 0 n true 0 (List.replicate n (.int .u8 (Int.ofNat 0)))] H O Q = Q (.str (List.replicate n 0)) H O := by
  show opt (memV .b2s [.sl id 1 0 n true 0 (List.replicate n (.int .u8 (Int.ofNat 0)))]) _ = _
  have e : memV .b2s [.sl id 1 0 n true 0 (List.replicate n (.int .u8 (Int.ofNat 0)))] = some (.str (List.replicate n 0)) := by
    show (match (match bytesA (List.replicate n (.int .u8 (Int.ofNat 0))) with | some s => OR.ok (.str s) (⟨0, [], []⟩ : T) | none => .fail) with | .ok v _ => some v | .fail => none) = _
    rw [b2s_zeros]
  rw [e, opt_some]
end

theorem lextexts_law (h : LexTextsH tbl) {cs : List AV} (hc : TyR ask8Ty cs) : PuR tbl 559 [.agg cs] (· = .bool true) := by
  obtain ⟨vT, vS, tt, ss, rfl, hT, hTT, hS, hSS, -, -⟩ := ask8_of hc
  refine pu_of h.h559 w559 rfl rfl ?_
  simp only [x559, go_sem, Nat.reduceAdd, Nat.reduceLeDiff]
  refine call_pu (heavy8x_ok h.toHv8T hT hTT hS hSS) ?_
  rintro q ⟨b, rfl, hb⟩
  cases b
  · simp only [go_sem, Nat.reduceAdd, Nat.reduceLeDiff]
    refine lt_loop0 h.toLexTextsT (vS := vS) hT hTT (O0 := []) ?_ _ _ ⟨rfl, rfl, rfl, rfl⟩
    intro env O e0 e1 e2
    simp only [go_sem, nth_puts, length_put, e0, e1, e2, Nat.reduceEqDiff, ↓reduceIte, Nat.reduceLT, Nat.reduceAdd, Nat.reduceLeDiff, and_self]
    refine lt_loop1 h.toLexTextsT (vT := vT) hS hSS (hb rfl) ?_ _ _ ⟨by simp [length_put, e0], by simp [nth_puts, e0, e1], by simp [nth_puts, e0, e2], by simp [nth_puts, e0]⟩
    intro env O e0 e2
    simp only [go_sem, nth_puts, length_put, e0, e2, Nat.reduceEqDiff, ↓reduceIte, Nat.reduceLT, Nat.reduceAdd, Nat.reduceLeDiff, and_self]
    refine ⟨by decide, fun id _ => ?_⟩
    have hn : Int.toNat 4001 = 4001 := rfl
    generalize Int.toNat 4001 = n at hn ⊢
    refine cast (wo_b2s0 id n []).symm ?_
    have hl : (List.replicate n (0 : UInt8)).length = n := List.length_replicate
    generalize List.replicate n (0 : UInt8) = z at hl ⊢
    refine call_pu (split_ok h.toSplT (by omega)) ?_
    intro q hq
    rcases hq with ⟨q1, -⟩ | ⟨-, rfl⟩
    · omega
    · simp only [go_sem]
      refine call_pu (num_ok h.h281 _) ?_
      rintro q rfl
      simp only [go_sem]
      refine call_pu (prim0_run h.h282) ?_
      rintro q rfl
      rfl
  · simp only [go_sem]

end
end M2
end
section
namespace M2
open Go
noncomputable section
variable {tbl : Nat → Option AFunc}

/-! ### The words of words' text -/

structure WordT (tbl : Nat → Option AFunc) : Prop extends NumbT tbl, LexT tbl where
  h280 : tbl 280 = some (flatF x280)
  h283 : tbl 283 = some (flatF x283)
  h284 : tbl 284 = some (flatF x284)
  h285 : tbl 285 = some (flatF x285)
  h287 : tbl 287 = some (flatF x287)
  h291 : tbl 291 = some (flatF x291)

def blk8 (c : UInt8) : Bool := decide ((c.toNat : Int) = 32 ∨ (c.toNat : Int) = 9)
/-- what may come behind a word -/
def Gap (u : List UInt8) : Prop := u = [] ∨ ∃ c r, u = c :: r ∧ blk8 c = true

theorem spanN_app {p : UInt8 → Bool} {u : List UInt8} (hu : u = [] ∨ ∃ c r, u = c :: r ∧ p c = false) : ∀ {a : List UInt8}, (∀ c ∈ a, p c = true) → spanN p (a ++ u) = a.length
  | [], _ => by
    rcases hu with rfl | ⟨c, r, rfl, hc⟩
    · rfl
    · show (List.takeWhile p (c :: r)).length = 0
      rw [List.takeWhile_cons, hc]; rfl
  | x :: a, h => by
    have hx := h x List.mem_cons_self
    have ih := spanN_app hu (a := a) fun c hc => h c (List.mem_cons_of_mem _ hc)
    unfold spanN at ih ⊢
    rw [List.cons_append, List.takeWhile_cons, hx]
    simpa using ih

theorem blank_ok (h : tbl 284 = some (flatF x284)) (c : UInt8) : PuR tbl 284 [chV c] (· = .bool (blk8 c)) := by
  refine pu_of h w284 rfl rfl ?_
  simp only [x284, go_sem]
  unfold blk8
  generalize (c.toNat : Int) = n
  refine ⟨fun h1 => by simp [h1], fun h1 => ?_⟩
  simp [h1]

theorem ofNat48 {d : Nat} (h : d < 10) : (UInt8.ofNat (48 + d)).toNat = 48 + d := by
  rw [UInt8.toNat_ofNat']
  omega
theorem dig_ofNat {d : Nat} (h : d < 10) : dig8 (UInt8.ofNat (48 + d)) = true := by
  unfold dig8
  rw [ofNat48 h]
  unfold digI
  simp
  omega
theorem dv_ofNat {d : Nat} (h : d < 10) : dv (UInt8.ofNat (48 + d)) = d := by
  unfold dv
  rw [if_pos (dig_ofNat h), ofNat48 h]
  omega
theorem dig_decA : ∀ (f n : Nat), ∀ c ∈ decA f n, dig8 c = true
  | 0, _, c, h => by simp [decA] at h
  | f + 1, n, c, h => by
    unfold decA at h
    cases hb : Nat.blt n 10 with
    | true =>
      rw [hb] at h
      have hn : n < 10 := Nat.le_of_ble_eq_true hb
      simp only [List.mem_singleton] at h
      rw [h]; exact dig_ofNat hn
    | false =>
      rw [hb] at h
      simp only [List.mem_append, List.mem_singleton] at h
      rcases h with h | h
      · exact dig_decA f _ c h
      · rw [h]; exact dig_ofNat (Nat.mod_lt _ (by decide))
theorem big_snoc (base n : Int) (c : UInt8) : ∀ (s : List UInt8) (n : Int), big base n (s ++ [c]) = big base n s * base + dv c
  | [], n => rfl
  | x :: s, n => big_snoc base n c s (n * base + dv x)
theorem big_decA : ∀ (f n : Nat), n < 10 ^ f → f ≠ 0 → big 10 0 (decA f n) = n
  | 0, n, _, h0 => absurd rfl h0
  | f + 1, n, h, _ => by
    unfold decA
    cases hb : Nat.blt n 10 with
    | true =>
      have hn : n < 10 := Nat.le_of_ble_eq_true hb
      show (0 : Int) * 10 + dv (UInt8.ofNat (48 + n)) = n
      rw [dv_ofNat hn]; omega
    | false =>
      have hn : ¬ n < 10 := fun hh => by
        have : Nat.blt n 10 = true := Nat.ble_eq_true_of_le hh
        rw [hb] at this; cases this
      show big 10 0 (decA f (n / 10) ++ [UInt8.ofNat (48 + n % 10)]) = n
      have hf : n / 10 < 10 ^ f := by rw [Nat.pow_succ] at h; omega
      have hf0 : f ≠ 0 := by rintro rfl; simp at hf; omega
      rw [big_snoc 10 0, big_decA f _ hf hf0, dv_ofNat (Nat.mod_lt _ (by decide))]
      omega
theorem decA_ne : ∀ (f n : Nat), f ≠ 0 → decA f n ≠ []
  | 0, _, h => absurd rfl h
  | f + 1, n, _ => by
    unfold decA
    cases Nat.blt n 10 <;> simp

theorem pint_ok (h : NumbT tbl) {m : Nat} (hm : m ≤ 2147483647) : PuR tbl 294 [.str (decA 10 m), i64 10, i64 64] (· = .tup [i64 m, .nili]) := by
  have hl := decA_len 10 m
  refine pu_of h.h294 w294 rfl rfl ?_
  simp only [x294, go_sem]
  refine call_pu (int303_ok h (by omega) (.inl rfl) fun c hc => .inl (dig_decA 10 m c hc)) ?_
  rintro r rfl
  unfold intR
  rw [if_neg (decA_ne 10 m (by decide)), big_decA 10 m (Nat.lt_of_le_of_lt hm (by decide)) (by decide), if_pos (by omega)]
  simp only [go_sem]

theorem pre_no (h : NumbT tbl) {s : List UInt8} (hs : s.length ≤ 140737488351232) (hp : s.take 2 ≠ [48, 120]) : PuR tbl 292 [.str s, .str [48, 120]] (· = .bool false) := by
  refine pu_of h.h292 w292 rfl rfl ?_
  simp only [x292, go_sem]
  have : PuR tbl 302 [.str s, .str [48, 120]] (· = .bool false) := by
    refine pu_of h.h302 w302 rfl rfl ?_
    have hsl := fun h2 => slS_hi s .i64 (n := 2) h2
    by_cases h2 : 2 ≤ s.length
    · have hsl := hsl h2
      simp only [x302, go_sem, List.length_cons, List.length_nil]
      intro _
      change opt (pureV (.slS hh none (some hh)) [.str s, .int .i64 ((2 : Nat) : Int)]) _
      rw [hsl]
      simp only [go_sem, hp, decide_false]
    · simp only [x302, go_sem, List.length_cons, List.length_nil]
      exact fun g => absurd g (by omega)
  refine call_pu this ?_
  rintro r rfl
  rfl

theorem number_ok (h : NumbT tbl) {m : Nat} (hm : m ≤ 2147483647) {u : List UInt8} (hu : Gap u) (hul : u.length ≤ 70368744177664) : PuR tbl 288 [.str (decA 10 m ++ u)] (· = .tup [i64 m, i64 ((decA 10 m).length : Nat)]) := by
  have hl := decA_len 10 m
  have hne := decA_ne 10 m (by decide)
  have hpos : 0 < (decA 10 m).length := List.length_pos_iff.mpr hne
  have hd := dig_decA 10 m
  have hlen : (decA 10 m ++ u).length ≤ 140737488351232 := by rw [List.length_append]; omega
  have hgap : u = [] ∨ ∃ c r, u = c :: r ∧ dig8 c = false := by
    rcases hu with rfl | ⟨c, r, rfl, hc⟩
    · exact .inl rfl
    · refine .inr ⟨c, r, rfl, ?_⟩
      unfold blk8 at hc
      unfold dig8 digI
      simp at hc ⊢
      omega
  have hsp : spanN dig8 (decA 10 m ++ u) = (decA 10 m).length := spanN_app hgap hd
  have hnp : (decA 10 m ++ u).take 2 ≠ [48, 120] := by
    cases he : decA 10 m with
    | nil => exact absurd he hne
    | cons c r =>
      rw [he] at hd
      cases r with
      | nil =>
        rcases hgap with rfl | ⟨c', r', rfl, hc'⟩
        · simp
        · intro hh
          have : c' = 120 := by simpa using (List.cons.inj (List.cons.inj hh).2).1
          rcases hu with hu | ⟨c2, r2, hu, hc2⟩
          · cases hu
          · obtain ⟨rfl, -⟩ := List.cons.inj hu
            subst this
            revert hc2; decide
      | cons d r =>
        intro hh
        have : d = 120 := by simpa using (List.cons.inj (List.cons.inj hh).2).1
        have := hd d (by simp)
        subst_vars
        revert this; decide
  have hsl := slS_lh (decA 10 m ++ u) .i64 .i64 (n := 0) (m := (decA 10 m).length) (by omega) (by rw [List.length_append]; omega)
  rw [List.drop_zero, Nat.sub_zero, List.take_left] at hsl
  refine pu_of h.h288 w288 rfl rfl ?_
  simp only [x288, go_sem]
  refine call_pu (span_ok h.h86 hlen fun c => digit_ok h.h95 c) ?_
  rintro r rfl
  rw [hsp]
  try simp only [go_sem]
  refine call_pu (pre_no h hlen hnp) ?_
  rintro r rfl
  simp only [go_sem]
  change opt (pureV (.slS hh (some hh) (some hh)) [.str (decA 10 m ++ u), .int .i64 ((0 : Nat) : Int), .int .i64 ((decA 10 m).length : Nat)]) _
  rw [hsl, opt_some]
  refine call_pu (pint_ok h hm) ?_
  rintro r rfl
  simp only [go_sem]
  exact fun g => absurd g (by omega)

end
end M2
end
section
namespace M2
open Go
noncomputable section
variable {tbl : Nat → Option AFunc}

theorem ixb_ok (h99 : tbl 99 = some (flatF x99)) (s : List UInt8) (c : UInt8) : PuR tbl 99 [.str s, chV c] (· = i64 (ixGo s c.toNat 0)) := by
  refine pu_of h99 w99 rfl rfl ?_
  simp only [x99, go_sem]
  have : pureV (.ixb hh hh) [.str s, .int .u8 c.toNat] = some (i64 (ixGo s c.toNat 0)) := by
    show (opIxb (.c (.str s)) (.c (.int .u8 (Int.ofNat c.toNat))) noCall .nil ⟨0, [], []⟩).val = _
    unfold opIxb
    show (Bool.rec .fail (.ok (.int .i64 (ixGo s c.toNat 0)) ⟨0, [], []⟩) (Nat.blt c.toNat 256) : OR).val = _
    rw [show Nat.blt c.toNat 256 = true from Nat.ble_eq_true_of_le c.toNat_lt]
    rfl
  rw [this]
  rfl
theorem ixGo_none : ∀ (s : List UInt8) (i : Nat), (∀ c ∈ s, c.toNat ≠ 10) → ixGo s 10 i = -1
  | [], _, _ => rfl
  | b :: l, i, h => by
    have hb := h b List.mem_cons_self
    have : Nat.beq b.toNat 10 = false := by
      cases hh : Nat.beq b.toNat 10 with
      | false => rfl
      | true => exact absurd (Nat.eq_of_beq_eq_true hh) hb
    show Bool.rec (ixGo l 10 (i + 1)) (Int.ofNat i) (Nat.beq b.toNat 10) = -1
    rw [this]
    exact ixGo_none l (i + 1) fun c hc => h c (List.mem_cons_of_mem _ hc)

theorem nonl_ok (h : WordT tbl) {s : List UInt8} (hs : ∀ c ∈ s, c.toNat ≠ 10) : PuR tbl 283 [.str s, .str [10]] (· = .bool false) := by
  have hne : ¬ ([10] : List UInt8) = s := by
    rintro rfl
    exact hs 10 (by simp) rfl
  have h1 : PuR tbl 291 [.str s, .str [10]] (· = i64 (-1)) := by
    refine pu_of h.h291 w291 rfl rfl ?_
    simp only [x291, go_sem, List.length_cons, List.length_nil, hne, decide_false]
    refine ⟨fun g => absurd g (by omega), fun _ => ⟨fun _ => ?_, fun g => absurd (by omega) g⟩⟩
    refine call_pu (ixb_ok h.h99 s 10) ?_
    rintro r rfl
    rw [show (10 : UInt8).toNat = 10 from rfl, ixGo_none s 0 hs]
  have h2 : PuR tbl 287 [.str s, .str [10]] (· = i64 (-1)) := by
    refine pu_of h.h287 w287 rfl rfl ?_
    simp only [x287, go_sem]
    refine call_pu h1 ?_
    rintro r rfl
    rfl
  refine pu_of h.h283 w283 rfl rfl ?_
  simp only [x283, go_sem]
  refine call_pu h2 ?_
  rintro r rfl
  rfl

theorem word_name (h : WordT tbl) {c : UInt8} {r : List UInt8} (hb : beg8 c = true) (hall : ((c :: r).all fun c => beg8 c || dig8 c) = true) (hr : r.length < 12) {u : List UInt8} (hu : Gap u) (hul : u.length ≤ 70368744177664) :
    PuR tbl 285 [.str (c :: r ++ u)] (· = .tup [tokV ⟨1, c :: r, 0, 0⟩, i64 ((c :: r).length : Nat)]) := by
  have hlen : (c :: r ++ u).length ≤ 140737488351232 := by rw [List.length_append, List.length_cons]; omega
  have hgap : u = [] ∨ ∃ c r, u = c :: r ∧ (fun c => beg8 c || dig8 c) c = false := by
    rcases hu with rfl | ⟨c, r, rfl, hc⟩
    · exact .inl rfl
    · refine .inr ⟨c, r, rfl, ?_⟩
      unfold blk8 at hc
      unfold dig8 digI beg8 begI lowI
      simp at hc ⊢
      omega
  have hsp := spanN_app hgap (a := c :: r) (by simpa using hall)
  have hsl := slS_hi (c :: (r ++ u)) .i64 (n := r.length + 1) (by simp)
  rw [show c :: (r ++ u) = (c :: r) ++ u from rfl, List.take_left' (by simp)] at hsl
  refine pu_of h.h285 w285 rfl rfl ?_
  simp only [x285, go_sem, List.cons_append]
  refine call_pu (begins_ok h.h85 c) ?_
  rintro q rfl
  rw [hb]
  simp only [go_sem]
  refine call_pu (span_ok h.h86 hlen fun c => follows_ok h.h87 h.h85 h.h95 c) ?_
  rintro q rfl
  rw [show c :: (r ++ u) = (c :: r) ++ u from rfl, hsp]
  have g12 : ¬ (((c :: r).length : Nat) : Int) > 12 := by rw [List.length_cons]; omega
  simp only [go_sem, g12, decide_false, List.length_cons, List.cons_append]
  refine ⟨fun g => absurd g (by omega), fun _ => ?_⟩
  change opt (pureV (.slS hh none (some hh)) [.str (c :: r ++ u), .int .i64 ((r.length + 1 : Nat) : Int)]) _
  rw [hsl, opt_some]
  rfl

theorem gap_no {p : UInt8 → Bool} (hp : ∀ c, blk8 c = true → p c = false) {u : List UInt8} (hu : Gap u) : u = [] ∨ ∃ c r, u = c :: r ∧ p c = false := by
  rcases hu with rfl | ⟨c, r, rfl, hc⟩
  · exact .inl rfl
  · exact .inr ⟨c, r, rfl, hp c hc⟩

theorem beg_dig {c : UInt8} (h : dig8 c = true) : beg8 c = false := by
  unfold dig8 digI at h
  unfold beg8 begI lowI
  simp at h ⊢
  omega
theorem word_num (h : WordT tbl) {m : Nat} (hm : m ≤ 2147483647) {u : List UInt8} (hu : Gap u) (hul : u.length ≤ 70368744177664) :
    PuR tbl 285 [.str (decA 10 m ++ u)] (· = .tup [tokV ⟨2, [], m, 0⟩, i64 ((decA 10 m).length : Nat)]) := by
  have hn := number_ok h.toNumbT hm hu hul
  have hd := dig_decA 10 m
  have hne := decA_ne 10 m (by decide)
  generalize decA 10 m = w at *
  cases w with
  | nil => exact absurd rfl hne
  | cons c r =>
    have hc := hd c List.mem_cons_self
    refine pu_of h.h285 w285 rfl rfl ?_
    simp only [x285, go_sem, List.cons_append]
    refine call_pu (begins_ok h.h85 c) ?_
    rintro q rfl
    rw [beg_dig hc]
    simp only [go_sem]
    refine call_pu (digit_ok h.h95 c) ?_
    rintro q rfl
    rw [hc]
    simp only [go_sem]
    refine call_pu hn ?_
    rintro q rfl
    simp only [go_sem]
    rfl
theorem sgn_no : ∀ c : Fin 256, sgn8 (UInt8.ofFin c) = true → beg8 (UInt8.ofFin c) = false ∧ dig8 (UInt8.ofFin c) = false := by decide +kernel
theorem word_sign (h : WordT tbl) {c : UInt8} (hc : sgn8 c = true) {u : List UInt8} (hul : u.length ≤ 70368744177664) :
    PuR tbl 285 [.str (c :: u)] (· = .tup [tokV ⟨3, [c], 0, 0⟩, i64 1]) := by
  obtain ⟨h1, h2⟩ := sgn_no c.toFin hc
  change beg8 c = false at h1
  change dig8 c = false at h2
  have hsl := slS_hi (c :: u) .i64 (n := 1) (by simp)
  refine pu_of h.h285 w285 rfl rfl ?_
  simp only [x285, go_sem]
  refine call_pu (begins_ok h.h85 c) ?_
  rintro q rfl
  rw [h1]
  simp only [go_sem]
  refine call_pu (digit_ok h.h95 c) ?_
  rintro q rfl
  rw [h2]
  simp only [go_sem]
  refine call_pu (sign_ok h.h88 h.h96 h.h99 c) ?_
  rintro q rfl
  rw [hc]
  simp only [go_sem]
  change opt (pureV (.slS hh none (some hh)) [.str (c :: u), .int .i64 ((1 : Nat) : Int)]) _
  rw [hsl, opt_some]
  rfl

def tok0 (t : Tok) : Tok := ⟨t.kind, t.text, t.n, 0⟩
theorem word_ok (h : WordT tbl) {t : Tok} (ht : tokOk t = true) {u : List UInt8} (hu : Gap u) (hul : u.length ≤ 70368744177664) :
    PuR tbl 285 [.str (tokS t ++ u)] (· = .tup [tokV (tok0 t), i64 ((tokS t).length : Nat)]) := by
  obtain ⟨kind, text, n, pos⟩ := t
  by_cases k1 : kind = 1
  · subst k1
    simp only [tokOk] at ht
    simp at ht
    obtain ⟨rfl, ht⟩ := ht
    cases text with
    | nil => simp [wordOk] at ht
    | cons c r =>
      simp only [wordOk, Bool.and_eq_true, decide_eq_true_eq] at ht
      exact word_name h ht.1.2 ht.2 ht.1.1 hu hul
  · by_cases k2 : kind = 2
    · subst k2
      obtain ⟨h0, h1⟩ := tok_num ht rfl
      simp only [tokOk] at ht
      simp at ht
      obtain ⟨rfl, -⟩ := ht
      simp only at h0 h1
      obtain ⟨m, rfl⟩ := Int.eq_ofNat_of_zero_le h0
      exact word_num h (m := m) (by omega) hu hul
    · by_cases k3 : kind = 3
      · subst k3
        simp only [tokOk] at ht
        simp at ht
        obtain ⟨rfl, ht⟩ := ht
        match text, ht with
        | [c], ht => exact word_sign h ht hul
        | [], ht => simp at ht
        | _ :: _ :: _, ht => simp at ht
      · simp [tokOk, k1, k2, k3] at ht

end
end M2
end
section
namespace M2
open Go
noncomputable section
variable {tbl : Nat → Option AFunc}

def Blanks (b : List UInt8) : Prop := ∀ c ∈ b, blk8 c = true
def EndOk (e : List UInt8) : Prop := e = [] ∨ ∃ r, e = 59 :: r
/-- a text of which these are the words -/
def Txt : List Tok → List UInt8 → Prop
  | [], u => ∃ b e, u = b ++ e ∧ Blanks b ∧ EndOk e
  | t :: ts, u => ∃ b w, u = b ++ (tokS t ++ w) ∧ Blanks b ∧ Gap w ∧ Txt ts w
def Incr (l : List Tok) : Prop := ∀ i (h : i + 1 < l.length), l[i].pos < l[i + 1].pos
def WrdR (toks : List Tok) (r : AV) : Prop := ∃ v l, r = .tup [v, i64 0, i64 0] ∧ ToksAre v l ∧ l.map tok0 = toks.map tok0 ∧ Incr l

theorem beg_head {c : UInt8} (h : beg8 c = true) : blk8 c = false ∧ (c.toNat : Int) ≠ 59 := by
  unfold beg8 begI lowI at h
  unfold blk8
  simp at h ⊢
  omega
theorem dig_head {c : UInt8} (h : dig8 c = true) : blk8 c = false ∧ (c.toNat : Int) ≠ 59 := by
  unfold dig8 digI at h
  unfold blk8
  simp at h ⊢
  omega
theorem sgn_head : ∀ c : Fin 256, sgn8 (UInt8.ofFin c) = true → blk8 (UInt8.ofFin c) = false ∧ ((UInt8.ofFin c).toNat : Int) ≠ 59 := by decide +kernel
theorem tokS_head {t : Tok} (ht : tokOk t = true) : ∃ c r, tokS t = c :: r ∧ blk8 c = false ∧ (c.toNat : Int) ≠ 59 := by
  obtain ⟨kind, text, n, pos⟩ := t
  by_cases k1 : kind = 1
  · subst k1
    simp only [tokOk] at ht
    simp at ht
    cases text with
    | nil => simp [wordOk] at ht
    | cons c r =>
      simp only [wordOk, Bool.and_eq_true, decide_eq_true_eq] at ht
      exact ⟨c, r, rfl, beg_head ht.2.1.2⟩
  · by_cases k2 : kind = 2
    · subst k2
      show ∃ c r, decA 10 n.toNat = c :: r ∧ _
      cases he : decA 10 n.toNat with
      | nil => exact absurd he (decA_ne 10 _ (by decide))
      | cons c r => exact ⟨c, r, rfl, dig_head (dig_decA 10 n.toNat c (by rw [he]; simp))⟩
    · by_cases k3 : kind = 3
      · subst k3
        simp only [tokOk] at ht
        simp at ht
        match text, ht with
        | [c], ht => exact ⟨c, [], rfl, sgn_head c.toFin ht.2⟩
        | [], ht => simp at ht
        | _ :: _ :: _, ht => simp at ht
      · simp [tokOk, k1, k2, k3] at ht
theorem incr_snoc {l : List Tok} (h : Incr l) {t : Tok} (ht : ∀ x ∈ l, x.pos < t.pos) : Incr (l ++ [t]) := by
  intro i hi
  rw [List.length_append, List.length_singleton] at hi
  by_cases h1 : i + 1 < l.length
  · rw [List.getElem_append_left (by omega), List.getElem_append_left h1]
    exact h i h1
  · have e : i + 1 = l.length := by omega
    rw [List.getElem_append_left (by omega), List.getElem_append_right (by omega)]
    simp only [e, Nat.sub_self, List.getElem_cons_zero]
    exact ht _ (List.getElem_mem _)

theorem drop_get {s u : List UInt8} {n : Nat} {c : UInt8} (h : s.drop n = c :: u) : ∃ hn : n < s.length, s[n] = c := by
  have hn : n < s.length := by
    have := congrArg List.length h
    rw [List.length_drop, List.length_cons] at this
    omega
  have := List.drop_eq_getElem_cons hn
  rw [h] at this
  exact ⟨hn, (List.cons.inj this).1.symm⟩

theorem words_ok (h : WordT tbl) {s : List UInt8} {toks : List Tok} (hs : s.length ≤ 100000) (hnl : ∀ c ∈ s, c.toNat ≠ 10) (h40 : toks.length ≤ 40) (hok : ∀ t ∈ toks, tokOk t = true) (ht : Txt toks s) : PuR tbl 280 [.str s] (WrdR toks) := by
  refine pu_of h.h280 w280 rfl rfl ?_
  simp only [x280, go_sem]
  refine call_pu (nonl_ok h hnl) ?_
  rintro q rfl
  simp only [go_sem]
  refine wLoop_up x280l0.eq_1 toks.length (fun j env H O => H = [] ∧ ∃ v l, ∃ at' : Nat, Ap O 4 v (l.map tokV) ∧ l.map tok0 = (toks.take j).map tok0 ∧ Incr l ∧ (∀ t ∈ l, t.pos < at') ∧ at' ≤ s.length ∧ Txt (toks.drop j) (s.drop at') ∧ env.length = 6 ∧ nth env 0 = .str s ∧ nth env 1 = v ∧ nth env 2 = i64 at') ?_ ?_ 0 _ [] [] (by omega) ⟨rfl, .nils, [], 0, ap_nils _ _, rfl, (fun i hi => by simp at hi), (fun t ht => by simp at ht), by omega, ht, rfl, rfl, rfl, rfl⟩
  · rintro j env H O hj ⟨rfl, v, l, n, hv, hl, hin, hps, hn, htx, e0, e1, e2, e3⟩
    have hdj : toks.drop j = toks[j] :: toks.drop (j + 1) := List.drop_eq_getElem_cons hj
    rw [hdj] at htx
    obtain ⟨b, w, hb, hbl, hgap, htw⟩ := htx
    have htok := hok _ (List.getElem_mem hj)
    obtain ⟨c, r, hcr, hcb, hc59⟩ := tokS_head htok
    have hll : l.length = j := by
      have := congrArg List.length hl
      simp only [List.length_map, List.length_take] at this
      omega
    have hsl := slS_lo s .i64 (n := n) hn
    have hsp : spanN blk8 (s.drop n) = b.length := by
      rw [hb, hcr]
      exact spanN_app (.inr ⟨c, r ++ w, rfl, hcb⟩) hbl
    have hbn : b.length + (tokS toks[j]).length + w.length = s.length - n := by
      have := congrArg List.length hb
      simp only [List.length_append, List.length_drop] at this
      omega
    have hd2 : s.drop (n + b.length) = tokS toks[j] ++ w := by
      rw [← List.drop_drop, hb, List.drop_left]
    obtain ⟨hlt, hget⟩ := drop_get (s := s) (n := n + b.length) (c := c) (u := r ++ w) (by rw [hd2, hcr]; rfl)
    have hsl2 := slS_lo s .i64 (n := n + b.length) (by omega)
    have hix := pureV_idxS s .i64 hlt
    rw [hget] at hix
    have hw1 : IntKind.i64.wrap ((n : Int) + (b.length : Nat)) = ((n + b.length : Nat) : Int) := by rw [wrap_i64 (by omega) (by omega)]; omega
    have hz : 0 < (tokS toks[j]).length := by rw [hcr]; simp
    have hw2 : IntKind.i64.wrap (((n + b.length : Nat) : Int) + ((tokS toks[j]).length : Nat)) = ((n + b.length + (tokS toks[j]).length : Nat) : Int) := by rw [wrap_i64 (by omega) (by omega)]; omega
    have hvl := hv.sl.len
    rw [List.length_map, hll] at hvl
    have g1 : ¬ (((n + b.length : Nat) : Int) = s.length) := by omega
    have g40 : ¬ ((j : Int) = 40) := by omega
    have g2 : (((tokS toks[j]).length : Nat) : Int) > 0 := by omega
    have g3 : ¬ (((tokS toks[j]).length : Nat) : Int) = 0 := by omega
    simp only [go_sem, e0, e1, e2, e3, hsl]
    refine call_pu (span_ok h.h86 (by rw [List.length_drop]; omega) fun c => blank_ok h.h284 c) ?_
    rintro q rfl
    rw [hsp]
    simp only [go_sem, hw1, hix, hc59, g1, nth_puts, length_put, e0, e1, e2, e3, Nat.reduceEqDiff, ↓reduceIte, Nat.reduceLT, decide_false, hsl2, hd2]
    refine call_pu (word_ok h htok hgap (by omega)) ?_
    rintro q rfl
    have htv : tokV (tok0 toks[j]) = .agg [i64 toks[j].kind, .str toks[j].text, i64 toks[j].n, i64 0] := rfl
    rw [htv]
    simp only [go_sem, hvl, g40, g2, g3, hw2, nth_puts, length_put, e0, e1, e2, e3, Nat.reduceEqDiff, ↓reduceIte, Nat.reduceLT, decide_false, decide_true, Nat.reduceAdd, Nat.reduceLeDiff, and_self]
    intro id
    refine ap1_ok hv (v := tokV ⟨toks[j].kind, toks[j].text, toks[j].n, ((n + b.length : Nat) : Int)⟩) rfl rfl rfl (by decide) (by rw [List.length_map]; omega) (by decide) ?_ id
    intro r' O' hr' _
    refine ⟨rfl, r', l ++ [⟨toks[j].kind, toks[j].text, toks[j].n, ((n + b.length : Nat) : Int)⟩], n + b.length + (tokS toks[j]).length, ?_, ?_, incr_snoc hin ?_, ?_, by omega, ?_, rfl, rfl⟩
    · rw [List.map_append]; exact hr'
    · rw [List.take_succ_eq_append_getElem hj, List.map_append, List.map_append, hl]; rfl
    · intro x hx
      have := hps x hx
      show x.pos < ((n + b.length : Nat) : Int)
      omega
    · intro t ht
      rcases List.mem_append.mp ht with h1 | h1
      · have := hps t h1; omega
      · rw [List.mem_singleton.mp h1]
        show ((n + b.length : Nat) : Int) < _
        omega
    · rw [← List.drop_drop (j := n + b.length), hd2, List.drop_left]; exact htw
  · rintro env H O ⟨rfl, v, l, n, hv, hl, hin, hps, hn, htx, e0, e1, e2, e3⟩
    rw [List.drop_length] at htx
    obtain ⟨b, e, hb, hbl, he⟩ := htx
    have hsl := slS_lo s .i64 (n := n) hn
    have hsp : spanN blk8 (s.drop n) = b.length := by
      rw [hb]
      refine spanN_app ?_ hbl
      rcases he with rfl | ⟨r, rfl⟩
      · exact .inl rfl
      · exact .inr ⟨59, r, rfl, by decide⟩
    have hbn : b.length + e.length = s.length - n := by
      have := congrArg List.length hb
      simp only [List.length_append, List.length_drop] at this
      omega
    have hd2 : s.drop (n + b.length) = e := by
      rw [← List.drop_drop, hb, List.drop_left]
    have hw1 : IntKind.i64.wrap ((n : Int) + (b.length : Nat)) = ((n + b.length : Nat) : Int) := by rw [wrap_i64 (by omega) (by omega)]; omega
    have fin : WrdR toks (.tup [v, i64 0, i64 0]) := ⟨v, l, rfl, hv.sl, by rw [hl, List.take_length], hin⟩
    simp only [go_sem, e0, e1, e2, e3, hsl]
    refine call_pu (span_ok h.h86 (by rw [List.length_drop]; omega) fun c => blank_ok h.h284 c) ?_
    rintro q rfl
    rw [hsp]
    rcases he with rfl | ⟨r, rfl⟩
    · have g1 : ((n + b.length : Nat) : Int) = s.length := by simp only [List.length_nil] at hbn; omega
      simp only [go_sem, hw1, g1, nth_puts, length_put, e0, e1, e2, e3, Nat.reduceEqDiff, ↓reduceIte, Nat.reduceLT, decide_true]
      exact fin
    · obtain ⟨hlt, hget⟩ := drop_get hd2
      have hix := pureV_idxS s .i64 hlt
      rw [hget] at hix
      have g1 : ¬ (((n + b.length : Nat) : Int) = s.length) := by omega
      simp only [go_sem, hw1, g1, hix, nth_puts, length_put, e0, e1, e2, e3, Nat.reduceEqDiff, ↓reduceIte, Nat.reduceLT, decide_false]
      exact ⟨fun _ => fin, fun hh => absurd rfl hh⟩

end
end M2
end
section
namespace M2
open Go
noncomputable section
variable {tbl : Nat → Option AFunc}

/-! ### The text, and the wide text, of words -/

theorem Txt.blank {b : List UInt8} (hb : Blanks b) : ∀ {toks : List Tok} {u : List UInt8}, Txt toks u → Txt toks (b ++ u)
  | [], u, h => by
    obtain ⟨b', e, rfl, hb', he⟩ := h
    exact ⟨b ++ b', e, by rw [List.append_assoc], fun c hc => (List.mem_append.mp hc).elim (hb c) (hb' c), he⟩
  | t :: ts, u, h => by
    obtain ⟨b', w, rfl, hb', hg, hw⟩ := h
    exact ⟨b ++ b', w, by rw [List.append_assoc], fun c hc => (List.mem_append.mp hc).elim (hb c) (hb' c), hg, hw⟩

def ordB (c : UInt8) : Bool := !blk8 c && decide (c.toNat ≠ 10)
theorem beg_ord : ∀ c : Fin 256, (beg8 (UInt8.ofFin c) || dig8 (UInt8.ofFin c) || sgn8 (UInt8.ofFin c)) = true → ordB (UInt8.ofFin c) = true := by decide +kernel
theorem ord_of {c : UInt8} (h : (beg8 c || dig8 c || sgn8 c) = true) : ordB c = true := beg_ord c.toFin h
theorem tokS_ord {t : Tok} (ht : tokOk t = true) : ∀ c ∈ tokS t, ordB c = true := by
  obtain ⟨kind, text, n, pos⟩ := t
  intro x hx
  by_cases k1 : kind = 1
  · subst k1
    simp only [tokOk] at ht
    simp at ht
    change x ∈ text at hx
    cases text with
    | nil => cases hx
    | cons c r =>
      simp only [wordOk, Bool.and_eq_true, decide_eq_true_eq] at ht
      have := List.all_eq_true.mp ht.2.2 x hx
      exact ord_of (by rw [this]; rfl)
  · by_cases k2 : kind = 2
    · subst k2
      change x ∈ decA 10 n.toNat at hx
      exact ord_of (by rw [dig_decA 10 n.toNat x hx]; simp)
    · by_cases k3 : kind = 3
      · subst k3
        simp only [tokOk] at ht
        simp at ht
        match text, ht, hx with
        | [c], ht, hx =>
          change x ∈ [c] at hx
          rw [List.mem_singleton.mp hx]
          have h3 : sgn8 c = true := ht.2
          exact ord_of (by rw [h3]; simp)
        | [], ht, _ => simp at ht
        | _ :: _ :: _, ht, _ => simp at ht
      · simp [tokOk, k1, k2, k3] at ht

def wideF (s : List UInt8) : List UInt8 := s.flatMap fun c => if (c.toNat : Int) = 32 then [c, 9, 32, 32] else [c]
abbrev tailL : List UInt8 := [32, 59, 32, 48, 120, 32, 128, 32, 64]
theorem wideF_app (a b : List UInt8) : wideF (a ++ b) = wideF a ++ wideF b := List.flatMap_append ..
theorem wideF_ord : ∀ {a : List UInt8}, (∀ c ∈ a, ordB c = true) → wideF a = a
  | [], _ => rfl
  | c :: a, h => by
    have h1 := h c List.mem_cons_self
    have : ¬ ((c.toNat : Int) = 32) := by
      unfold ordB blk8 at h1
      simp at h1
      omega
    have ih := wideF_ord (a := a) fun c hc => h c (List.mem_cons_of_mem _ hc)
    unfold wideF at ih ⊢
    rw [List.flatMap_cons, if_neg this, ih]; rfl
theorem wideF_len : ∀ a : List UInt8, (wideF a).length ≤ 4 * a.length
  | [] => by simp [wideF]
  | c :: a => by
    have ih := wideF_len a
    unfold wideF at ih ⊢
    rw [List.flatMap_cons, List.length_append, List.length_cons]
    split <;> simp only [List.length_cons, List.length_nil] <;> omega

theorem txt_text : ∀ {toks : List Tok}, (∀ t ∈ toks, tokOk t = true) → Txt toks (textL toks)
  | [], _ => ⟨[], [], rfl, (fun c hc => by cases hc), .inl rfl⟩
  | t :: ts, h => by
    have ih := txt_text (toks := ts) fun x hx => h x (List.mem_cons_of_mem _ hx)
    cases ts with
    | nil => exact ⟨[], [], by show tokS t = [] ++ (tokS t ++ []); simp, (fun c hc => by cases hc), .inl rfl, ih⟩
    | cons t' ts =>
      refine ⟨[], 32 :: textL (t' :: ts), rfl, (fun c hc => by cases hc), .inr ⟨32, _, rfl, by decide⟩, ?_⟩
      exact ih.blank (b := [32]) fun c hc => by rw [List.mem_singleton.mp hc]; decide
theorem txt_wide : ∀ {toks : List Tok}, (∀ t ∈ toks, tokOk t = true) → Txt toks (wideF (textL toks) ++ tailL)
  | [], _ => ⟨[32], [59, 32, 48, 120, 32, 128, 32, 64], rfl, (fun c hc => by rw [List.mem_singleton.mp hc]; decide), .inr ⟨_, rfl⟩⟩
  | t :: ts, h => by
    have ih := txt_wide (toks := ts) fun x hx => h x (List.mem_cons_of_mem _ hx)
    have ho := wideF_ord (tokS_ord (h t List.mem_cons_self))
    cases ts with
    | nil =>
      refine ⟨[], tailL, ?_, (fun c hc => by cases hc), .inr ⟨32, _, rfl, by decide⟩, ih⟩
      show wideF (tokS t) ++ tailL = [] ++ (tokS t ++ tailL)
      rw [ho]; rfl
    | cons t' ts =>
      refine ⟨[], [32, 9, 32, 32] ++ (wideF (textL (t' :: ts)) ++ tailL), ?_, (fun c hc => by cases hc), .inr ⟨32, _, rfl, by decide⟩, ?_⟩
      · show wideF (tokS t ++ ([32] ++ textL (t' :: ts))) ++ tailL = _
        rw [wideF_app, wideF_app, ho]
        show (tokS t ++ ([32, 9, 32, 32] ++ wideF (textL (t' :: ts)))) ++ tailL = _
        simp only [List.append_assoc, List.nil_append]
      · exact ih.blank (b := [32, 9, 32, 32]) fun c hc => by
          simp only [List.mem_cons, List.not_mem_nil, or_false] at hc
          rcases hc with rfl | rfl | rfl | rfl <;> decide
theorem nonl_text : ∀ {toks : List Tok}, (∀ t ∈ toks, tokOk t = true) → ∀ c ∈ textL toks, c.toNat ≠ 10
  | [], _, c, hc => by cases hc
  | t :: ts, h, c, hc => by
    have ih := nonl_text (toks := ts) fun x hx => h x (List.mem_cons_of_mem _ hx)
    have hne : c ∈ tokS t → c.toNat ≠ 10 := fun hm => by
      have := tokS_ord (h t List.mem_cons_self) c hm
      unfold ordB at this
      simp only [Bool.and_eq_true, decide_eq_true_eq] at this
      exact this.2
    cases ts with
    | nil => exact hne hc
    | cons t' ts =>
      have hc : c ∈ tokS t ++ ([32] ++ textL (t' :: ts)) := hc
      rcases List.mem_append.mp hc with hc | hc
      · exact hne hc
      · rcases List.mem_append.mp hc with hc | hc
        · rw [List.mem_singleton.mp hc]; decide
        · exact ih c hc
theorem nonl_wide {s : List UInt8} (h : ∀ c ∈ s, c.toNat ≠ 10) : ∀ c ∈ wideF s, c.toNat ≠ 10 := by
  intro c hc
  obtain ⟨x, hx, hc⟩ := List.mem_flatMap.mp hc
  have := h x hx
  split at hc
  · simp only [List.mem_cons, List.not_mem_nil, or_false] at hc
    rcases hc with rfl | rfl | rfl | rfl
    · exact this
    · decide
    · decide
    · decide
  · rw [List.mem_singleton.mp hc]; exact this
theorem textL_len {toks : List Tok} (h40 : toks.length ≤ 40) (h : ∀ t ∈ toks, tokOk t = true) : (textL toks).length ≤ 520 := by
  have := joinA_len (n := 12) (l := toks.map tokS) fun x hx => by
    obtain ⟨t, ht, rfl⟩ := List.mem_map.mp hx
    exact tokS_len (h t ht)
  rw [List.length_map] at this
  unfold textL
  omega

end
end M2
end
section
namespace M2
open Go
noncomputable section
variable {tbl : Nat → Option AFunc}

structure BackT (tbl : Nat → Option AFunc) : Prop extends TxtT tbl, WordT tbl, Hv8T tbl where
  h281 : tbl 281 = some (flatF x281)
  h282 : tbl 282 = some primTrue
structure BackH (tbl : Nat → Option AFunc) : Prop extends BackT tbl where
  h558 : tbl 558 = some (flatF x558)

theorem tok0_eq {a b : Tok} (h : tok0 a = tok0 b) : a.kind = b.kind ∧ a.text = b.text ∧ a.n = b.n := by
  unfold tok0 at h
  injection h with h1 h2 h3
  exact ⟨h1, h2, h3⟩

/-- the words, against those asked -/
theorem lb_loop1 {arg vT vS w v8 lv tv : AV} {i k : Int} (ha : arg = .agg [vS, vT]) (hix : ∀ (H : Heap) (Q : AV → Prop), ixv (.ld1 hh) 1 vT (.int .i64 i) H Q = Q tv) {toks l : List Tok} (hv : ToksAre lv l) (tt : ToksAre tv toks) (hl : l.map tok0 = toks.map tok0) (hin : Incr l) {Q : XR → Prop}
    (hx : ∀ env O, env.length = 18 → nth env 1 = arg → nth env 2 = .bool false → nth env 3 = i64 i → nth env 8 = v8 → nth env 9 = i64 k → Q (.exit 6 env [] O)) (env : List AV) (O : Rows)
    (he : env.length = 18 ∧ nth env 1 = arg ∧ nth env 2 = .bool false ∧ nth env 3 = i64 i ∧ nth env 8 = v8 ∧ nth env 9 = i64 k ∧ nth env 10 = lv ∧ nth env 13 = i64 0) : wLoop (wpc tbl x558l1) env [] O Q := by
  have hle := hv.le
  have hll : l.length = toks.length := by have := congrArg List.length hl; simpa using this
  subst ha
  refine wLoop_up x558l1.eq_1 l.length (fun j env H O => H = [] ∧ env.length = 18 ∧ nth env 1 = .agg [vS, vT] ∧ nth env 2 = .bool false ∧ nth env 3 = i64 i ∧ nth env 8 = v8 ∧ nth env 9 = i64 k ∧ nth env 10 = lv ∧ nth env 13 = i64 j) ?_ ?_ 0 env [] O (by omega) ⟨rfl, he⟩
  · rintro j env H O hj ⟨rfl, e0, e1, e2, e3, e8, e9, e10, e13⟩
    have hjt : j < toks.length := by omega
    have g1 : (j : Int) < l.length := by omega
    have hk1 : IntKind.i64.wrap ((j : Int) + 1) = ((j + 1 : Nat) : Int) := by rw [wrap_i64 (by omega) (by omega)]; omega
    have hia := hv.ia hj
    have hixj := fun H Q => tt.ix hjt H Q
    obtain ⟨q1, q2, q3⟩ : l[j].kind = toks[j].kind ∧ l[j].text = toks[j].text ∧ l[j].n = toks[j].n := by
      refine tok0_eq ?_
      have := List.getElem_of_eq hl (i := j) (by simpa using hj)
      simpa using this
    have hprev : 0 < j → ∃ q : Tok, pureV (.iaddr 4 hh hh) [lv, .int .i64 ((j : Int) - 1)] = some (.eptr [i64 q.kind, .str q.text, i64 q.n, i64 q.pos]) ∧ q.pos < l[j].pos := by
      intro hj0
      have hj1 : j - 1 < l.length := by omega
      refine ⟨l[j - 1], ?_, ?_⟩
      · have := hv.ia hj1
        rw [show ((j - 1 : Nat) : Int) = (j : Int) - 1 by omega] at this
        exact this
      · have := hin (j - 1) (by omega)
        have e : j - 1 + 1 = j := by omega
        simpa only [e] using this
    generalize l[j] = a at *
    generalize toks[j] = b at *
    simp only [go_sem, e0, e1, e2, e3, e8, e9, e10, e13, hv.len, g1, decide_true, hia, hix, hixj, q1, q2, q3, Nat.reduceAdd, Nat.reduceLeDiff, Nat.reduceLT, Nat.reduceEqDiff, ↓reduceIte, and_self, nth_puts, length_put, hk1, ne_eq, not_true_eq_false, decide_false]
    intro hj0
    obtain ⟨q, hq, hlt⟩ := hprev (by omega)
    have hkm : IntKind.i64.wrap ((j : Int) - 1) = (j : Int) - 1 := wrap_i64 (by omega) (by omega)
    simp only [go_sem, hkm, hq]
    exact fun g => absurd g (by omega)
  · rintro env H O ⟨rfl, e0, e1, e2, e3, e8, e9, e10, e13⟩
    have g1 : ¬ (l.length : Int) < l.length := by omega
    simp only [go_sem, e0, e1, e2, e3, e10, e13, hv.len, g1, decide_false]
    exact hx _ _ e0 e1 e2 e3 e8 e9

/-- the wide text -/
theorem lb_loop0 {arg : AV} {i : Int} {s : List UInt8} (hs : s.length ≤ 520) {Q : XR → Prop}
    (hx : ∀ env O, env.length = 18 → nth env 1 = arg → nth env 2 = .bool false → nth env 3 = i64 i → nth env 4 = .str s → nth env 6 = .str ([9] ++ wideF s) → Q (.exit 2 env [] O)) (env : List AV) (O : Rows)
    (he : env.length = 18 ∧ nth env 1 = arg ∧ nth env 2 = .bool false ∧ nth env 3 = i64 i ∧ nth env 4 = .str s ∧ nth env 6 = .str [9] ∧ nth env 7 = i64 0) : wLoop (wpc tbl x558l0) env [] O Q := by
  refine wLoop_up x558l0.eq_1 s.length (fun k env H O => H = [] ∧ env.length = 18 ∧ nth env 1 = arg ∧ nth env 2 = .bool false ∧ nth env 3 = i64 i ∧ nth env 4 = .str s ∧ nth env 6 = .str ([9] ++ wideF (s.take k)) ∧ nth env 7 = i64 k) ?_ ?_ 0 env [] O (by omega) ⟨rfl, he⟩
  · rintro k env H O hk ⟨rfl, e0, e1, e2, e3, e4, e6, e7⟩
    have g1 : (k : Int) < s.length := by omega
    have hk1 : IntKind.i64.wrap ((k : Int) + 1) = ((k + 1 : Nat) : Int) := by rw [wrap_i64 (by omega) (by omega)]; omega
    have hix := pureV_idxS s .i64 hk
    have hsl := slS_lh s .i64 .i64 (n := k) (m := k + 1) (by omega) (by omega)
    have hd1 : s.drop k = s[k] :: s.drop (k + 1) := List.drop_eq_getElem_cons hk
    rw [hd1, show k + 1 - k = 1 by omega] at hsl
    change pureV (.slS hh (some hh) (some hh)) [.str s, .int .i64 k, .int .i64 ((k + 1 : Nat) : Int)] = some (.str [s[k]]) at hsl
    have hwt : wideF (s.take (k + 1)) = wideF (s.take k) ++ (if (s[k].toNat : Int) = 32 then [s[k], 9, 32, 32] else [s[k]]) := by
      rw [List.take_succ_eq_append_getElem hk, wideF_app]
      congr 1
      show ([s[k]] : List UInt8).flatMap _ = _
      simp
    have hwl := wideF_len (s.take k)
    rw [List.length_take] at hwl
    rw [hwt]
    clear hwt
    generalize wideF (s.take k) = pre at *
    generalize s[k] = c at *
    have a0 : avBin .add (.str (9 :: pre)) (.str [c]) = some (.str (9 :: (pre ++ [c]))) := add_str (a := 9 :: pre) (by simp; omega)
    have a1 : avBin .add (.str (9 :: (pre ++ [c]))) (.str [9, 32, 32]) = some (.str (9 :: (pre ++ [c, 9, 32, 32]))) := (add_str (a := 9 :: (pre ++ [c])) (b := [9, 32, 32]) (by simp; omega)).trans (by simp)
    by_cases h32 : (c.toNat : Int) = 32
    · rw [if_pos h32]
      simp only [go_sem, e0, e1, e2, e3, e4, e6, e7, g1, hk1, hix, hsl, a0, a1, h32, decide_true, decide_false, nth_puts, length_put, Nat.reduceEqDiff, ↓reduceIte, Nat.reduceLT, Nat.reduceAdd, Nat.reduceLeDiff, and_self]
    · rw [if_neg h32]
      simp only [go_sem, e0, e1, e2, e3, e4, e6, e7, g1, hk1, hix, hsl, a0, a1, h32, decide_true, decide_false, nth_puts, length_put, Nat.reduceEqDiff, ↓reduceIte, Nat.reduceLT, Nat.reduceAdd, Nat.reduceLeDiff, and_self]
  · rintro env H O ⟨rfl, e0, e1, e2, e3, e4, e6, e7⟩
    have g1 : ¬ (s.length : Int) < s.length := by omega
    rw [List.take_length] at e6
    simp only [go_sem, e0, e1, e2, e3, e4, e6, e7, g1, decide_false]
    exact hx _ _ e0 e1 e2 e3 e4 e6

/-- both texts -/
theorem lb_loop2 (h : BackT tbl) {arg vT vS tv v8 : AV} {i : Int} (ha : arg = .agg [vS, vT]) (hix : ∀ (H : Heap) (Q : AV → Prop), ixv (.ld1 hh) 1 vT (.int .i64 i) H Q = Q tv) {toks : List Tok} (tt : ToksAre tv toks) (h40 : toks.length ≤ 40) (hok : ∀ t ∈ toks, tokOk t = true)
    {s1 s2 : List UInt8} (h8 : IsSl 1 v8 [.str s1, .str s2]) (hs1 : s1.length ≤ 100000 ∧ (∀ c ∈ s1, c.toNat ≠ 10) ∧ Txt toks s1) (hs2 : s2.length ≤ 100000 ∧ (∀ c ∈ s2, c.toNat ≠ 10) ∧ Txt toks s2) {Q : XR → Prop}
    (hx : ∀ env O, env.length = 18 → nth env 1 = arg → nth env 2 = .bool false → nth env 3 = i64 i → Q (.exit 4 env [] O)) (env : List AV) (O : Rows)
    (he : env.length = 18 ∧ nth env 1 = arg ∧ nth env 2 = .bool false ∧ nth env 3 = i64 i ∧ nth env 8 = v8 ∧ nth env 9 = i64 0) : wLoop (wpc tbl x558l2) env [] O Q := by
  refine wLoop_up x558l2.eq_1 2 (fun k env H O => H = [] ∧ env.length = 18 ∧ nth env 1 = arg ∧ nth env 2 = .bool false ∧ nth env 3 = i64 i ∧ nth env 8 = v8 ∧ nth env 9 = i64 k) ?_ ?_ 0 env [] O (by omega) ⟨rfl, he⟩
  · rintro k env H O hk ⟨rfl, e0, e1, e2, e3, e8, e9⟩
    have g1 : (k : Int) < 2 := by omega
    have hk1 : IntKind.i64.wrap ((k : Int) + 1) = ((k + 1 : Nat) : Int) := by rw [wrap_i64 (by omega) (by omega)]; omega
    obtain ⟨s, hix8, hs⟩ : ∃ s, (∀ (H : Heap) (Q : AV → Prop), ixv (.ld1 hh) 1 v8 (.int .i64 k) H Q = Q (.str s)) ∧ s.length ≤ 100000 ∧ (∀ c ∈ s, c.toNat ≠ 10) ∧ Txt toks s := by
      match k, hk with
      | 0, _ => exact ⟨s1, fun H Q => h8.ixStr (xs := [s1, s2]) (k := 0) (by simp) H Q, hs1⟩
      | 1, _ => exact ⟨s2, fun H Q => h8.ixStr (xs := [s1, s2]) (k := 1) (by simp) H Q, hs2⟩
    subst ha
    simp only [go_sem, e0, e1, e2, e3, e8, e9, g1, hix8, decide_true, Nat.reduceAdd, Nat.reduceLeDiff, Nat.reduceLT, Nat.reduceEqDiff, ↓reduceIte, and_self, nth_puts, length_put]
    refine call_pu (words_ok h.toWordT hs.1 hs.2.1 h40 hok hs.2.2) ?_
    rintro q ⟨lv, l, rfl, hv, hl, hin⟩
    have hll : l.length = toks.length := by have := congrArg List.length hl; simpa using this
    simp only [go_sem, e0, e1, e2, e3, e8, e9, g1, hix, hix8, decide_true, Nat.reduceAdd, Nat.reduceLeDiff, Nat.reduceLT, Nat.reduceEqDiff, ↓reduceIte, and_self, nth_puts, length_put]
    rw [show ([lv, i64 0, i64 0] : List AV)[0]? = some lv from rfl, opt_some, show ([lv, i64 0, i64 0] : List AV)[1]? = some (i64 0) from rfl, opt_some, show ([lv, i64 0, i64 0] : List AV)[2]? = some (i64 0) from rfl, opt_some]
    refine call_pu (num_ok h.h281 _) ?_
    rintro q rfl
    simp only [go_sem, e0, e1, e2, e3, e8, e9, g1, hix, hix8, hv.len, tt.len, hll, decide_true, Nat.reduceAdd, Nat.reduceLeDiff, Nat.reduceLT, Nat.reduceEqDiff, ↓reduceIte, and_self, nth_puts, length_put, ne_eq, not_true_eq_false, decide_false]
    refine lb_loop1 (arg := .agg [vS, vT]) (vT := vT) (vS := vS) (w := .und) (v8 := v8) (i := i) (k := (k : Int)) rfl hix hv tt hl hin ?_ _ _ ⟨by simp [length_put, e0], by simp [nth_puts, e0, e1], by simp [nth_puts, e0, e2], by simp [nth_puts, e0, e3], by simp [nth_puts, e0, e8], by simp [nth_puts, e0, e9], by simp [nth_puts, length_put, e0], by simp [nth_puts, length_put, e0]⟩
    intro env O e0 e1 e2 e3 e8 e9
    simp only [go_sem, e0, e1, e2, e3, e8, e9, Nat.reduceAdd, Nat.reduceLeDiff, Nat.reduceLT, Nat.reduceEqDiff, ↓reduceIte, and_self, nth_puts, length_put, hk1]
  · rintro env H O ⟨rfl, e0, e1, e2, e3, e8, e9⟩
    simp only [go_sem, e0, e1, e2, e3, e8, e9]
    exact ⟨fun g => absurd g (by decide), fun _ => hx _ _ e0 e1 e2 e3⟩

theorem lb_loop3 (h : BackT tbl) {vT vS : AV} {es : List AV} (hv : IsSl 1 vT es) (ht : IsTT es) {Q : XR → Prop}
    (hx : ∀ env O, env.length = 18 → nth env 2 = .bool false → Q (.exit 0 env [] O)) (env : List AV) (O : Rows)
    (he : env.length = 18 ∧ nth env 1 = .agg [vS, vT] ∧ nth env 2 = .bool false ∧ nth env 3 = i64 0) : wLoop (wpc tbl x558l3) env [] O Q := by
  have hle := hv.le
  refine wLoop_up x558l3.eq_1 (min es.length 8) (fun i env H O => H = [] ∧ env.length = 18 ∧ nth env 1 = .agg [vS, vT] ∧ nth env 2 = .bool false ∧ nth env 3 = i64 i) ?_ ?_ 0 env [] O (by omega) ⟨rfl, he⟩
  · rintro i env H O hi' ⟨rfl, e0, e1, e2, e3⟩
    have hi : i < es.length := by omega
    have g1 : (i : Int) < es.length := by omega
    have g2 : (i : Int) < 8 := by omega
    have hk1 : IntKind.i64.wrap ((i : Int) + 1) = ((i + 1 : Nat) : Int) := by rw [wrap_i64 (by omega) (by omega)]; omega
    obtain ⟨tv, toks, tt, tz, tb, hix⟩ := hv.ixT ht hi
    simp only [go_sem, e0, e1, e2, e3, hv.len, g1, g2, decide_true, hix, Nat.reduceAdd, Nat.reduceLeDiff, Nat.reduceLT, ↓reduceIte, and_self]
    refine call_pu (text_ok h.toTxtT tt tz) ?_
    rintro q rfl
    cases ho : toksOk toks
    · simp only [go_sem, Bool.false_eq_true, nth_puts, length_put, e0, e1, e2, e3, hix, Nat.reduceEqDiff, ↓reduceIte, Nat.reduceLT, Nat.reduceAdd, Nat.reduceLeDiff, and_self]
      refine call_pu (num_ok h.h281 _) ?_
      rintro q rfl
      simp only [go_sem, Bool.false_eq_true, nth_puts, length_put, e0, e1, e2, e3, hix, Nat.reduceEqDiff, ↓reduceIte, Nat.reduceLT, Nat.reduceAdd, Nat.reduceLeDiff, and_self, hk1]
      exact fun hh => absurd (by decide) hh
    · obtain ⟨h40, hok⟩ := toks_mem ho
      have htl := textL_len h40 hok
      have hwl := wideF_len (textL toks)
      simp only [go_sem, nth_puts, length_put, e0, e1, e2, e3, hix, Nat.reduceEqDiff, ↓reduceIte, Nat.reduceLT, Nat.reduceAdd, Nat.reduceLeDiff, and_self]
      refine call_pu (num_ok h.h281 _) ?_
      rintro q rfl
      simp only [go_sem, nth_puts, length_put, e0, e1, e2, e3, hix, Nat.reduceEqDiff, ↓reduceIte, Nat.reduceLT, Nat.reduceAdd, Nat.reduceLeDiff, and_self]
      refine lb_loop0 (arg := .agg [vS, vT]) (i := (i : Int)) htl ?_ _ _ ⟨by simp [length_put, e0], by simp [nth_puts, e0, e1], by simp [nth_puts, e0, e2], by simp [nth_puts, e0, e3], by simp [nth_puts, length_put, e0], by simp [nth_puts, length_put, e0], by simp [nth_puts, length_put, e0]⟩
      intro env O e0 e1 e2 e3 e4 e6
      have a0 : avBin .add (.str (9 :: wideF (textL toks))) (.str tailL) = some (.str (9 :: (wideF (textL toks) ++ tailL))) := add_str (a := 9 :: wideF (textL toks)) (by simp; omega)
      simp only [go_sem, e0, e1, e2, e3, e4, e6, a0, nth_puts, length_put, Nat.reduceEqDiff, ↓reduceIte, Nat.reduceLT, Nat.reduceAdd, Nat.reduceLeDiff, and_self]
      rw [if_pos (by simp), opt_some]
      intro id
      have hn2 : ∀ c ∈ (9 :: (wideF (textL toks) ++ tailL) : List UInt8), c.toNat ≠ 10 := by
        intro c hc
        rcases List.mem_cons.mp hc with rfl | hc
        · decide
        · rcases List.mem_append.mp hc with hc | hc
          · exact nonl_wide (nonl_text hok) c hc
          · simp only [tailL, List.mem_cons, List.not_mem_nil, or_false] at hc
            rcases hc with rfl | rfl | rfl | rfl | rfl | rfl | rfl | rfl | rfl <;> decide
      refine lb_loop2 h (arg := .agg [vS, vT]) (vT := vT) (vS := vS) (i := (i : Int)) (s1 := textL toks) (s2 := 9 :: (wideF (textL toks) ++ tailL)) (v8 := .sl id 1 0 2 false 0 [.str (textL toks), .str (9 :: (wideF (textL toks) ++ tailL))]) rfl hix tt h40 hok
        ⟨.inr ⟨_, _, _, _, _, rfl, by simp⟩, by simp⟩ ⟨by omega, nonl_text hok, txt_text hok⟩ ⟨by simp; omega, hn2, (txt_wide hok).blank (b := [9]) fun c hc => by rw [List.mem_singleton.mp hc]; decide⟩ ?_ _ _
        ⟨by simp [length_put, e0], by simp [nth_puts, e0, e1], by simp [nth_puts, e0, e2], by simp [nth_puts, e0, e3], by simp [nth_puts, length_put, e0], by simp [nth_puts, length_put, e0]⟩
      intro env O e0 e1 e2 e3
      simp only [go_sem, e0, e1, e2, e3, nth_puts, length_put, Nat.reduceEqDiff, ↓reduceIte, Nat.reduceLT, Nat.reduceAdd, Nat.reduceLeDiff, and_self, hk1]
  · rintro env H O ⟨rfl, e0, e1, e2, e3⟩
    simp only [go_sem, e0, e1, e2, e3, hv.len, Nat.reduceAdd, Nat.reduceLeDiff, Nat.reduceLT, ↓reduceIte, and_self]
    exact ⟨fun g1 => ⟨fun g2 => absurd g2 (by omega), fun _ => hx _ _ e0 e2⟩, fun _ => hx _ _ e0 e2⟩

theorem lexback_law (h : BackH tbl) {cs : List AV} (hc : TyR ask8Ty cs) : PuR tbl 558 [.agg cs] (· = .bool true) := by
  obtain ⟨vT, vS, tt, ss, rfl, hT, hTT, hS, hSS, -, -⟩ := ask8_of hc
  refine pu_of h.h558 w558 rfl rfl ?_
  simp only [x558, go_sem, Nat.reduceAdd, Nat.reduceLeDiff]
  refine call_pu (heavy8x_ok h.toHv8T hT hTT hS hSS) ?_
  rintro q ⟨b, rfl, hb⟩
  cases b
  · simp only [go_sem, Nat.reduceAdd, Nat.reduceLeDiff]
    refine lb_loop3 h.toBackT (vS := vS) hT hTT ?_ _ _ ⟨rfl, rfl, rfl, rfl⟩
    intro env O e0 e2
    simp only [go_sem, nth_puts, length_put, e0, e2, Nat.reduceEqDiff, ↓reduceIte, Nat.reduceLT, Nat.reduceAdd, Nat.reduceLeDiff, and_self]
    refine call_pu (prim0_run h.h282) ?_
    rintro q rfl
    simp only [go_sem, nth_puts, length_put, e0, e2, Nat.reduceEqDiff, ↓reduceIte, Nat.reduceLT, Nat.reduceAdd, Nat.reduceLeDiff, and_self]
  · simp only [go_sem]

end
end M2
end
section
namespace M2
open Go Go.ChangeShapes Go.WideShapes Go.ChangeAt Go.RowKit

/-! ### A law's call, the calls in it answered by others -/

theorem link1 {P : Program} {M : Maps} {im : FuncId → Option Nat} {tbl : Nat → Option AFunc} (him : ∀ f x, im f = some x → M.fm x = f) (ht : Table P M im tbl)
    {call : CallF} (hcall : CallOK P M call) {id : Nat} {fn : AFunc} (hfn : tbl id = some fn) (hdp : fn.depth < 50) {avs : List AV} {args : Array Value} {t t' : T} {g : G} (hoth : ∀ b, b < g.w.heap.size → g.μ b = .oth) (hS : SR M g t) (hsz : args.size = avs.length)
    (hv : ∀ i (h : i < avs.length), VR M g avs[i] (args.getD i undef)) (hrun : callC call fn avs t = .ok (.bool true) t') :
    Calls P (M.fm id) args g.w fun e w' => e = .returned (.bool true) ∧ Below g.w.heap.size g.w w' := by
  obtain ⟨-, h⟩ := callC_sound him ht hcall hfn hdp hrun
  refine (h g args hS hsz hv).mono ?_
  rintro e w' ⟨v, g', rfl, rfl, hle, hvr, -⟩
  cases hvr
  exact ⟨rfl, hle.os, hle.tape, hle.output, hle.size, fun k hk => (hle.oth k hk (by rw [hoth k hk]; rfl)).2⟩

theorem law_run1 {P : Program} {M : Maps} {im : FuncId → Option Nat} {tbl : Nat → Option AFunc} (him : ∀ f x, im f = some x → M.fm x = f) (ht : Table P M im tbl)
    {H : Type} {enc : TypeId × Value → H} {W : World} {base id tf : Nat} {t : TypeId} {fs : Array Field} (hu : P.underlying t = some (.struct fs)) (ha : argT P (tf + 1) t = true) {v : Value} {d : DataW H} {p : List MemPlace}
    (hval : Value.okWide P W .any base t v) (htr : DataW.Trod enc P W 0 (fun _ => true) true t v d p)
    {w j i : Nat} {fl : Field} {e : TypeId} (hw : P.cellsOf t = w) (hfl : fs[i]? = some fl) (hoff : fl.offset = j) (hjw : j < w) (hsl : P.underlying fl.type = some (.slice e)) (hc1 : P.cellsOf fl.type = 1) (htf : tf ≠ 0)
    {call : CallF} (hcall : CallOK P M call) {fn : AFunc} (hfn : tbl id = some fn) (hdp : fn.depth < 50 := by decide) (hrun : ∀ a, OneSl a → ∃ t', callC call fn [.agg ((List.replicate w AV.und).set j a)] ⟨1, [], []⟩ = .ok (.bool true) t') (hkb : ∀ b o v, M.kb b o = some v → W.cell? ⟨b, o, none⟩ = some v ∧ csize W b ≤ M.tm b := by exact fun _ _ _ h => nomatch (show (none : Option Value) = some _ from h)) :
    Calls P (M.fm id) #[v] W fun e W' => e = .returned (.bool true) ∧ Below W.heap.size W W' := by
  obtain ⟨K, hK0, hK⟩ := size_bound W
  obtain ⟨fuel, htr⟩ := htr
  unfold Value.okWide at hval
  rw [hu] at hval
  obtain ⟨cs, rfl, hcs, -⟩ := hval
  obtain ⟨ascs, h1, h2, h3, -⟩ := trod_vr (M := M) hK0 hK fuel (tf + 1) t _ _ ha htr
  have hl : ascs.length = cs.size := by simpa [Value.cells] using h2
  unfold DA at h1
  rw [hu] at h1
  obtain ⟨ps, -, hps, hasl, hf⟩ := h1
  obtain ⟨hi, hfi⟩ := Array.getElem?_eq_some_iff.mp hfl
  have h4 := hf i hi (by omega)
  rw [hfi, hoff, hc1] at h4
  have hjl : j < ascs.length := by rw [hasl, hw]; exact hjw
  have hone : (ascs.drop j).take 1 = [ascs[j]] := by rw [List.drop_eq_getElem_cons hjl]; rfl
  rw [hone] at h4
  have hkind : ascs[j] = .nils ∨ ascs[j] = .sl0 ∨ ∃ id e pos cap alt es, ascs[j] = .sl id e pos cap false alt es := by
    cases tf with
    | zero => exact absurd rfl htf
    | succ tf =>
      unfold DA at h4
      rw [hsl] at h4
      rcases h4 with ⟨-, h⟩ | ⟨elems, spare, es, -, -, -, -, ⟨-, h⟩ | ⟨id, pos, h⟩⟩
      · injection h with h; exact .inl h
      · injection h with h; exact .inr (.inl h)
      · injection h with h; exact .inr (.inr ⟨_, _, _, _, _, _, h⟩)
  have h5 := h3 j (by simpa using hjl)
  obtain ⟨a', pl, ho, hv'⟩ := oneSl_of h5 hkind
  obtain ⟨t', hr⟩ := hrun a' ho
  refine link1 (g := oneG W pl) him ht hcall hfn hdp (fun _ _ => rfl) (oneG_sr M W pl hkb) rfl (fun q hq => ?_) hr
  have hq0 : q = 0 := by simpa using hq
  subst hq0
  simp only [List.getElem_cons_zero]
  refine .agg _ cs (by simp [← hl, hasl, hw]) (fun q hq => ?_)
  by_cases e : j = q
  · subst e
    simp only [List.getElem_set_self]
    simpa [Value.cells, Array.getD_eq_getD_getElem?, List.getD_eq_getElem?_getD] using hv'
  · rw [List.getElem_set_ne e, List.getElem_replicate]
    exact .und _

end M2
end
