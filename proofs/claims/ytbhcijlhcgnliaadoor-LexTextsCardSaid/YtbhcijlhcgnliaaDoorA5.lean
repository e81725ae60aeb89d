/- General ground for the statement: an abstract machine that the program's code is shown to follow, and the contracts of the functions that the law reaches. Part 5. -/
import Derived.Test.YtbhcijlhcgnliaaDoorA4
set_option linter.unusedVariables false
set_option linter.unusedSimpArgs false
section
namespace M2
open Go
noncomputable section
variable {tbl : Nat → Option AFunc}

/-! ### Words of a text: how many, how long -/

theorem oneF_text {s : List UInt8} : (oneF s).1.text.length ≤ s.length := by
  unfold oneF
  cases s with
  | nil => simp [t0]
  | cons c s =>
    have hn : ∀ (v : Option Int) (n : Nat) (f : Int), (numT v n f).1.text.length ≤ (c :: s).length := by
      intro v n f
      unfold numT
      cases v with
      | none => simp [t0]
      | some x => simp only; split <;> simp [t0]
    simp only
    repeat' split
    all_goals first | exact hn _ _ _ | (simp only [t0, List.length_nil, List.length_take, List.length_cons, List.length_singleton]; omega)

theorem wordsL_sz (s : List UInt8) : ∀ (i : Nat) (l : List Tok), l.length ≤ 40 → (∀ t ∈ l, t.text.length ≤ s.length) → (wordsL s i l).1.length ≤ 40 ∧ ∀ t ∈ (wordsL s i l).1, t.text.length ≤ s.length := by
  intro i l
  induction i, l using wordsL.induct s with
  | case1 i l h h59 => intro h1 h2; rw [wordsL, dif_pos h, if_pos h59]; exact ⟨h1, h2⟩
  | case2 i l h h59 h32 ih => intro h1 h2; rw [wordsL, dif_pos h, if_neg h59, if_pos h32]; exact ih h1 h2
  | case3 i l h h59 h32 h0 => intro h1 h2; rw [wordsL, dif_pos h, if_neg h59, if_neg h32, if_pos h0]; simp
  | case4 i l h h59 h32 h0 h40 => intro h1 h2; rw [wordsL, dif_pos h, if_neg h59, if_neg h32, if_neg h0, if_pos h40]; simp
  | case5 i l h h59 h32 h0 h40 ih =>
    intro h1 h2
    rw [wordsL, dif_pos h, if_neg h59, if_neg h32, if_neg h0, if_neg h40]
    refine ih (by simp; omega) fun t ht => ?_
    rcases List.mem_append.mp ht with ht | ht
    · exact h2 t ht
    · rw [List.mem_singleton.mp ht]
      have := oneF_text (s := s.drop i)
      rw [List.length_drop] at this
      simp only
      omega
  | case6 i l h => intro h1 h2; rw [wordsL, dif_neg h]; exact ⟨h1, h2⟩

theorem wordsF_sz (s : List UInt8) (hs : s.length ≤ 140737488351232) : (wordsF s).1.length ≤ 40 ∧ szToks (wordsF s).1 := by
  unfold wordsF
  split
  · exact ⟨by simp, fun t ht => by simp at ht⟩
  · have := wordsL_sz s 0 [] (by simp) (fun t ht => by simp at ht)
    exact ⟨this.1, fun t ht => Nat.le_trans (this.2 t ht) hs⟩

/-! ### A row of slices that may be written -/

def MrO (H : Heap) (v : AV) (es : List AV) : Prop :=
  (v = .nils ∧ es = []) ∨ (∃ id pos alt a, v = .sl id 1 pos 1 false alt [a] ∧ es = [a]) ∨ ∃ x cap cs, v = .ms x 1 0 es.length cap ∧ look x H = some (.cells cs) ∧ cs.take es.length = es ∧ es.length ≤ cs.length ∧ es.length ≤ cap

structure Mr (H : Heap) (v : AV) (es : List AV) : Prop where
  o : MrO H v es
  le : es.length ≤ 281474976710656
  cell : ∀ x ∈ es, x.isCell = true

theorem Mr.len {H : Heap} {v : AV} {es : List AV} (h : Mr H v es) : avLen false v = some (.int .i64 es.length) := by
  rcases h.o with ⟨rfl, rfl⟩ | ⟨_, _, _, a, rfl, rfl⟩ | ⟨x, cap, cs, rfl, -⟩ <;> rfl

theorem Mr.ix {H : Heap} {v : AV} {es : List AV} (h : Mr H v es) {k : Nat} (hk : k < es.length) (Q : AV → Prop) : ixv (.ld1 hh) 1 v (.int .i64 k) H Q = Q es[k] := by
  have hc := h.cell _ (List.getElem_mem hk)
  rcases h.o with ⟨rfl, rfl⟩ | ⟨id, pos, alt, a, rfl, rfl⟩ | ⟨x, cap, cs, rfl, hl, ht, hle, hcap⟩
  · simp at hk
  · have : IsSl 1 (.sl id 1 pos 1 false alt [a]) [a] := ⟨.inr ⟨id, pos, 1, false, alt, rfl, by simp⟩, by simp⟩
    exact this.ix1 (k := .i64) (n := k) (by omega) (by omega) (by simpa using hc) H Q
  · unfold ixv
    have h1 : pureV (.iaddr 1 hh hh) [.ms x 1 0 es.length cap, .int .i64 k] = some (.ptr x k) := by
      show (opIaddr 1 (.c (.ms x 1 0 es.length cap)) (.c (.int .i64 k)) noCall .nil ⟨0, [], []⟩).val = _
      unfold opIaddr
      show (if 1 = 1 ∧ (0 : Int) ≤ k ∧ (k : Int) < es.length then OR.ok (.ptr x (0 + (k : Int).toNat * 1)) ⟨0, [], []⟩ else .fail).val = _
      rw [if_pos ⟨rfl, by omega, by omega⟩]
      simp [OR.val]
    rw [h1, opt_some]
    have h2 : hread H (.ptr x k) = some (cs.drop k) := by
      unfold hread
      simp only [hl]
    rw [h2, opt_some]
    have h3 : cs.drop k = es[k] :: cs.drop (k + 1) := by
      have hk' : k < cs.length := by omega
      rw [List.drop_eq_getElem_cons hk']
      congr 1
      have : (cs.take es.length)[k]'(by rw [ht]; exact hk) = cs[k] := List.getElem_take
      rw [← this]
      simp only [ht]
    rw [h3]
    rfl

/-- cut -/
theorem Mr.cut {H : Heap} {v : AV} {es : List AV} (h : Mr H v es) {n : Nat} (h1 : 1 < n) (hn : n ≤ es.length) : ∃ r, pureV (.slL 1 hh none (some hh) none) [v, .int .i64 n] = some r ∧ Mr H r (es.take n) := by
  rcases h.o with ⟨rfl, rfl⟩ | ⟨id, pos, alt, a, rfl, rfl⟩ | ⟨x, cap, cs, rfl, hl, ht, hle, hcap⟩
  · simp at hn; omega
  · simp at hn; omega
  · have hlen : (es.take n).length = n := by rw [List.length_take]; omega
    refine ⟨.ms x 1 0 n cap, ?_, ⟨.inr (.inr ⟨x, cap, cs, by rw [hlen], hl, ?_, by omega, by omega⟩), by rw [hlen]; have := h.le; omega, fun y hy => h.cell y (List.mem_of_mem_take hy)⟩⟩
    · show (opSlL 1 (.c (.ms x 1 0 es.length cap)) none (some (.c (.int .i64 n))) none noCall .nil ⟨0, [], []⟩).val = _
      unfold opSlL
      show (match Nat.beq 1 1 with
        | true => match bnd none Fr.nil cap cap with
          | some m => match (if (0 : Int) ≤ n ∧ (n : Int) ≤ m then some (n : Int).toNat else none) with
            | some h => match bnd none Fr.nil 0 h with
              | some l => match true with
                | true => if l = 0 ∨ l < cap then OR.ok (.ms x 1 (0 + l * 1) (h - l) (cap - l)) ⟨0, [], []⟩ else .fail
                | false => if m = l then .ok .sl0 ⟨0, [], []⟩ else .fail
              | none => .fail
            | none => .fail
          | none => .fail
        | false => .fail : OR).val = _
      simp only [bnd]
      rw [if_pos ⟨by omega, by omega⟩]
      simp [OR.val]
    · rw [hlen, ← ht, List.take_take, Nat.min_eq_left hn]

/-- more at its end -/
theorem Mr.app {H : Heap} {O : Rows} {v y : AV} {es ys : List AV} (h : Mr H v es) (hy : memCells (hT H) 1 y = some (ys.length, ys)) (hc : ∀ x ∈ ys, x.isCell = true) {b : Nat} {z : AV} (hz : 1 ≤ z.cells.length) (hb : 2 * (es.length + ys.length) * b ≤ 2 ^ 48) (hb1 : 1 ≤ b)
    {Q : AV → Heap → Rows → Prop} (hq : ∀ r H', Mr H' r (es ++ ys) → Q r H' O) : wMapp 1 b z v y H O Q := by
  unfold wMapp
  rw [hy]
  show (match ys.length with | 0 => _ | k + 1 => _)
  have hbb : es.length + ys.length ≤ 281474976710656 := by
    have : (es.length + ys.length) * 1 ≤ (es.length + ys.length) * b := Nat.mul_le_mul_left _ hb1
    rw [Nat.mul_assoc] at hb
    omega
  cases hys : ys.length with
  | zero =>
    have : ys = [] := List.length_eq_zero_iff.mp hys
    subst this
    refine ⟨?_, hq v H (by simpa using h)⟩
    rcases h.o with ⟨rfl, rfl⟩ | ⟨_, _, _, a, rfl, rfl⟩ | ⟨x, cap, cs, rfl, -⟩ <;> rfl
  | succ k =>
    have hall : ys.all AV.isCell = true := List.all_eq_true.mpr hc
    have key : ∀ (n : Nat) (o : Option Nat), oldH H 1 (k + 1) v = some (es.length, es, o) → opt (oldH H 1 (k + 1) v) fun o => (2 * (o.1 + (k + 1)) * b ≤ 2 ^ 48 ∧ 1 ≤ z.cells.length ∧ ys.all AV.isCell = true) ∧
        ∀ id, id ∉ ids H → Q (.ms id 1 0 (o.1 + (k + 1)) (o.1 + (k + 1))) ((id, .cells (o.2.1 ++ ys)) :: delO o.2.2 H) O := by
      intro n o ho
      rw [ho, opt_some]
      refine ⟨⟨by rw [← hys]; exact hb, hz, hall⟩, fun id _ => hq _ _ ⟨.inr (.inr ⟨id, es.length + (k + 1), es ++ ys, by rw [List.length_append, hys], look_self _ _ _, List.take_length, Nat.le_refl _, by rw [List.length_append, hys]; exact Nat.le_refl _⟩), by rw [List.length_append]; exact hbb, fun x hx => ?_⟩⟩
      rcases List.mem_append.mp hx with hx | hx
      · exact h.cell x hx
      · exact hc x hx
    rcases h.o with ⟨rfl, rfl⟩ | ⟨id, pos, alt, a, rfl, rfl⟩ | ⟨x, cap, cs, rfl, hl, ht, hle, hcap⟩
    · exact key 0 none rfl
    · refine key 0 none ?_
      have ha := h.cell a (by simp)
      have hk : a.known = true ∧ a.cells = [a] := by cases a <;> first | exact ⟨rfl, rfl⟩ | cases ha
      show Option.map _ (if 1 = 1 ∧ 1 < 1 + (k + 1) ∧ _ then _ else _) = _
      rw [if_pos ⟨rfl, by omega, by simp [hk]⟩]
      simp [hk]
    · refine key 0 (some x) ?_
      unfold oldH
      simp only [hl]
      rw [if_pos ⟨trivial, trivial, by omega⟩]
      simp [ht]

end
end M2
end
section
namespace M2
open Go
noncomputable section
variable {tbl : Nat → Option AFunc}

/-! ### Errors, rows of bytes, functions known otherwise -/

section
variable {dr : Bool} {H : Heap} {O : Rows} {Q : AV → Heap → Rows → Prop} {l : List Opd}
@[go_sem] theorem wo_mki (ty : Nat) (k : IntKind) (n : Int) : wpo tbl dr (.mem (.mki ty) l) [.int k n] H O Q = Q (.ifc ty (.int k n)) H O := rfl
@[go_sem] theorem wo_s2b (s : List UInt8) : wpo tbl dr (.mem .s2b l) [.str s] H O Q = ∀ id, id ∉ ids O → Q (.sl id 1 0 s.length true 0 (s.map fun b => .int .u8 b.toNat)) H ((id, s.length * 1, 1) :: O) := rfl
theorem wo_eqi (neg : Bool) (ts : List Nat) (a b : AV) : wpo tbl dr (.mem (.eqi neg ts) l) [a, b] H O Q = opt (eqI ts a b) fun r => Q (.bool (r != neg)) H O := by
  show opt (memV (.eqi neg ts) [a, b]) _ = _
  unfold memV
  show opt (match memEqi neg ts a b ⟨0, [], []⟩ with | .ok v _ => some v | .fail => none) _ = _
  unfold memEqi
  cases eqI ts a b <;> rfl
@[go_sem] theorem eqi_n (neg : Bool) (a : Nat) (m n : Int) (ts : List Nat) : wpo tbl dr (.mem (.eqi neg (ts)) l) [.ifc a (.int .i64 m), .ifc a (.int .i64 n)] H O Q = (ts.any (Nat.beq a) = true ∧ Q (.bool (decide (m = n) != neg)) H O) := by
  rw [wo_eqi]
  have : eqI ts (.ifc a (.int .i64 m)) (.ifc a (.int .i64 n)) = (match ts.any (Nat.beq a) && decide (IntKind.i64 = .i64) with | true => some (m == n) | false => none) := by
    show (match Nat.beq a a with | false => some false | true => _) = _
    rw [beq_true rfl]
    rfl
  rw [this]
  cases h : ts.any (Nat.beq a) with
  | true =>
    simp only [Bool.true_and, decide_true, true_and]
    have e : (m == n) = decide (m = n) := by by_cases h : m = n <;> simp [h]
    rw [e]; rfl
  | false =>
    simp only [Bool.false_and, Bool.false_eq_true, false_and]
    rfl
@[go_sem] theorem eqk_if0 : pureV (.eqk .iface true hh hh) [.nili, .nili] = some (.bool false) := rfl
@[go_sem] theorem eqk_if1 (a : Nat) (v : AV) : pureV (.eqk .iface true hh hh) [.ifc a v, .nili] = some (.bool true) := rfl
end

theorem enter_leave {t : T} (h1 : t.vs ≠ []) (h2 : t.is ≠ []) (v : AV) : t.enter.leave false v = t := by
  obtain ⟨n, vs, is⟩ := t
  cases vs with
  | nil => exact absurd rfl h1
  | cons a vs =>
    cases is with
    | nil => exact absurd rfl h2
    | cons b is => rfl

theorem pr_pu {i : Nat} {vs : List AV} {v : AV} (hr : ∀ (t : T) (n : Nat), callA tbl (ev tbl (n + 1)) i vs t = .ok v (t.enter.leave false v)) : PuR tbl i vs (· = v) := by
  intro t ht
  refine ⟨v, t, [], [], 1, fun n hn => ?_, .refl ht, rfl⟩
  obtain ⟨m, rfl⟩ : ∃ m, n = m + 1 := ⟨n - 1, by omega⟩
  rw [hr t m, enter_leave ht.v0 ht.i0]

theorem prim1_run {i : Nat} {k : MK} {x v : AV} (hi : tbl i = some ⟨77, [pth 3 0], [(pth 3 1, none)], false, .reg [⟨some (pth 3 1), none, .mem k [.t (pth 3 0)]⟩]⟩) (hk : memPu k = true) (hv : memV k [x] = some v) : PuR tbl i [x] (· = v) := by
  refine pr_pu fun t n => ?_
  unfold callA
  rw [hi]
  simp only [argsIn]
  rw [ev_reg, runOps_one]
  have e : AOp.run (.mem k [.t (pth 3 0)]) (callA tbl (ev tbl n)) (Fr.nil.put (pth 3 0) x) t.enter = .ok v t.enter := by
    show memStep k [(Fr.nil.put (pth 3 0) x).get (pth 3 0)] t.enter = _
    rw [Fr.get_put, if_pos rfl, memPu_step k hk, hv]
  rw [e]
  simp only [afterBody, resultsOf, resultOf, packed]
  rw [Fr.get_put, if_pos rfl]
theorem prim2_run {i : Nat} {k : MK} {x y v : AV} (hi : tbl i = some ⟨77, [pth 3 0, pth 3 1], [(pth 3 2, none)], false, .reg [⟨some (pth 3 2), none, .mem k [.t (pth 3 0), .t (pth 3 1)]⟩]⟩) (hk : memPu k = true) (hv : memV k [x, y] = some v) : PuR tbl i [x, y] (· = v) := by
  refine pr_pu fun t n => ?_
  unfold callA
  rw [hi]
  simp only [argsIn]
  rw [ev_reg, runOps_one]
  have e : AOp.run (.mem k [.t (pth 3 0), .t (pth 3 1)]) (callA tbl (ev tbl n)) ((Fr.nil.put (pth 3 0) x).put (pth 3 1) y) t.enter = .ok v t.enter := by
    show memStep k [((Fr.nil.put (pth 3 0) x).put (pth 3 1) y).get (pth 3 0), ((Fr.nil.put (pth 3 0) x).put (pth 3 1) y).get (pth 3 1)] t.enter = _
    rw [Fr.get_put, Fr.get_put, Fr.get_put, if_pos rfl, if_pos rfl, if_neg (by decide), memPu_step k hk, hv]
  rw [e]
  simp only [afterBody, resultsOf, resultOf, packed]
  rw [Fr.get_put, if_pos rfl]
theorem terr_run {i t1 t2 : Nat} (hi : tbl i = some (primTerr t1 t2)) {fn s : List UInt8} {a b e : Int} (he : e = 1 ∨ e = 2) (hs : s.length ≤ 281474976710656) : PuR tbl i [.str fn, .str s, .int .i64 a, .int .i64 b, .ifc t1 (.int .i64 e)] (· = .ifc t2 .und) := by
  refine pr_pu fun t n => ?_
  unfold callA
  rw [hi]
  simp only [argsIn, primTerr]
  rw [ev_reg, runOps_one]
  generalize hF : ((((Fr.nil.put (pth 3 0) (.str fn)).put (pth 3 1) (.str s)).put (pth 3 2) (.int .i64 a)).put (pth 3 3) (.int .i64 b)).put (pth 3 4) (.ifc t1 (.int .i64 e)) = F
  have g0 : F.get (pth 3 0) = .str fn := by rw [← hF]; rfl
  have g1 : F.get (pth 3 1) = .str s := by rw [← hF]; rfl
  have g2 : F.get (pth 3 2) = .int .i64 a := by rw [← hF]; rfl
  have g3 : F.get (pth 3 3) = .int .i64 b := by rw [← hF]; rfl
  have g4 : F.get (pth 3 4) = .ifc t1 (.int .i64 e) := by rw [← hF]; rfl
  have e : AOp.run (.mem (.terr t1 t2) [.t (pth 3 0), .t (pth 3 1), .t (pth 3 2), .t (pth 3 3), .t (pth 3 4)]) (callA tbl (ev tbl n)) F t.enter = .ok (.ifc t2 .und) t.enter := by
    show memStep (.terr t1 t2) [F.get (pth 3 0), F.get (pth 3 1), F.get (pth 3 2), F.get (pth 3 3), F.get (pth 3 4)] t.enter = _
    rw [g0, g1, g2, g3, g4]
    have h1 : Nat.ble s.length 281474976710656 = true := Nat.ble_eq_true_of_le hs
    rcases he with rfl | rfl
    · show (match Nat.beq t1 t1 && ((Nat.beq 1 1 || Nat.beq 1 2) && Nat.ble s.length 281474976710656) with | true => OR.ok (.ifc t2 .und) t.enter | false => .fail) = _
      rw [h1, beq_true rfl]; rfl
    · show (match Nat.beq t1 t1 && ((Nat.beq 2 1 || Nat.beq 2 2) && Nat.ble s.length 281474976710656) with | true => OR.ok (.ifc t2 .und) t.enter | false => .fail) = _
      rw [h1, beq_true rfl]; rfl
  rw [e]
  simp only [afterBody, resultsOf, resultOf, packed]
  rw [Fr.get_put, if_pos rfl]

end
end M2
end
section
namespace M2
open Go
noncomputable section
variable {tbl : Nat → Option AFunc}

/-! ### Texts: what a row of words is as a text; a text's lines -/

def tokS (t : Tok) : List UInt8 := if t.kind = 2 then decA 10 t.n.toNat else t.text
def textL (l : List Tok) : List UInt8 := joinA [32] (l.map tokS)

theorem joinA_snoc (sep x : List UInt8) : ∀ l : List (List UInt8), joinA sep (l ++ [x]) = if l = [] then x else joinA sep l ++ (sep ++ x)
  | [] => by rfl
  | y :: l => by
    rw [if_neg (by simp)]
    cases l with
    | nil => rfl
    | cons z l =>
      have := joinA_snoc sep x (z :: l)
      rw [if_neg (by simp)] at this
      show y ++ (sep ++ joinA sep ((z :: l) ++ [x])) = (y ++ (sep ++ joinA sep (z :: l))) ++ (sep ++ x)
      rw [this]
      simp only [List.append_assoc]
theorem joinA_len {n : Nat} : ∀ {l : List (List UInt8)}, (∀ x ∈ l, x.length ≤ n) → (joinA [32] l).length ≤ l.length * (n + 1)
  | [], _ => by simp [joinA]
  | y :: l, h => by
    have hy := h y List.mem_cons_self
    cases l with
    | nil => show y.length ≤ 1 * (n + 1); omega
    | cons z l =>
      have := joinA_len (n := n) (l := z :: l) fun x hx => h x (List.mem_cons_of_mem _ hx)
      show (y ++ ([32] ++ joinA [32] (z :: l))).length ≤ (l.length + 1 + 1) * (n + 1)
      simp only [List.length_append, List.length_cons, List.length_nil] at this ⊢
      rw [Nat.add_mul (l.length + 1)]
      omega
theorem strsA_map : ∀ l : List (List UInt8), strsA (l.map AV.str) = some l
  | [] => rfl
  | x :: l => by
    show (match strsA (l.map AV.str) with | some r => some (x :: r) | none => none) = _
    rw [strsA_map l]
theorem decA_len : ∀ (f n : Nat), (decA f n).length ≤ f
  | 0, n => by simp [decA]
  | f + 1, n => by
    unfold decA
    cases Nat.blt n 10
    · have := decA_len f (n / 10); simp; omega
    · simp
theorem tokS_len {t : Tok} (h : tokOk t = true) : (tokS t).length ≤ 12 := by
  unfold tokS
  by_cases k : t.kind = 2
  · rw [if_pos k]; have := decA_len 10 t.n.toNat; omega
  · rw [if_neg k]
    obtain ⟨kind, text, n, pos⟩ := t
    simp only at k ⊢
    by_cases k1 : kind = 1
    · subst k1
      have h := h
      simp only [tokOk, wordOk] at h
      simp at h
      cases text with
      | nil => simp
      | cons c r => simp at h ⊢; omega
    · by_cases k3 : kind = 3
      · subst k3
        simp only [tokOk] at h
        simp at h
        match text, h with
        | [], _ => simp
        | [c], _ => simp
        | _ :: _ :: _, h => simp at h
      · simp [tokOk, k, k1, k3] at h
theorem tok_num {t : Tok} (h : tokOk t = true) (k : t.kind = 2) : 0 ≤ t.n ∧ t.n ≤ 2147483647 := by
  obtain ⟨kind, text, n, pos⟩ := t
  simp only at k
  subst k
  simp [tokOk] at h
  exact ⟨h.2.1, h.2.2⟩
theorem toks_mem {l : List Tok} (h : toksOk l = true) : l.length ≤ 40 ∧ ∀ t ∈ l, tokOk t = true := by
  unfold toksOk at h
  simpa using h

theorem itoa_run {n : Int} (hi : tbl 289 = some primItoag) (h0 : 0 ≤ n) (h1 : n ≤ 2147483647) : PuR tbl 289 [i64 n] (· = .str (decA 10 n.toNat)) := by
  refine prim1_run hi rfl ?_
  obtain ⟨m, rfl⟩ := Int.eq_ofNat_of_zero_le h0
  show memV (.prim 2) [.int .i64 (Int.ofNat m)] = _
  have h2 : Nat.blt m 4294967296 = true := Nat.ble_eq_true_of_le (by omega)
  show (match (match primA 2 [.int .i64 (Int.ofNat m)] with | some v => OR.ok v (⟨0, [], []⟩ : T) | none => .fail) with | .ok v _ => some v | .fail => none) = _
  have h3 : primA 2 [.int .i64 (Int.ofNat m)] = some (.str (decA 10 m)) := by
    show (match decide (IntKind.i64 = .i64) && Nat.blt m 4294967296 with | true => some (AV.str (decA 10 m)) | false => none) = _
    rw [h2]; rfl
  rw [h3]
  rfl
theorem join_run {v : AV} {l : List (List UInt8)} (hi : tbl 290 = some primJoin) (hv : IsSl 1 v (l.map AV.str)) (hl : l.length ≤ 1000000) {sep : List UInt8} (hb : (joinA sep l).length ≤ 100000000) : PuR tbl 290 [v, .str sep] (· = .str (joinA sep l)) := by
  refine prim2_run hi rfl ?_
  have h3 : primA 0 [v, .str sep] = some (.str (joinA sep l)) := by
    obtain ⟨⟨rfl | rfl, h⟩ | ⟨id, pos, cap, fl, alt, rfl, -⟩, -⟩ := hv
    · have : l = [] := by simpa using h
      subst this; rfl
    · have : l = [] := by simpa using h
      subst this; rfl
    · show (match strsA (l.map AV.str) with | some l' => (match Nat.beq 1 1 && Nat.ble (l.map AV.str).length 1000000 && Nat.ble (joinA sep l').length 100000000 with | true => some (AV.str (joinA sep l')) | false => none) | none => none) = _
      rw [strsA_map]
      simp only [List.length_map]
      rw [Nat.ble_eq_true_of_le hl, Nat.ble_eq_true_of_le hb]
      rfl
  show (match (match primA 0 [v, .str sep] with | some v => OR.ok v (⟨0, [], []⟩ : T) | none => .fail) with | .ok v _ => some v | .fail => none) = _
  rw [h3]

theorem split_run {s : List UInt8} (hi : tbl 388 = some primSplit) (hs : s.length < 1000000000) : PuR tbl 388 [.str s, .str [10], i64 0, .int .i64 (.negSucc 0)] (fun r => IsSl 1 r ((cutGo 10 [] s).map AV.str)) := by
  intro t ht
  have hl : (cutGo 10 [] s).length ≤ s.length + 1 := by
    have : ∀ (s cur : List UInt8), (cutGo 10 cur s).length ≤ s.length + 1 := by
      intro s
      induction s with
      | nil => intro cur; simp [cutGo]
      | cons b l ih =>
        intro cur
        unfold cutGo
        cases Nat.beq b.toNat 10
        · have := ih (cur ++ [b]); simp; omega
        · have := ih []; simp; omega
    exact this s []
  refine ⟨.sl t.n 1 0 (cutGo 10 [] s).length true 0 ((cutGo 10 [] s).map AV.str), t.newI ((cutGo 10 [] s).length * 1) 1, [], _, 1, fun n hn => ?_, .newI ht _ _, ⟨.inr ⟨_, _, _, _, _, rfl, by simp⟩, by simp; omega⟩⟩
  obtain ⟨m, rfl⟩ : ∃ m, n = m + 1 := ⟨n - 1, by omega⟩
  unfold callA
  rw [hi]
  simp only [argsIn, primSplit]
  rw [ev_reg, runOps_one]
  generalize hF : (((Fr.nil.put (pth 3 0) (.str s)).put (pth 3 1) (.str [10])).put (pth 3 2) (i64 0)).put (pth 3 3) (.int .i64 (.negSucc 0)) = F
  have g0 : F.get (pth 3 0) = .str s := by rw [← hF]; rfl
  have g1 : F.get (pth 3 1) = .str [10] := by rw [← hF]; rfl
  have g2 : F.get (pth 3 2) = i64 0 := by rw [← hF]; rfl
  have g3 : F.get (pth 3 3) = .int .i64 (.negSucc 0) := by rw [← hF]; rfl
  have e : AOp.run (.mem .splt [.t (pth 3 0), .t (pth 3 1), .t (pth 3 2), .t (pth 3 3)]) (callA tbl (ev tbl m)) F t.enter = .ok (.sl t.n 1 0 (cutGo 10 [] s).length true 0 ((cutGo 10 [] s).map AV.str)) (t.enter.newI ((cutGo 10 [] s).length * 1) 1) := by
    show memStep .splt [F.get (pth 3 0), F.get (pth 3 1), F.get (pth 3 2), F.get (pth 3 3)] t.enter = _
    rw [g0, g1, g2, g3]
    show (match Nat.blt s.length 1000000000 with | true => OR.ok (.sl t.n 1 0 (cutGo 10 [] s).length true 0 ((cutGo 10 [] s).map AV.str)) (t.enter.newI ((cutGo 10 [] s).length * 1) 1) | false => .fail) = _
    have : Nat.blt s.length 1000000000 = true := Nat.ble_eq_true_of_le hs
    rw [this]
  rw [e]
  simp only [afterBody, resultsOf, resultOf, packed]
  rw [Fr.get_put, if_pos rfl]
  have hv := ht.v0
  have hi0 := ht.i0
  obtain ⟨tn, vs, is⟩ := t
  cases vs with
  | nil => exact absurd rfl hv
  | cons a vs =>
    cases is with
    | nil => exact absurd rfl hi0
    | cons b is =>
      show OR.ok _ (T.leave ⟨tn + 1, [] :: a :: vs, [(tn, (cutGo 10 [] s).length * 1, 1)] :: b :: is⟩ false _) = _
      simp [T.leave, leaveVs, leaveIs, AV.tops, T.newI, push, List.filter]

end
end M2
end
section
namespace M2
open Go
noncomputable section
variable {tbl : Nat → Option AFunc}

structure TxtT (tbl : Nat → Option AFunc) : Prop extends LexT tbl, RLexT tbl where
  h286 : tbl 286 = some (flatF x286)
  h289 : tbl 289 = some primItoag
  h290 : tbl 290 = some primJoin
  h560 : tbl 560 = some (flatF x560)
  h561 : tbl 561 = some (flatF x561)

theorem add_str {a b : List UInt8} (h : ((a.length + b.length : Nat) : Int) ≤ 9223372036854775807) : avBin .add (.str a) (.str b) = some (.str (a ++ b)) := by
  show binStr .add a b = _
  unfold binStr
  simp only
  rw [if_pos h]
theorem check_ok (h : TxtT tbl) {v : AV} {l : List Tok} (hv : ToksAre v l) (hz : szToks l) : PuR tbl 561 [v] (· = i64 (if toksOk l then 0 else 1)) := by
  refine pu_of h.h561 w561 rfl rfl ?_
  simp only [x561, go_sem]
  refine call_pu (lexmay_ok h.toLexT hv hz) ?_
  rintro r rfl
  cases toksOk l <;> simp [go_sem]

theorem rtext_ok (h : TxtT tbl) {v : AV} {l : List Tok} (hv : ToksAre v l) (ho : toksOk l = true) : PuR tbl 560 [v] (· = .str (textL l)) := by
  obtain ⟨h40, hok⟩ := toks_mem ho
  refine pu_of h.h560 w560 rfl rfl ?_
  simp only [x560, go_sem]
  refine wLoop_up x560l0.eq_1 l.length (fun k env H O => H = [] ∧ O = [] ∧ env.length = 4 ∧ nth env 0 = v ∧ nth env 2 = .str (joinA [32] ((l.take k).map tokS)) ∧ nth env 3 = i64 k) ?_ ?_ 0 _ [] [] (by omega) ⟨rfl, rfl, rfl, rfl, rfl, rfl⟩
  · rintro k env H O hk ⟨rfl, rfl, e0, e1, e2, e3⟩
    have g1 : (k : Int) < l.length := by omega
    have hk1 : IntKind.i64.wrap ((k : Int) + 1) = ((k + 1 : Nat) : Int) := by rw [wrap_i64 (by omega) (by omega)]; omega
    have hia := hv.ia hk
    have hlen : (joinA [32] ((l.take k).map tokS)).length ≤ 600 := by
      have := joinA_len (n := 12) (l := (l.take k).map tokS) fun x hx => by
        obtain ⟨t, ht, rfl⟩ := List.mem_map.mp hx
        exact tokS_len (hok t (List.mem_of_mem_take ht))
      simp only [List.length_map, List.length_take] at this
      omega
    have hsn : joinA [32] ((l.take (k + 1)).map tokS) = if k = 0 then tokS l[k] else joinA [32] ((l.take k).map tokS) ++ (([32] : List UInt8) ++ tokS l[k]) := by
      rw [List.take_succ_eq_append_getElem hk, List.map_append]
      show joinA [32] (_ ++ [tokS l[k]]) = _
      rw [joinA_snoc]
      by_cases hk0 : k = 0
      · rw [if_pos (by subst hk0; rfl), if_pos hk0]
      · rw [if_neg (by intro hh; have := congrArg List.length hh; rw [List.length_map, List.length_take, List.length_nil] at this; omega), if_neg hk0]
    have hz := tokS_len (hok _ (List.getElem_mem hk))
    have hnum := tok_num (hok _ (List.getElem_mem hk))
    rw [hsn]
    clear hsn
    generalize hp : joinA [32] ((l.take k).map tokS) = pre at hlen e2 ⊢
    generalize hT : l[k] = t at hia hz hnum ⊢
    unfold tokS at hz ⊢
    by_cases hk0 : k = 0
    · have g0 : ¬ (0 : Int) < (k : Int) := by omega
      have hp0 : pre = [] := by rw [← hp, hk0]; rfl
      subst hp0
      rw [if_pos hk0]
      by_cases k2 : t.kind = 2
      · rw [if_pos k2] at hz ⊢
        obtain ⟨n0, n1⟩ := hnum k2
        have a1 : avBin .add (.str []) (.str (decA 10 t.n.toNat)) = some (.str (decA 10 t.n.toNat)) := add_str (by simp; omega)
        simp only [go_sem, e0, e1, e2, e3, hv.len, g1, g0, hia, k2, decide_true, decide_false, nth_puts, length_put, Nat.reduceEqDiff, ↓reduceIte, Nat.reduceLT, hk1]
        refine call_pu (itoa_run h.h289 n0 n1) ?_
        rintro r rfl
        simp only [go_sem, a1, nth_puts, length_put, e0, e1, e2, e3, Nat.reduceEqDiff, ↓reduceIte, Nat.reduceLT, hk1]
      · rw [if_neg k2] at hz ⊢
        have a1 : avBin .add (.str []) (.str t.text) = some (.str t.text) := add_str (by simp; omega)
        simp only [go_sem, a1, e0, e1, e2, e3, hv.len, g1, g0, hia, k2, decide_true, decide_false, nth_puts, length_put, Nat.reduceEqDiff, ↓reduceIte, Nat.reduceLT, hk1]
    · have g0 : (0 : Int) < (k : Int) := by omega
      rw [if_neg hk0]
      have a0 : avBin .add (.str pre) (.str [32]) = some (.str (pre ++ [32])) := add_str (by simp; omega)
      by_cases k2 : t.kind = 2
      · rw [if_pos k2] at hz ⊢
        obtain ⟨n0, n1⟩ := hnum k2
        have a1 : avBin .add (.str (pre ++ [32])) (.str (decA 10 t.n.toNat)) = some (.str (pre ++ [32] ++ decA 10 t.n.toNat)) := add_str (by simp; omega)
        simp only [go_sem, a0, e0, e1, e2, e3, hv.len, g1, g0, hia, k2, decide_true, decide_false, nth_puts, length_put, Nat.reduceEqDiff, ↓reduceIte, Nat.reduceLT, hk1]
        refine call_pu (itoa_run h.h289 n0 n1) ?_
        rintro r rfl
        simp only [go_sem, a1, nth_puts, length_put, e0, e1, e2, e3, Nat.reduceEqDiff, ↓reduceIte, Nat.reduceLT, hk1, List.append_assoc]
      · rw [if_neg k2] at hz ⊢
        have a1 : avBin .add (.str (pre ++ [32])) (.str t.text) = some (.str (pre ++ [32] ++ t.text)) := add_str (by simp; omega)
        simp only [go_sem, a0, a1, e0, e1, e2, e3, hv.len, g1, g0, hia, k2, decide_true, decide_false, nth_puts, length_put, Nat.reduceEqDiff, ↓reduceIte, Nat.reduceLT, hk1, List.append_assoc]
  · rintro env H O ⟨rfl, rfl, e0, e1, e2, e3⟩
    have g1 : ¬ (l.length : Int) < l.length := by omega
    rw [List.take_length] at e2
    simp only [go_sem, e0, e1, e2, e3, hv.len, g1, decide_false, nth_puts, length_put, Nat.reduceEqDiff, ↓reduceIte, Nat.reduceLT]
    rfl

end
end M2
end
section
namespace M2
open Go
noncomputable section
variable {tbl : Nat → Option AFunc}

theorem text_ok (h : TxtT tbl) {v : AV} {l : List Tok} (hv : ToksAre v l) (hz : szToks l) : PuR tbl 286 [v] (· = if toksOk l then .tup [.str (textL l), i64 0] else .tup [.str [], i64 1]) := by
  refine pu_of h.h286 w286 rfl rfl ?_
  simp only [x286, go_sem]
  refine call_pu (lexmay_ok h.toLexT hv hz) ?_
  rintro r rfl
  cases ho : toksOk l
  · simp [go_sem]
  · obtain ⟨h40, hok⟩ := toks_mem ho
    simp only [go_sem, hv.len]
    refine ⟨(fun hh => by cases hh), fun _ => ?_⟩
    refine wLoop_up x286l0.eq_1 l.length (fun k env H O => H = [] ∧ ∃ u, Ap O 1 u ((l.take k).map fun t => .str (tokS t)) ∧ env.length = 9 ∧ nth env 3 = u ∧ nth env 5 = v ∧ nth env 6 = i64 l.length ∧ nth env 7 = i64 k) ?_ ?_ 0 _ [] [] (by omega) ⟨rfl, .nils, ap_nils _ _, rfl, rfl, rfl, rfl, rfl⟩
    · rintro k env H O hk ⟨rfl, u, hu, e0, e3, e5, e6, e7⟩
      have g1 : (k : Int) < l.length := by omega
      have hk1 : IntKind.i64.wrap ((k : Int) + 1) = ((k + 1 : Nat) : Int) := by rw [wrap_i64 (by omega) (by omega)]; omega
      have hok1 := hok _ (List.getElem_mem hk)
      have hnum := tok_num hok1
      have hix := fun H Q => hv.ix hk H Q
      have hsn : (l.take (k + 1)).map (fun t => AV.str (tokS t)) = (l.take k).map (fun t => AV.str (tokS t)) ++ [.str (tokS l[k])] := by
        rw [List.take_succ_eq_append_getElem hk, List.map_append]; rfl
      have hul : ((l.take k).map fun t => AV.str (tokS t)).length ≤ 40 := by rw [List.length_map, List.length_take]; omega
      rw [hsn]
      clear hsn
      generalize l[k] = t at *
      unfold tokS at hu hul ⊢
      by_cases k2 : t.kind = 2
      · rw [if_pos k2]
        obtain ⟨n0, n1⟩ := hnum k2
        simp only [go_sem, e0, e3, e5, e6, e7, g1, hix, k2, decide_true, decide_false, nth_puts, length_put, Nat.reduceEqDiff, ↓reduceIte, Nat.reduceLT, Nat.reduceAdd, Nat.reduceLeDiff, and_self, hk1]
        refine call_pu (itoa_run h.h289 n0 n1) ?_
        rintro r rfl
        simp only [go_sem, e0, e3, e5, e6, e7, nth_puts, length_put, Nat.reduceEqDiff, ↓reduceIte, Nat.reduceLT, Nat.reduceAdd, Nat.reduceLeDiff, and_self, hk1]
        intro id
        refine ap1_ok hu (v := .str (decA 10 t.n.toNat)) rfl rfl rfl (by decide) (by omega) (by decide) ?_ id
        intro r O' hr _
        simp only [go_sem, e0, e3, e5, e6, e7, nth_puts, length_put, Nat.reduceEqDiff, ↓reduceIte, Nat.reduceLT, Nat.reduceAdd, Nat.reduceLeDiff, and_self, hk1]
        exact ⟨r, hr, by simp⟩
      · rw [if_neg k2]
        simp only [go_sem, e0, e3, e5, e6, e7, g1, hix, k2, decide_true, decide_false, nth_puts, length_put, Nat.reduceEqDiff, ↓reduceIte, Nat.reduceLT, Nat.reduceAdd, Nat.reduceLeDiff, and_self, hk1]
        intro id
        refine ap1_ok hu (v := .str t.text) rfl rfl rfl (by decide) (by omega) (by decide) ?_ id
        intro r O' hr _
        simp only [go_sem, e0, e3, e5, e6, e7, nth_puts, length_put, Nat.reduceEqDiff, ↓reduceIte, Nat.reduceLT, Nat.reduceAdd, Nat.reduceLeDiff, and_self, hk1]
        exact ⟨r, hr, by simp⟩
    · rintro env H O ⟨rfl, u, hu, e0, e3, e5, e6, e7⟩
      have g1 : ¬ (l.length : Int) < l.length := by omega
      rw [List.take_length] at hu
      simp only [go_sem, e0, e3, e5, e6, e7, g1, decide_false, nth_puts, length_put, Nat.reduceEqDiff, ↓reduceIte, Nat.reduceLT]
      have hs : IsSl 1 u ((l.map tokS).map AV.str) := by
        have := hu.sl
        rwa [List.map_map]
      have hb := joinA_len (n := 12) (l := l.map tokS) fun x hx => by
        obtain ⟨t, ht, rfl⟩ := List.mem_map.mp hx
        exact tokS_len (hok t ht)
      rw [List.length_map] at hb
      refine call_pu (join_run h.h290 hs (by simp; omega) (by omega)) ?_
      rintro r rfl
      rfl

end
end M2
end
section
namespace M2
open Go
noncomputable section
variable {tbl : Nat → Option AFunc}

structure SplT (tbl : Nat → Option AFunc) : Prop where
  h357 : tbl 357 = some (flatF x357)
  h370 : tbl 370 = some (flatF x370)
  h388 : tbl 388 = some primSplit
  h147 : tbl 147 = some (flatF x147)
  h368 : tbl 368 = some (flatF x368)

abbrev linesL (s : List UInt8) : List (List UInt8) := cutGo 10 [] s

theorem IsSl.ixStr {v : AV} {xs : List (List UInt8)} (h : IsSl 1 v (xs.map AV.str)) {k : Nat} (hk : k < xs.length) (H : Heap) (Q : AV → Prop) : ixv (.ld1 hh) 1 v (.int .i64 k) H Q = Q (.str xs[k]) := by
  have := h.ix1 (k := .i64) (n := (k : Int)) (by omega) (by rw [List.length_map]; omega) (by simp [AV.isCell]) H Q
  simpa using this

theorem cutGo_len (s : List UInt8) : ∀ cur : List UInt8, (cutGo 10 cur s).length ≤ s.length + 1 := by
  induction s with
  | nil => intro cur; simp [cutGo]
  | cons b l ih =>
    intro cur
    unfold cutGo
    cases Nat.beq b.toNat 10
    · have := ih (cur ++ [b]); simp; omega
    · have := ih []; simp; omega

theorem ssplit_ok (h : SplT tbl) {s : List UInt8} (hs : s.length < 1000000000) : PuR tbl 370 [.str s, .str [10]] (fun r => IsSl 1 r ((linesL s).map AV.str)) := by
  refine pu_of h.h370 w370 rfl rfl ?_
  simp only [x370, go_sem]
  refine call_pu (split_run h.h388 hs) ?_
  intro r hr
  exact hr

def SplR (s : List UInt8) (r : AV) : Prop := (s.length ≤ 4000 ∧ (linesL s).length ≤ 300 ∧ ∃ v, r = .tup [v, i64 0] ∧ IsSl 1 v ((linesL s).map AV.str)) ∨ (¬(s.length ≤ 4000 ∧ (linesL s).length ≤ 300) ∧ r = .tup [.nils, i64 2])

theorem split_ok (h : SplT tbl) {s : List UInt8} (hs : s.length < 1000000000) : PuR tbl 357 [.str s] (SplR s) := by
  refine pu_of h.h357 w357 rfl rfl ?_
  simp only [x357, go_sem]
  refine call_pu (ssplit_ok h hs) ?_
  intro v hv
  have hl := hv.len
  rw [List.length_map] at hl
  simp only [go_sem, hl]
  refine ⟨fun g1 => .inr ⟨by omega, rfl⟩, fun g1 => ⟨fun g2 => .inr ⟨by omega, rfl⟩, fun g2 => .inl ⟨by omega, by omega, _, rfl, hv⟩⟩⟩

def RSplR (s : List UInt8) (r : AV) : Prop := (s.length ≤ 4000 ∧ ∃ v, r = .tup [v, .bool (decide ((linesL s).length ≤ 300))] ∧ IsSl 1 v ((linesL s).map AV.str)) ∨ (¬ s.length ≤ 4000 ∧ r = .tup [.nils, .bool false])

theorem rsplit_ok (h : SplT tbl) {s : List UInt8} (hs : s.length ≤ 140737488351232) : PuR tbl 147 [.str s] (RSplR s) := by
  refine pu_of h.h147 w147 rfl rfl ?_
  simp only [x147, go_sem]
  refine ⟨fun g => .inr ⟨by omega, rfl⟩, fun g => ?_⟩
  have g : s.length ≤ 4000 := by omega
  refine wLoop_up x147l0.eq_1 s.length (fun k env H O => H = [] ∧ ∃ u pre, ∃ f : Nat, Ap O 1 u (pre.map AV.str) ∧ pre.length ≤ k ∧ f ≤ k ∧ linesL s = pre ++ cutGo 10 ((s.drop f).take (k - f)) (s.drop k) ∧ env.length = 6 ∧ nth env 0 = .str s ∧ nth env 3 = u ∧ nth env 4 = i64 f ∧ nth env 5 = i64 k) ?_ ?_ 0 _ [] [] (by omega) ⟨rfl, .nils, [], 0, ap_nils _ _, by simp, by omega, rfl, rfl, rfl, rfl, rfl, rfl⟩
  · rintro k env H O hk ⟨rfl, u, pre, f, hu, hpl, hf, hc, e0, e00, e3, e4, e5⟩
    have g1 : (k : Int) < s.length := by omega
    have hk1 : IntKind.i64.wrap ((k : Int) + 1) = ((k + 1 : Nat) : Int) := by rw [wrap_i64 (by omega) (by omega)]; omega
    have hix := pureV_idxS s .i64 (i := k) hk
    have hsl := slS_lh s .i64 .i64 (n := f) (m := k) hf (by omega)
    have hd1 : s.drop k = s[k] :: s.drop (k + 1) := List.drop_eq_getElem_cons hk
    rw [hd1] at hc
    have htk : (s.drop f).take (k + 1 - f) = (s.drop f).take (k - f) ++ [s[k]] := by
      rw [show k + 1 - f = (k - f) + 1 by omega, List.take_succ_eq_append_getElem (by rw [List.length_drop]; omega)]
      congr 2
      rw [List.getElem_drop]
      congr 1
      omega
    generalize s[k] = c at *
    by_cases hc10 : (c.toNat : Int) = 10
    · have hb : Nat.beq c.toNat 10 = true := by rw [show c.toNat = 10 by omega]; rfl
      have hcg : cutGo 10 ((s.drop f).take (k - f)) (c :: s.drop (k + 1)) = (s.drop f).take (k - f) :: cutGo 10 [] (s.drop (k + 1)) := by
        conv => lhs; unfold cutGo
        rw [hb]
      rw [hcg] at hc
      simp only [go_sem, e0, e00, e3, e4, e5, g1, hix, hsl, hc10, decide_true, decide_false, nth_puts, length_put, Nat.reduceEqDiff, ↓reduceIte, Nat.reduceLT, Nat.reduceAdd, Nat.reduceLeDiff, and_self, hk1]
      intro id
      refine ap1_ok hu (v := .str ((s.drop f).take (k - f))) rfl rfl rfl (by decide) (by rw [List.length_map]; omega) (by decide) ?_ id
      intro r O' hr _
      simp only [go_sem, e0, e00, e3, e4, e5, g1, hix, hsl, hc10, decide_true, decide_false, nth_puts, length_put, Nat.reduceEqDiff, ↓reduceIte, Nat.reduceLT, Nat.reduceAdd, Nat.reduceLeDiff, and_self, hk1]
      refine ⟨r, pre ++ [(s.drop f).take (k - f)], k + 1, ?_, by simp; omega, by omega, ?_, rfl, rfl⟩
      · rw [List.map_append]; exact hr
      · rw [hc, Nat.sub_self, List.take_zero, List.append_assoc]; rfl
    · have hb : Nat.beq c.toNat 10 = false := by
        cases hh : Nat.beq c.toNat 10 with
        | false => rfl
        | true => exact absurd (Nat.eq_of_beq_eq_true hh) (by omega)
      have hcg : cutGo 10 ((s.drop f).take (k - f)) (c :: s.drop (k + 1)) = cutGo 10 ((s.drop f).take (k - f) ++ [c]) (s.drop (k + 1)) := by
        conv => lhs; unfold cutGo
        rw [hb]
      rw [hcg] at hc
      simp only [go_sem, e0, e00, e3, e4, e5, g1, hix, hsl, hc10, decide_true, decide_false, nth_puts, length_put, Nat.reduceEqDiff, ↓reduceIte, Nat.reduceLT, Nat.reduceAdd, Nat.reduceLeDiff, and_self, hk1]
      exact ⟨u, pre, f, hu, by omega, by omega, by rw [htk]; exact hc, rfl, rfl⟩
  · rintro env H O ⟨rfl, u, pre, f, hu, hpl, hf, hc, e0, e00, e3, e4, e5⟩
    have g1 : ¬ (s.length : Int) < s.length := by omega
    have hsl := slS_lo s .i64 (n := f) hf
    rw [List.drop_length, List.take_of_length_le (by rw [List.length_drop]; omega)] at hc
    change linesL s = pre ++ [s.drop f] at hc
    simp only [go_sem, e0, e00, e3, e4, e5, g1, hsl, decide_false, nth_puts, length_put, Nat.reduceEqDiff, ↓reduceIte, Nat.reduceLT]
    intro id
    refine ap1_ok hu (v := .str (s.drop f)) rfl rfl rfl (by decide) (by rw [List.length_map]; omega) (by decide) ?_ id
    intro r O' hr _
    have hr' : IsSl 1 r ((linesL s).map AV.str) := by
      rw [hc, List.map_append]; exact hr.sl
    have hl := hr'.len
    rw [List.length_map] at hl
    simp only [go_sem, e0, e00, e3, e4, e5, hl, nth_puts, length_put, Nat.reduceEqDiff, ↓reduceIte, Nat.reduceLT, Nat.reduceAdd, Nat.reduceLeDiff, and_self]
    refine .inl ⟨g, r, ?_, hr'⟩
    congr 3
    simp
    omega

theorem eqstr_ok (h : SplT tbl) {va vb : AV} {xs ys : List (List UInt8)} (ha : IsSl 1 va (xs.map AV.str)) (hb : IsSl 1 vb (ys.map AV.str)) : PuR tbl 368 [va, vb] (· = .bool (decide (xs = ys))) := by
  have hle := ha.le
  rw [List.length_map] at hle
  have la := ha.len
  have lb := hb.len
  rw [List.length_map] at la lb
  refine pu_of h.h368 w368 rfl rfl ?_
  simp only [x368, go_sem, la, lb]
  refine ⟨fun hl => ?_, fun hl => ?_⟩
  · have : ¬ xs = ys := fun e => hl (by rw [e])
    rw [decide_eq_false this]
  · simp only [Classical.not_not] at hl
    have hl : xs.length = ys.length := by omega
    refine wLoop_up x368l0.eq_1 xs.length (fun k env H O => H = [] ∧ O = [] ∧ (∀ i (h1 : i < xs.length) (h2 : i < ys.length), i < k → xs[i] = ys[i]) ∧ env.length = 4 ∧ nth env 0 = va ∧ nth env 1 = vb ∧ nth env 3 = i64 k) ?_ ?_ 0 _ [] [] (by omega) ⟨rfl, rfl, fun i _ _ hi => absurd hi (by omega), rfl, rfl, rfl, rfl⟩
    · rintro k env H O hk ⟨rfl, rfl, hal, e0, e1, e2, e3⟩
      have hk2 : k < ys.length := by omega
      have g1 : (k : Int) < xs.length := by omega
      have hk1 : IntKind.i64.wrap ((k : Int) + 1) = ((k + 1 : Nat) : Int) := by rw [wrap_i64 (by omega) (by omega)]; omega
      simp only [go_sem, e0, e1, e2, e3, la, g1, decide_true, ha.ixStr hk, hb.ixStr hk2, nth_puts, length_put, Nat.reduceEqDiff, ↓reduceIte, Nat.reduceLT, hk1]
      refine ⟨fun hne => ?_, fun heq => ?_⟩
      · have : ¬ xs = ys := fun e => hne (by subst e; rfl)
        rw [decide_eq_false this]
      · intro i h1 h2 hi
        by_cases hik : i < k
        · exact hal i h1 h2 hik
        · obtain rfl : i = k := by omega
          exact Classical.not_not.mp heq
    · rintro env H O ⟨rfl, rfl, hal, e0, e1, e2, e3⟩
      have g1 : ¬ (xs.length : Int) < xs.length := by omega
      simp only [go_sem, e0, e1, e2, e3, la, g1, decide_false, nth_puts, length_put, Nat.reduceEqDiff, ↓reduceIte, Nat.reduceLT]
      have : xs = ys := List.ext_getElem hl fun i h1 h2 => hal i h1 h2 h1
      rw [decide_eq_true this]

end
end M2
end
section
namespace M2
open Go
noncomputable section
variable {tbl : Nat → Option AFunc}

structure Hv8T (tbl : Nat → Option AFunc) : Prop where
  h47 : tbl 47 = some (flatF x47)
  h58 : tbl 58 = some (flatF x58)
  h59 : tbl 59 = some (flatF x59)

def TextsR (es : List AV) (r : AV) : Prop := ∃ n : Int, r = i64 n ∧ 0 ≤ n ∧ n ≤ 562949953421312 ∧ (n < 1048576 → ∀ s, AV.str s ∈ es → (s.length : Int) ≤ n)

theorem texts8_ok (h : Hv8T tbl) {v : AV} {es : List AV} (hv : IsSl 1 v es) (hs : IsSS es) : PuR tbl 58 [v] (TextsR es) := by
  have hle := hv.le
  refine pu_of h.h58 w58 rfl rfl ?_
  simp only [x58, go_sem, hv.len]
  refine wLoop_wf x58l0.eq_1 (fun k : Nat => es.length - k) (fun k env H O => H = [] ∧ O = [] ∧ k ≤ es.length ∧ ∃ n : Int, (0 ≤ n ∧ n ≤ 562949953421312) ∧ (∀ i (hi : i < es.length), i < k → ∀ s, es[i] = AV.str s → (s.length : Int) ≤ n) ∧ env.length = 4 ∧ nth env 0 = v ∧ nth env 2 = i64 n ∧ nth env 3 = i64 k) ?_ 0 _ [] [] ⟨rfl, rfl, by omega, es.length, by omega, fun i _ hi => absurd hi (by omega), rfl, rfl, rfl, rfl⟩
  rintro k env H O ⟨rfl, rfl, hk, n, hn, hall, e0, e1, e2, e3⟩
  simp only [go_sem, e0, e1, e2, e3, hv.len]
  have fin : (¬ (k : Int) < es.length ∨ ¬ n < 1048576) → TextsR es (nth (put env 1 (i64 n)) 1) := fun hh => by
    simp only [nth_puts, e0]
    refine ⟨n, rfl, hn.1, hn.2, fun hlt s hm => ?_⟩
    obtain ⟨i, hi, he⟩ := List.getElem_of_mem hm
    exact hall i hi (by omega) s he
  refine ⟨fun g1 => ⟨fun g2 => ?_, fun g2 => ?_⟩, fun g1 => ?_⟩
  · obtain ⟨s, he, hsl⟩ := hs _ (List.getElem_mem (show k < es.length by omega))
    have hix : ∀ (H : Heap) (Q : AV → Prop), ixv (.ld1 hh) 1 v (.int .i64 k) H Q = Q (.str s) := fun H Q => by
      rw [hv.ix1 (k := .i64) (n := (k : Int)) (by omega) (by omega) (by simp only [Int.toNat_natCast]; rw [he]; rfl) H Q]
      simp only [Int.toNat_natCast]; rw [he]
    have hk1 : IntKind.i64.wrap ((k : Int) + 1) = ((k + 1 : Nat) : Int) := by rw [wrap_i64 (by omega) (by omega)]; omega
    have hw : IntKind.i64.wrap (n + s.length) = n + s.length := wrap_i64 (by omega) (by omega)
    simp only [go_sem, hix, hw, hk1, nth_puts, length_put, e0, e1, e2, e3, Nat.reduceEqDiff, ↓reduceIte, Nat.reduceLT]
    refine ⟨k + 1, by omega, by omega, n + s.length, by omega, fun i hi hik s' he' => ?_, rfl, rfl⟩
    by_cases hlt : i < k
    · have := hall i hi hlt s' he'; omega
    · obtain rfl : i = k := by omega
      rw [he] at he'
      injection he' with he'
      subst he'
      omega
  · exact fin (.inr g2)
  · exact fin (.inl g1)

theorem tokw8_ok (h : Hv8T tbl) {v : AV} {l : List Tok} (hv : ToksAre v l) (hz : szToks l) : PuR tbl 59 [v] Small := by
  have hle := hv.le
  refine pu_of h.h59 w59 rfl rfl ?_
  simp only [x59, go_sem, hv.len]
  refine wLoop_wf x59l0.eq_1 (fun k : Nat => l.length - k) (fun k env H O => H = [] ∧ O = [] ∧ k ≤ l.length ∧ ∃ n : Int, (0 ≤ n ∧ n ≤ 562949953421312) ∧ env.length = 4 ∧ nth env 0 = v ∧ nth env 2 = i64 n ∧ nth env 3 = i64 k) ?_ 0 _ [] [] ⟨rfl, rfl, by omega, l.length, by omega, rfl, rfl, rfl, rfl⟩
  rintro k env H O ⟨rfl, rfl, hk, n, hn, e0, e1, e2, e3⟩
  simp only [go_sem, e0, e1, e2, e3, hv.len]
  have fin : Small (nth (put env 1 (i64 n)) 1) := by simp only [nth_puts, e0]; exact ⟨n, rfl, hn.1, hn.2⟩
  refine ⟨fun g1 => ⟨fun g2 => ?_, fun g2 => ?_⟩, fun g1 => ?_⟩
  · have hkl : k < l.length := by omega
    have hia := hv.ia hkl
    have hsl := hz _ (List.getElem_mem hkl)
    have hk1 : IntKind.i64.wrap ((k : Int) + 1) = ((k + 1 : Nat) : Int) := by rw [wrap_i64 (by omega) (by omega)]; omega
    generalize l[k] = t at *
    have hq : (t.text.length : Int).tdiv 4 = ((t.text.length / 4 : Nat) : Int) := by rw [Int.tdiv_eq_ediv_of_nonneg (by omega)]; rfl
    have hq4 : t.text.length / 4 ≤ t.text.length := Nat.div_le_self _ _
    have hw0 : IntKind.i64.wrap ((t.text.length / 4 : Nat) : Int) = ((t.text.length / 4 : Nat) : Int) := wrap_i64 (by omega) (by omega)
    have hw : IntKind.i64.wrap (n + ((t.text.length / 4 : Nat) : Int)) = n + ((t.text.length / 4 : Nat) : Int) := wrap_i64 (by omega) (by omega)
    simp only [go_sem, hia, hq, hw0, hw, hk1, nth_puts, length_put, e0, e1, e2, e3, Nat.reduceEqDiff, ↓reduceIte, Nat.reduceLT, show ¬ (4 : Int) = 0 by omega, if_false]
    exact ⟨k + 1, by omega, by omega, n + ((t.text.length / 4 : Nat) : Int), by omega, rfl, rfl⟩
  · exact fin
  · exact fin

def HeavyR (ss : List AV) (r : AV) : Prop := ∃ b, r = .bool b ∧ (b = false → ∀ s, AV.str s ∈ ss → s.length ≤ 7207)

theorem heavy8x_ok (h : Hv8T tbl) {vT vS : AV} {tt ss : List AV} (hT : IsSl 1 vT tt) (hTT : IsTT tt) (hS : IsSl 1 vS ss) (hSS : IsSS ss) : PuR tbl 47 [.agg [vS, vT]] (HeavyR ss) := by
  have hle := hT.le
  refine pu_of h.h47 w47 rfl rfl ?_
  simp only [x47, go_sem, hT.len]
  refine call_pu (texts8_ok h hS hSS) ?_
  rintro r ⟨m, rfl, hm0, hm1, hmx⟩
  have hq : m.tdiv 8 = m / 8 := Int.tdiv_eq_ediv_of_nonneg hm0
  have hw0 : IntKind.i64.wrap (m / 8) = m / 8 := wrap_i64 (by omega) (by omega)
  have hw : IntKind.i64.wrap ((tt.length : Int) + m / 8) = (tt.length : Int) + m / 8 := wrap_i64 (by omega) (by omega)
  simp only [go_sem, hq, hw0, hw, show ¬ (8 : Int) = 0 by omega, if_false]
  refine wLoop_wf x47l0.eq_1 (fun k : Nat => tt.length - k) (fun k env H O => H = [] ∧ O = [] ∧ k ≤ tt.length ∧ ∃ n : Int, (0 ≤ n ∧ n ≤ 1125899906842624) ∧ m / 8 ≤ n ∧ env.length = 5 ∧ nth env 1 = .agg [vS, vT] ∧ nth env 3 = i64 n ∧ nth env 4 = i64 k) ?_ 0 _ [] [] ⟨rfl, rfl, by omega, _, ⟨by omega, by omega⟩, by omega, rfl, rfl, rfl, rfl⟩
  rintro k env H O ⟨rfl, rfl, hk, n, hn, hmn, e0, e1, e2, e3⟩
  simp only [go_sem, e0, e1, e2, e3, hT.len, Nat.reduceAdd, Nat.reduceLeDiff]
  have fin : HeavyR ss (nth (put env 2 (.bool (decide (n > 900)))) 2) := by
    refine ⟨_, by simp only [nth_puts, e0]; rfl, fun hb s hs => ?_⟩
    simp at hb
    have := hmx (by omega) s hs
    omega
  refine ⟨fun g1 => ⟨fun g2 => ?_, fun g2 => fin⟩, fun g1 => fin⟩
  obtain ⟨x, l, hx, hz, -, hix⟩ := hT.ixT hTT (i := k) (by omega)
  simp only [go_sem, hix]
  refine call_pu (tokw8_ok h hx hz) ?_
  rintro r ⟨m2, rfl, hm2⟩
  have hk1 : IntKind.i64.wrap ((k : Int) + 1) = ((k + 1 : Nat) : Int) := by rw [wrap_i64 (by omega) (by omega)]; omega
  have hw2 : IntKind.i64.wrap (n + m2) = n + m2 := wrap_i64 (by omega) (by omega)
  simp only [go_sem, hw2, hk1, nth_puts, length_put, e0, e1, e2, e3, Nat.reduceEqDiff, ↓reduceIte, Nat.reduceLT]
  exact ⟨k + 1, by omega, by omega, n + m2, by omega, by omega, rfl, rfl⟩

theorem num_ok (h : tbl 281 = some (flatF x281)) (n : Int) : PuR tbl 281 [i64 n] (· = i64 n) := by
  refine pu_of h w281 rfl rfl ?_
  simp [x281, go_sem]

end
end M2
end
section
namespace M2
open Go
noncomputable section
variable {tbl : Nat → Option AFunc}

theorem prim0_run {i : Nat} (hi : tbl i = some primTrue) : PuR tbl i [] (· = .bool true) := by
  refine pr_pu fun t n => ?_
  unfold callA
  rw [hi]
  simp only [argsIn, primTrue]
  have e : ev tbl (n + 1) (.reg [⟨some (pth 3 0), none, .mv (.c (.bool true))⟩]) Fr.nil t.enter = .norm (Fr.nil.put (pth 3 0) (.bool true)) t.enter := rfl
  rw [e]
  simp only [afterBody, resultsOf, resultOf, packed]
  rw [Fr.get_put, if_pos rfl]

theorem ask8_of {cs : List AV} (h : TyR ask8Ty cs) : ∃ vT vS tt ss, cs = [vS, vT] ∧ IsSl 1 vT tt ∧ IsTT tt ∧ IsSl 1 vS ss ∧ IsSS ss ∧ tt.length * 24 ≤ 140737488351232 ∧ ss.length * 16 ≤ 140737488351232 := by
  obtain ⟨x1, y1, rfl, -, ⟨vS, ss, rfl, h2, h2b, h2e⟩, x2, y2, rfl, -, ⟨vT, tt, rfl, h1, h1b, h1e⟩, rfl⟩ := h
  refine ⟨vT, vS, tt, ss, rfl, h1, fun x hx => ?_, h2, fun x hx => ?_, h1b, h2b⟩
  · obtain ⟨cs, -, hc, rfl⟩ := h1e x hx
    obtain ⟨v, l, rfl, k1, k2, k3⟩ := toks_of hc
    exact ⟨l, k1, k2, k3⟩
  · obtain ⟨cs, -, ⟨s, hs, rfl⟩, rfl⟩ := h2e x hx
    exact ⟨s, rfl, hs⟩

structure LexTextsT (tbl : Nat → Option AFunc) : Prop extends TxtT tbl, SplT tbl, Hv8T tbl where
  h27 : tbl 27 = some (flatF x27)
  h38 : tbl 38 = some (flatF x38)
  h281 : tbl 281 = some (flatF x281)
  h282 : tbl 282 = some primTrue
structure LexTextsH (tbl : Nat → Option AFunc) : Prop extends LexTextsT tbl where
  h559 : tbl 559 = some (flatF x559)

theorem lt_loop0 (h : LexTextsT tbl) {vT vS : AV} {es : List AV} (hv : IsSl 1 vT es) (ht : IsTT es) {O0 : Rows} {Q : XR → Prop}
    (hx : ∀ env O, env.length = 16 → nth env 1 = .agg [vS, vT] → nth env 2 = .bool false → Q (.exit 0 env [] O)) (env : List AV) (O : Rows)
    (he : env.length = 16 ∧ nth env 1 = .agg [vS, vT] ∧ nth env 2 = .bool false ∧ nth env 3 = i64 0) : wLoop (wpc tbl x559l0) env [] O Q := by
  have hle := hv.le
  refine wLoop_up x559l0.eq_1 (min es.length 8) (fun i env H O => H = [] ∧ env.length = 16 ∧ nth env 1 = .agg [vS, vT] ∧ nth env 2 = .bool false ∧ nth env 3 = i64 i) ?_ ?_ 0 env [] O (by omega) ⟨rfl, he⟩
  · rintro i env H O hi' ⟨rfl, e0, e1, e2, e3⟩
    have hi : i < es.length := by omega
    have g1 : (i : Int) < es.length := by omega
    have g2 : (i : Int) < 8 := by omega
    have hk1 : IntKind.i64.wrap ((i : Int) + 1) = ((i + 1 : Nat) : Int) := by rw [wrap_i64 (by omega) (by omega)]; omega
    obtain ⟨tv, toks, tt, tz, tb, hix⟩ := hv.ixT ht hi
    simp only [go_sem, e0, e1, e2, e3, hv.len, g1, g2, decide_true, hix, Nat.reduceAdd, Nat.reduceLeDiff, Nat.reduceLT, ↓reduceIte, and_self]
    refine call_puO (copyT_ok h.h27 tt tb) ?_
    intro r7 _ O1 h7 _
    have t7 : ToksAre r7 toks := h7.sl
    simp only [go_sem, nth_puts, length_put, e0, e1, e2, e3, Nat.reduceEqDiff, ↓reduceIte, Nat.reduceLT]
    refine call_pu (text_ok h.toTxtT t7 tz) ?_
    rintro q rfl
    have he3 := eqtoks_ok h.h38 t7 tt
    cases ho : toksOk toks
    · simp only [go_sem, Bool.false_eq_true, nth_puts, length_put, e0, e1, e2, e3, hix, Nat.reduceEqDiff, ↓reduceIte, Nat.reduceLT, Nat.reduceAdd, Nat.reduceLeDiff, and_self]
      refine call_pu (rtokens_ok h.toRLexT tt tz) ?_
      rintro q rfl
      rw [ho]
      simp only [go_sem, Bool.false_eq_true, nth_puts, length_put, e0, e1, e2, e3, hix, Nat.reduceEqDiff, ↓reduceIte, Nat.reduceLT, Nat.reduceAdd, Nat.reduceLeDiff, and_self]
      refine call_pu (check_ok h.toTxtT t7 tz) ?_
      rintro q rfl
      rw [ho]
      simp only [go_sem, Bool.false_eq_true, nth_puts, length_put, e0, e1, e2, e3, hix, Nat.reduceEqDiff, ↓reduceIte, Nat.reduceLT, Nat.reduceAdd, Nat.reduceLeDiff, and_self, decide_true, decide_false, not_true_eq_false, ne_eq]
      refine call_pu (num_ok h.h281 _) ?_
      rintro q rfl
      simp only [go_sem, Bool.false_eq_true, nth_puts, length_put, e0, e1, e2, e3, hix, Nat.reduceEqDiff, ↓reduceIte, Nat.reduceLT, Nat.reduceAdd, Nat.reduceLeDiff, and_self, decide_true, decide_false, not_true_eq_false, ne_eq]
      refine call_pu (num_ok h.h281 _) ?_
      rintro q rfl
      simp only [go_sem, Bool.false_eq_true, nth_puts, length_put, e0, e1, e2, e3, hix, Nat.reduceEqDiff, ↓reduceIte, Nat.reduceLT, Nat.reduceAdd, Nat.reduceLeDiff, and_self, decide_true, decide_false, not_true_eq_false, ne_eq]
      refine call_pu he3 ?_
      rintro q rfl
      simp only [go_sem, Bool.false_eq_true, nth_puts, length_put, e0, e1, e2, e3, hix, Nat.reduceEqDiff, ↓reduceIte, Nat.reduceLT, Nat.reduceAdd, Nat.reduceLeDiff, and_self, decide_true, decide_false, not_true_eq_false, ne_eq]
      exact ⟨(fun hh => by cases hh), fun _ => by rw [hk1]⟩
    · simp only [go_sem, nth_puts, length_put, e0, e1, e2, e3, hix, Nat.reduceEqDiff, ↓reduceIte, Nat.reduceLT, Nat.reduceAdd, Nat.reduceLeDiff, and_self]
      refine call_pu (rtokens_ok h.toRLexT tt tz) ?_
      rintro q rfl
      rw [ho]
      simp only [go_sem, nth_puts, length_put, e0, e1, e2, e3, hix, Nat.reduceEqDiff, ↓reduceIte, Nat.reduceLT, Nat.reduceAdd, Nat.reduceLeDiff, and_self]
      refine call_pu (rtext_ok h.toTxtT t7 ho) ?_
      rintro q rfl
      simp only [go_sem, nth_puts, length_put, e0, e1, e2, e3, hix, Nat.reduceEqDiff, ↓reduceIte, Nat.reduceLT, Nat.reduceAdd, Nat.reduceLeDiff, and_self]
      refine call_pu (check_ok h.toTxtT t7 tz) ?_
      rintro q rfl
      rw [ho]
      simp only [go_sem, Bool.false_eq_true, nth_puts, length_put, e0, e1, e2, e3, hix, Nat.reduceEqDiff, ↓reduceIte, Nat.reduceLT, Nat.reduceAdd, Nat.reduceLeDiff, and_self, decide_true, decide_false, not_true_eq_false, ne_eq]
      refine call_pu (num_ok h.h281 _) ?_
      rintro q rfl
      simp only [go_sem, Bool.false_eq_true, nth_puts, length_put, e0, e1, e2, e3, hix, Nat.reduceEqDiff, ↓reduceIte, Nat.reduceLT, Nat.reduceAdd, Nat.reduceLeDiff, and_self, decide_true, decide_false, not_true_eq_false, ne_eq]
      refine call_pu (num_ok h.h281 _) ?_
      rintro q rfl
      simp only [go_sem, Bool.false_eq_true, nth_puts, length_put, e0, e1, e2, e3, hix, Nat.reduceEqDiff, ↓reduceIte, Nat.reduceLT, Nat.reduceAdd, Nat.reduceLeDiff, and_self, decide_true, decide_false, not_true_eq_false, ne_eq]
      refine call_pu he3 ?_
      rintro q rfl
      simp only [go_sem, Bool.false_eq_true, nth_puts, length_put, e0, e1, e2, e3, hix, Nat.reduceEqDiff, ↓reduceIte, Nat.reduceLT, Nat.reduceAdd, Nat.reduceLeDiff, and_self, decide_true, decide_false, not_true_eq_false, ne_eq]
      exact ⟨(fun hh => by cases hh), fun _ => by rw [hk1]⟩
  · rintro env H O ⟨rfl, e0, e1, e2, e3⟩
    simp only [go_sem, e0, e1, e2, e3, hv.len, Nat.reduceAdd, Nat.reduceLeDiff, Nat.reduceLT, ↓reduceIte, and_self]
    exact ⟨fun g1 => ⟨fun g2 => absurd g2 (by omega), fun _ => hx _ _ e0 e1 e2⟩, fun _ => hx _ _ e0 e1 e2⟩

theorem lt_loop1 (h : LexTextsT tbl) {vT vS : AV} {es : List AV} (hv : IsSl 1 vS es) (hs : IsSS es) (hb : ∀ s, AV.str s ∈ es → s.length ≤ 7207) {Q : XR → Prop}
    (hx : ∀ env O, env.length = 16 → nth env 2 = .bool false → Q (.exit 2 env [] O)) (env : List AV) (O : Rows)
    (he : env.length = 16 ∧ nth env 1 = .agg [vS, vT] ∧ nth env 2 = .bool false ∧ nth env 9 = i64 0) : wLoop (wpc tbl x559l1) env [] O Q := by
  have hle := hv.le
  refine wLoop_up x559l1.eq_1 (min es.length 8) (fun i env H O => H = [] ∧ env.length = 16 ∧ nth env 1 = .agg [vS, vT] ∧ nth env 2 = .bool false ∧ nth env 9 = i64 i) ?_ ?_ 0 env [] O (by omega) ⟨rfl, he⟩
  · rintro i env H O hi' ⟨rfl, e0, e1, e2, e3⟩
    have hi : i < es.length := by omega
    have g1 : (i : Int) < es.length := by omega
    have g2 : (i : Int) < 8 := by omega
    have hk1 : IntKind.i64.wrap ((i : Int) + 1) = ((i + 1 : Nat) : Int) := by rw [wrap_i64 (by omega) (by omega)]; omega
    obtain ⟨s, hes, hsl⟩ := hs _ (List.getElem_mem hi)
    have hs7 := hb s (by rw [← hes]; exact List.getElem_mem hi)
    have hix : ∀ (H : Heap) (Q : AV → Prop), ixv (.ld1 hh) 1 vS (.int .i64 i) H Q = Q (.str s) := fun H Q => by
      rw [hv.ix1 (k := .i64) (n := (i : Int)) (by omega) (by omega) (by simp only [Int.toNat_natCast]; rw [hes]; rfl) H Q]
      simp only [Int.toNat_natCast]; rw [hes]
    simp only [go_sem, e0, e1, e2, e3, hv.len, g1, g2, decide_true, hix, Nat.reduceAdd, Nat.reduceLeDiff, Nat.reduceLT, ↓reduceIte, and_self]
    refine call_pu (split_ok h.toSplT (by omega)) ?_
    intro q hq
    rcases hq with ⟨q1, q2, v1, rfl, hv1⟩ | ⟨q1, rfl⟩
    · simp only [go_sem, nth_puts, length_put, e0, e1, e2, e3, hix, Nat.reduceEqDiff, ↓reduceIte, Nat.reduceLT, Nat.reduceAdd, Nat.reduceLeDiff, and_self]
      refine call_pu (rsplit_ok h.toSplT hsl) ?_
      intro q hq
      rcases hq with ⟨-, v2, rfl, hv2⟩ | ⟨q3, rfl⟩
      · rw [decide_eq_true q2]
        simp only [go_sem, nth_puts, length_put, e0, e1, e2, e3, hix, Nat.reduceEqDiff, ↓reduceIte, Nat.reduceLT, Nat.reduceAdd, Nat.reduceLeDiff, and_self]
        refine call_pu (num_ok h.h281 _) ?_
        rintro q rfl
        simp only [go_sem, nth_puts, length_put, e0, e1, e2, e3, hix, Nat.reduceEqDiff, ↓reduceIte, Nat.reduceLT, Nat.reduceAdd, Nat.reduceLeDiff, and_self]
        refine ⟨fun hh => absurd hh (by simp), fun _ => ⟨fun hh => absurd hh (by simp), fun _ => ?_⟩⟩
        refine call_pu (eqstr_ok h.toSplT hv1 hv2) ?_
        rintro q rfl
        simp only [go_sem, nth_puts, length_put, e0, e1, e2, e3, hix, Nat.reduceEqDiff, ↓reduceIte, Nat.reduceLT, Nat.reduceAdd, Nat.reduceLeDiff, and_self]
        refine ⟨fun hh => absurd hh (by simp), fun _ => by rw [hk1]⟩
      · exact absurd q1 q3
    · simp only [go_sem, nth_puts, length_put, e0, e1, e2, e3, hix, Nat.reduceEqDiff, ↓reduceIte, Nat.reduceLT, Nat.reduceAdd, Nat.reduceLeDiff, and_self]
      refine call_pu (rsplit_ok h.toSplT hsl) ?_
      intro q hq
      have hq' : ∃ v2, q = .tup [v2, .bool false] := by
        rcases hq with ⟨q3, v2, rfl, hv2⟩ | ⟨q3, rfl⟩
        · rw [decide_eq_false (fun hh => q1 ⟨q3, hh⟩)]; exact ⟨_, rfl⟩
        · exact ⟨_, rfl⟩
      obtain ⟨v2, rfl⟩ := hq'
      simp only [go_sem, nth_puts, length_put, e0, e1, e2, e3, hix, Nat.reduceEqDiff, ↓reduceIte, Nat.reduceLT, Nat.reduceAdd, Nat.reduceLeDiff, and_self]
      refine call_pu (num_ok h.h281 _) ?_
      rintro q rfl
      simp only [go_sem, nth_puts, length_put, e0, e1, e2, e3, hix, Nat.reduceEqDiff, ↓reduceIte, Nat.reduceLT, Nat.reduceAdd, Nat.reduceLeDiff, and_self]
      refine ⟨fun hh => absurd hh (by simp), fun _ => ⟨fun _ => ?_, fun _ => by rw [hk1]⟩⟩
      refine call_pu (num_ok h.h281 _) ?_
      rintro q rfl
      simp only [go_sem, nth_puts, length_put, e0, e1, e2, e3, hix, Nat.reduceEqDiff, ↓reduceIte, Nat.reduceLT, Nat.reduceAdd, Nat.reduceLeDiff, and_self, hk1]
      try simp
  · rintro env H O ⟨rfl, e0, e1, e2, e3⟩
    simp only [go_sem, e0, e1, e2, e3, hv.len, Nat.reduceAdd, Nat.reduceLeDiff, Nat.reduceLT, ↓reduceIte, and_self]
    exact ⟨fun g1 => ⟨fun g2 => absurd g2 (by omega), fun _ => hx _ _ e0 e2⟩, fun _ => hx _ _ e0 e2⟩

theorem b2s_zeros (n : Nat) : bytesA (List.replicate n (.int .u8 (Int.ofNat 0))) = some (List.replicate n 0) := by
  induction n with
  | zero => rfl
  | succ n ih =>
    rw [List.replicate_succ, List.replicate_succ]
    show (match bytesA (List.replicate n (.int .u8 (Int.ofNat 0))) with | some r => some (UInt8.ofNat 0 :: r) | none => none) = _
    rw [ih]
    rfl
section
variable {dr : Bool} {H : Heap} {O : Rows} {Q : AV → Heap → Rows → Prop} {l c : Opd}
@[go_sem] theorem wo_mkS (e b : Nat) (z : AV) (n m : Int) : wpo tbl dr (.mkS e b z l c) [.int .i64 n, .int .i64 m] H O Q = ((0 ≤ n ∧ n ≤ m ∧ b * m ≤ 2 ^ 48 ∧ m ≤ 2 ^ 48) ∧ ∀ id, id ∉ ids O → Q (.sl id e 0 n.toNat true 0 (List.replicate n.toNat z)) H ((id, n.toNat * e, e) :: O)) := rfl
theorem wo_b2s0 (id : Nat) (n : Nat) (os : List Opd) : wpo tbl dr (.mem .b2s os) [.sl id 1 0 n true 0 (List.replicate n (.int .u8 (Int.ofNat 0)))] H O Q = Q (.str (List.replicate n 0)) H O := by
  show opt (memV .b2s [.sl id 1 0 n true 0 (List.replicate n (.int .u8 (Int.ofNat 0)))]) _ = _
  have e : memV .b2s [.sl id 1 0 n true 0 (List.replicate n (.int .u8 (Int.ofNat 0)))] = some (.str (List.replicate n 0)) := by
    show (match (match bytesA (List.replicate n (.int .u8 (Int.ofNat 0))) with | some s => OR.ok (.str s) (⟨0, [], []⟩ : T) | none => .fail) with | .ok v _ => some v | .fail => none) = _
    rw [b2s_zeros]
  rw [e, opt_some]
end

theorem lextexts_law (h : LexTextsH tbl) {cs : List AV} (hc : TyR ask8Ty cs) : PuR tbl 559 [.agg cs] (· = .bool true) := by
  obtain ⟨vT, vS, tt, ss, rfl, hT, hTT, hS, hSS, -, -⟩ := ask8_of hc
  refine pu_of h.h559 w559 rfl rfl ?_
  simp only [x559, go_sem, Nat.reduceAdd, Nat.reduceLeDiff]
  refine call_pu (heavy8x_ok h.toHv8T hT hTT hS hSS) ?_
  rintro q ⟨b, rfl, hb⟩
  cases b
  · simp only [go_sem, Nat.reduceAdd, Nat.reduceLeDiff]
    refine lt_loop0 h.toLexTextsT (vS := vS) hT hTT (O0 := []) ?_ _ _ ⟨rfl, rfl, rfl, rfl⟩
    intro env O e0 e1 e2
    simp only [go_sem, nth_puts, length_put, e0, e1, e2, Nat.reduceEqDiff, ↓reduceIte, Nat.reduceLT, Nat.reduceAdd, Nat.reduceLeDiff, and_self]
    refine lt_loop1 h.toLexTextsT (vT := vT) hS hSS (hb rfl) ?_ _ _ ⟨by simp [length_put, e0], by simp [nth_puts, e0, e1], by simp [nth_puts, e0, e2], by simp [nth_puts, e0]⟩
    intro env O e0 e2
    simp only [go_sem, nth_puts, length_put, e0, e2, Nat.reduceEqDiff, ↓reduceIte, Nat.reduceLT, Nat.reduceAdd, Nat.reduceLeDiff, and_self]
    refine ⟨by decide, fun id _ => ?_⟩
    have hn : Int.toNat 4001 = 4001 := rfl
    generalize Int.toNat 4001 = n at hn ⊢
    refine cast (wo_b2s0 id n []).symm ?_
    have hl : (List.replicate n (0 : UInt8)).length = n := List.length_replicate
    generalize List.replicate n (0 : UInt8) = z at hl ⊢
    refine call_pu (split_ok h.toSplT (by omega)) ?_
    intro q hq
    rcases hq with ⟨q1, -⟩ | ⟨-, rfl⟩
    · omega
    · simp only [go_sem]
      refine call_pu (num_ok h.h281 _) ?_
      rintro q rfl
      simp only [go_sem]
      refine call_pu (prim0_run h.h282) ?_
      rintro q rfl
      rfl
  · simp only [go_sem]

end
end M2
end
section
namespace M2
open Go Go.ChangeShapes Go.WideShapes Go.ChangeAt Go.RowKit

/-! ### A law's call, the calls in it answered by others -/

theorem link1 {P : Program} {M : Maps} {im : FuncId → Option Nat} {tbl : Nat → Option AFunc} (him : ∀ f x, im f = some x → M.fm x = f) (ht : Table P M im tbl)
    {call : CallF} (hcall : CallOK P M call) {id : Nat} {fn : AFunc} (hfn : tbl id = some fn) (hdp : fn.depth < 50) {avs : List AV} {args : Array Value} {t t' : T} {g : G} (hoth : ∀ b, b < g.w.heap.size → g.μ b = .oth) (hS : SR M g t) (hsz : args.size = avs.length)
    (hv : ∀ i (h : i < avs.length), VR M g avs[i] (args.getD i undef)) (hrun : callC call fn avs t = .ok (.bool true) t') :
    Calls P (M.fm id) args g.w fun e w' => e = .returned (.bool true) ∧ Below g.w.heap.size g.w w' := by
  obtain ⟨-, h⟩ := callC_sound him ht hcall hfn hdp hrun
  refine (h g args hS hsz hv).mono ?_
  rintro e w' ⟨v, g', rfl, rfl, hle, hvr, -⟩
  cases hvr
  exact ⟨rfl, hle.os, hle.tape, hle.output, hle.size, fun k hk => (hle.oth k hk (by rw [hoth k hk]; rfl)).2⟩

theorem law_run1 {P : Program} {M : Maps} {im : FuncId → Option Nat} {tbl : Nat → Option AFunc} (him : ∀ f x, im f = some x → M.fm x = f) (ht : Table P M im tbl)
    {H : Type} {enc : TypeId × Value → H} {W : World} {base id tf : Nat} {t : TypeId} {fs : Array Field} (hu : P.underlying t = some (.struct fs)) (ha : argT P (tf + 1) t = true) {v : Value} {d : DataW H} {p : List MemPlace}
    (hval : Value.okWide P W .any base t v) (htr : DataW.Trod enc P W 0 (fun _ => true) true t v d p)
    {w j i : Nat} {fl : Field} {e : TypeId} (hw : P.cellsOf t = w) (hfl : fs[i]? = some fl) (hoff : fl.offset = j) (hjw : j < w) (hsl : P.underlying fl.type = some (.slice e)) (hc1 : P.cellsOf fl.type = 1) (htf : tf ≠ 0)
    {call : CallF} (hcall : CallOK P M call) {fn : AFunc} (hfn : tbl id = some fn) (hdp : fn.depth < 50 := by decide) (hrun : ∀ a, OneSl a → ∃ t', callC call fn [.agg ((List.replicate w AV.und).set j a)] ⟨1, [], []⟩ = .ok (.bool true) t') (hkb : ∀ b o v, M.kb b o = some v → W.cell? ⟨b, o, none⟩ = some v ∧ csize W b ≤ M.tm b := by exact fun _ _ _ h => nomatch (show (none : Option Value) = some _ from h)) :
    Calls P (M.fm id) #[v] W fun e W' => e = .returned (.bool true) ∧ Below W.heap.size W W' := by
  obtain ⟨K, hK0, hK⟩ := size_bound W
  obtain ⟨fuel, htr⟩ := htr
  unfold Value.okWide at hval
  rw [hu] at hval
  obtain ⟨cs, rfl, hcs, -⟩ := hval
  obtain ⟨ascs, h1, h2, h3, -⟩ := trod_vr (M := M) hK0 hK fuel (tf + 1) t _ _ ha htr
  have hl : ascs.length = cs.size := by simpa [Value.cells] using h2
  unfold DA at h1
  rw [hu] at h1
  obtain ⟨ps, -, hps, hasl, hf⟩ := h1
  obtain ⟨hi, hfi⟩ := Array.getElem?_eq_some_iff.mp hfl
  have h4 := hf i hi (by omega)
  rw [hfi, hoff, hc1] at h4
  have hjl : j < ascs.length := by rw [hasl, hw]; exact hjw
  have hone : (ascs.drop j).take 1 = [ascs[j]] := by rw [List.drop_eq_getElem_cons hjl]; rfl
  rw [hone] at h4
  have hkind : ascs[j] = .nils ∨ ascs[j] = .sl0 ∨ ∃ id e pos cap alt es, ascs[j] = .sl id e pos cap false alt es := by
    cases tf with
    | zero => exact absurd rfl htf
    | succ tf =>
      unfold DA at h4
      rw [hsl] at h4
      rcases h4 with ⟨-, h⟩ | ⟨elems, spare, es, -, -, -, -, ⟨-, h⟩ | ⟨id, pos, h⟩⟩
      · injection h with h; exact .inl h
      · injection h with h; exact .inr (.inl h)
      · injection h with h; exact .inr (.inr ⟨_, _, _, _, _, _, h⟩)
  have h5 := h3 j (by simpa using hjl)
  obtain ⟨a', pl, ho, hv'⟩ := oneSl_of h5 hkind
  obtain ⟨t', hr⟩ := hrun a' ho
  refine link1 (g := oneG W pl) him ht hcall hfn hdp (fun _ _ => rfl) (oneG_sr M W pl hkb) rfl (fun q hq => ?_) hr
  have hq0 : q = 0 := by simpa using hq
  subst hq0
  simp only [List.getElem_cons_zero]
  refine .agg _ cs (by simp [← hl, hasl, hw]) (fun q hq => ?_)
  by_cases e : j = q
  · subst e
    simp only [List.getElem_set_self]
    simpa [Value.cells, Array.getD_eq_getD_getElem?, List.getD_eq_getElem?_getD] using hv'
  · rw [List.getElem_set_ne e, List.getElem_replicate]
    exact .und _

end M2
end
