/- General ground for the statement: an abstract machine that the program's code is shown to follow, and the contracts of the functions that the law reaches. Part 5. -/
import Derived.Test.YtaeakmbjcnflmaaA4
set_option linter.unusedVariables false
set_option linter.unusedSimpArgs false
section
namespace M2
open Go
noncomputable section
variable {tbl : Nat → Option AFunc}

structure HvT (tbl : Nat → Option AFunc) : Prop where
  h25 : tbl 25 = some (flatF x25)
  h47 : tbl 47 = some (flatF x47)
  h58 : tbl 58 = some (flatF x58)
  h59 : tbl 59 = some (flatF x59)

theorem IsSl.ixS {v : AV} {es : List AV} (h : IsSl 1 v es) (hs : IsSS es) {i : Nat} (hi : i < es.length) : ∃ s : List UInt8, s.length ≤ 140737488351232 ∧ ∀ (H : Heap) (Q : AV → Prop), ixv (.ld1 hh) 1 v (.int .i64 i) H Q = Q (.str s) := by
  obtain ⟨s, he, hl⟩ := hs _ (List.getElem_mem hi)
  refine ⟨s, hl, fun H Q => ?_⟩
  rw [h.ix1 (k := .i64) (n := i) (by omega) (by omega) (by simp only [Int.toNat_natCast]; rw [he]; rfl) H Q]
  simp only [Int.toNat_natCast]; rw [he]
theorem IsSl.ixT {v : AV} {es : List AV} (h : IsSl 1 v es) (hs : IsTT es) {i : Nat} (hi : i < es.length) : ∃ x l, ToksAre x l ∧ szToks l ∧ l.length * 40 ≤ 140737488351232 ∧ ∀ (H : Heap) (Q : AV → Prop), ixv (.ld1 hh) 1 v (.int .i64 i) H Q = Q x := by
  obtain ⟨l, h1, h2, h3⟩ := hs _ (List.getElem_mem hi)
  refine ⟨_, l, h1, h2, h3, fun H Q => ?_⟩
  rw [h.ix1 (k := .i64) (n := i) (by omega) (by omega) (by simp only [Int.toNat_natCast]; exact h1.kn.2.2) H Q]
  simp only [Int.toNat_natCast]

def Small (r : AV) : Prop := ∃ n : Int, r = i64 n ∧ 0 ≤ n ∧ n ≤ 562949953421312

theorem texts_ok (h : HvT tbl) {v : AV} {es : List AV} (hv : IsSl 1 v es) (hs : IsSS es) : PuR tbl 58 [v] Small := by
  have hle := hv.le
  refine pu_of h.h58 w58 rfl rfl ?_
  simp only [x58, go_sem, hv.len]
  refine wLoop_wf x58l0.eq_1 (fun k : Nat => es.length - k) (fun k env H O => H = [] ∧ O = [] ∧ k ≤ es.length ∧ ∃ n : Int, (0 ≤ n ∧ n ≤ 562949953421312) ∧ env.length = 4 ∧ nth env 0 = v ∧ nth env 2 = i64 n ∧ nth env 3 = i64 k) ?_ 0 _ [] [] ⟨rfl, rfl, by omega, es.length, by omega, rfl, rfl, rfl, rfl⟩
  rintro k env H O ⟨rfl, rfl, hk, n, hn, e0, e1, e2, e3⟩
  have done : ∀ env' : List AV, env' = env → Small (nth env' 2) := fun env' he => by rw [he, e2]; exact ⟨n, rfl, hn.1, hn.2⟩
  simp only [go_sem, e0, e1, e2, e3, hv.len]
  have fin : Small (nth (put env 1 (i64 n)) 1) := by simp only [nth_puts, e0]; exact ⟨n, rfl, hn.1, hn.2⟩
  refine ⟨fun g1 => ⟨fun g2 => ?_, fun g2 => ?_⟩, fun g1 => ?_⟩
  · obtain ⟨s, hsl, hix⟩ := hv.ixS hs (i := k) (by omega)
    have hk1 : IntKind.i64.wrap ((k : Int) + 1) = ((k + 1 : Nat) : Int) := by rw [wrap_i64 (by omega) (by omega)]; omega
    have hw : IntKind.i64.wrap (n + s.length) = n + s.length := wrap_i64 (by omega) (by omega)
    simp only [go_sem, hix, hw, hk1, nth_puts, length_put, e0, e1, e2, e3, Nat.reduceEqDiff, ↓reduceIte, Nat.reduceLT]
    exact ⟨k + 1, by omega, by omega, n + s.length, by omega, rfl, rfl⟩
  · exact fin
  · exact fin

theorem tokw_ok (h : HvT tbl) {v : AV} {l : List Tok} (hv : ToksAre v l) (hz : szToks l) : PuR tbl 59 [v] Small := by
  have hle := hv.le
  refine pu_of h.h59 w59 rfl rfl ?_
  simp only [x59, go_sem, hv.len]
  refine wLoop_wf x59l0.eq_1 (fun k : Nat => l.length - k) (fun k env H O => H = [] ∧ O = [] ∧ k ≤ l.length ∧ ∃ n : Int, (0 ≤ n ∧ n ≤ 562949953421312) ∧ env.length = 4 ∧ nth env 0 = v ∧ nth env 2 = i64 n ∧ nth env 3 = i64 k) ?_ 0 _ [] [] ⟨rfl, rfl, by omega, l.length, by omega, rfl, rfl, rfl, rfl⟩
  rintro k env H O ⟨rfl, rfl, hk, n, hn, e0, e1, e2, e3⟩
  simp only [go_sem, e0, e1, e2, e3, hv.len]
  have fin : Small (nth (put env 1 (i64 n)) 1) := by simp only [nth_puts, e0]; exact ⟨n, rfl, hn.1, hn.2⟩
  refine ⟨fun g1 => ⟨fun g2 => ?_, fun g2 => ?_⟩, fun g1 => ?_⟩
  · have hkl : k < l.length := by omega
    have hia := hv.ia hkl
    have hsl := hz _ (List.getElem_mem hkl)
    have hk1 : IntKind.i64.wrap ((k : Int) + 1) = ((k + 1 : Nat) : Int) := by rw [wrap_i64 (by omega) (by omega)]; omega
    generalize l[k] = t at *
    have hq : (t.text.length : Int).tdiv 4 = ((t.text.length / 4 : Nat) : Int) := by rw [Int.tdiv_eq_ediv_of_nonneg (by omega)]; rfl
    have hq4 : t.text.length / 4 ≤ t.text.length := Nat.div_le_self _ _
    have hw0 : IntKind.i64.wrap ((t.text.length / 4 : Nat) : Int) = ((t.text.length / 4 : Nat) : Int) := wrap_i64 (by omega) (by omega)
    have hw : IntKind.i64.wrap (n + ((t.text.length / 4 : Nat) : Int)) = n + ((t.text.length / 4 : Nat) : Int) := wrap_i64 (by omega) (by omega)
    simp only [go_sem, hia, hq, hw0, hw, hk1, nth_puts, length_put, e0, e1, e2, e3, Nat.reduceEqDiff, ↓reduceIte, Nat.reduceLT, show ¬ (4 : Int) = 0 by omega, if_false]
    exact ⟨k + 1, by omega, by omega, n + ((t.text.length / 4 : Nat) : Int), by omega, rfl, rfl⟩
  · exact fin
  · exact fin

theorem heavy8_ok (h : HvT tbl) {vT vS : AV} {tt ss : List AV} (hT : IsSl 1 vT tt) (hTT : IsTT tt) (hS : IsSl 1 vS ss) (hSS : IsSS ss) : PuR tbl 47 [.agg [vS, vT]] (fun r => ∃ b, r = .bool b) := by
  have hle := hT.le
  refine pu_of h.h47 w47 rfl rfl ?_
  simp only [x47, go_sem, hT.len]
  refine call_pu (texts_ok h hS hSS) ?_
  rintro r ⟨m, rfl, hm⟩
  have hq : m.tdiv 8 = m / 8 := Int.tdiv_eq_ediv_of_nonneg hm.1
  have hw0 : IntKind.i64.wrap (m / 8) = m / 8 := wrap_i64 (by omega) (by omega)
  have hw : IntKind.i64.wrap ((tt.length : Int) + m / 8) = (tt.length : Int) + m / 8 := wrap_i64 (by omega) (by omega)
  simp only [go_sem, hq, hw0, hw, show ¬ (8 : Int) = 0 by omega, if_false]
  refine wLoop_wf x47l0.eq_1 (fun k : Nat => tt.length - k) (fun k env H O => H = [] ∧ O = [] ∧ k ≤ tt.length ∧ ∃ n : Int, (0 ≤ n ∧ n ≤ 1125899906842624) ∧ env.length = 5 ∧ nth env 1 = .agg [vS, vT] ∧ nth env 3 = i64 n ∧ nth env 4 = i64 k) ?_ 0 _ [] [] ⟨rfl, rfl, by omega, _, ⟨by omega, by omega⟩, rfl, rfl, rfl, rfl⟩
  rintro k env H O ⟨rfl, rfl, hk, n, hn, e0, e1, e2, e3⟩
  simp only [go_sem, e0, e1, e2, e3, hT.len, Nat.reduceAdd, Nat.reduceLeDiff]
  have fin : ∀ b : Bool, ∃ b', nth (put env 2 (.bool b)) 2 = .bool b' := fun b => ⟨b, by simp [nth_puts, e0]⟩
  refine ⟨fun g1 => ⟨fun g2 => ?_, fun g2 => fin _⟩, fun g1 => fin _⟩
  obtain ⟨x, l, hx, hz, -, hix⟩ := hT.ixT hTT (i := k) (by omega)
  simp only [go_sem, hix]
  refine call_pu (tokw_ok h hx hz) ?_
  rintro r ⟨m2, rfl, hm2⟩
  have hk1 : IntKind.i64.wrap ((k : Int) + 1) = ((k + 1 : Nat) : Int) := by rw [wrap_i64 (by omega) (by omega)]; omega
  have hw2 : IntKind.i64.wrap (n + m2) = n + m2 := wrap_i64 (by omega) (by omega)
  simp only [go_sem, hw2, hk1, nth_puts, length_put, e0, e1, e2, e3, Nat.reduceEqDiff, ↓reduceIte, Nat.reduceLT]
  exact ⟨k + 1, by omega, by omega, n + m2, by omega, rfl, rfl⟩

theorem heavy9_ok (h : HvT tbl) {vT vS vN vV : AV} {tt ss : List AV} {ns vs : List Val} (hT : IsSl 1 vT tt) (hTT : IsTT tt) (hS : IsSl 1 vS ss) (hSS : IsSS ss) (hN : ValsAre vN ns) (hV : ValsAre vV vs) : PuR tbl 25 [.agg [vS, vT, vN, vV]] (fun r => ∃ b, r = .bool b) := by
  refine pu_of h.h25 w25 rfl rfl ?_
  simp only [x25, go_sem, hN.len, hV.len, Nat.reduceAdd, Nat.reduceLeDiff, ↓reduceIte]
  refine ⟨fun _ => ⟨_, rfl⟩, fun _ => ?_⟩
  refine call_pu (heavy8_ok h hT hTT hS hSS) ?_
  rintro r ⟨b, rfl⟩
  exact ⟨b, by simp [nth]⟩

end
end M2
end
section
namespace M2
open Go
noncomputable section
variable {tbl : Nat → Option AFunc}

theorem eqtoks_ok (h : tbl 38 = some (flatF x38)) {va vb : AV} {xs ys : List Tok} (ha : ToksAre va xs) (hb : ToksAre vb ys) : PuR tbl 38 [va, vb] (· = .bool (decide (xs = ys))) := by
  have hle := ha.le
  refine pu_of h w38 rfl rfl ?_
  simp only [x38, go_sem, ha.len, hb.len]
  refine ⟨fun hl => ?_, fun hl => ?_⟩
  · have : ¬ xs = ys := fun e => hl (by rw [e])
    rw [decide_eq_false this]
  · simp only [Classical.not_not] at hl
    have hl : xs.length = ys.length := by omega
    refine wLoop_up x38l0.eq_1 xs.length (fun k env H O => H = [] ∧ O = [] ∧ (∀ i (h1 : i < xs.length) (h2 : i < ys.length), i < k → xs[i] = ys[i]) ∧ env.length = 4 ∧ nth env 0 = va ∧ nth env 1 = vb ∧ nth env 3 = i64 k) ?_ ?_ 0 _ [] [] (by omega) ⟨rfl, rfl, fun i _ _ hi => absurd hi (by omega), rfl, rfl, rfl, rfl⟩
    · rintro k env H O hk ⟨rfl, rfl, hal, e0, e1, e2, e3⟩
      have hk2 : k < ys.length := by omega
      have g1 : (k : Int) < xs.length := by omega
      have hk1 : IntKind.i64.wrap ((k : Int) + 1) = ((k + 1 : Nat) : Int) := by rw [wrap_i64 (by omega) (by omega)]; omega
      simp only [go_sem, e0, e1, e2, e3, ha.len, g1, decide_true, ha.ix hk, hb.ix hk2, nth_puts, length_put, Nat.reduceEqDiff, ↓reduceIte, Nat.reduceLT, hk1]
      refine ⟨fun hne => ?_, fun heq => ?_⟩
      · have : ¬ xs = ys := fun e => hne (by subst e; rfl)
        rw [decide_eq_false this]
      · intro i h1 h2 hi
        by_cases hik : i < k
        · exact hal i h1 h2 hik
        · obtain rfl : i = k := by omega
          exact Classical.not_not.mp heq
    · rintro env H O ⟨rfl, rfl, hal, e0, e1, e2, e3⟩
      have g1 : ¬ (xs.length : Int) < xs.length := by omega
      simp only [go_sem, e0, e1, e2, e3, ha.len, g1, decide_false, nth_puts, length_put, Nat.reduceEqDiff, ↓reduceIte, Nat.reduceLT]
      have : xs = ys := List.ext_getElem hl fun i h1 h2 => hal i h1 h2 h1
      rw [decide_eq_true this]

theorem eqvals_ok (h : tbl 39 = some (flatF x39)) {va vb : AV} {xs ys : List Val} (ha : ValsAre va xs) (hb : ValsAre vb ys) : PuR tbl 39 [va, vb] (· = .bool (decide (xs = ys))) := by
  have hle := ha.le
  refine pu_of h w39 rfl rfl ?_
  simp only [x39, go_sem, ha.len, hb.len]
  refine ⟨fun hl => ?_, fun hl => ?_⟩
  · have : ¬ xs = ys := fun e => hl (by rw [e])
    rw [decide_eq_false this]
  · simp only [Classical.not_not] at hl
    have hl : xs.length = ys.length := by omega
    refine wLoop_up x39l0.eq_1 xs.length (fun k env H O => H = [] ∧ O = [] ∧ (∀ i (h1 : i < xs.length) (h2 : i < ys.length), i < k → xs[i] = ys[i]) ∧ env.length = 4 ∧ nth env 0 = va ∧ nth env 1 = vb ∧ nth env 3 = i64 k) ?_ ?_ 0 _ [] [] (by omega) ⟨rfl, rfl, fun i _ _ hi => absurd hi (by omega), rfl, rfl, rfl, rfl⟩
    · rintro k env H O hk ⟨rfl, rfl, hal, e0, e1, e2, e3⟩
      have hk2 : k < ys.length := by omega
      have g1 : (k : Int) < xs.length := by omega
      have hk1 : IntKind.i64.wrap ((k : Int) + 1) = ((k + 1 : Nat) : Int) := by rw [wrap_i64 (by omega) (by omega)]; omega
      simp only [go_sem, e0, e1, e2, e3, ha.len, g1, decide_true, ha.ix hk, hb.ix hk2, nth_puts, length_put, Nat.reduceEqDiff, ↓reduceIte, Nat.reduceLT, hk1]
      refine ⟨fun hne => ?_, fun heq => ?_⟩
      · have : ¬ xs = ys := fun e => hne (by subst e; rfl)
        rw [decide_eq_false this]
      · intro i h1 h2 hi
        by_cases hik : i < k
        · exact hal i h1 h2 hik
        · obtain rfl : i = k := by omega
          exact Classical.not_not.mp heq
    · rintro env H O ⟨rfl, rfl, hal, e0, e1, e2, e3⟩
      have g1 : ¬ (xs.length : Int) < xs.length := by omega
      simp only [go_sem, e0, e1, e2, e3, ha.len, g1, decide_false, nth_puts, length_put, Nat.reduceEqDiff, ↓reduceIte, Nat.reduceLT]
      have : xs = ys := List.ext_getElem hl fun i h1 h2 => hal i h1 h2 h1
      rw [decide_eq_true this]

end
end M2
end
section
namespace M2
open Go
noncomputable section
variable {tbl : Nat → Option AFunc}

/-! ### Functions that hand back a slice that may be appended to -/

def retO (bx : List Bool) (res : List (Nat × Option (Nat × Bool))) (P : AV → Rows → Prop) (r : XR) : Prop :=
  match r with
  | .norm env H O => opt (resL bx env H res) fun vs => ∃ O', (∀ p ∈ O', p ∈ O ∧ p.1 ∈ (packed vs).tops) ∧ (ids O').Nodup ∧ P (packed vs) O'
  | .ret env H O => opt (resL bx env H res) fun vs => ∃ O', (∀ p ∈ O', p ∈ O ∧ p.1 ∈ (packed vs).tops) ∧ (ids O').Nodup ∧ P (packed vs) O'
  | .exit _ _ _ _ => False
section
variable {bx : List Bool} {res : List (Nat × Option (Nat × Bool))} {P : AV → Rows → Prop} {env : List AV} {H : Heap} {O : Rows}
@[go_sem] theorem retO_norm : retO bx res P (.norm env H O) = opt (resL bx env H res) fun vs => ∃ O', (∀ p ∈ O', p ∈ O ∧ p.1 ∈ (packed vs).tops) ∧ (ids O').Nodup ∧ P (packed vs) O' := rfl
@[go_sem] theorem retO_ret : retO bx res P (.ret env H O) = opt (resL bx env H res) fun vs => ∃ O', (∀ p ∈ O', p ∈ O ∧ p.1 ∈ (packed vs).tops) ∧ (ids O').Nodup ∧ P (packed vs) O' := rfl
@[go_sem] theorem retO_exit (i : Nat) : retO bx res P (.exit i env H O) = False := rfl
end
theorem po_of {f : Nat} {x : XF} (hf : tbl f = some (flatF x)) (hw : wfF x = true) {args : List AV} (hl : args.length = x.np) (hk : x.keep = false) {P : AV → Rows → Prop}
    (hq : wpc tbl x.body (args ++ List.replicate (x.ms.length - x.np) .und) [] [] (retO x.bx x.res P)) : Fn tbl false f args [] [] fun r _ O' => P r O' := by
  rw [← hk]
  refine fn_of_wp hf hw hl (wpc_mono _ hq fun r hr => ?_)
  have key : ∀ env H1 O1, (opt (resL x.bx env H1 x.res) fun vs => ∃ O', (∀ p ∈ O', p ∈ O1 ∧ p.1 ∈ (packed vs).tops) ∧ (ids O').Nodup ∧ P (packed vs) O') → wRet x [] [] (fun r _ O' => P r O') env H1 O1 := by
    intro env H1 O1 h
    exact opt_mono h fun vs ⟨O', h1, h2, h3⟩ => ⟨[], O', nofun, List.nodup_nil, fun p hp => ⟨(h1 p hp).1, .inl (h1 p hp).2⟩, h2, h3⟩
  cases r with
  | norm env H O => exact key env H O hr
  | ret env H O => exact key env H O hr
  | exit i env H O => exact hr.elim

/-- what may be appended to, handed back -/
theorem Ap.ret {O : Rows} {e : Nat} {x : AV} {xs : List AV} (h : Ap O e x xs) : ∃ O', (∀ p ∈ O', p ∈ O ∧ p.1 ∈ x.tops) ∧ (ids O').Nodup ∧ Ap O' e x xs := by
  obtain ⟨h | ⟨id, pos, alt, rfl⟩ | ⟨id, pos, alt, rfl, ho⟩, hl⟩ := h
  · exact ⟨[], nofun, List.nodup_nil, .inl h, hl⟩
  · exact ⟨[], nofun, List.nodup_nil, .inr (.inl ⟨id, pos, alt, rfl⟩), hl⟩
  · refine ⟨[(id, pos + xs.length * e, e)], fun p hp => ?_, by simp [ids], .inr (.inr ⟨id, pos, alt, rfl, look_self _ _ _⟩), hl⟩
    rw [List.mem_singleton.mp hp]
    exact ⟨look_mem ho, by simp [AV.tops, tops1]⟩

theorem copyT_ok (h : tbl 27 = some (flatF x27)) {v : AV} {l : List Tok} (hv : ToksAre v l) (hb : l.length * 40 ≤ 140737488351232) : Fn tbl false 27 [v] [] [] fun r _ O' => Ap O' 4 r (l.map tokV) := by
  have hle := hv.le
  refine po_of h w27 rfl rfl ?_
  simp only [x27, go_sem]
  refine wLoop_up x27l0.eq_1 l.length (fun k env H O => H = [] ∧ ∃ u, Ap O 4 u ((l.take k).map tokV) ∧ env.length = 4 ∧ nth env 0 = v ∧ nth env 2 = u ∧ nth env 3 = i64 k) ?_ ?_ 0 _ [] [] (by omega) ⟨rfl, .nils, ap_nils _ _, rfl, rfl, rfl, rfl⟩
  · rintro k env H O hk ⟨rfl, u, hu, e0, e1, e2, e3⟩
    have g1 : (k : Int) < l.length := by omega
    have hk1 : IntKind.i64.wrap ((k : Int) + 1) = ((k + 1 : Nat) : Int) := by rw [wrap_i64 (by omega) (by omega)]; omega
    simp only [go_sem, e0, e1, e2, e3, hv.len, g1, decide_true, hv.ix hk, Nat.reduceAdd, Nat.reduceLT, ↓reduceIte, and_self]
    intro id
    refine ap1_ok hu (v := tokV l[k]) rfl rfl rfl (by decide) (by simp; omega) (by decide) ?_ id
    intro r O' hr _
    simp only [go_sem, nth_puts, length_put, e0, e1, e2, e3, Nat.reduceEqDiff, ↓reduceIte, Nat.reduceLT, hk1]
    refine ⟨r, ?_, by simp⟩
    rw [List.take_succ_eq_append_getElem hk, List.map_append]
    exact hr
  · rintro env H O ⟨rfl, u, hu, e0, e1, e2, e3⟩
    have g1 : ¬ (l.length : Int) < l.length := by omega
    simp only [go_sem, e0, e1, e2, e3, hv.len, g1, decide_false, nth_puts, length_put, Nat.reduceEqDiff, ↓reduceIte, Nat.reduceLT]
    rw [List.take_length] at hu
    exact hu.ret


theorem copyV_ok (h : tbl 28 = some (flatF x28)) {v : AV} {l : List Val} (hv : ValsAre v l) (hb : l.length * 24 ≤ 140737488351232) : Fn tbl false 28 [v] [] [] fun r _ O' => Ap O' 2 r (l.map valV) := by
  have hle := hv.le
  refine po_of h w28 rfl rfl ?_
  simp only [x28, go_sem]
  refine wLoop_up x28l0.eq_1 l.length (fun k env H O => H = [] ∧ ∃ u, Ap O 2 u ((l.take k).map valV) ∧ env.length = 4 ∧ nth env 0 = v ∧ nth env 2 = u ∧ nth env 3 = i64 k) ?_ ?_ 0 _ [] [] (by omega) ⟨rfl, .nils, ap_nils _ _, rfl, rfl, rfl, rfl⟩
  · rintro k env H O hk ⟨rfl, u, hu, e0, e1, e2, e3⟩
    have g1 : (k : Int) < l.length := by omega
    have hk1 : IntKind.i64.wrap ((k : Int) + 1) = ((k + 1 : Nat) : Int) := by rw [wrap_i64 (by omega) (by omega)]; omega
    simp only [go_sem, e0, e1, e2, e3, hv.len, g1, decide_true, hv.ix hk, Nat.reduceAdd, Nat.reduceLT, ↓reduceIte, and_self]
    intro id
    refine ap1_ok hu (v := valV l[k]) rfl rfl rfl (by decide) (by simp; omega) (by decide) ?_ id
    intro r O' hr _
    simp only [go_sem, nth_puts, length_put, e0, e1, e2, e3, Nat.reduceEqDiff, ↓reduceIte, Nat.reduceLT, hk1]
    refine ⟨r, ?_, by simp⟩
    rw [List.take_succ_eq_append_getElem hk, List.map_append]
    exact hr
  · rintro env H O ⟨rfl, u, hu, e0, e1, e2, e3⟩
    have g1 : ¬ (l.length : Int) < l.length := by omega
    simp only [go_sem, e0, e1, e2, e3, hv.len, g1, decide_false, nth_puts, length_put, Nat.reduceEqDiff, ↓reduceIte, Nat.reduceLT]
    rw [List.take_length] at hu
    exact hu.ret

end
end M2
end
section
namespace M2
open Go
noncomputable section
variable {tbl : Nat → Option AFunc}

theorem within0_ok (h : tbl 49 = some (flatF x49)) {i n : Int} (hi : 0 ≤ i ∧ i < 9223372036854775808) (hn : 0 < n ∧ n < 9223372036854775808) : PuR tbl 49 [i64 i, i64 n] (· = i64 (i % n)) := by
  refine pu_of h w49 rfl rfl ?_
  simp only [x49, go_sem]
  have w1 : ∀ k : Int, 0 ≤ k ∧ k < 9223372036854775808 → IntKind.u64.wrap k = k := by
    intro k hk
    simp only [IntKind.wrap, IntKind.bits, IntKind.signed, Bool.false_and]
    simp
    omega
  have h1 := Int.emod_nonneg i (show n ≠ 0 by omega)
  have h2 := Int.emod_lt_of_pos i hn.1
  rw [w1 i hi, w1 n ⟨by omega, hn.2⟩, if_neg (by omega), opt_some]
  simp only [go_sem]
  rw [Int.tmod_eq_emod_of_nonneg hi.1, wrap_i64 (by omega) (by omega)]

def signsL : List Tok := [⟨3, [40], 0, 0⟩, ⟨3, [41], 0, 0⟩, ⟨3, [43], 0, 0⟩, ⟨3, [45], 0, 0⟩]
theorem signs_ok (h : tbl 41 = some (flatF x41)) : PuR tbl 41 [] (fun r => ToksAre r signsL) := by
  refine pu_of h w41 rfl rfl ?_
  simp only [x41, go_sem, Nat.reduceAdd, Nat.reduceLeDiff, ↓reduceIte, and_self]
  simp
  intro id
  exact (ap_lit [] 4 id 4 (signsL.map tokV) rfl (by simp [signsL])).sl

end
end M2
end
section
namespace M2
open Go
noncomputable section
variable {tbl : Nat → Option AFunc}

/-! ### Words of a text: how many, how long -/

theorem oneF_text {s : List UInt8} : (oneF s).1.text.length ≤ s.length := by
  unfold oneF
  cases s with
  | nil => simp [t0]
  | cons c s =>
    have hn : ∀ (v : Option Int) (n : Nat) (f : Int), (numT v n f).1.text.length ≤ (c :: s).length := by
      intro v n f
      unfold numT
      cases v with
      | none => simp [t0]
      | some x => simp only; split <;> simp [t0]
    simp only
    repeat' split
    all_goals first | exact hn _ _ _ | (simp only [t0, List.length_nil, List.length_take, List.length_cons, List.length_singleton]; omega)

theorem wordsL_sz (s : List UInt8) : ∀ (i : Nat) (l : List Tok), l.length ≤ 40 → (∀ t ∈ l, t.text.length ≤ s.length) → (wordsL s i l).1.length ≤ 40 ∧ ∀ t ∈ (wordsL s i l).1, t.text.length ≤ s.length := by
  intro i l
  induction i, l using wordsL.induct s with
  | case1 i l h h59 => intro h1 h2; rw [wordsL, dif_pos h, if_pos h59]; exact ⟨h1, h2⟩
  | case2 i l h h59 h32 ih => intro h1 h2; rw [wordsL, dif_pos h, if_neg h59, if_pos h32]; exact ih h1 h2
  | case3 i l h h59 h32 h0 => intro h1 h2; rw [wordsL, dif_pos h, if_neg h59, if_neg h32, if_pos h0]; simp
  | case4 i l h h59 h32 h0 h40 => intro h1 h2; rw [wordsL, dif_pos h, if_neg h59, if_neg h32, if_neg h0, if_pos h40]; simp
  | case5 i l h h59 h32 h0 h40 ih =>
    intro h1 h2
    rw [wordsL, dif_pos h, if_neg h59, if_neg h32, if_neg h0, if_neg h40]
    refine ih (by simp; omega) fun t ht => ?_
    rcases List.mem_append.mp ht with ht | ht
    · exact h2 t ht
    · rw [List.mem_singleton.mp ht]
      have := oneF_text (s := s.drop i)
      rw [List.length_drop] at this
      simp only
      omega
  | case6 i l h => intro h1 h2; rw [wordsL, dif_neg h]; exact ⟨h1, h2⟩

theorem wordsF_sz (s : List UInt8) (hs : s.length ≤ 140737488351232) : (wordsF s).1.length ≤ 40 ∧ szToks (wordsF s).1 := by
  unfold wordsF
  split
  · exact ⟨by simp, fun t ht => by simp at ht⟩
  · have := wordsL_sz s 0 [] (by simp) (fun t ht => by simp at ht)
    exact ⟨this.1, fun t ht => Nat.le_trans (this.2 t ht) hs⟩

/-! ### A row of slices that may be written -/

def MrO (H : Heap) (v : AV) (es : List AV) : Prop :=
  (v = .nils ∧ es = []) ∨ (∃ id pos alt a, v = .sl id 1 pos 1 false alt [a] ∧ es = [a]) ∨ ∃ x cap cs, v = .ms x 1 0 es.length cap ∧ look x H = some (.cells cs) ∧ cs.take es.length = es ∧ es.length ≤ cs.length ∧ es.length ≤ cap

structure Mr (H : Heap) (v : AV) (es : List AV) : Prop where
  o : MrO H v es
  le : es.length ≤ 281474976710656
  cell : ∀ x ∈ es, x.isCell = true

theorem Mr.len {H : Heap} {v : AV} {es : List AV} (h : Mr H v es) : avLen false v = some (.int .i64 es.length) := by
  rcases h.o with ⟨rfl, rfl⟩ | ⟨_, _, _, a, rfl, rfl⟩ | ⟨x, cap, cs, rfl, -⟩ <;> rfl

theorem Mr.ix {H : Heap} {v : AV} {es : List AV} (h : Mr H v es) {k : Nat} (hk : k < es.length) (Q : AV → Prop) : ixv (.ld1 hh) 1 v (.int .i64 k) H Q = Q es[k] := by
  have hc := h.cell _ (List.getElem_mem hk)
  rcases h.o with ⟨rfl, rfl⟩ | ⟨id, pos, alt, a, rfl, rfl⟩ | ⟨x, cap, cs, rfl, hl, ht, hle, hcap⟩
  · simp at hk
  · have : IsSl 1 (.sl id 1 pos 1 false alt [a]) [a] := ⟨.inr ⟨id, pos, 1, false, alt, rfl, by simp⟩, by simp⟩
    exact this.ix1 (k := .i64) (n := k) (by omega) (by omega) (by simpa using hc) H Q
  · unfold ixv
    have h1 : pureV (.iaddr 1 hh hh) [.ms x 1 0 es.length cap, .int .i64 k] = some (.ptr x k) := by
      show (opIaddr 1 (.c (.ms x 1 0 es.length cap)) (.c (.int .i64 k)) noCall .nil ⟨0, [], []⟩).val = _
      unfold opIaddr
      show (if 1 = 1 ∧ (0 : Int) ≤ k ∧ (k : Int) < es.length then OR.ok (.ptr x (0 + (k : Int).toNat * 1)) ⟨0, [], []⟩ else .fail).val = _
      rw [if_pos ⟨rfl, by omega, by omega⟩]
      simp [OR.val]
    rw [h1, opt_some]
    have h2 : hread H (.ptr x k) = some (cs.drop k) := by
      unfold hread
      simp only [hl]
    rw [h2, opt_some]
    have h3 : cs.drop k = es[k] :: cs.drop (k + 1) := by
      have hk' : k < cs.length := by omega
      rw [List.drop_eq_getElem_cons hk']
      congr 1
      have : (cs.take es.length)[k]'(by rw [ht]; exact hk) = cs[k] := List.getElem_take
      rw [← this]
      simp only [ht]
    rw [h3]
    rfl

/-- cut -/
theorem Mr.cut {H : Heap} {v : AV} {es : List AV} (h : Mr H v es) {n : Nat} (h1 : 1 < n) (hn : n ≤ es.length) : ∃ r, pureV (.slL 1 hh none (some hh) none) [v, .int .i64 n] = some r ∧ Mr H r (es.take n) := by
  rcases h.o with ⟨rfl, rfl⟩ | ⟨id, pos, alt, a, rfl, rfl⟩ | ⟨x, cap, cs, rfl, hl, ht, hle, hcap⟩
  · simp at hn; omega
  · simp at hn; omega
  · have hlen : (es.take n).length = n := by rw [List.length_take]; omega
    refine ⟨.ms x 1 0 n cap, ?_, ⟨.inr (.inr ⟨x, cap, cs, by rw [hlen], hl, ?_, by omega, by omega⟩), by rw [hlen]; have := h.le; omega, fun y hy => h.cell y (List.mem_of_mem_take hy)⟩⟩
    · show (opSlL 1 (.c (.ms x 1 0 es.length cap)) none (some (.c (.int .i64 n))) none noCall .nil ⟨0, [], []⟩).val = _
      unfold opSlL
      show (match Nat.beq 1 1 with
        | true => match bnd none Fr.nil cap cap with
          | some m => match (if (0 : Int) ≤ n ∧ (n : Int) ≤ m then some (n : Int).toNat else none) with
            | some h => match bnd none Fr.nil 0 h with
              | some l => match true with
                | true => if l = 0 ∨ l < cap then OR.ok (.ms x 1 (0 + l * 1) (h - l) (cap - l)) ⟨0, [], []⟩ else .fail
                | false => if m = l then .ok .sl0 ⟨0, [], []⟩ else .fail
              | none => .fail
            | none => .fail
          | none => .fail
        | false => .fail : OR).val = _
      simp only [bnd]
      rw [if_pos ⟨by omega, by omega⟩]
      simp [OR.val]
    · rw [hlen, ← ht, List.take_take, Nat.min_eq_left hn]

/-- more at its end -/
theorem Mr.app {H : Heap} {O : Rows} {v y : AV} {es ys : List AV} (h : Mr H v es) (hy : memCells (hT H) 1 y = some (ys.length, ys)) (hc : ∀ x ∈ ys, x.isCell = true) {b : Nat} {z : AV} (hz : 1 ≤ z.cells.length) (hb : 2 * (es.length + ys.length) * b ≤ 2 ^ 48) (hb1 : 1 ≤ b)
    {Q : AV → Heap → Rows → Prop} (hq : ∀ r H', Mr H' r (es ++ ys) → Q r H' O) : wMapp 1 b z v y H O Q := by
  unfold wMapp
  rw [hy]
  show (match ys.length with | 0 => _ | k + 1 => _)
  have hbb : es.length + ys.length ≤ 281474976710656 := by
    have : (es.length + ys.length) * 1 ≤ (es.length + ys.length) * b := Nat.mul_le_mul_left _ hb1
    rw [Nat.mul_assoc] at hb
    omega
  cases hys : ys.length with
  | zero =>
    have : ys = [] := List.length_eq_zero_iff.mp hys
    subst this
    refine ⟨?_, hq v H (by simpa using h)⟩
    rcases h.o with ⟨rfl, rfl⟩ | ⟨_, _, _, a, rfl, rfl⟩ | ⟨x, cap, cs, rfl, -⟩ <;> rfl
  | succ k =>
    have hall : ys.all AV.isCell = true := List.all_eq_true.mpr hc
    have key : ∀ (n : Nat) (o : Option Nat), oldH H 1 (k + 1) v = some (es.length, es, o) → opt (oldH H 1 (k + 1) v) fun o => (2 * (o.1 + (k + 1)) * b ≤ 2 ^ 48 ∧ 1 ≤ z.cells.length ∧ ys.all AV.isCell = true) ∧
        ∀ id, id ∉ ids H → Q (.ms id 1 0 (o.1 + (k + 1)) (o.1 + (k + 1))) ((id, .cells (o.2.1 ++ ys)) :: delO o.2.2 H) O := by
      intro n o ho
      rw [ho, opt_some]
      refine ⟨⟨by rw [← hys]; exact hb, hz, hall⟩, fun id _ => hq _ _ ⟨.inr (.inr ⟨id, es.length + (k + 1), es ++ ys, by rw [List.length_append, hys], look_self _ _ _, List.take_length, Nat.le_refl _, by rw [List.length_append, hys]; exact Nat.le_refl _⟩), by rw [List.length_append]; exact hbb, fun x hx => ?_⟩⟩
      rcases List.mem_append.mp hx with hx | hx
      · exact h.cell x hx
      · exact hc x hx
    rcases h.o with ⟨rfl, rfl⟩ | ⟨id, pos, alt, a, rfl, rfl⟩ | ⟨x, cap, cs, rfl, hl, ht, hle, hcap⟩
    · exact key 0 none rfl
    · refine key 0 none ?_
      have ha := h.cell a (by simp)
      have hk : a.known = true ∧ a.cells = [a] := by cases a <;> first | exact ⟨rfl, rfl⟩ | cases ha
      show Option.map _ (if 1 = 1 ∧ 1 < 1 + (k + 1) ∧ _ then _ else _) = _
      rw [if_pos ⟨rfl, by omega, by simp [hk]⟩]
      simp [hk]
    · refine key 0 (some x) ?_
      unfold oldH
      simp only [hl]
      rw [if_pos ⟨trivial, trivial, by omega⟩]
      simp [ht]

end
end M2
end
section
namespace M2
open Go
noncomputable section
variable {tbl : Nat → Option AFunc}

/-! ### Functions that hand back a row that may be written -/

@[go_sem] theorem wo_mapp {dr : Bool} {e b : Nat} {z x y : AV} {l : List Opd} {H : Heap} {O : Rows} {Q : AV → Heap → Rows → Prop} : wpo tbl dr (.mem (.app e b z) l) [x, y] H O Q = wMapp e b z x y H O Q := rfl

def retM (bx : List Bool) (res : List (Nat × Option (Nat × Bool))) (P : AV → Heap → Prop) (r : XR) : Prop :=
  match r with
  | .norm env H _ => opt (resL bx env H res) fun vs => ∃ H', (∀ p ∈ H', p ∈ H) ∧ (ids H').Nodup ∧ P (packed vs) H'
  | .ret env H _ => opt (resL bx env H res) fun vs => ∃ H', (∀ p ∈ H', p ∈ H) ∧ (ids H').Nodup ∧ P (packed vs) H'
  | .exit _ _ _ _ => False
section
variable {bx : List Bool} {res : List (Nat × Option (Nat × Bool))} {P : AV → Heap → Prop} {env : List AV} {H : Heap} {O : Rows}
@[go_sem] theorem retM_norm : retM bx res P (.norm env H O) = opt (resL bx env H res) fun vs => ∃ H', (∀ p ∈ H', p ∈ H) ∧ (ids H').Nodup ∧ P (packed vs) H' := rfl
@[go_sem] theorem retM_ret : retM bx res P (.ret env H O) = opt (resL bx env H res) fun vs => ∃ H', (∀ p ∈ H', p ∈ H) ∧ (ids H').Nodup ∧ P (packed vs) H' := rfl
@[go_sem] theorem retM_exit (i : Nat) : retM bx res P (.exit i env H O) = False := rfl
end
theorem mo_of {f : Nat} {x : XF} (hf : tbl f = some (flatF x)) (hw : wfF x = true) {args : List AV} (hl : args.length = x.np) (hk : x.keep = true) {P : AV → Heap → Prop}
    (hq : wpc tbl x.body (args ++ List.replicate (x.ms.length - x.np) .und) [] [] (retM x.bx x.res P)) : Fn tbl true f args [] [] fun r H' _ => P r H' := by
  rw [← hk]
  refine fn_of_wp hf hw hl (wpc_mono _ hq fun r hr => ?_)
  have key : ∀ env H1 O1, (opt (resL x.bx env H1 x.res) fun vs => ∃ H', (∀ p ∈ H', p ∈ H1) ∧ (ids H').Nodup ∧ P (packed vs) H') → wRet x [] [] (fun r H' _ => P r H') env H1 O1 := by
    intro env H1 O1 h
    exact opt_mono h fun vs ⟨H', h1, h2, h3⟩ => ⟨H', [], fun p hp => ⟨h1 p hp, .inl hk⟩, h2, nofun, List.nodup_nil, h3⟩
  cases r with
  | norm env H O => exact key env H O hr
  | ret env H O => exact key env H O hr
  | exit i env H O => exact hr.elim

theorem Mr.ret {H : Heap} {v : AV} {es : List AV} (h : Mr H v es) : ∃ H', (∀ p ∈ H', p ∈ H) ∧ (ids H').Nodup ∧ Mr H' v es := by
  rcases h.o with h1 | h1 | ⟨x, cap, cs, rfl, hl, h2⟩
  · exact ⟨[], nofun, List.nodup_nil, ⟨.inl h1, h.le, h.cell⟩⟩
  · exact ⟨[], nofun, List.nodup_nil, ⟨.inr (.inl h1), h.le, h.cell⟩⟩
  · refine ⟨[(x, .cells cs)], fun p hp => ?_, by simp [ids], ⟨.inr (.inr ⟨x, cap, cs, rfl, look_self _ _ _, h2⟩), h.le, h.cell⟩⟩
    rw [List.mem_singleton.mp hp]
    exact look_mem hl

theorem cell1_kn {x : AV} (h : x.isCell = true) : x.known = true ∧ x.cells = [x] := by cases x <;> first | exact ⟨rfl, rfl⟩ | cases h
theorem flat_cells : ∀ {es : List AV}, (∀ x ∈ es, x.isCell = true) → es.flatMap AV.cells = es
  | [], _ => rfl
  | x :: es, h => by rw [List.flatMap_cons, (cell1_kn (h x List.mem_cons_self)).2, flat_cells fun y hy => h y (List.mem_cons_of_mem _ hy)]; rfl
theorem memCells_sl {H : Heap} {y : AV} {ys : List AV} (h : IsSl 1 y ys) (hc : ∀ x ∈ ys, x.isCell = true) : memCells (hT H) 1 y = some (ys.length, ys) := by
  obtain ⟨⟨rfl | rfl, rfl⟩ | ⟨id, pos, cap, fl, alt, rfl, -⟩, -⟩ := h
  · rfl
  · rfl
  · unfold memCells
    simp only
    rw [if_pos ⟨trivial, List.all_eq_true.mpr fun v hv => by rw [(cell1_kn (hc v hv)).1, (cell1_kn (hc v hv)).2]; rfl⟩, flat_cells hc]
theorem isSl_lit {e id n alt pos : Nat} {es : List AV} (h : n = es.length) (hl : es.length ≤ 281474976710656) : IsSl e (.sl id e pos n false alt es) es := ⟨.inr ⟨id, pos, n, false, alt, rfl, by omega⟩, hl⟩

theorem fill1 {a z : AV} (h : a.isCell = true) : fillS .nil 1 (List.replicate 1 z) (fillP2 [(0, hh)] ([a].map .c)) = some [a] := by
  have := cell1_kn h
  show (match a.known && Nat.beq a.cells.length 1 && Nat.blt 0 1 with | true => _ | false => none) = _
  rw [this.1, this.2]; rfl
theorem fill3 {a b c z : AV} (ha : a.isCell = true) (hb : b.isCell = true) (hc : c.isCell = true) : fillS .nil 1 (List.replicate 3 z) (fillP2 [(0, hh), (1, hh), (2, hh)] ([a, b, c].map .c)) = some [a, b, c] := by
  have h1 := cell1_kn ha
  have h2 := cell1_kn hb
  have h3 := cell1_kn hc
  show (match a.known && Nat.beq a.cells.length 1 && Nat.blt 0 3 with
    | true => (match b.known && Nat.beq b.cells.length 1 && Nat.blt 1 3 with
      | true => (match c.known && Nat.beq c.cells.length 1 && Nat.blt 2 3 with | true => _ | false => none)
      | false => none)
    | false => none) = _
  rw [h1.1, h1.2, h2.1, h2.2, h3.1, h3.2]; rfl
theorem fill2 {a b z : AV} (ha : a.isCell = true) (hb : b.isCell = true) : fillS .nil 1 (List.replicate 2 z) (fillP2 [(0, hh), (1, hh)] ([a, b].map .c)) = some [a, b] := by
  have h1 := cell1_kn ha
  have h2 := cell1_kn hb
  show (match a.known && Nat.beq a.cells.length 1 && Nat.blt 0 2 with
    | true => (match b.known && Nat.beq b.cells.length 1 && Nat.blt 1 2 with | true => _ | false => none)
    | false => none) = _
  rw [h1.1, h1.2, h2.1, h2.2]; rfl

theorem Ap.left {O1 O : Rows} {e : Nat} {x : AV} {xs : List AV} (h : Ap O1 e x xs) : Ap (O1 ++ O) e x xs := by
  obtain ⟨h | h | ⟨id, pos, alt, rfl, ho⟩, hl⟩ := h
  · exact ⟨.inl h, hl⟩
  · exact ⟨.inr (.inl h), hl⟩
  · exact ⟨.inr (.inr ⟨id, pos, alt, rfl, by rw [look_append, ho]; rfl⟩), hl⟩

structure RowsT (tbl : Nat → Option AFunc) : Prop extends RLexT tbl where
  h26 : tbl 26 = some (flatF x26)
  h27 : tbl 27 = some (flatF x27)
  h49 : tbl 49 = some (flatF x49)

def GoodT (x : AV) : Prop := ∃ l, ToksAre x l ∧ szToks l ∧ l.length * 40 ≤ 140737488351232
theorem isTT_app {xs ys : List AV} (h : IsTT xs) (k : IsTT ys) : IsTT (xs ++ ys) := fun x hx => (List.mem_append.mp hx).elim (h x) (k x)
theorem isTT_take {xs : List AV} (h : IsTT xs) (n : Nat) : IsTT (xs.take n) := fun x hx => h x (List.mem_of_mem_take hx)
theorem isTT_cell {xs : List AV} (h : IsTT xs) : ∀ x ∈ xs, x.isCell = true := fun x hx => by obtain ⟨l, h1, -, -⟩ := h x hx; exact h1.kn.2.2
theorem szToks_sub {a b : List Tok} (h : szToks b) (k : ∀ t ∈ a, t ∈ b) : szToks a := fun t ht => h t (k t ht)

theorem rows_in (h : RowsT tbl) {vw : AV} {W : List Tok} (hw : ToksAre vw W) (wz : szToks W) (w40 : W.length ≤ 40) {b1 b2 : AV} {i : Nat} (hi : i < 8) {n0 : Nat} (hn0 : n0 ≤ 1000) {Q : XR → Prop}
    (hx : ∀ env H O v es, Mr H v es → IsTT es → es.length ≤ n0 + 15 → env.length = 13 → nth env 1 = b1 → nth env 2 = b2 → nth env 3 = v → nth env 4 = i64 i → Q (.exit 2 env H O)) (env : List AV) (H : Heap) (O : Rows)
    (v : AV) (es : List AV) (hv : Mr H v es) (ht : IsTT es) (hl : es.length ≤ n0)
    (he : env.length = 13 ∧ nth env 1 = b1 ∧ nth env 2 = b2 ∧ nth env 3 = v ∧ nth env 4 = i64 i ∧ nth env 5 = vw ∧ nth env 8 = i64 0) : wLoop (wpc tbl x26l0) env H O Q := by
  refine wLoop_wf x26l0.eq_1 (fun k : Nat => 5 - k) (fun k env H O => ∃ v es, Mr H v es ∧ IsTT es ∧ es.length ≤ n0 + 3 * k ∧ k ≤ 5 ∧ env.length = 13 ∧ nth env 1 = b1 ∧ nth env 2 = b2 ∧ nth env 3 = v ∧ nth env 4 = i64 i ∧ nth env 5 = vw ∧ nth env 8 = i64 k) ?_ 0 env H O ⟨v, es, hv, ht, hl, by omega, he⟩
  rintro k env H O ⟨v, es, hv, ht, hl, hk5, e0, e1, e2, e3, e4, e5, e8⟩
  have done : Q (.exit 2 env H O) := hx env H O v es hv ht (by omega) e0 e1 e2 e3 e4
  by_cases g1 : (k : Int) < 5
  · by_cases g2 : (0 : Int) < W.length
    · have hlen : 0 < W.length := by omega
      have m1 : k * W.length ≤ 5 * 40 := Nat.mul_le_mul (by omega) w40
      have hm : IntKind.i64.wrap ((k : Int) * W.length) = ((k * W.length : Nat) : Int) := by rw [show (k : Int) * W.length = ((k * W.length : Nat) : Int) by rw [Int.natCast_mul]]; exact wrap_i64 (by omega) (by omega)
      have hq : ((k * W.length : Nat) : Int).tdiv 5 = ((k * W.length / 5 : Nat) : Int) := by rw [Int.tdiv_eq_ediv_of_nonneg (by omega)]; rfl
      have m2 : k * W.length / 5 ≤ k * W.length := Nat.div_le_self _ _
      have hq2 : IntKind.i64.wrap ((k * W.length / 5 : Nat) : Int) = ((k * W.length / 5 : Nat) : Int) := wrap_i64 (by omega) (by omega)
      have ha : IntKind.i64.wrap (((k * W.length / 5 : Nat) : Int) + (i : Int)) = ((k * W.length / 5 + i : Nat) : Int) := by rw [wrap_i64 (by omega) (by omega)]; omega
      have hk1 : IntKind.i64.wrap ((k : Int) + 1) = ((k + 1 : Nat) : Int) := by rw [wrap_i64 (by omega) (by omega)]; omega
      simp only [go_sem, e0, e1, e2, e3, e4, e5, e8, hw.len, g1, g2, decide_true, hm, hq, hq2, ha, show ¬ (5 : Int) = 0 by omega, if_false]
      refine call_pu (within0_ok h.h49 (i := ((k * W.length / 5 + i : Nat) : Int)) (n := W.length) ⟨by omega, by omega⟩ ⟨by omega, by omega⟩) ?_
      rintro r rfl
      obtain ⟨a, hat, hal⟩ : ∃ a : Nat, ((k * W.length / 5 + i : Nat) : Int) % (W.length : Int) = a ∧ a < W.length := ⟨(k * W.length / 5 + i) % W.length, by rw [Int.natCast_emod], Nat.mod_lt _ hlen⟩
      have ha1 : IntKind.i64.wrap ((a : Int) + 1) = ((a + 1 : Nat) : Int) := by rw [wrap_i64 (by omega) (by omega)]; omega
      have hlm : (W.map tokV).length = W.length := List.length_map ..
      obtain ⟨r1, q1, s1⟩ := IsSl.slH hw (k := .i64) (n := (a : Int)) (by omega) (by rw [hlm]; omega)
      obtain ⟨r2, q2, s2⟩ := IsSl.slLo hw (k := .i64) (n := (a : Int)) (by omega) (by rw [hlm]; omega)
      obtain ⟨r3, q3, s3⟩ := IsSl.slLo hw (k := .i64) (n := ((a + 1 : Nat) : Int)) (by omega) (by rw [hlm]; omega)
      rw [Int.toNat_natCast, ← List.map_take] at s1
      rw [Int.toNat_natCast, ← List.map_drop] at s2 s3
      have t1 : ToksAre r1 (W.take a) := s1
      have t2 : ToksAre r2 (W.drop a) := s2
      have t3 : ToksAre r3 (W.drop (a + 1)) := s3
      have z1 : szToks (W.take a) := szToks_sub wz fun t ht => List.mem_of_mem_take ht
      have z2 : szToks (W.drop a) := szToks_sub wz fun t ht => List.mem_of_mem_drop ht
      have z3 : szToks (W.drop (a + 1)) := szToks_sub wz fun t ht => List.mem_of_mem_drop ht
      have l1 : (W.take a).length ≤ 40 := by rw [List.length_take]; omega
      have l2 : (W.drop a).length ≤ 40 := by rw [List.length_drop]; omega
      have l3 : (W.drop (a + 1)).length ≤ 40 := by rw [List.length_drop]; omega
      simp only [go_sem, hat, nth_puts, length_put, e0, e1, e2, e3, e4, e5, e8, Nat.reduceEqDiff, ↓reduceIte, Nat.reduceLT, q1, q2, q3, ha1]
      refine call_puO (copyT_ok h.h27 t1 (by omega)) ?_
      intro rc H1 O1 hc _
      try simp only [go_sem]
      refine app_ok hc.left s3 (fun v hv => ?_) (by decide) (by simp only [List.length_map]; omega) (by decide) ?_
      · obtain ⟨t, -, rfl⟩ := List.mem_map.mp hv; exact ⟨rfl, rfl⟩
      intro r4 O2 h4 _
      rw [← List.map_append] at h4
      have t4 : ToksAre r4 (W.take a ++ W.drop (a + 1)) := h4.sl
      have z4 : szToks (W.take a ++ W.drop (a + 1)) := fun t ht => (List.mem_append.mp ht).elim (z1 t) (z3 t)
      have hf := fill3 (z := AV.nils) t1.kn.2.2 t2.kn.2.2 t4.kn.2.2
      simp only [go_sem] at hf ⊢
      simp only [hf, opt_some]
      intro id
      have hTT : IsTT [r1, r2, r4] := by
        intro x hx
        simp only [List.mem_cons, List.not_mem_nil, or_false] at hx
        rcases hx with rfl | rfl | rfl
        · exact ⟨_, t1, z1, by omega⟩
        · exact ⟨_, t2, z2, by omega⟩
        · exact ⟨_, t4, z4, by rw [List.length_append]; omega⟩
      refine Mr.app hv (ys := [r1, r2, r4]) (memCells_sl (isSl_lit rfl (by simp)) (isTT_cell hTT)) (isTT_cell hTT) (by decide) (by simp only [List.length_cons, List.length_nil]; omega) (by decide) ?_
      intro r5 H5 h5
      simp only [go_sem, nth_puts, length_put, e0, e1, e2, e3, e4, e5, e8, Nat.reduceEqDiff, ↓reduceIte, Nat.reduceLT, hk1]
      exact ⟨k + 1, by omega, r5, es ++ [r1, r2, r4], h5, isTT_app ht hTT, by simp only [List.length_append, List.length_cons, List.length_nil]; omega, by omega, rfl, rfl⟩
    · simp only [go_sem, e0, e1, e2, e3, e4, e5, e8, hw.len, g1, g2, decide_true, decide_false]
      exact done
  · simp only [go_sem, e0, e1, e2, e3, e4, e5, e8, hw.len, g1, decide_false]
    exact done

theorem rows_out (h : RowsT tbl) {vT vS vN vV : AV} {ss : List AV} (hS : IsSl 1 vS ss) (hSS : IsSS ss) {b2 : AV} {Q : XR → Prop}
    (hx : ∀ env H O v es, Mr H v es → IsTT es → es.length ≤ 1000 → env.length = 13 → nth env 3 = v → Q (.exit 0 env H O)) (env : List AV) (H : Heap) (O : Rows)
    (v : AV) (es : List AV) (hv : Mr H v es) (ht : IsTT es) (hl : es.length ≤ 8)
    (he : env.length = 13 ∧ nth env 1 = .agg [vS, vT, vN, vV] ∧ nth env 2 = b2 ∧ nth env 3 = v ∧ nth env 4 = i64 0) : wLoop (wpc tbl x26l1) env H O Q := by
  have hsl := hS.le
  refine wLoop_wf x26l1.eq_1 (fun k : Nat => 8 - k) (fun k env H O => ∃ v es, Mr H v es ∧ IsTT es ∧ es.length ≤ 8 + 16 * k ∧ k ≤ 8 ∧ env.length = 13 ∧ nth env 1 = .agg [vS, vT, vN, vV] ∧ nth env 2 = b2 ∧ nth env 3 = v ∧ nth env 4 = i64 k) ?_ 0 env H O ⟨v, es, hv, ht, hl, by omega, he⟩
  rintro k env H O ⟨v, es, hv, ht, hl, hk8, e0, e1, e2, e3, e4⟩
  have done : Q (.exit 0 env H O) := hx env H O v es hv ht (by omega) e0 e3
  have ag : isAgg (nth env 1) = true := by rw [e1]; rfl
  have fa : ∀ off, pureV (.faddr 0 hh) [.ptr 1 off] = some (.ptr 1 (off + 0)) := fun off => rfl
  have lv1 : ∀ off, lva env (.ptr 1 off) = some ([vS, vT, vN, vV].drop off) := fun off => lva_agg e1
  have lvv : lvV (.ld1 hh) [vS, vT, vN, vV] = some vS := rfl
  by_cases g1 : (k : Int) < ss.length
  · by_cases g2 : (k : Int) < 8
    · obtain ⟨s, hs, hix⟩ := hS.ixS hSS (i := k) (by omega)
      have hk1 : IntKind.i64.wrap ((k : Int) + 1) = ((k + 1 : Nat) : Int) := by rw [wrap_i64 (by omega) (by omega)]; omega
      simp only [go_sem, e0, e1, e2, e3, e4, ag, true_and, fa, lv1, lvv, Nat.add_zero, List.drop_zero, hS.len, g1, g2, decide_true, hix]
      refine call_pu (rwords_ok h.toRLexT hs) ?_
      rintro r ⟨vw, rfl, hw⟩
      have hsz := wordsF_sz s hs
      generalize wordsF s = p at *
      obtain ⟨W, at', bad⟩ := p
      simp only at hw hsz
      simp only [go_sem, nth_puts, length_put, e0, e1, e2, e3, e4, Nat.reduceEqDiff, ↓reduceIte, Nat.reduceLT]
      have kv := hw.kn
      simp only [List.getElem?_cons_zero, List.getElem?_cons_succ, opt_some, go_sem, kv.1, kv.2.1, List.length_singleton, true_and, Nat.lt_add_one, Nat.zero_add, if_true, List.set_cons_zero, hk1]
      refine ⟨fun hb => ⟨k + 1, by omega, v, es, hv, ht, by omega, by omega, rfl, rfl⟩, fun hb => fun id => ?_⟩
      have hT1 : IsTT [vw] := by
        intro x hx
        rw [List.mem_singleton.mp hx]
        exact ⟨W, hw, hsz.2, by omega⟩
      refine Mr.app hv (ys := [vw]) (memCells_sl (isSl_lit rfl (by simp)) (isTT_cell hT1)) (isTT_cell hT1) (by decide) (by simp only [List.length_cons, List.length_nil]; omega) (by decide) ?_
      intro r5 H5 h5
      refine rows_in (b1 := .agg [vS, vT, vN, vV]) (b2 := b2) h hw hsz.2 hsz.1 (i := k) (by omega) (n0 := 9 + 16 * k) (by omega) ?_ _ _ _ r5 (es ++ [vw]) h5 (isTT_app ht hT1) (by simp; omega) ⟨by simp [length_put, e0], by simp [nth_puts, length_put, e0, e1], by simp [nth_puts, length_put, e0, e2], by simp [nth_puts, length_put, e0], by simp [nth_puts, length_put, e0, e4], by simp [nth_puts, length_put, e0], by simp [nth_puts, length_put, e0]⟩
      intro env' H' O' v' es' hv' ht' hl' f0 f1 f2 f3 f4
      simp only [go_sem, nth_puts, length_put, f0, f1, f2, f3, f4, Nat.reduceEqDiff, ↓reduceIte, Nat.reduceLT, hk1]
      exact ⟨k + 1, by omega, v', es', hv', ht', by omega, by omega, rfl, rfl⟩
    · simp only [go_sem, e0, e1, e2, e3, e4, ag, true_and, fa, lv1, lvv, Nat.add_zero, List.drop_zero, hS.len, g1, g2, decide_true, decide_false]
      exact done
  · simp only [go_sem, e0, e1, e2, e3, e4, ag, true_and, fa, lv1, lvv, Nat.add_zero, List.drop_zero, hS.len, g1, decide_false]
    exact done

theorem rows_ok (h : RowsT tbl) {vT vS vN vV : AV} {tt ss : List AV} (hT : IsSl 1 vT tt) (hTT : IsTT tt) (tb : tt.length * 24 ≤ 140737488351232) (hS : IsSl 1 vS ss) (hSS : IsSS ss) :
    Fn tbl true 26 [.agg [vS, vT, vN, vV]] [] [] fun r H _ => ∃ es, Mr H r es ∧ IsTT es := by
  refine mo_of h.h26 w26 rfl rfl ?_
  have ag : isAgg (.agg [vS, vT, vN, vV]) = true := rfl
  have fa : ∀ off off', pureV (.faddr off' hh) [.ptr 1 off] = some (.ptr 1 (off + off')) := fun _ _ => rfl
  have lvv : lvV (.ld1 hh) [vT, vN, vV] = some vT := rfl
  simp only [x26, go_sem, Nat.reduceAdd, Nat.reduceLeDiff, ↓reduceIte, and_self, true_and, fa, lvv]
  have h0 : (if AV.nils.known = true ∧ AV.nils.cells.length = 1 ∧ 0 < 1 then some ([AV.nils].set 0 AV.nils) else none) = some [AV.nils] := by rfl
  rw [h0, opt_some]
  intro id
  have m0 : Mr [] (.sl id 1 0 1 false 0 [.nils]) [.nils] := ⟨.inr (.inl ⟨id, 0, 0, .nils, rfl, rfl⟩), by simp, by simp [AV.isCell]⟩
  have n0 : IsTT [.nils] := by
    intro x hx
    rw [List.mem_singleton.mp hx]
    exact ⟨[], isSl_nils 4, (fun t ht => by cases ht), by simp⟩
  refine Mr.app m0 (ys := tt) (memCells_sl hT (isTT_cell hTT)) (isTT_cell hTT) (by decide) (by simp only [List.length_cons, List.length_nil]; omega) (by decide) ?_
  intro r H' hr
  have hTT1 := isTT_app n0 hTT
  generalize [AV.nils] ++ tt = es at *
  have last : ∀ (r : AV) (H' : Heap) (O' : Rows) (es : List AV), Mr H' r es → IsTT es → es.length ≤ 8 → wLoop (wpc tbl x26l1)
                  [AV.agg [vS, vT, vN, vV], AV.agg [vS, vT, vN, vV], AV.nils, r, AV.int IntKind.i64 0, AV.und, AV.und,
                    AV.und, AV.und, AV.und, AV.und, AV.und, AV.und]
                  H' O'
                  (blkK 0
                    (seqK (wpc tbl ((XC.reg [{ n := 86, xs := X.m 3, ws := [W.mv 2 0] }]).seq XC.ret))
                      (retM [false, true, false, false, false, false, false, false, false, false, false, false, false]
                        [(2, none)] fun r H => ∃ es, Mr H r es ∧ IsTT es))) := by
    intro r H' O' es hr ht hl
    refine rows_out (vT := vT) (vS := vS) (vN := vN) (vV := vV) (b2 := .nils) h hS hSS ?_ _ _ _ r es hr ht hl ⟨rfl, rfl, rfl, rfl, rfl⟩
    intro env H O v es hv ht hl e0 e3
    simp only [go_sem, nth_puts, length_put, e0, e3, Nat.reduceEqDiff, ↓reduceIte, Nat.reduceLT]
    obtain ⟨H2, k1, k2, k3⟩ := hv.ret
    exact ⟨H2, k1, k2, es, k3, ht⟩
  rw [hr.len, opt_some]
  simp only [go_sem]
  refine ⟨fun g => ?_, fun g => ?_⟩
  · obtain ⟨r2, q2, m2⟩ := hr.cut (n := 8) (by omega) (by omega)
    rw [show (AV.int IntKind.i64 8) = .int .i64 ((8 : Nat) : Int) from rfl, q2, opt_some]
    exact last r2 H' [] _ m2 (isTT_take hTT1 8) (by rw [List.length_take]; omega)
  · exact last r H' [] es hr hTT1 (by omega)

end
end M2
end
section
namespace M2
open Go
noncomputable section
variable {tbl : Nat → Option AFunc}

structure TakesT (tbl : Nat → Option AFunc) : Prop extends ExT tbl, RExT tbl, HvT tbl, RowsT tbl where
  h28 : tbl 28 = some (flatF x28)
  h37 : tbl 37 = some (flatF x37)
  h38 : tbl 38 = some (flatF x38)
  h39 : tbl 39 = some (flatF x39)
  h40 : tbl 40 = some (flatF x40)

theorem no_take {names : List Val} {toks : List Tok} (h : ¬(namesOk names ∧ toksOk toks = true)) : takeP names toks = (v0, 0, 1) ∧ ofP names toks = (v0, 1) ∧ numP names toks = (0, 1) := by
  have h1 : takeP names toks = (v0, 0, 1) := by unfold takeP; rw [if_neg h]
  have h2 : ofP names toks = (v0, 1) := by unfold ofP; rw [h1]; simp
  have h3 : numP names toks = (0, 1) := by unfold numP; rw [h2]; simp
  exact ⟨h1, h2, h3⟩

structure TakesH (tbl : Nat → Option AFunc) : Prop extends TakesT tbl where
  h7 : tbl 7 = some (flatF x7)

theorem takes_in (h : TakesT tbl) {arg v nv : AV} {es : List AV} {H0 : Heap} (hv : Mr H0 v es) (ht : IsTT es) {names : List Val} (hn : ValsAre nv names) (nz : szVals names) (nb : names.length * 24 ≤ 140737488351232) {kk : Int} {Q : XR → Prop}
    (hx : ∀ env O, env.length = 23 → nth env 1 = arg → nth env 2 = .bool false → nth env 3 = v → nth env 4 = i64 kk → Q (.exit 2 env H0 O)) (env : List AV) (O : Rows)
    (he : env.length = 23 ∧ nth env 1 = arg ∧ nth env 2 = .bool false ∧ nth env 3 = v ∧ nth env 4 = i64 kk ∧ nth env 5 = nv ∧ nth env 6 = i64 0) : wLoop (wpc tbl x7l0) env H0 O Q := by
  have hle := hv.le
  refine wLoop_up x7l0.eq_1 es.length (fun i env H O => H = H0 ∧ env.length = 23 ∧ nth env 1 = arg ∧ nth env 2 = .bool false ∧ nth env 3 = v ∧ nth env 4 = i64 kk ∧ nth env 5 = nv ∧ nth env 6 = i64 i) ?_ ?_ 0 env H0 O (by omega) ⟨rfl, he⟩
  · rintro i env H O hi ⟨rfl, e0, e1, e2, e3, e4, e5, e6⟩
    have g1 : (i : Int) < es.length := by omega
    have hk1 : IntKind.i64.wrap ((i : Int) + 1) = ((i + 1 : Nat) : Int) := by rw [wrap_i64 (by omega) (by omega)]; omega
    obtain ⟨toks, tt, tz, tb⟩ := ht _ (List.getElem_mem hi)
    have hix := fun Q => hv.ix hi Q
    generalize es[i] = tv at *
    simp only [go_sem, e0, e1, e2, e3, e4, e5, e6, hv.len, g1, decide_true, hix]
    refine call_puO (copyT_ok h.h27 tt tb) ?_
    intro r7 _ O1 h7 _
    try simp only [go_sem, e0, e1, e2, e3, e4, e5, e6]
    refine call_puO (copyV_ok h.h28 hn nb) ?_
    intro r8 _ O2 h8 _
    have t7 : ToksAre r7 toks := h7.sl
    have t8 : ValsAre r8 names := h8.sl
    simp only [go_sem, nth_puts, length_put, e0, e1, e2, e3, e4, e5, e6, Nat.reduceEqDiff, ↓reduceIte, Nat.reduceLT]
    refine call_pu (take_ok h.toExT t8 t7 nz tz) ?_
    rintro q rfl
    simp only [go_sem, nth_puts, length_put, e0, e1, e2, e3, e4, e5, e6, Nat.reduceEqDiff, ↓reduceIte, Nat.reduceLT, Nat.reduceAdd, Nat.reduceLeDiff, and_self]
    refine call_pu (of_ok' h.toExT t8 t7 nz tz) ?_
    rintro q rfl
    simp only [go_sem, twoV, nth_puts, length_put, e0, e1, e2, e3, e4, e5, e6, Nat.reduceEqDiff, ↓reduceIte, Nat.reduceLT, Nat.reduceAdd, Nat.reduceLeDiff, and_self]
    refine call_pu (number_ok' h.toExT t8 t7 nz tz) ?_
    rintro q rfl
    simp only [go_sem, nth_puts, length_put, e0, e1, e2, e3, e4, e5, e6, Nat.reduceEqDiff, ↓reduceIte, Nat.reduceLT, Nat.reduceAdd, Nat.reduceLeDiff, and_self]
    refine call_pu (consts_ok h.toExT.toParT.toNamT hn nz) ?_
    rintro q rfl
    have he4 := eqvals_ok h.h39 t8 hn
    have he3 := eqtoks_ok h.h38 t7 tt
    by_cases hN : namesOk names
    · simp only [go_sem, twoV, nth_puts, length_put, e0, e1, e2, e3, e4, e5, e6, Nat.reduceEqDiff, ↓reduceIte, Nat.reduceLT, Nat.reduceAdd, Nat.reduceLeDiff, and_self, hix, hN, decide_true, decide_false, ne_eq, not_true_eq_false]
      refine call_pu (rtokens_ok h.toRowsT.toRLexT tt tz) ?_
      rintro q rfl
      cases hT : toksOk toks
      · obtain ⟨n1, n2, n3⟩ := no_take (names := names) (toks := toks) (by rw [hT]; simp)
        simp only [n1, n2, n3]
        simp only [go_sem, twoV, nth_puts, length_put, e0, e1, e2, e3, e4, e5, e6, Nat.reduceEqDiff, ↓reduceIte, Nat.reduceLT, Nat.reduceAdd, Nat.reduceLeDiff, and_self, hix, hN, decide_true, decide_false, ne_eq, not_true_eq_false]
        iterate 3
          refine call_pu (enum_ok h.h37 _) ?_
          rintro q rfl
          try simp only [go_sem, twoV, nth_puts, length_put, e0, e1, e2, e3, e4, e5, e6, Nat.reduceEqDiff, ↓reduceIte, Nat.reduceLT, Nat.reduceAdd, Nat.reduceLeDiff, and_self, hix, hN, decide_true, decide_false, ne_eq, not_true_eq_false]
        refine call_pu he3 ?_
        rintro q rfl
        try simp only [go_sem, twoV, nth_puts, length_put, e0, e1, e2, e3, e4, e5, e6, Nat.reduceEqDiff, ↓reduceIte, Nat.reduceLT, Nat.reduceAdd, Nat.reduceLeDiff, and_self, hix, hN, decide_true, decide_false, ne_eq, not_true_eq_false]
        refine ⟨(fun hh => by cases hh), fun _ => ?_⟩
        refine call_pu he4 ?_
        rintro q rfl
        try simp only [go_sem, twoV, nth_puts, length_put, e0, e1, e2, e3, e4, e5, e6, Nat.reduceEqDiff, ↓reduceIte, Nat.reduceLT, Nat.reduceAdd, Nat.reduceLeDiff, and_self, hix, hN, decide_true, decide_false, ne_eq, not_true_eq_false]
        simp [hk1]
      · simp only [go_sem, twoV, nth_puts, length_put, e0, e1, e2, e3, e4, e5, e6, Nat.reduceEqDiff, ↓reduceIte, Nat.reduceLT, Nat.reduceAdd, Nat.reduceLeDiff, and_self, hix, hN, decide_true, decide_false, ne_eq, not_true_eq_false]
        refine call_pu (rtake_ok h.toRExT hn tt nz tz hN hT) ?_
        rintro q rfl
        simp only [go_sem, twoV, nth_puts, length_put, e0, e1, e2, e3, e4, e5, e6, Nat.reduceEqDiff, ↓reduceIte, Nat.reduceLT, Nat.reduceAdd, Nat.reduceLeDiff, and_self, hix, hN, decide_true, decide_false, ne_eq, not_true_eq_false]
        refine call_pu (rof_ok h.toRExT hn tt nz tz hN hT) ?_
        rintro q rfl
        simp only [go_sem, twoV, nth_puts, length_put, e0, e1, e2, e3, e4, e5, e6, Nat.reduceEqDiff, ↓reduceIte, Nat.reduceLT, Nat.reduceAdd, Nat.reduceLeDiff, and_self, hix, hN, decide_true, decide_false, ne_eq, not_true_eq_false]
        refine call_pu (rnumber_ok h.toRExT hn tt nz tz hN hT) ?_
        rintro q rfl
        simp only [go_sem, twoV, nth_puts, length_put, e0, e1, e2, e3, e4, e5, e6, Nat.reduceEqDiff, ↓reduceIte, Nat.reduceLT, Nat.reduceAdd, Nat.reduceLeDiff, and_self, hix, hN, decide_true, decide_false, ne_eq, not_true_eq_false]
        generalize takeP names toks = p1 at *
        generalize ofP names toks = p2 at *
        generalize numP names toks = p3 at *
        iterate 3
          refine call_pu (enum_ok h.h37 _) ?_
          rintro q rfl
          try simp only [go_sem, twoV, nth_puts, length_put, e0, e1, e2, e3, e4, e5, e6, Nat.reduceEqDiff, ↓reduceIte, Nat.reduceLT, Nat.reduceAdd, Nat.reduceLeDiff, and_self, hix, hN, decide_true, decide_false, ne_eq, not_true_eq_false]
        refine call_pu he3 ?_
        rintro q rfl
        try simp only [go_sem, twoV, nth_puts, length_put, e0, e1, e2, e3, e4, e5, e6, Nat.reduceEqDiff, ↓reduceIte, Nat.reduceLT, Nat.reduceAdd, Nat.reduceLeDiff, and_self, hix, hN, decide_true, decide_false, ne_eq, not_true_eq_false]
        refine ⟨(fun hh => by cases hh), fun _ => ?_⟩
        refine call_pu he4 ?_
        rintro q rfl
        try simp only [go_sem, twoV, nth_puts, length_put, e0, e1, e2, e3, e4, e5, e6, Nat.reduceEqDiff, ↓reduceIte, Nat.reduceLT, Nat.reduceAdd, Nat.reduceLeDiff, and_self, hix, hN, decide_true, decide_false, ne_eq, not_true_eq_false]
        simp [hk1]
    · obtain ⟨n1, n2, n3⟩ := no_take (names := names) (toks := toks) (fun hh => hN hh.1)
      simp only [n1, n2, n3]
      simp only [go_sem, twoV, nth_puts, length_put, e0, e1, e2, e3, e4, e5, e6, Nat.reduceEqDiff, ↓reduceIte, Nat.reduceLT, Nat.reduceAdd, Nat.reduceLeDiff, and_self, hix, hN, decide_true, decide_false, ne_eq, not_true_eq_false]
      iterate 3
        refine call_pu (enum_ok h.h37 _) ?_
        rintro q rfl
        try simp only [go_sem, twoV, nth_puts, length_put, e0, e1, e2, e3, e4, e5, e6, Nat.reduceEqDiff, ↓reduceIte, Nat.reduceLT, Nat.reduceAdd, Nat.reduceLeDiff, and_self, hix, hN, decide_true, decide_false, ne_eq, not_true_eq_false]
      refine call_pu he3 ?_
      rintro q rfl
      try simp only [go_sem, twoV, nth_puts, length_put, e0, e1, e2, e3, e4, e5, e6, Nat.reduceEqDiff, ↓reduceIte, Nat.reduceLT, Nat.reduceAdd, Nat.reduceLeDiff, and_self, hix, hN, decide_true, decide_false, ne_eq, not_true_eq_false]
      refine ⟨(fun hh => by cases hh), fun _ => ?_⟩
      refine call_pu he4 ?_
      rintro q rfl
      try simp only [go_sem, twoV, nth_puts, length_put, e0, e1, e2, e3, e4, e5, e6, Nat.reduceEqDiff, ↓reduceIte, Nat.reduceLT, Nat.reduceAdd, Nat.reduceLeDiff, and_self, hix, hN, decide_true, decide_false, ne_eq, not_true_eq_false]
      simp [hk1]
  · rintro env H O ⟨rfl, e0, e1, e2, e3, e4, e5, e6⟩
    have g1 : ¬ (es.length : Int) < es.length := by omega
    simp only [go_sem, e0, e1, e2, e3, e4, e5, e6, hv.len, g1, decide_false]
    exact hx env O e0 e1 e2 e3 e4

end
end M2
end
section
namespace M2
open Go
noncomputable section
variable {tbl : Nat → Option AFunc}

theorem call_rows {tbl : Nat → Option AFunc} {f : Nat} {vs : List AV} {P Q : AV → Heap → Rows → Prop} (h : Fn tbl true f vs [] [] P) (k : ∀ r H O, P r H O → Q r H O) : wCall tbl false f vs [] [] Q := Fn.mono (tbl := tbl) h k

theorem takes_out (h : TakesT tbl) {vT vS vN vV v : AV} {es : List AV} {H0 : Heap} (hv : Mr H0 v es) (ht : IsTT es) {names : List Val} (hn : ValsAre vN names) (nz : szVals names) (nb : names.length * 24 ≤ 140737488351232) {Q : XR → Prop}
    (hx : ∀ env O, env.length = 23 → nth env 2 = .bool false → Q (.exit 0 env H0 O)) (env : List AV) (O : Rows)
    (he : env.length = 23 ∧ nth env 1 = .agg [vS, vT, vN, vV] ∧ nth env 2 = .bool false ∧ nth env 3 = v ∧ nth env 4 = i64 0) : wLoop (wpc tbl x7l1) env H0 O Q := by
  refine wLoop_up x7l1.eq_1 2 (fun k env H O => H = H0 ∧ env.length = 23 ∧ nth env 1 = .agg [vS, vT, vN, vV] ∧ nth env 2 = .bool false ∧ nth env 3 = v ∧ nth env 4 = i64 k) ?_ ?_ 0 env H0 O (by omega) ⟨rfl, he⟩
  · rintro k env H O hk ⟨rfl, e0, e1, e2, e3, e4⟩
    have g1 : (k : Int) < 2 := by omega
    have hk1 : IntKind.i64.wrap ((k : Int) + 1) = ((k + 1 : Nat) : Int) := by rw [wrap_i64 (by omega) (by omega)]; omega
    have h0 : ∀ (nv : AV) (names : List Val), ValsAre nv names → szVals names → names.length * 24 ≤ 140737488351232 → wLoop (wpc tbl x7l0) (put (put env 5 nv) 6 (.int .i64 0)) H O (blkK 2 (blkK 1 (seqK (wpc tbl (XC.reg [{ n := 29, xs := X.b BinOp.add (X.m 4) (X.k 1), ws := [M2.W.mv 4 0] }])) (loopK (fun env H_1 O => H_1 = H ∧ env.length = 23 ∧ nth env 1 = .agg [vS, vT, vN, vV] ∧ nth env 2 = .bool false ∧ nth env 3 = v ∧ nth env 4 = i64 ((k + 1 : Nat) : Int)) Q)))) := by
      intro nv names a1 a2 a3
      refine takes_in (arg := .agg [vS, vT, vN, vV]) (kk := k) h hv ht a1 a2 a3 ?_ _ O ⟨by simp [length_put, e0], by simp [nth_puts, length_put, e0, e1], by simp [nth_puts, length_put, e0, e2], by simp [nth_puts, length_put, e0, e3], by simp [nth_puts, length_put, e0, e4], by simp [nth_puts, length_put, e0], by simp [nth_puts, length_put, e0]⟩
      intro env O f0 f1 f2 f3 f4
      simp only [go_sem, nth_puts, length_put, f0, f1, f2, f3, f4, Nat.reduceEqDiff, ↓reduceIte, Nat.reduceLT, hk1]
    have kn := hn.kn
    simp only [go_sem, e0, e1, e2, e3, e4, g1, decide_true]
    rw [if_pos ⟨rfl, rfl, by decide⟩, if_pos ⟨kn.1, by rw [kn.2.1]; rfl, by decide⟩, opt_some]
    intro id
    have hs : IsSl 1 (.sl id 1 0 2 false 0 (([AV.nils, AV.nils].set 0 AV.nils).set 1 vN)) [.nils, vN] := isSl_lit rfl (by simp)
    have h2 : k = 0 ∨ k = 1 := by omega
    rcases h2 with rfl | rfl
    · rw [hs.ix1 (k := .i64) (n := ((0 : Nat) : Int)) (by decide) (by simp) rfl]
      exact h0 .nils [] (isSl_nils 2) (fun t ht => by cases ht) (by simp)
    · rw [hs.ix1 (k := .i64) (n := ((1 : Nat) : Int)) (by decide) (by simp) kn.2.2]
      exact h0 vN names hn nz nb
  · rintro env H O ⟨rfl, e0, e1, e2, e3, e4⟩
    have g1 : ¬ ((2 : Nat) : Int) < 2 := by omega
    simp only [go_sem, e0, e1, e2, e3, e4, g1, decide_false]
    exact ⟨fun g => absurd g (by omega), fun _ => hx env O e0 e2⟩

theorem takes_law (h : TakesH tbl) {cs : List AV} (ha : TyR ask9Ty cs) : PuR tbl 7 [.agg cs] (· = .bool true) := by
  obtain ⟨vT, vS, vN, vV, tt, ss, ns, vs, rfl, hT, hTT, hS, hSS, hN, zN, bN, hV, zV, bV, bT, -⟩ := ask9_of ha
  refine pu_of h.h7 w7 rfl rfl ?_
  simp only [x7, go_sem, Nat.reduceAdd, Nat.reduceLeDiff, ↓reduceIte]
  refine call_pu (heavy9_ok h.toHvT hT hTT hS hSS hN hV) ?_
  rintro r ⟨b, rfl⟩
  cases b
  · rw [bcase_f]
    try simp only [go_sem, Nat.reduceAdd, Nat.reduceLeDiff, ↓reduceIte, and_self]
    refine call_rows (rows_ok h.toRowsT hT hTT bT hS hSS) ?_
    rintro r H O ⟨es, hm, ht⟩
    try simp only [go_sem, Nat.reduceAdd, Nat.reduceLeDiff, ↓reduceIte, and_self]
    refine takes_out (vT := vT) (vS := vS) (vN := vN) (vV := vV) h.toTakesT hm ht hN zN bN ?_ _ O ⟨rfl, rfl, rfl, rfl, rfl⟩
    intro env O e0 e2
    simp only [go_sem]
    refine call_pu (ewakes_ok h.toExT h.toRowsT.toRLexT h.h40 h.h37) ?_
    rintro r rfl
    simp [nth_puts, length_put, e0]
  · rw [bcase_t]
    simp only [go_sem]

end
end M2
end
section
namespace M2
open Go
noncomputable section

/-! ### Sums in brackets, and with something behind them -/

def Short (f : List Tok → Res) : Prop := ∀ ts v r, f ts = .ok v r → r.length < ts.length

section
variable {part : List Tok → Res} {btw : Tok → Option (Val → Val → Val × Int)}

theorem rowL_le (hp : Short part) : ∀ (n : Nat) (v : Val) (ts : List Tok) (w : Val) (r : List Tok), rowL part btw n v ts = .ok w r → r.length ≤ ts.length
  | 0, v, ts, w, r, h => by injection h with _ h; rw [h]; exact Nat.le_refl _
  | n + 1, v, [], w, r, h => by injection h with _ h; rw [← h]; exact Nat.le_refl _
  | n + 1, v, t :: l, w, r, h => by
    unfold rowL at h
    cases ht : btw t with
    | none => rw [ht] at h; injection h with _ h; rw [h]; exact Nat.le_refl _
    | some op =>
      rw [ht] at h
      simp only at h
      cases hq : part l with
      | er e => rw [hq] at h; cases h
      | ok w1 r1 =>
        rw [hq] at h
        simp only at h
        split at h
        · have := rowL_le hp n _ r1 w r h
          have := hp l w1 r1 hq
          simp only [List.length_cons]; omega
        · cases h
theorem rowS_short (hp : Short part) : Short (rowS part btw) := by
  intro ts v r h
  unfold rowS at h
  cases hq : part ts with
  | er e => rw [hq] at h; cases h
  | ok w1 r1 =>
    rw [hq] at h
    have := rowL_le hp _ _ r1 v r h
    have := hp ts w1 r1 hq
    omega

/-- what is enough of a count is as good as more -/
theorem rowL_more (hp : Short part) : ∀ (n m : Nat) (v : Val) (ts : List Tok), ts.length ≤ n → ts.length ≤ m → rowL part btw n v ts = rowL part btw m v ts
  | 0, m, v, ts, h, _ => by
    have : ts = [] := List.length_eq_zero_iff.mp (by omega)
    subst this
    cases m <;> rfl
  | n + 1, 0, v, ts, _, h => by
    have : ts = [] := List.length_eq_zero_iff.mp (by omega)
    subst this
    rfl
  | n + 1, m + 1, v, [], _, _ => rfl
  | n + 1, m + 1, v, t :: l, h, k => by
    unfold rowL
    cases btw t with
    | none => rfl
    | some op =>
      simp only
      cases hq : part l with
      | er e => rfl
      | ok w1 r1 =>
        simp only
        have := hp l w1 r1 hq
        simp only [List.length_cons] at h k
        rw [rowL_more hp n m _ r1 (by omega) (by omega)]

/-- with more behind it, it goes on from where it stopped -/
theorem rowL_app (hp : Short part) {s : List Tok} {Sp : Prop} (ha : ∀ ts v r, part ts = .ok v r → (r ≠ [] ∨ Sp) → part (ts ++ s) = .ok v (r ++ s)) :
    ∀ (n m m' : Nat) (v : Val) (ts : List Tok) (w : Val) (r : List Tok), rowL part btw n v ts = .ok w r → (r ≠ [] ∨ Sp) → ts.length ≤ n → (ts ++ s).length ≤ m → (r ++ s).length ≤ m' → rowL part btw m v (ts ++ s) = rowL part btw m' w (r ++ s)
  | 0, m, m', v, ts, w, r, h, _, hn, hm, hm' => by
    injection h with h1 h2
    subst h1; subst h2
    exact rowL_more hp _ _ _ _ hm hm'
  | n + 1, m, m', v, [], w, r, h, _, hn, hm, hm' => by
    injection h with h1 h2
    subst h1; subst h2
    exact rowL_more hp _ _ _ _ hm hm'
  | n + 1, 0, m', v, t :: l, w, r, h, hs, hn, hm, hm' => by simp at hm
  | n + 1, m + 1, m', v, t :: l, w, r, h, hs, hn, hm, hm' => by
    unfold rowL at h
    cases ht : btw t with
    | none =>
      rw [ht] at h
      injection h with h1 h2
      subst h1; subst h2
      exact rowL_more hp _ _ _ _ hm hm'
    | some op =>
      rw [ht] at h
      simp only at h
      cases hq : part l with
      | er e => rw [hq] at h; cases h
      | ok w1 r1 =>
        rw [hq] at h
        simp only at h
        split at h
        · rename_i ho
          have hl1 := hp l w1 r1 hq
          have hl2 := rowL_le hp n _ r1 w r h
          have hs1 : r1 ≠ [] ∨ Sp := hs.imp_left fun hr e => hr (List.length_eq_zero_iff.mp (by rw [e] at hl2; simpa using hl2))
          have hq' := ha l w1 r1 hq hs1
          obtain ⟨Y, hY⟩ : ∃ Y, Y = rowL part btw m' w (r ++ s) := ⟨_, rfl⟩
          rw [← hY]
          show rowL part btw (m + 1) v (t :: (l ++ s)) = Y
          unfold rowL
          rw [ht]
          simp only
          rw [hq']
          simp only
          rw [if_pos ho]
          rw [hY]
          simp only [List.length_cons, List.length_append, List.cons_append] at hn hm hm'
          exact rowL_app hp ha n m m' _ r1 w r h hs (by omega) (by rw [List.length_append]; omega) (by rw [List.length_append]; omega)
        · cases h

/-- where it stopped -/
theorem rowL_stop (hp : Short part) : ∀ (n : Nat) (v : Val) (ts : List Tok) (w : Val) (t : Tok) (r : List Tok), rowL part btw n v ts = .ok w (t :: r) → ts.length ≤ n → btw t = none
  | 0, v, ts, w, t, r, h, hn => by injection h with _ h; rw [h] at hn; simp at hn
  | n + 1, v, [], w, t, r, h, hn => by injection h with _ h; cases h
  | n + 1, v, t' :: l, w, t, r, h, hn => by
    unfold rowL at h
    cases ht : btw t' with
    | none => rw [ht] at h; injection h with _ h; injection h with h _; rw [← h]; exact ht
    | some op =>
      rw [ht] at h
      simp only at h
      cases hq : part l with
      | er e => rw [hq] at h; cases h
      | ok w1 r1 =>
        rw [hq] at h
        simp only at h
        split at h
        · have := hp l w1 r1 hq
          simp only [List.length_cons] at hn
          exact rowL_stop hp n _ r1 w t r h (by omega)
        · cases h

/-- none of those that stand between comes next -/
def Stop (btw : Tok → Option (Val → Val → Val × Int)) (s : List Tok) : Prop := s = [] ∨ ∃ t r, s = t :: r ∧ btw t = none
theorem rowL_halt {s : List Tok} (h : Stop btw s) (n : Nat) (v : Val) : rowL part btw n v s = .ok v s := by
  rcases h with rfl | ⟨t, r, rfl, ht⟩
  · cases n <;> rfl
  · cases n with
    | zero => rfl
    | succ n => unfold rowL; rw [ht]

theorem rowS_cont (hp : Short part) {s : List Tok} {Sp : Prop} (ha : ∀ ts v r, part ts = .ok v r → (r ≠ [] ∨ Sp) → part (ts ++ s) = .ok v (r ++ s)) {ts : List Tok} {w : Val} {r : List Tok} (h : rowS part btw ts = .ok w r) (hs : r ≠ [] ∨ Sp) :
    rowS part btw (ts ++ s) = rowL part btw (r ++ s).length w (r ++ s) := by
  unfold rowS at h ⊢
  cases hq : part ts with
  | er e => rw [hq] at h; cases h
  | ok w1 r1 =>
    rw [hq] at h
    simp only at h
    have hl2 := rowL_le hp _ _ r1 w r h
    have hs1 : r1 ≠ [] ∨ Sp := hs.imp_left fun hr e => hr (List.length_eq_zero_iff.mp (by rw [e] at hl2; simpa using hl2))
    rw [ha ts w1 r1 hq hs1]
    exact rowL_app hp ha _ _ _ _ r1 w r h hs (Nat.le_refl _) (Nat.le_refl _) (Nat.le_refl _)

theorem rowS_app (hp : Short part) {s : List Tok} {Sp : Prop} (ha : ∀ ts v r, part ts = .ok v r → (r ≠ [] ∨ Sp) → part (ts ++ s) = .ok v (r ++ s)) {ts : List Tok} {w : Val} {r : List Tok} (h : rowS part btw ts = .ok w r) (hs : r ≠ [] ∨ (Sp ∧ Stop btw s)) :
    rowS part btw (ts ++ s) = .ok w (r ++ s) := by
  rw [rowS_cont hp ha h (hs.imp_right And.left)]
  refine rowL_halt ?_ _ _
  cases r with
  | nil => exact (hs.resolve_left fun e => e rfl).2
  | cons t r =>
    right
    refine ⟨t, r ++ s, rfl, ?_⟩
    unfold rowS at h
    cases hq : part ts with
    | er e => rw [hq] at h; cases h
    | ok w1 r1 =>
      rw [hq] at h
      exact rowL_stop hp _ _ r1 w t r h (Nat.le_refl _)

end

theorem step_short {names : List Val} {inner : Option (List Tok → Res)} (hi : ∀ f, inner = some f → Short f) : Short (facStep names inner) := by
  intro ts v r h
  cases ts with
  | nil => cases h
  | cons t l =>
    simp only [facStep] at h
    split at h
    · cases inner with
      | none => cases h
      | some f =>
        simp only [innerR] at h
        cases hq : f l with
        | er e => rw [hq] at h; cases h
        | ok v1 r1 =>
          rw [hq] at h
          simp only [fin] at h
          split at h
          · injection h with _ h; subst h
            have := hi f rfl l v1 r1 hq
            simp only [List.length_cons]; omega
          · cases h
    · split at h
      · cases inner with
        | none => cases h
        | some f =>
          simp only [innerR] at h
          cases hq : sumOf f l with
          | er e => rw [hq] at h; cases h
          | ok v1 r1 =>
            rw [hq] at h
            have hl : r1.length < l.length := rowS_short (rowS_short (hi f rfl)) l v1 r1 hq
            cases r1 with
            | nil => cases h
            | cons t1 r1 =>
              simp only [shut] at h
              split at h
              · injection h with _ h; subst h
                simp only [List.length_cons] at hl ⊢; omega
              · cases h
      · split at h
        · injection h with _ h; subst h; simp
        · split at h
          · split at h
            · injection h with _ h; subst h; simp
            · cases h
          · cases h
theorem fac_short (names : List Val) : ∀ d, Short (facF names d)
  | 0 => step_short fun f h => by cases h
  | d + 1 => step_short fun f h => by injection h with h; subst h; exact fac_short names d

def Goes1 (f : List Tok → Res) : Prop := ∀ s ts v r, f ts = .ok v r → f (ts ++ s) = .ok v (r ++ s)
theorem Goes1.term {f : List Tok → Res} (h : Goes1 f) (hf : Short f) {s : List Tok} {ts : List Tok} {v : Val} {r : List Tok} (hq : termOf f ts = .ok v r) (hs : r ≠ [] ∨ Stop mulB s) : termOf f (ts ++ s) = .ok v (r ++ s) :=
  rowS_app (Sp := True) hf (fun ts v r hq _ => h s ts v r hq) hq (hs.imp_right fun h => ⟨trivial, h⟩)
theorem Goes1.sum {f : List Tok → Res} (h : Goes1 f) (hf : Short f) {s : List Tok} {ts : List Tok} {v : Val} {r : List Tok} (hq : sumOf f ts = .ok v r) (hs : r ≠ [] ∨ (Stop mulB s ∧ Stop addB s)) : sumOf f (ts ++ s) = .ok v (r ++ s) :=
  rowS_app (rowS_short hf) (fun ts v r hq hs => h.term hf hq hs) hq hs
theorem Goes1.sum_cont {f : List Tok → Res} (h : Goes1 f) (hf : Short f) {s : List Tok} {ts : List Tok} {v : Val} (hq : sumOf f ts = .ok v []) (hs : Stop mulB s) : sumOf f (ts ++ s) = rowL (termOf f) addB s.length v s :=
  rowS_cont (rowS_short hf) (fun ts v r hq hs => h.term hf hq hs) hq (.inr hs)

theorem step_goes {names : List Val} {inner : Option (List Tok → Res)} (hi : ∀ f, inner = some f → Goes1 f ∧ Short f) : Goes1 (facStep names inner) := by
  intro s ts v r h
  cases ts with
  | nil => cases h
  | cons t l =>
    simp only [facStep, List.cons_append] at h ⊢
    split at h
    · rename_i h45
      rw [if_pos h45]
      cases inner with
      | none => cases h
      | some f =>
        simp only [innerR] at h ⊢
        cases hq : f l with
        | er e => rw [hq] at h; cases h
        | ok v1 r1 =>
          rw [hq] at h
          rw [(hi f rfl).1 s l v1 r1 hq]
          simp only [fin] at h ⊢
          split at h
          · rename_i h0; rw [if_pos h0]; injection h with h1 h2; subst h1; subst h2; rfl
          · cases h
    · rename_i h45
      rw [if_neg h45]
      split at h
      · rename_i h40
        rw [if_pos h40]
        cases inner with
        | none => cases h
        | some f =>
          simp only [innerR] at h ⊢
          cases hq : sumOf f l with
          | er e => rw [hq] at h; cases h
          | ok v1 r1 =>
            rw [hq] at h
            cases r1 with
            | nil => cases h
            | cons t1 r1 =>
              rw [(hi f rfl).1.sum (hi f rfl).2 hq (.inl (List.cons_ne_nil _ _))]
              simp only [shut, List.cons_append] at h ⊢
              split at h
              · rename_i h41; rw [if_pos h41]; injection h with h1 h2; subst h1; subst h2; rfl
              · cases h
      · rename_i h40
        rw [if_neg h40]
        split at h
        · rename_i h2; rw [if_pos h2]; injection h with h1 h2; subst h1; subst h2; rfl
        · rename_i h2
          rw [if_neg h2]
          split at h
          · rename_i h1
            rw [if_pos h1]
            split at h
            · rename_i h3; rw [if_pos h3]; injection h with h1 h2; subst h1; subst h2; rfl
            · cases h
          · cases h
theorem fac_goes (names : List Val) : ∀ d, Goes1 (facF names d)
  | 0 => step_goes fun f h => by cases h
  | d + 1 => step_goes fun f h => by injection h with h; subst h; exact ⟨fac_goes names d, fac_short names d⟩

/-! one bracket more: the same, or too deep -/
def Less1 (f g : List Tok → Res) : Prop := ∀ ts v r, f ts = .ok v r → g ts = .ok v r ∨ g ts = .er 2
theorem less_rowL {f g : List Tok → Res} (h : Less1 f g) {btw : Tok → Option (Val → Val → Val × Int)} : ∀ (n : Nat) (v : Val) (ts : List Tok) (w : Val) (r : List Tok), rowL f btw n v ts = .ok w r → rowL g btw n v ts = .ok w r ∨ rowL g btw n v ts = .er 2
  | 0, v, ts, w, r, h1 => .inl h1
  | n + 1, v, [], w, r, h1 => .inl h1
  | n + 1, v, t :: l, w, r, h1 => by
    unfold rowL at h1 ⊢
    cases ht : btw t with
    | none => rw [ht] at h1; exact .inl h1
    | some op =>
      rw [ht] at h1
      simp only at h1 ⊢
      cases hq : f l with
      | er e => rw [hq] at h1; cases h1
      | ok w1 r1 =>
        rw [hq] at h1
        simp only at h1
        rcases h l w1 r1 hq with hg | hg
        · rw [hg]
          simp only
          split at h1
          · rename_i h0; rw [if_pos h0]; exact less_rowL h n _ r1 w r h1
          · cases h1
        · rw [hg]; exact .inr rfl
theorem less_rowS {f g : List Tok → Res} (h : Less1 f g) {btw : Tok → Option (Val → Val → Val × Int)} : Less1 (rowS f btw) (rowS g btw) := by
  intro ts v r h1
  unfold rowS at h1 ⊢
  cases hq : f ts with
  | er e => rw [hq] at h1; cases h1
  | ok w1 r1 =>
    rw [hq] at h1
    rcases h ts w1 r1 hq with hg | hg
    · rw [hg]; exact less_rowL h _ _ r1 v r h1
    · rw [hg]; exact .inr rfl
theorem less_step {names : List Val} {f : List Tok → Res} {inner : Option (List Tok → Res)} (hi : ∀ g, inner = some g → Less1 f g) : Less1 (facStep names (some f)) (facStep names inner) := by
  intro ts v r h
  cases ts with
  | nil => cases h
  | cons t l =>
    simp only [facStep] at h ⊢
    split at h
    · rename_i h45
      rw [if_pos h45]
      cases inner with
      | none => exact .inr rfl
      | some g =>
        simp only [innerR] at h ⊢
        cases hq : f l with
        | er e => rw [hq] at h; cases h
        | ok v1 r1 =>
          rw [hq] at h
          rcases hi g rfl l v1 r1 hq with hg | hg
          · rw [hg]; exact .inl h
          · rw [hg]; exact .inr rfl
    · rename_i h45
      rw [if_neg h45]
      split at h
      · rename_i h40
        rw [if_pos h40]
        cases inner with
        | none => exact .inr rfl
        | some g =>
          simp only [innerR] at h ⊢
          cases hq : sumOf f l with
          | er e => rw [hq] at h; cases h
          | ok v1 r1 =>
            rw [hq] at h
            rcases less_rowS (less_rowS (hi g rfl)) l v1 r1 hq with hg | hg
            · rw [show sumOf g l = _ from hg]; exact .inl h
            · rw [show sumOf g l = _ from hg]; exact .inr rfl
      · rename_i h40
        rw [if_neg h40]
        exact .inl h
theorem fac_less (names : List Val) : ∀ d, Less1 (facF names (d + 1)) (facF names d)
  | 0 => less_step fun g h => by cases h
  | d + 1 => less_step fun g h => by injection h with h; subst h; exact fac_less names d

end
end M2
end
section
namespace M2
open Go
noncomputable section

def openT : Tok := ⟨3, [40], 0, 0⟩
def shutT : Tok := ⟨3, [41], 0, 0⟩
def plusT : Tok := ⟨3, [43], 0, 0⟩
def minusT : Tok := ⟨3, [45], 0, 0⟩
def zeroT : Tok := ⟨2, [], 0, 0⟩
def wideL (toks : List Tok) : List Tok := openT :: (toks ++ [shutT])

theorem stop_mul {t : Tok} {r : List Tok} (h : isS t 42 = false) : Stop mulB (t :: r) := .inr ⟨t, r, rfl, by unfold mulB; rw [h]; rfl⟩
theorem stop_add {t : Tok} {r : List Tok} (h : isS t 43 = false) (h' : isS t 45 = false) : Stop addB (t :: r) := .inr ⟨t, r, rfl, by unfold addB; rw [h, h']; rfl⟩

section
variable {names : List Val} {toks : List Tok} {v : Val}

theorem fac_wide (h : takeF names toks = .ok v []) : facF names 8 (wideL toks) = .ok v [] ∨ facF names 8 (wideL toks) = .er 2 := by
  have h1 : sumOf (facF names 8) (toks ++ [shutT]) = .ok v ([] ++ [shutT]) :=
    (fac_goes names 8).sum (fac_short names 8) h (.inr ⟨stop_mul (by decide), stop_add (by decide) (by decide)⟩)
  have h2 := less_rowS (btw := addB) (less_rowS (btw := mulB) (fac_less names 7)) _ _ _ h1
  show facStep names (some (facF names 7)) (wideL toks) = _ ∨ facStep names (some (facF names 7)) (wideL toks) = _
  unfold wideL facStep
  simp only
  rw [if_neg (by decide), if_pos (by decide)]
  simp only [innerR]
  rcases h2 with h2 | h2
  · rw [show sumOf (facF names 7) (toks ++ [shutT]) = _ from h2]
    left; rfl
  · rw [show sumOf (facF names 7) (toks ++ [shutT]) = _ from h2]
    right; rfl

theorem row_one {f : List Tok → Res} {btw : Tok → Option (Val → Val → Val × Int)} {ts : List Tok} (h : f ts = .ok v []) : rowS f btw ts = .ok v [] := by
  unfold rowS; rw [h]; rfl
theorem row_er {f : List Tok → Res} {btw : Tok → Option (Val → Val → Val × Int)} {ts : List Tok} {e : Int} (h : f ts = .er e) : rowS f btw ts = .er e := by
  unfold rowS; rw [h]

theorem take_wide (h : takeF names toks = .ok v []) : takeF names (wideL toks) = .ok v [] ∨ takeF names (wideL toks) = .er 2 := by
  unfold takeF sumOf termOf
  rcases fac_wide h with k | k
  · exact .inl (row_one (row_one k))
  · exact .inr (row_er (row_er k))

theorem take_plus (h : takeF names toks = .ok v []) (hv : inC v.n) : takeF names (toks ++ [plusT, zeroT]) = .ok v [] := by
  have h1 := (fac_goes names 8).sum_cont (fac_short names 8) (s := [plusT, zeroT]) h (stop_mul (by decide))
  show sumOf (facF names 8) (toks ++ [plusT, zeroT]) = _
  rw [h1]
  have h2 : termOf (facF names 8) [zeroT] = .ok v0 [] := row_one rfl
  have h3 : addB plusT = some addV := rfl
  show rowL (termOf (facF names 8)) addB 2 v [plusT, zeroT] = _
  unfold rowL
  rw [h3]
  simp only
  rw [h2]
  have h4 : addV v v0 = (v, 0) := by
    unfold addV rangedV
    rw [if_neg (by simp), if_pos (by simpa using hv)]
    simp
  simp only [h4, if_true]
  rfl

theorem take_minus (h : takeF names toks = .ok v []) :
    (takeF names (wideL toks) = .ok v [] ∧ takeF names (toks ++ minusT :: wideL toks) = if v.sym = [] then .ok v0 [] else .er 6) ∨ (takeF names (wideL toks) = .er 2 ∧ takeF names (toks ++ minusT :: wideL toks) = .er 2) := by
  have h1 := (fac_goes names 8).sum_cont (fac_short names 8) (s := minusT :: wideL toks) h (stop_mul (by decide))
  have h3 : addB minusT = some lessV := rfl
  rcases fac_wide h with k | k
  · have t1 : takeF names (wideL toks) = .ok v [] := row_one (row_one k)
    refine .inl ⟨t1, ?_⟩
    show sumOf (facF names 8) (toks ++ minusT :: wideL toks) = _
    rw [h1]
    show rowL (termOf (facF names 8)) addB ((wideL toks).length + 1) v (minusT :: wideL toks) = _
    unfold rowL
    rw [h3]
    simp only
    rw [show termOf (facF names 8) (wideL toks) = .ok v [] from row_one k]
    simp only
    by_cases hs : v.sym = []
    · have h4 : lessV v v = (v0, 0) := by
        unfold lessV rangedV
        rw [if_neg (fun h => h hs), if_pos (show inC (v.n - v.n) by simp [inC]), hs]
        simp
      rw [h4, if_pos hs]
      simp only [if_true]
      exact rowL_halt (.inl rfl) _ _
    · have h4 : lessV v v = (v0, 6) := by
        unfold lessV
        rw [if_pos hs]
      rw [h4, if_neg hs]
      rfl
  · have t1 : takeF names (wideL toks) = .er 2 := row_er (row_er k)
    refine .inr ⟨t1, ?_⟩
    show sumOf (facF names 8) (toks ++ minusT :: wideL toks) = _
    rw [h1]
    show rowL (termOf (facF names 8)) addB ((wideL toks).length + 1) v (minusT :: wideL toks) = _
    unfold rowL
    rw [h3]
    simp only
    rw [show termOf (facF names 8) (wideL toks) = .er 2 from row_er k]

theorem of_fwd (h1 : namesOk names) (h2 : toksOk toks = true) (h : takeF names toks = .ok v []) : ofP names toks = (v, 0) := by
  have h3 : takeP names toks = (v, (toks.length : Int), 0) := by
    unfold takeP
    rw [if_pos ⟨h1, h2⟩, h]
    simp
  unfold ofP
  rw [h3]
  simp
theorem of_er (h1 : namesOk names) (h2 : toksOk toks = true) {e : Int} (he : e ≠ 0) (h : takeF names toks = .er e) : ofP names toks = (v0, e) := by
  have h3 : takeP names toks = (v0, 0, e) := by
    unfold takeP
    rw [if_pos ⟨h1, h2⟩, h]
  unfold ofP
  rw [h3]
  simp [he]
theorem of_inv (nz : szVals names) (tz : szToks toks) (h : (ofP names toks).2 = 0) : namesOk names ∧ toksOk toks = true ∧ takeF names toks = .ok (ofP names toks).1 [] ∧ inC (ofP names toks).1.n := by
  by_cases hh : namesOk names ∧ toksOk toks = true
  · obtain ⟨h1, h2⟩ := hh
    have hg := grd_sum (grd_fac (fit_of nz tz h1 h2) 8) toks (List.suffix_refl _)
    cases hf : takeF names toks with
    | er e =>
      have he : e ≠ 0 := hg.2 e hf
      rw [of_er h1 h2 he hf] at h
      exact absurd h he
    | ok w r =>
      have hk := (hg.1 w r hf).2.2.1
      have h3 : takeP names toks = (w, (toks.length : Int) - r.length, 0) := by
        unfold takeP
        rw [if_pos ⟨h1, h2⟩, hf]
      have h4 : r = [] := by
        unfold ofP at h
        rw [h3] at h
        simp only [ne_eq, not_true_eq_false, if_false] at h
        split at h
        · cases h
        · exact List.length_eq_zero_iff.mp (by omega)
      subst h4
      have h5 := of_fwd h1 h2 hf
      rw [h5]
      exact ⟨h1, h2, rfl, hk⟩
  · rw [(no_take hh).2.1] at h
    cases h

theorem toksOk_app {a b : List Tok} (ha : toksOk a = true) (hb : toksOk b = true) (hl : a.length + b.length ≤ 40) : toksOk (a ++ b) = true := by
  unfold toksOk at *
  simp only [Bool.and_eq_true, decide_eq_true_eq, List.all_append, List.length_append] at *
  exact ⟨hl, ha.2, hb.2⟩

structure Brk (names : List Val) (toks : List Tok) (v : Val) : Prop where
  wide : ofP names (wideL toks) = (v, 0) ∨ ofP names (wideL toks) = (v0, 2)
  plus : ofP names (toks ++ [plusT, zeroT]) = (v, 0)
  m1 : v.sym = [] → ofP names (wideL toks) = (v, 0) → ofP names (toks ++ minusT :: wideL toks) = (v0, 0)
  m2 : v.sym ≠ [] → ofP names (toks ++ minusT :: wideL toks) = (v0, 6) ∨ ofP names (toks ++ minusT :: wideL toks) = (v0, 2)

theorem brk_of (nz : szVals names) (tz : szToks toks) (h : (ofP names toks).2 = 0) (hl : toks.length ≤ 15) : Brk names toks (ofP names toks).1 := by
  obtain ⟨h1, h2, h3, h4⟩ := of_inv nz tz h
  generalize (ofP names toks).1 = v at *
  have kw : toksOk (wideL toks) = true := by
    have : wideL toks = [openT] ++ (toks ++ [shutT]) := rfl
    rw [this]
    exact toksOk_app (by decide) (toksOk_app h2 (by decide) (by simp; omega)) (by simp; omega)
  have kp : toksOk (toks ++ [plusT, zeroT]) = true := toksOk_app h2 (by decide) (by simp; omega)
  have km : toksOk (toks ++ minusT :: wideL toks) = true := by
    have : minusT :: wideL toks = [minusT] ++ wideL toks := rfl
    rw [this]
    have hw : (wideL toks).length = toks.length + 2 := by simp [wideL]
    exact toksOk_app h2 (toksOk_app (by decide) kw (by simp; omega)) (by simp; omega)
  have tm := take_minus h3
  refine ⟨?_, of_fwd h1 kp (take_plus h3 h4), fun hs hw => ?_, fun hs => ?_⟩
  · rcases take_wide h3 with k | k
    · exact .inl (of_fwd h1 kw k)
    · exact .inr (of_er h1 kw (by decide) k)
  · rcases tm with ⟨k, t⟩ | ⟨k, t⟩
    · rw [if_pos hs] at t
      exact of_fwd h1 km t
    · rw [of_er h1 kw (by decide) k] at hw
      cases hw
  · rcases tm with ⟨k, t⟩ | ⟨k, t⟩
    · rw [if_neg hs] at t
      exact .inl (of_er h1 km (by decide) t)
    · exact .inr (of_er h1 km (by decide) t)
end

end
end M2
end
section
namespace M2
open Go
noncomputable section
variable {tbl : Nat → Option AFunc}

structure BrT (tbl : Nat → Option AFunc) : Prop extends ExT tbl, HvT tbl, RowsT tbl where
  h37 : tbl 37 = some (flatF x37)
  h40 : tbl 40 = some (flatF x40)
  h41 : tbl 41 = some (flatF x41)
structure BrH (tbl : Nat → Option AFunc) : Prop extends BrT tbl where
  h8 : tbl 8 = some (flatF x8)

theorem br_loop (h : BrT tbl) {vT vS vN vV v sv : AV} {es : List AV} {H0 : Heap} (hv : Mr H0 v es) (ht : IsTT es) {names : List Val} (hn : ValsAre vN names) (nz : szVals names) (hs : ToksAre sv signsL) {Q : XR → Prop}
    (hx : ∀ env O, env.length = 15 → nth env 2 = .bool false → Q (.exit 0 env H0 O)) (env : List AV) (O : Rows)
    (he : env.length = 15 ∧ nth env 1 = .agg [vS, vT, vN, vV] ∧ nth env 2 = .bool false ∧ nth env 3 = v ∧ nth env 4 = sv ∧ nth env 5 = i64 0) : wLoop (wpc tbl x8l0) env H0 O Q := by
  have hle := hv.le
  refine wLoop_up x8l0.eq_1 es.length (fun i env H O => H = H0 ∧ env.length = 15 ∧ nth env 1 = .agg [vS, vT, vN, vV] ∧ nth env 2 = .bool false ∧ nth env 3 = v ∧ nth env 4 = sv ∧ nth env 5 = i64 i) ?_ ?_ 0 env H0 O (by omega) ⟨rfl, he⟩
  · rintro i env H O hi ⟨rfl, e0, e1, e2, e3, e4, e5⟩
    have g1 : (i : Int) < es.length := by omega
    have hk1 : IntKind.i64.wrap ((i : Int) + 1) = ((i + 1 : Nat) : Int) := by rw [wrap_i64 (by omega) (by omega)]; omega
    obtain ⟨toks, tt, tz, tb⟩ := ht _ (List.getElem_mem hi)
    have hix := fun Q => hv.ix hi Q
    generalize es[i] = tv at *
    simp only [go_sem, e0, e1, e2, e3, e4, e5, hv.len, g1, decide_true, hix]
    refine call_pu (of_ok' h.toExT hn tt nz tz) ?_
    rintro q rfl
    simp only [go_sem, twoV, nth_puts, length_put, e0, e1, e2, e3, e4, e5, Nat.reduceEqDiff, ↓reduceIte, Nat.reduceLT, Nat.reduceAdd, Nat.reduceLeDiff, and_self]
    refine call_pu (enum_ok h.h37 _) ?_
    rintro q rfl
    simp only [go_sem, nth_puts, length_put, e0, e1, e2, e3, e4, e5, Nat.reduceEqDiff, ↓reduceIte, Nat.reduceLT, Nat.reduceAdd, Nat.reduceLeDiff, and_self, hix, tt.len]
    refine ⟨fun _ => hk1 ▸ rfl, fun h0 => ⟨fun _ => hk1 ▸ rfl, fun h15 => ?_⟩⟩
    replace h0 : (ofP names toks).2 = 0 := Classical.not_not.mp h0
    have hb := brk_of nz tz h0 (by omega)
    have tl : toks.length ≤ 15 := by omega
    generalize ofP names toks = p0 at *
    obtain ⟨v1, e1'⟩ := p0
    simp only at h0 hb
    subst h0
    have s0 : ∀ H Q, ixv (.ldA 4 hh) 4 sv (.int .i64 0) H Q = Q (.agg [i64 3, .str [40], i64 0, i64 0]) := fun H Q => hs.ix (i := 0) (by simp [signsL]) H Q
    have s1 : ∀ H Q, ixv (.ldA 4 hh) 4 sv (.int .i64 1) H Q = Q (.agg [i64 3, .str [41], i64 0, i64 0]) := fun H Q => hs.ix (i := 1) (by simp [signsL]) H Q
    have s2 : ∀ H Q, ixv (.ldA 4 hh) 4 sv (.int .i64 2) H Q = Q (.agg [i64 3, .str [43], i64 0, i64 0]) := fun H Q => hs.ix (i := 2) (by simp [signsL]) H Q
    have s3 : ∀ H Q, ixv (.ldA 4 hh) 4 sv (.int .i64 3) H Q = Q (.agg [i64 3, .str [45], i64 0, i64 0]) := fun H Q => hs.ix (i := 3) (by simp [signsL]) H Q
    have kT : ∀ l : List Tok, ∀ v ∈ l.map tokV, v.known = true ∧ v.cells.all AV.isCell = true := by
      intro l v hv
      obtain ⟨t, -, rfl⟩ := List.mem_map.mp hv
      exact ⟨rfl, rfl⟩
    have sz1 : ∀ t ∈ [openT, shutT, plusT, minusT, zeroT], t.text.length ≤ 140737488351232 := by
      intro t ht
      simp only [List.mem_cons, List.not_mem_nil, or_false] at ht
      rcases ht with rfl | rfl | rfl | rfl | rfl <;> simp [openT, shutT, plusT, minusT, zeroT]
    try simp only [go_sem, twoV, nth_puts, length_put, e0, e1, e2, e3, e4, e5, Nat.reduceEqDiff, ↓reduceIte, Nat.reduceLT, Nat.reduceAdd, Nat.reduceLeDiff, and_self, hix, s0, s1, s2, s3]
    intro id
    refine app_ok (xs := [openT].map tokV) (ap_lit _ _ _ _ _ rfl (by simp)) tt (kT toks) (by decide) (by simp; omega) (by decide) ?_
    intro r1 O1 a1 _
    try simp only [go_sem, twoV, nth_puts, length_put, e0, e1, e2, e3, e4, e5, Nat.reduceEqDiff, ↓reduceIte, Nat.reduceLT, Nat.reduceAdd, Nat.reduceLeDiff, and_self, hix, s0, s1, s2, s3]
    intro id
    refine ap1_ok a1 (v := tokV shutT) rfl rfl rfl (by decide) (by simp; omega) (by decide) ?_ id
    intro r2 O2 a2 _
    have t2 : ToksAre r2 (wideL toks) := by
      have := a2.sl
      unfold ToksAre wideL
      simpa using this
    have z2 : szToks (wideL toks) := by
      intro t ht
      simp only [wideL, List.mem_cons, List.mem_append, List.not_mem_nil, or_false] at ht
      rcases ht with rfl | ht | rfl
      · exact sz1 _ (by simp)
      · exact tz t ht
      · exact sz1 _ (by simp)
    try simp only [go_sem, twoV, nth_puts, length_put, e0, e1, e2, e3, e4, e5, Nat.reduceEqDiff, ↓reduceIte, Nat.reduceLT, Nat.reduceAdd, Nat.reduceLeDiff, and_self, hix, s0, s1, s2, s3]
    refine call_pu (of_ok' h.toExT hn t2 nz z2) ?_
    rintro q rfl
    try simp only [go_sem, twoV, nth_puts, length_put, e0, e1, e2, e3, e4, e5, Nat.reduceEqDiff, ↓reduceIte, Nat.reduceLT, Nat.reduceAdd, Nat.reduceLeDiff, and_self, hix, s0, s1, s2, s3]
    refine call_puO (copyT_ok h.h27 tt tb) ?_
    intro r3 _ O3 a3 _
    try simp only [go_sem, twoV, nth_puts, length_put, e0, e1, e2, e3, e4, e5, Nat.reduceEqDiff, ↓reduceIte, Nat.reduceLT, Nat.reduceAdd, Nat.reduceLeDiff, and_self, hix, s0, s1, s2, s3]
    intro id
    refine app_ok (xs := toks.map tokV) (ys := [plusT, zeroT].map tokV) a3.left (isSl_lit rfl (by simp)) (kT _) (by decide) (by simp; omega) (by decide) ?_
    intro r4 O4 a4 _
    have t4 : ToksAre r4 (toks ++ [plusT, zeroT]) := by
      have := a4.sl
      unfold ToksAre
      simpa using this
    have z4 : szToks (toks ++ [plusT, zeroT]) := by
      intro t ht
      simp only [List.mem_cons, List.mem_append, List.not_mem_nil, or_false] at ht
      rcases ht with ht | rfl | rfl
      · exact tz t ht
      · exact sz1 _ (by simp)
      · exact sz1 _ (by simp)
    try simp only [go_sem, twoV, nth_puts, length_put, e0, e1, e2, e3, e4, e5, Nat.reduceEqDiff, ↓reduceIte, Nat.reduceLT, Nat.reduceAdd, Nat.reduceLeDiff, and_self, hix, s0, s1, s2, s3]
    refine call_pu (of_ok' h.toExT hn t4 nz z4) ?_
    rintro q rfl
    try simp only [go_sem, twoV, nth_puts, length_put, e0, e1, e2, e3, e4, e5, Nat.reduceEqDiff, ↓reduceIte, Nat.reduceLT, Nat.reduceAdd, Nat.reduceLeDiff, and_self, hix, s0, s1, s2, s3]
    refine call_puO (copyT_ok h.h27 tt tb) ?_
    intro r5 _ O5 a5 _
    try simp only [go_sem, twoV, nth_puts, length_put, e0, e1, e2, e3, e4, e5, Nat.reduceEqDiff, ↓reduceIte, Nat.reduceLT, Nat.reduceAdd, Nat.reduceLeDiff, and_self, hix, s0, s1, s2, s3]
    intro id
    refine ap1_ok a5.left (v := tokV minusT) rfl rfl rfl (by decide) (by simp; omega) (by decide) ?_ id
    intro r6 O6 a6 _
    try simp only [go_sem, twoV, nth_puts, length_put, e0, e1, e2, e3, e4, e5, Nat.reduceEqDiff, ↓reduceIte, Nat.reduceLT, Nat.reduceAdd, Nat.reduceLeDiff, and_self, hix, s0, s1, s2, s3]
    have wl : (wideL toks).length = toks.length + 2 := by simp [wideL]
    refine app_ok a6 t2 (kT _) (by decide) (by simp [wl]; omega) (by decide) ?_
    intro r7 O7 a7 _
    have t7 : ToksAre r7 (toks ++ minusT :: wideL toks) := by
      have := a7.sl
      unfold ToksAre
      simpa using this
    have z7 : szToks (toks ++ minusT :: wideL toks) := by
      intro t ht
      simp only [List.mem_cons, List.mem_append] at ht
      rcases ht with ht | rfl | ht
      · exact tz t ht
      · exact sz1 _ (by simp)
      · exact z2 t ht
    try simp only [go_sem, twoV, nth_puts, length_put, e0, e1, e2, e3, e4, e5, Nat.reduceEqDiff, ↓reduceIte, Nat.reduceLT, Nat.reduceAdd, Nat.reduceLeDiff, and_self, hix, s0, s1, s2, s3]
    refine call_pu (of_ok' h.toExT hn t7 nz z7) ?_
    rintro q rfl
    try simp only [go_sem, twoV, nth_puts, length_put, e0, e1, e2, e3, e4, e5, Nat.reduceEqDiff, ↓reduceIte, Nat.reduceLT, Nat.reduceAdd, Nat.reduceLeDiff, and_self, hix, s0, s1, s2, s3]
    rw [hb.plus]
    have hm1 := hb.m1
    have hm2 := hb.m2
    have hwd := hb.wide
    clear hb t2 t4 t7 z2 z4 z7 a1 a2 a3 a4 a5 a6 a7
    generalize ofP names (toks ++ minusT :: wideL toks) = py at *
    generalize ofP names (wideL toks) = pw at *
    by_cases hsy : v1.sym = []
    · rcases hwd with rfl | rfl
      · obtain rfl := hm1 hsy rfl
        repeat (refine call_pu (enum_ok h.h37 _) ?_; rintro q rfl; try simp only [go_sem, nth_puts, length_put, e0, e1, e2, e3, e4, e5, Nat.reduceEqDiff, ↓reduceIte, Nat.reduceLT, Nat.reduceAdd, Nat.reduceLeDiff, and_self, hix, hsy, decide_true, decide_false, ne_eq, not_true_eq_false, not_false_eq_true, Bool.not_true, Bool.not_false, bcase_t, bcase_f, Int.reduceEq, true_implies, false_implies, and_true, true_and, implies_true])
        exact hk1 ▸ rfl
      · repeat (refine call_pu (enum_ok h.h37 _) ?_; rintro q rfl; try simp only [go_sem, nth_puts, length_put, e0, e1, e2, e3, e4, e5, Nat.reduceEqDiff, ↓reduceIte, Nat.reduceLT, Nat.reduceAdd, Nat.reduceLeDiff, and_self, hix, hsy, decide_true, decide_false, ne_eq, not_true_eq_false, not_false_eq_true, Bool.not_true, Bool.not_false, bcase_t, bcase_f, Int.reduceEq, true_implies, false_implies, and_true, true_and, implies_true])
        exact hk1 ▸ rfl
    · rcases hwd with rfl | rfl
      · rcases hm2 hsy with rfl | rfl
        · repeat (refine call_pu (enum_ok h.h37 _) ?_; rintro q rfl; try simp only [go_sem, nth_puts, length_put, e0, e1, e2, e3, e4, e5, Nat.reduceEqDiff, ↓reduceIte, Nat.reduceLT, Nat.reduceAdd, Nat.reduceLeDiff, and_self, hix, hsy, decide_true, decide_false, ne_eq, not_true_eq_false, not_false_eq_true, Bool.not_true, Bool.not_false, bcase_t, bcase_f, Int.reduceEq, true_implies, false_implies, and_true, true_and, implies_true])
          exact hk1 ▸ rfl
        · repeat (refine call_pu (enum_ok h.h37 _) ?_; rintro q rfl; try simp only [go_sem, nth_puts, length_put, e0, e1, e2, e3, e4, e5, Nat.reduceEqDiff, ↓reduceIte, Nat.reduceLT, Nat.reduceAdd, Nat.reduceLeDiff, and_self, hix, hsy, decide_true, decide_false, ne_eq, not_true_eq_false, not_false_eq_true, Bool.not_true, Bool.not_false, bcase_t, bcase_f, Int.reduceEq, true_implies, false_implies, and_true, true_and, implies_true])
          exact hk1 ▸ rfl
      · rcases hm2 hsy with rfl | rfl
        · repeat (refine call_pu (enum_ok h.h37 _) ?_; rintro q rfl; try simp only [go_sem, nth_puts, length_put, e0, e1, e2, e3, e4, e5, Nat.reduceEqDiff, ↓reduceIte, Nat.reduceLT, Nat.reduceAdd, Nat.reduceLeDiff, and_self, hix, hsy, decide_true, decide_false, ne_eq, not_true_eq_false, not_false_eq_true, Bool.not_true, Bool.not_false, bcase_t, bcase_f, Int.reduceEq, true_implies, false_implies, and_true, true_and, implies_true])
          exact hk1 ▸ rfl
        · repeat (refine call_pu (enum_ok h.h37 _) ?_; rintro q rfl; try simp only [go_sem, nth_puts, length_put, e0, e1, e2, e3, e4, e5, Nat.reduceEqDiff, ↓reduceIte, Nat.reduceLT, Nat.reduceAdd, Nat.reduceLeDiff, and_self, hix, hsy, decide_true, decide_false, ne_eq, not_true_eq_false, not_false_eq_true, Bool.not_true, Bool.not_false, bcase_t, bcase_f, Int.reduceEq, true_implies, false_implies, and_true, true_and, implies_true])
          exact hk1 ▸ rfl
  · rintro env H O ⟨rfl, e0, e1, e2, e3, e4, e5⟩
    have g1 : ¬ (es.length : Int) < es.length := by omega
    simp only [go_sem, e0, e1, e2, e3, e4, e5, hv.len, g1, decide_false]
    exact hx env O e0 e2

theorem brackets_law (h : BrH tbl) {cs : List AV} (ha : TyR ask9Ty cs) : PuR tbl 8 [.agg cs] (· = .bool true) := by
  obtain ⟨vT, vS, vN, vV, tt, ss, ns, vs, rfl, hT, hTT, hS, hSS, hN, zN, bN, hV, zV, bV, bT, -⟩ := ask9_of ha
  refine pu_of h.h8 w8 rfl rfl ?_
  simp only [x8, go_sem, Nat.reduceAdd, Nat.reduceLeDiff, ↓reduceIte]
  refine call_pu (heavy9_ok h.toHvT hT hTT hS hSS hN hV) ?_
  rintro r ⟨b, rfl⟩
  cases b
  · rw [bcase_f]
    try simp only [go_sem, Nat.reduceAdd, Nat.reduceLeDiff, ↓reduceIte, and_self]
    refine call_rows (rows_ok h.toRowsT hT hTT bT hS hSS) ?_
    rintro r H O ⟨es, hm, ht⟩
    try simp only [go_sem, Nat.reduceAdd, Nat.reduceLeDiff, ↓reduceIte, and_self]
    refine call_pu (signs_ok h.h41) ?_
    intro sv hs
    try simp only [go_sem, Nat.reduceAdd, Nat.reduceLeDiff, ↓reduceIte, and_self]
    refine br_loop (vT := vT) (vS := vS) (vN := vN) (vV := vV) h.toBrT hm ht hN zN hs ?_ _ O ⟨rfl, rfl, rfl, rfl, rfl, rfl⟩
    intro env O e0 e2
    simp only [go_sem]
    refine call_pu (ewakes_ok h.toExT h.toRowsT.toRLexT h.h40 h.h37) ?_
    rintro r rfl
    simp [nth_puts, length_put, e0]
  · rw [bcase_t]
    simp only [go_sem]

end
end M2
end
