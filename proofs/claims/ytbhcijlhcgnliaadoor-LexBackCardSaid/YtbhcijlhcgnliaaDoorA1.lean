/- General ground for the statement: an abstract machine that the program's code is shown to follow, and the contracts of the functions that the law reaches. Part 1. -/
import Derived.Test.YtbhcijlhcgnliaaDoorA0
import Derived.MapKept
import Derived.Laws.BytesArg
import Derived.Laws.StructEq
import Derived.Lib.IfaceEq
import Derived.Orders
set_option linter.unusedVariables false
set_option linter.unusedSimpArgs false
section
namespace M2
open Go

section
variable {P : Program} {M : Maps} {im : FuncId → Option Nat} {d : Nat} {g : G} {F : Fr} {a : Act} {o : Oper} {t t' : T} {v : AV} {call : CallF}

/-- a row that grows where it lies -/
def G.growRow (g : G) (b pos m : Nat) (extra : Nat) (ob : Obj) : G :=
  { n := g.n + 1, ok := fun i => g.ok i ∨ i = g.n, ρ := setAt g.ρ g.n ⟨b, pos, extra⟩, ν := g.ν, μ := setAt g.μ b (.lim m), w := setBlock g.w b ob }

theorem writeAt_low (vs : List Value) (c : Array Value) (k j : Nat) (h : k + vs.length ≤ c.size) (hj : j < k) : (writeAt c k vs)[j]? = c[j]? := by
  rw [writeAt_get? _ _ _ _ h, if_neg (by omega)]

theorem G.le_growRow (g : G) (hok : ∀ i, g.ok i → i < g.n) (b pos k m extra : Nat) (c : Array Value) (ty : TypeId) (fz : Nat × Nat) (ws : List Value) (hb : g.w.heap[b]? = some (.cells c ty fz)) (hμ : g.μ b = .lim k) (hm : k ≤ m)
    (hw : k + ws.length ≤ c.size) : g.Le (g.growRow b pos m extra (.cells (writeAt c k ws) ty fz)) := by
  have hbb : b < g.w.heap.size := (getElem?_some_iff.mp hb).1
  have hne : ∀ x, x ≠ b → (g.growRow b pos m extra (.cells (writeAt c k ws) ty fz)).w.heap[x]? = g.w.heap[x]? := fun x hx => by
    show (setBlock g.w b _).heap[x]? = _
    rw [setBlock_heap, if_neg (fun e => hx e.1)]
  refine ⟨Nat.le_succ _, fun _ hi => .inl hi, fun _ hi => hi.imp (fun q => q) (fun q => Nat.le_of_eq q.symm), fun i hi => setAt_ne _ _ (Nat.ne_of_lt (hok i hi)), fun _ _ => rfl, by simp [G.growRow, setBlock], fun x k' hx hk => ?_, fun x hx hk => ?_, rfl, rfl, rfl, fun q _ => csize_setBlock g.w b _ (csize_cells hb (writeAt_size _ _ _)) q⟩
  · by_cases e : x = b
    · subst e
      rw [hμ] at hk
      cases hk
      refine ⟨m, by simp [G.growRow, setAt_same], hm, fun off ho => ?_⟩
      show (setBlock g.w x _).cell? _ = _
      simp only [World.cell?, setBlock_heap, hbb, and_self, if_true, hb, Option.isSome_none, Bool.false_eq_true, if_false]
      exact writeAt_low _ _ _ _ hw ho
    · exact ⟨k', by simp [G.growRow, setAt_ne _ _ e, hk], Nat.le_refl _, fun off _ => cell?_of_heap (hne x e)⟩
  · have e : x ≠ b := fun e => by rw [e, hμ] at hk; cases hk
    exact ⟨by simp [G.growRow, setAt_ne _ _ e], hne x e⟩

theorem SR.growRow (h : SR M g t) {id en e : Nat} (hid : look2 id t.is = some (en, e)) {c : Array Value} {ty : TypeId} {fz : Nat × Nat} (hh : g.w.heap[(g.ρ id).block]? = some (.cells c ty fz))
    (hz : ∀ off, off < c.size → g.w.frozen? ⟨(g.ρ id).block, off, none⟩ = false) (pos m extra : Nat) (ws : List Value) (hw : (g.ρ id).off + en + ws.length ≤ c.size)
    (en' : Nat) (hm : m = pos + en') (hle : (g.ρ id).off + en ≤ m) (hroom : m + extra * e ≤ c.size) (hun : fz.1 = fz.2 ∨ c.size ≤ fz.1) :
    SR M (g.growRow (g.ρ id).block pos m extra (.cells (writeAt c ((g.ρ id).off + en) ws) ty fz)) (T.newI { t with is := del2 id t.is } en' e) := by
  obtain ⟨hidn, hμ, _⟩ := h.ids id en e hid
  have hG := g.le_growRow h.hok (g.ρ id).block pos _ m extra c ty fz ws hh hμ hle hw
  generalize hgdef : g.growRow (g.ρ id).block pos m extra (.cells (writeAt c ((g.ρ id).off + en) ws) ty fz) = g' at *
  have hbb : (g.ρ id).block < g.w.heap.size := (getElem?_some_iff.mp hh).1
  have hn : g'.ρ t.n = ⟨(g.ρ id).block, pos, extra⟩ := by rw [← hgdef, ← h.n]; exact setAt_same _ _ _
  have hheap : ∀ x, x ≠ (g.ρ id).block → g'.w.heap[x]? = g.w.heap[x]? := fun x hx => by
    rw [← hgdef]
    show (setBlock g.w _ _).heap[x]? = _
    rw [setBlock_heap, if_neg (fun e => hx e.1)]
  have hself : g'.w.heap[(g.ρ id).block]? = some (.cells (writeAt c ((g.ρ id).off + en) ws) ty fz) := by
    rw [← hgdef]
    show (setBlock g.w _ _).heap[_]? = _
    rw [setBlock_heap, if_pos ⟨rfl, hbb⟩]
  have hμ' : ∀ x, x ≠ (g.ρ id).block → g'.μ x = g.μ x := fun x hx => by rw [← hgdef]; exact setAt_ne _ _ hx
  have hother : ∀ j a, look2 j (del2 id t.is) = some a → look2 j t.is = some a ∧ (g.ρ j).block ≠ (g.ρ id).block := by
    intro j a hj
    rw [look2_del2] at hj
    by_cases e : j = id
    · rw [if_pos e] at hj; cases hj
    · rw [if_neg e] at hj
      exact ⟨hj, fun q => e (h.idinj j id a _ hj hid q)⟩
  constructor
  · rw [← hgdef]; simp [G.growRow, T.newI, h.n]
  · exact (h.wf.sub (t' := { t with is := del2 id t.is }) rfl (List.Sublist.refl _) (del2_sub _ _)).newI _ _
  · intro i hi
    have hi' : g.ok i ∨ i = g.n := by rw [← hgdef] at hi; exact hi
    rcases hi' with q | q
    · exact Nat.lt_succ_of_lt (h.okn i q)
    · rw [q, h.n]; exact Nat.lt_succ_self _
  · intro x o hx
    obtain ⟨h1, h2, h3⟩ := h.var x o hx
    have hne : g.ν x ≠ (g.ρ id).block := fun q => by rw [q, hμ] at h2; cases h2
    have hν : g'.ν x = g.ν x := by rw [← hgdef]; rfl
    refine ⟨hG.ok x h1, ?_, ?_⟩
    · rw [hν, hμ' _ hne]; exact h2
    · rw [hν]; exact h3.mono hG (hheap _ hne)
  · intro x y o1 o2 hx hy hxy
    have hν : ∀ x, g'.ν x = g.ν x := fun x => by rw [← hgdef]; rfl
    rw [hν, hν] at hxy
    exact h.inj x y o1 o2 hx hy hxy
  · intro j en2 e2 hj
    simp only [T.newI, look2_push] at hj
    by_cases ej : t.n = j
    · subst ej
      rw [if_pos rfl] at hj
      cases hj
      rw [hn]
      refine ⟨by rw [← hgdef]; exact .inr h.n.symm, ?_, writeAt c ((g.ρ id).off + en) ws, ty, fz, hself, fun off ho => ?_, by rw [writeAt_size, ← hm]; exact ⟨hroom, hun⟩⟩
      · rw [← hgdef]; simp [G.growRow, setAt_same, hm]
      · have := hz off (by simpa [writeAt_size] using ho)
        simp only [World.frozen?, hh] at this
        simp only [World.frozen?, hself]
        exact this
    · rw [if_neg ej] at hj
      obtain ⟨hj', hblk⟩ := hother j _ hj
      obtain ⟨h1, h2, c', ty', fz', h3, h4, h5⟩ := h.ids j en2 e2 hj'
      rw [hG.ρ j h1]
      refine ⟨hG.ok j h1, by rw [hμ' _ hblk]; exact h2, c', ty', fz', (hheap _ hblk).trans h3, fun off ho => ?_, h5⟩
      rw [← h4 off ho]
      exact frozen_of_heap (hheap _ hblk)
  · intro j k aj ak hj hk hjk
    simp only [T.newI, look2_push] at hj hk
    by_cases ej : t.n = j <;> by_cases ek : t.n = k
    · exact ej.symm.trans ek
    · rw [if_neg ek] at hk
      obtain ⟨hk', hblk⟩ := hother k _ hk
      rw [← ej, hn, hG.ρ k (h.ids k ak.1 ak.2 hk').1] at hjk
      exact absurd hjk.symm hblk
    · rw [if_neg ej] at hj
      obtain ⟨hj', hblk⟩ := hother j _ hj
      rw [← ek, hn, hG.ρ j (h.ids j aj.1 aj.2 hj').1] at hjk
      exact absurd hjk hblk
    · rw [if_neg ej] at hj
      rw [if_neg ek] at hk
      obtain ⟨hj', -⟩ := hother j _ hj
      obtain ⟨hk', -⟩ := hother k _ hk
      rw [hG.ρ j (h.ids j aj.1 aj.2 hj').1, hG.ρ k (h.ids k ak.1 ak.2 hk').1] at hjk
      exact h.idinj j k aj ak hj' hk' hjk
  · exact h.kept.mono hG

theorem oneCell_eq (v : Value) : M2.oneCell v = v.oneCell' := by cases v <;> rfl

theorem zeroCells_size (zc : Array Value) (n : Nat) : (Builtin.zeroCells zc n).size = n * zc.size := by simp [Builtin.zeroCells]

section
variable {sT xT e e2 : TypeId} {inf : TypeInfo} {zv : Value} {argTypes : Array TypeId}

/-- append where a new row is made -/
theorem app_out (hS : SR M g t) (hzs : inf.size ≤ zv.cells.size) (hb : 1 ≤ inf.bytes) (ty : TypeId) {base : Option Addr} {sCap : Nat} {es ys : List AV} {yv : Value} {A B : Array Value}
    (hX : Src P M g inf.size es (.slice base es.length sCap) B) (hY : Apd P argTypes e inf zv ys.length yv A g.w) (hYs : A.size = ys.length * inf.size) (hYr : EsR M g inf.size ys A) (hfit : ¬ es.length + ys.length ≤ sCap)
    (hsz : 2 * (es.length + ys.length) * inf.bytes ≤ 2 ^ 48) :
    ∃ g' rv, (Builtin.append_ argTypes ty #[.slice base es.length sCap, yv]).run P g.w = .ok rv g'.w ∧ g.Le g' ∧
      VR M g' (.sl t.n inf.size 0 (es.length + ys.length) true 0 (es ++ ys)) rv ∧ SR M g' (t.newI ((es.length + ys.length) * inf.size) inf.size) := by
  obtain ⟨c, hrun⟩ := hY.out ty base es.length sCap B g.w rfl (hX.run _ rfl) hfit hb hsz
  have hE : EsR M g.drew inf.size (es ++ ys) (B ++ A ++ Builtin.zeroCells zv.cells c) := by
    have h1 := EsR.app (C := Builtin.zeroCells zv.cells c) hX.row hX.size hYr hYs
    obtain ⟨q1, f, q2, q3, q4⟩ := h1
    exact ⟨q1, f, fun i hi => (q2 i hi).mono g.le_drew, q3, q4⟩
  have hlen : (es ++ ys).length = es.length + ys.length := by simp
  have hsl := EsR.slice hS.drew.hok hE e (es.length + ys.length) c (es.length + ys.length + c) true (by omega) (by simp)
  have hnew := hS.drew.newI (B ++ A ++ Builtin.zeroCells zv.cells c) e ((es.length + ys.length) * inf.size) inf.size c (by
    simp only [Array.size_append, hX.size, hYs, zeroCells_size, Nat.add_mul]
    have := Nat.mul_le_mul_left c hzs
    omega)
  rw [hlen] at hsl
  rw [show g.drew.n = t.n from hS.n] at hsl
  exact ⟨_, _, hrun, g.le_drew.trans (g.drew.le_addRow hS.drew.hok _ _ _ _), hsl, hnew⟩

/-- append where the row has room, or else a new one is made -/
theorem app_open (hS : SR M g t) (hzs : inf.size ≤ zv.cells.size) (hb : 1 ≤ inf.bytes) (ty : TypeId) {id pos alt : Nat} {es ys : List AV} {xv yv : Value}
    (hXv : VR M g (.sl id inf.size pos es.length true alt es) xv) {A : Array Value} (hY : Apd P argTypes e inf zv ys.length yv A g.w) (hYs : A.size = ys.length * inf.size) (hYr : EsR M g inf.size ys A) (hys : 0 < ys.length) (hone : ys.all (fun v => v.cells.all AV.isCell) = true)
    (hkn : ys.all AV.known = true) (hid : look2 id t.is = some (pos + es.length * inf.size, inf.size)) (hsz : 2 * (es.length + ys.length) * inf.bytes ≤ 2 ^ 48) :
    ∃ g' rv, (Builtin.append_ argTypes ty #[xv, yv]).run P g.w = .ok rv g'.w ∧ g.Le g' ∧
      VR M g' (.sl t.n inf.size 0 (es.length + ys.length) true 0 (es ++ ys)) rv ∧ SR M g' (T.newI { t with is := del2 id t.is } ((es.length + ys.length) * inf.size) inf.size) := by
  obtain ⟨B, hX⟩ := src_sl (P := P) hXv
  cases hXv with
  | sl id _ pos cap fl alt es b off ccap vs hidn hcc hbk hoff hlen hv hsz' hc hf =>
    by_cases hfit : es.length + ys.length ≤ ccap
    · obtain ⟨i1, i2, c, cty, fz, i3, i4, i5⟩ := hS.ids id _ _ hid
      simp only [if_true] at hcc
      have hcc0 : ccap ≠ 0 := by omega
      rw [if_neg hcc0] at hoff
      subst hbk
      have hAl : A.toList.length = ys.length * inf.size := by simpa using hYs
      have hex : ys.length ≤ (g.ρ id).extra := by omega
      have hroom1 : (g.ρ id).off + (pos + es.length * inf.size) + ys.length * inf.size ≤ c.size := by
        have := Nat.mul_le_mul_right inf.size hex
        omega
      have honeA : ∀ w, w ∈ A.toList → w.oneCell' = true := by
        intro w hw
        obtain ⟨q, hq, rfl⟩ := List.mem_iff_getElem.mp hw
        have hq' : q < ys.length * inf.size := by omega
        have he : 0 < inf.size := by
          rcases Nat.eq_zero_or_pos inf.size with h0 | h0
          · rw [h0] at hq'; simp at hq'
          · exact h0
        obtain ⟨-, f, f1, f2, f3⟩ := hYr
        have hi' : q / inf.size < ys.length := Nat.div_lt_of_lt_mul (by rw [Nat.mul_comm]; exact hq')
        have hj' : q % inf.size < inf.size := Nat.mod_lt _ he
        have hqq : q / inf.size * inf.size + q % inf.size = q := by rw [Nat.mul_comm]; exact Nat.div_add_mod q _
        have h3 := f3 _ _ hi' hj'
        rw [hqq] at h3
        have hk : (ys[q / inf.size]).known = true := List.all_eq_true.mp hkn _ (List.getElem_mem hi')
        obtain ⟨g1, g2⟩ := (f1 _ hi').cells hk
        have hsz2 := f2 _ hi'
        have hl2 : q % inf.size < (ys[q / inf.size]).cells.length := by omega
        have hcell : ((ys[q / inf.size]).cells[q % inf.size]).isCell = true :=
          List.all_eq_true.mp (List.all_eq_true.mp hone _ (List.getElem_mem hi')) _ (List.getElem_mem hl2)
        have hor := (g2 _ hl2).oneCell hcell
        have hAq : A.toList[q] = (f (q / inf.size)).cells.getD (q % inf.size) undef := by
          have hAs : q < A.size := by simpa using hq
          rw [Array.getElem?_eq_getElem hAs, Array.getElem?_eq_getElem (by omega)] at h3
          simp only [Option.some.injEq] at h3
          simp only [Array.getElem_toList, Array.getD, show q % inf.size < (f (q / inf.size)).cells.size by omega, dite_true]
          exact h3
        rw [hAq]
        rw [← oneCell_eq]
        exact hor
      have hst := run_storeCells' P (g.ρ id).block (off + es.length * inf.size) cty fz A.toList 0 c g.w i3 i4 (by omega) honeA
      simp only [Nat.add_zero] at hst
      have hoffeq : off + es.length * inf.size = (g.ρ id).off + (pos + es.length * inf.size) := by omega
      have hrun := hY.fit ty (some ⟨(g.ρ id).block, off, none⟩) es.length ccap g.w rfl hfit
      simp only [addr_add, hst, Result.andThen_ok] at hrun
      rw [hoffeq] at hrun
      have hwr : (g.ρ id).off + (pos + es.length * inf.size) + A.toList.length ≤ c.size := by omega
      have hm : (g.ρ id).off + pos + (es.length + ys.length) * inf.size = (g.ρ id).off + (pos + es.length * inf.size) + ys.length * inf.size := by rw [Nat.add_mul]; omega
      have hexm := Nat.mul_le_mul_right inf.size hex
      have hG := g.le_growRow hS.hok (g.ρ id).block ((g.ρ id).off + pos) _ ((g.ρ id).off + pos + (es.length + ys.length) * inf.size) ((g.ρ id).extra - ys.length) c cty fz A.toList i3 i2 (by omega) hwr
      have hSR := hS.growRow hid i3 i4 ((g.ρ id).off + pos) ((g.ρ id).off + pos + (es.length + ys.length) * inf.size) ((g.ρ id).extra - ys.length) A.toList hwr ((es.length + ys.length) * inf.size) rfl (by omega)
        (by rw [hm, Nat.sub_mul]; omega) i5.2
      refine ⟨_, _, hrun, hG, ?_, hSR⟩
      generalize hgd : g.growRow (g.ρ id).block ((g.ρ id).off + pos) ((g.ρ id).off + pos + (es.length + ys.length) * inf.size) ((g.ρ id).extra - ys.length) (.cells (writeAt c ((g.ρ id).off + (pos + es.length * inf.size)) A.toList) cty fz) = g' at *
      have hbb : (g.ρ id).block < g.w.heap.size := (getElem?_some_iff.mp i3).1
      have hn : g'.ρ t.n = ⟨(g.ρ id).block, (g.ρ id).off + pos, (g.ρ id).extra - ys.length⟩ := by rw [← hgd, ← hS.n]; exact setAt_same _ _ _
      have hself : g'.w.heap[(g.ρ id).block]? = some (.cells (writeAt c ((g.ρ id).off + (pos + es.length * inf.size)) A.toList) cty fz) := by
        rw [← hgd]
        show (setBlock g.w _ _).heap[_]? = _
        rw [setBlock_heap, if_pos ⟨rfl, hbb⟩]
      have hcellw : ∀ q, g'.w.cell? ⟨(g.ρ id).block, q, none⟩ = (writeAt c ((g.ρ id).off + (pos + es.length * inf.size)) A.toList)[q]? := fun q => by
        simp [World.cell?, hself]
      obtain ⟨-, f, f1, f2, f3⟩ := hYr
      have hlen2 : (es ++ ys).length = es.length + ys.length := by simp
      have hres := VR.sl (M := M) (g := g') t.n inf.size 0 (es.length + ys.length) true 0 (es ++ ys) (g.ρ id).block off ccap (fun i => if i < es.length then vs i else f (i - es.length))
        (by rw [← hgd]; exact .inr hS.n.symm) (by rw [hn]; simp only [if_true]; omega) (by rw [hn]) (by rw [hn]; simp only [ite_self, Nat.add_zero]; exact hoff) (by omega)
        (fun i hi => by
          by_cases h1 : i < es.length
          · simp only [h1, if_true]
            rw [List.getElem_append_left h1]; exact (hv i h1).mono hG
          · simp only [h1, if_false]
            rw [List.getElem_append_right (by omega)]
            exact (f1 _ (by omega)).mono hG)
        (fun i hi => by
          by_cases h1 : i < es.length
          · simp only [h1, if_true]; exact hsz' i h1
          · simp only [h1, if_false]; exact f2 _ (by omega))
        (fun i j hi hj => by
          rw [hcellw]
          by_cases h1 : i < es.length
          · have hin := in_row h1 hj
            simp only [h1, if_true]
            rw [writeAt_low _ _ _ _ hwr (by omega), ← hc i j h1 hj]
            simp [World.cell?, i3]
          · simp only [h1, if_false]
            have h2 : i - es.length < ys.length := by omega
            have hin := in_row h2 hj
            have hge := Nat.mul_le_mul_right inf.size (show es.length ≤ i by omega)
            have hidx : off + i * inf.size + j - ((g.ρ id).off + (pos + es.length * inf.size)) = (i - es.length) * inf.size + j := by
              rw [Nat.sub_mul]; omega
            have hsub : (i - es.length) * inf.size = i * inf.size - es.length * inf.size := Nat.sub_mul _ _ _
            rw [writeAt_get? _ _ _ _ hwr, if_pos (by omega), hidx, ← f3 _ j h2 hj]
            simp)
        (by
          refine ⟨by rw [← hgd]; simpa [G.growRow, setBlock] using hbb, by rw [← hgd]; simp only [G.growRow, setAt_same, Own.fix]; rw [hlen2]; omega⟩)
      rw [hlen2] at hres
      exact hres
    · have hout := app_out hS hzs hb ty hX hY hYs hYr hfit hsz
      obtain ⟨g', rv, r1, r2, r3, r4⟩ := hout
      refine ⟨g', rv, r1, r2, r3, r4.fewer rfl (List.Sublist.refl _) ?_⟩
      rw [show (T.newI { t with is := del2 id t.is } ((es.length + ys.length) * inf.size) inf.size).is.flatten = _ from flatten_push _ _,
        show (t.newI ((es.length + ys.length) * inf.size) inf.size).is.flatten = _ from flatten_push _ _]
      exact (del2_sub _ _).cons_cons _

end

theorem sound_appNo (hS : SR M g t) {argTypes : Array TypeId} {yv : Value} {xa : AV} {xv : Value} (vx : VR M g xa xv) {e : TypeId} {i : TypeInfo} {zv : Value}
    (hA : Apd P argTypes e i zv 0 yv #[] g.w)
    (key : ∀ rv w', (Builtin.append_ argTypes o.type #[xv, yv]).run P g.w = .ok rv w' → (execOp a.eval o).run P g.w = .ok (.value rv) w')
    (hr : appNo xa t = .ok v t') : Done P M o a g v t' := by
  have hgo : ∀ base len cap, xv = .slice base len cap → len ≤ cap → (execOp a.eval o).run P g.w = .ok (.value xv) g.w := by
    intro base len cap hxv hle
    apply key
    rw [hxv, hA.fit o.type base len cap g.w rfl (by omega)]
    cases base with
    | none => rfl
    | some q => simp [storeCells]
  unfold appNo at hr
  split at hr
  · cases hr
    cases vx
    exact done_pure (hgo _ _ _ rfl (Nat.le_refl _)) .nils hS
  · cases hr
    cases vx with
    | sl0 b off sp => exact done_pure (hgo _ _ _ rfl (Nat.le_refl _)) (.sl0 b off sp) hS
  · rename_i id e' pos cap fl alt es
    cases hr
    have vx' := vx
    cases vx with
    | sl id e pos cap fl alt es b off ccap vs hid hcc hb' hoff hlen hv' hsz hc' hf =>
      exact done_pure (hgo _ _ _ rfl (by omega)) vx' hS
  · contradiction

theorem sound_appTo (hS : SR M g t) {argTypes : Array TypeId} {yv : Value} {xa : AV} {xv : Value} (vx : VR M g xa xv) {e : TypeId} {i : TypeInfo} {z u : AV} {us : List AV} {zv : Value} (hzs : i.size ≤ zv.cells.size) (hb : 1 ≤ i.bytes)
    {A : Array Value} (hA : Apd P argTypes e i zv (us.length + 1) yv A g.w) (hYs : A.size = (us.length + 1) * i.size) (hYr : EsR M g i.size (u :: us) A) (hkn : (u :: us).all AV.known = true)
    (key : ∀ rv w', (Builtin.append_ argTypes o.type #[xv, yv]).run P g.w = .ok rv w' → (execOp a.eval o).run P g.w = .ok (.value rv) w')
    (hr : appTo i.size i.bytes z xa u us t = .ok v t') : Done P M o a g v t' := by
  unfold appTo at hr
  split at hr
  · split at hr
    · rename_i hcond
      cases hr
      simp only [Bool.and_eq_true] at hcond
      have hsz := Nat.le_of_ble_eq_true hcond.1
      cases vx
      obtain ⟨g', rv, r1, r2, r3, r4⟩ := app_out (P := P) hS hzs hb o.type (src_nil (e := i.size)) hA hYs hYr (by simp) (by simpa using hsz)
      simp only [List.length_nil, Nat.zero_add, List.nil_append, List.length_cons] at r3 r4
      exact done_value (key _ _ r1) r2 r3 r4
    · contradiction
  · split at hr
    · rename_i hcond
      cases hr
      simp only [Bool.and_eq_true] at hcond
      have hsz := Nat.le_of_ble_eq_true hcond.1
      cases vx with
      | sl0 b off sp =>
        obtain ⟨g', rv, r1, r2, r3, r4⟩ := app_out (P := P) hS hzs hb o.type (src_sl0 (e := i.size)) hA hYs hYr (by simp) (by simpa using hsz)
        simp only [List.length_nil, Nat.zero_add, List.nil_append, List.length_cons] at r3 r4
        exact done_value (key _ _ r1) r2 r3 r4
    · contradiction
  · rename_i id e' pos cap fl alt es
    split at hr
    · rename_i hcond
      simp only [Bool.and_eq_true] at hcond
      obtain ⟨⟨⟨c1, -⟩, c3⟩, c4⟩ := hcond
      have hsz := Nat.le_of_ble_eq_true c1
      have c3 := Nat.eq_of_beq_eq_true c3
      have c4 : cap < es.length + (us.length + 1) := Nat.le_of_ble_eq_true c4
      subst c3
      split at hr
      · cases hr
        obtain ⟨B, hB⟩ := src_sl (P := P) vx
        cases vx with
        | sl id e pos cap fl alt es b off ccap vs hid hcc hb' hoff hlen hv' hsz' hc' hf =>
          simp at hcc
          obtain ⟨g', rv, r1, r2, r3, r4⟩ := app_out (P := P) hS hzs hb o.type hB hA hYs hYr (by simp only [List.length_cons]; omega) (by simpa using hsz)
          simp only [List.length_cons] at r3 r4
          exact done_value (key _ _ r1) r2 r3 r4
      · split at hr
        · rename_i en e'' hlk
          split at hr
          · rename_i hc2
            cases hr
            simp only [Bool.and_eq_true] at hc2
            obtain ⟨⟨⟨k1, k2⟩, k3⟩, k4⟩ := hc2
            have k1 := Nat.eq_of_beq_eq_true k1
            have k2 := Nat.eq_of_beq_eq_true k2
            have k3 := Nat.eq_of_beq_eq_true k3
            subst k1 k2 k3
            obtain ⟨g', rv, r1, r2, r3, r4⟩ := app_open (P := P) hS hzs hb o.type vx hA hYs hYr (by simp) k4 hkn hlk (by simpa using hsz)
            simp only [List.length_cons] at r3 r4
            exact done_value (key _ _ r1) r2 r3 r4
          · contradiction
        · contradiction
    · contradiction
  · contradiction

theorem sound_app (him : ∀ f x, im f = some x → M.fm x = f) (hF : FR M g d F a.tmps) (hS : SR M g t) {c : Call} {x y : Operand} {x' y' : Opd} {e e2 : TypeId} {z : AV} {s b : Nat}
    (hx : cmpOpd im d x = some x') (hy : cmpOpd im d y = some y') (hu : P.underlying (c.argTypes.getD 0 0) = some (.slice e)) (hu2 : P.underlying (c.argTypes.getD 1 0) = some (.slice e2)) (hn : c.argTypes.size = 2)
    (he : elemT P e = some (z, s, b)) (hb : 1 ≤ b) (hc : c.callee = .builtin .append) (hargs : c.args = #[x, y])
    (ho : o.op = .call c) (hr : opApp s b z x' y' call F t = .ok v t') : Done P M o a g v t' := by
  obtain ⟨i, zv, hi, hz, rfl, rfl, hk, hzl, hv⟩ := elemT_ok he
  have vx := opd_ok him hF hx
  have vy := opd_ok him hF hy
  obtain ⟨sT, h0⟩ : ∃ ty, c.argTypes[0]? = some ty := ⟨c.argTypes[0], by simp [hn]⟩
  obtain ⟨xT, h1⟩ : ∃ ty, c.argTypes[1]? = some ty := ⟨c.argTypes[1], by simp [hn]⟩
  have hu' : P.underlying sT = some (.slice e) := by rw [← hu]; congr 1; simp [Array.getD_eq_getD_getElem?, h0]
  have hu2' : P.underlying xT = some (.slice e2) := by rw [← hu2]; congr 1; simp [Array.getD_eq_getD_getElem?, h1]
  have hzs : i.size ≤ zv.cells.size := by have := ((hv M g).cells hk).1; omega
  have key : ∀ rv w', (Builtin.append_ c.argTypes o.type #[a.eval x, a.eval y]).run P g.w = .ok rv w' → (execOp a.eval o).run P g.w = .ok (.value rv) w' := by
    intro rv w' hrv
    simp [execOp, ho, resolve, hc, hargs, invoke, builtin, hrv]
  unfold opApp at hr
  split at hr
  · rename_i hap
    obtain ⟨⟨A, hA⟩, -⟩ := src_appended (P := P) hap vy
    obtain ⟨ad, cY, hyv⟩ := hA.val
    have hA0 : A = #[] := Array.eq_empty_of_size_eq_zero (by simpa using hA.size)
    subst hA0
    rw [hyv] at key hA
    exact sound_appNo hS vx (Apd.of h0 h1 hu' hu2' hi hz hA.run) key hr
  · rename_i u us hap
    obtain ⟨⟨A, hA⟩, hkn⟩ := src_appended (P := P) hap vy
    obtain ⟨ad, cY, hyv⟩ := hA.val
    rw [hyv] at key hA
    exact sound_appTo hS vx hzs hb (Apd.of h0 h1 hu' hu2' hi hz hA.run) hA.size hA.row hkn key hr
  · contradiction

theorem sound_apz (him : ∀ f x, im f = some x → M.fm x = f) (hF : FR M g d F a.tmps) (hS : SR M g t) {c : Call} {x y : Operand} {x' y' : Opd} {e : TypeId} {ik : IntKind} {z : AV} {s b : Nat}
    (hx : cmpOpd im d x = some x') (hy : cmpOpd im d y = some y') (hu : P.underlying (c.argTypes.getD 0 0) = some (.slice e)) (hu2 : P.underlying (c.argTypes.getD 1 0) = some (.int ik)) (hn : c.argTypes.size = 2)
    (he : elemT P e = some (z, s, b)) (hb : 1 ≤ b) (hc : c.callee = .builtin .append) (hargs : c.args = #[x, y])
    (ho : o.op = .call c) (hr : memApz s b z (x'.get F) (y'.get F) t = .ok v t') : Done P M o a g v t' := by
  obtain ⟨i, zv, hi, hz, rfl, rfl, hk, hzl, hv⟩ := elemT_ok he
  have vx := opd_ok him hF hx
  have vy := opd_ok him hF hy
  obtain ⟨sT, h0⟩ : ∃ ty, c.argTypes[0]? = some ty := ⟨c.argTypes[0], by simp [hn]⟩
  obtain ⟨xT, h1⟩ : ∃ ty, c.argTypes[1]? = some ty := ⟨c.argTypes[1], by simp [hn]⟩
  have hu' : P.underlying sT = some (.slice e) := by rw [← hu]; congr 1; simp [Array.getD_eq_getD_getElem?, h0]
  have hu2' : P.underlying xT = some (.int ik) := by rw [← hu2]; congr 1; simp [Array.getD_eq_getD_getElem?, h1]
  have hcz := (hv M g).cells hk
  have hzs : i.size ≤ zv.cells.size := by omega
  have hsz : zv.cells.size = i.size := by omega
  have key : ∀ rv w', (Builtin.append_ c.argTypes o.type #[a.eval x, a.eval y]).run P g.w = .ok rv w' → (execOp a.eval o).run P g.w = .ok (.value rv) w' := by
    intro rv w' hrv
    simp [execOp, ho, resolve, hc, hargs, invoke, builtin, hrv]
  unfold memApz at hr
  split at hr
  · rename_i kk hp
    rw [hp] at vy
    generalize hyv : a.eval y = yv at vy key
    cases vy
    have := Apd.zeros (kk := kk) h0 h1 hu' hu2' hi hz 0 (by simp) hb g.w
    simp only [Nat.zero_mul, if_true] at this
    exact sound_appNo hS vx this key hr
  · rename_i kk k hp
    rw [hp] at vy
    generalize hyv : a.eval y = yv at vy key
    cases vy
    split at hr
    · rename_i hcond
      simp only [Bool.and_eq_true] at hcond
      have c1 : 0 < i.size := by simpa using hcond.1
      have hlen : (List.replicate k z).length = k := by simp
      have hbig : (k + 1) * i.bytes ≤ 2 ^ 48 := by
        unfold appTo at hr
        rw [hlen] at hr
        split at hr
        · split at hr
          · rename_i hq
            simp only [Bool.and_eq_true] at hq
            have h1 := Nat.le_of_ble_eq_true hq.1
            rw [Nat.mul_assoc] at h1
            omega
          · contradiction
        · split at hr
          · rename_i hq
            simp only [Bool.and_eq_true] at hq
            have h1 := Nat.le_of_ble_eq_true hq.1
            rw [Nat.mul_assoc] at h1
            omega
          · contradiction
        · rename_i id e' pos cap fl alt es hxa
          split at hr
          · rename_i hq
            simp only [Bool.and_eq_true] at hq
            have h1 := Nat.le_of_ble_eq_true hq.1.1.1
            rw [Nat.mul_assoc, Nat.add_mul] at h1
            omega
          · contradiction
        · contradiction
      have hap := Apd.zeros (kk := kk) h0 h1 hu' hu2' hi hz (k + 1) hbig hb g.w
      have hne : ¬ (k + 1) * i.size = 0 := Nat.mul_ne_zero (by omega) (by omega)
      rw [if_neg hne] at hap
      have hes : EsR M g zv.cells.size (List.replicate (k + 1) z) (Builtin.zeroCells zv.cells (k + 1)) :=
        EsR.zero (hv M g) (k + 1) _ (fun q hq => zeros_get _ _ _ hq) (by simp [zeroCells_size])
      rw [hsz, List.replicate_succ] at hes
      have hall : (z :: List.replicate k z).all AV.known = true := by simp [hk]
      exact sound_appTo hS vx hzs hb (by rw [hlen]; exact hap) (by rw [hlen, zeroCells_size, hsz]) hes hall key hr
    · contradiction
  · contradiction

end

end M2
end
section
namespace M2
open Go

section
variable {P : Program} {M : Maps} {im : FuncId → Option Nat} {d : Nat} {g : G} {F : Fr} {a : Act} {o : Oper} {t t' : T} {v : AV} {call : CallF}

/-! #### rows that may be written -/

theorem flat_len {e : Nat} : ∀ (es : List AV), (∀ x ∈ es, x.cells.length = e) → (es.flatMap AV.cells).length = es.length * e
  | [], _ => by simp
  | x :: es, h => by
    rw [List.flatMap_cons, List.length_append, flat_len es fun y hy => h y (List.mem_cons_of_mem _ hy), h x List.mem_cons_self, List.length_cons, Nat.succ_mul]
    omega

theorem flat_get {e : Nat} : ∀ (es : List AV), (∀ x ∈ es, x.cells.length = e) → ∀ i j (hi : i < es.length), j < e → (es.flatMap AV.cells)[i * e + j]? = es[i].cells[j]?
  | [], _, i, j, hi, _ => absurd hi (by simp)
  | x :: es, h, 0, j, _, hj => by
    have hx := h x List.mem_cons_self
    rw [List.flatMap_cons, Nat.zero_mul, Nat.zero_add, List.getElem?_append_left (by omega)]
    rfl
  | x :: es, h, i + 1, j, hi, hj => by
    have hx := h x List.mem_cons_self
    rw [List.flatMap_cons, List.getElem?_append_right (by rw [hx, Nat.succ_mul]; omega), hx]
    have : (i + 1) * e + j - e = i * e + j := by rw [Nat.succ_mul]; omega
    rw [this, flat_get es (fun y hy => h y (List.mem_cons_of_mem _ hy)) i j (by simpa using hi) hj]
    rfl

theorem EsR.cellsR {e : Nat} {es : List AV} {A : Array Value} (h : EsR M g e es A) (hk : ∀ x ∈ es, x.known = true ∧ x.cells.length = e) (hA : A.size = es.length * e) : CellsR M g (es.flatMap AV.cells) A := by
  have hl := flat_len es fun x hx => (hk x hx).2
  refine ⟨by rw [hA, hl], fun q hq => ?_⟩
  rw [hl] at hq
  obtain ⟨-, f, f1, f2, f3⟩ := h
  have he : 0 < e := by
    rcases Nat.eq_zero_or_pos e with h0 | h0
    · rw [h0] at hq; simp at hq
    · exact h0
  have hi : q / e < es.length := Nat.div_lt_of_lt_mul (by rw [Nat.mul_comm]; exact hq)
  have hj : q % e < e := Nat.mod_lt _ he
  have hqq : q / e * e + q % e = q := by rw [Nat.mul_comm]; exact Nat.div_add_mod q _
  have g1 := flat_get es (fun x hx => (hk x hx).2) _ _ hi hj
  have g3 := f3 _ _ hi hj
  rw [hqq] at g1 g3
  have hkk := hk _ (List.getElem_mem hi)
  obtain ⟨c1, c2⟩ := (f1 _ hi).cells hkk.1
  have hv := c2 (q % e) (by omega)
  have e1 : (es.flatMap AV.cells)[q]'(by rw [hl]; exact hq) = (es[q / e]).cells[q % e]'(by omega) := by
    rw [List.getElem?_eq_getElem (by rw [hl]; exact hq), List.getElem?_eq_getElem (by omega)] at g1
    exact Option.some.inj g1
  rw [e1]
  have e2 : A.getD q undef = (f (q / e)).cells.getD (q % e) undef := by
    simp only [Array.getD_eq_getD_getElem?]
    rw [g3]
  rw [e2]
  exact hv

theorem CellsR.app {cs ds : List AV} {A B : Array Value} (C : Array Value) (h : CellsR M g cs A) (h' : CellsR M g ds B) : ∀ i (hi : i < (cs ++ ds).length), VR M g (cs ++ ds)[i] ((A ++ B ++ C).getD i undef) := by
  intro i hi
  have h1 := h.1
  have h2 := h'.1
  rw [List.length_append] at hi
  simp only [Array.getD_eq_getD_getElem?]
  rw [Array.getElem?_append_left (by simp only [Array.size_append]; omega)]
  by_cases hl : i < cs.length
  · rw [List.getElem_append_left hl, Array.getElem?_append_left (by omega)]
    have := h.2 i hl
    rwa [Array.getD_eq_getD_getElem?] at this
  · rw [List.getElem_append_right (by omega), Array.getElem?_append_right (by omega), h1]
    have := h'.2 (i - cs.length) (by omega)
    rwa [Array.getD_eq_getD_getElem?] at this

theorem CellsR.mono {cs : List AV} {A : Array Value} {g' : G} (h : CellsR M g cs A) (hle : g.Le g') : CellsR M g' cs A := ⟨h.1, fun i hi => (h.2 i hi).mono hle⟩

/-- the cells of a slice's elements, read -/
structure SrcC (P : Program) (M : Maps) (g : G) (e n : Nat) (cs : List AV) (x : Value) (A : Array Value) : Prop where
  val : ∃ ad ccap, x = .slice ad n ccap
  size : A.size = n * e
  row : CellsR M g cs A
  run : ∀ w : World, w.heap = g.w.heap → (Builtin.firstCells e n x).run P w = .ok A w

theorem Src.toC {e : Nat} {es : List AV} {x : Value} {A : Array Value} (h : Src P M g e es x A) (hk : ∀ x ∈ es, x.known = true ∧ x.cells.length = e) : SrcC P M g e es.length (es.flatMap AV.cells) x A :=
  ⟨h.val, h.size, h.row.cellsR hk h.size, h.run⟩

theorem SrcC.len {e n : Nat} {cs : List AV} {x : Value} {A : Array Value} (h : SrcC P M g e n cs x A) : cs.length = n * e := by rw [← h.row.1, h.size]

theorem all_known {e : Nat} {es : List AV} (h : (es.all fun v => v.known && Nat.beq v.cells.length e) = true) : ∀ x ∈ es, x.known = true ∧ x.cells.length = e := by
  intro x hx
  have := List.all_eq_true.mp h x hx
  simp only [Bool.and_eq_true] at this
  exact ⟨this.1, Nat.eq_of_beq_eq_true this.2⟩

theorem src_ms (hS : SR M g t) {x e pos len cap : Nat} {cs : List AV} {xv : Value} (hl : look2 x t.vs = some (.cells cs)) (hv : VR M g (.ms x e pos len cap) xv) (hb : pos + len * e ≤ cs.length) :
    ∃ A, SrcC P M g e len ((cs.drop pos).take (len * e)) xv A := by
  obtain ⟨h1, h2, h3⟩ := hS.var x _ hl
  generalize hbb : g.ν x = b at *
  cases hv with
  | ms x e pos len cap ccap hx hlen hcc hb' hz =>
    cases h3 with
    | cells cs b c ty fz hh hzz hlc hvv =>
      refine ⟨((List.range (len * e)).map (fun q => c.getD (pos + q) undef)).toArray, ⟨_, _, rfl⟩, by simp, ⟨by simp; omega, fun i hi => ?_⟩, fun w hw => ?_⟩
      · simp only [List.length_take, List.length_drop] at hi
        have := hvv (pos + i) (by omega)
        simpa [Array.getD_eq_getD_getElem?, List.getElem?_range, show i < len * e by omega] using this
      · have := run_loadCells (P := P) w ⟨g.ν x, pos, none⟩ (len * e) (fun q => c.getD (pos + q) undef) (fun j hj => by
          rw [addr_add, hbb]
          exact cells_cell (by rw [hw]; exact hh) (by omega))
        simpa [Builtin.firstCells] using this

theorem src_sle {e : Nat} {es : List AV} {x : Value} (h : VR M g (.sle e es) x) : ∃ A, Src P M g e es x A := by
  cases h with
  | sle e es b off ccap vs hlen hv hsz hc hf =>
    have hsome : ∀ q, q < es.length * e → g.w.cell? ⟨b, off + q, none⟩ = some ((g.w.cell? ⟨b, off + q, none⟩).getD undef) ∧
        ∀ i j, i < es.length → j < e → q = i * e + j → (g.w.cell? ⟨b, off + q, none⟩) = (vs i).cells[j]? := by
      intro q hq
      have he : 0 < e := by
        rcases Nat.eq_zero_or_pos e with h0 | h0
        · rw [h0] at hq; simp at hq
        · exact h0
      have hi : q / e < es.length := Nat.div_lt_of_lt_mul (by rw [Nat.mul_comm]; exact hq)
      have hj : q % e < e := Nat.mod_lt _ he
      have hq' : q / e * e + q % e = q := by rw [Nat.mul_comm]; exact Nat.div_add_mod q e
      have hcell := hc (q / e) (q % e) hi hj
      rw [Nat.add_assoc, hq'] at hcell
      have hs := hsz (q / e) hi
      refine ⟨?_, ?_⟩
      · rw [hcell, Array.getElem?_eq_getElem (by omega)]; rfl
      · intro i j h1 h2 h3
        rw [h3, ← Nat.add_assoc]
        exact hc i j h1 h2
    refine ⟨((List.range (es.length * e)).map (fun q => (g.w.cell? ⟨b, off + q, none⟩).getD undef)).toArray, ⟨_, _, rfl⟩, by simp, ⟨by simp, vs, hv, hsz, fun i j hi hj => ?_⟩, fun w hw => ?_⟩
    · have hq := in_row hi hj
      obtain ⟨h1, h2⟩ := hsome _ hq
      rw [← h2 i j hi hj rfl, h1]
      simp [hq]
    · have := run_loadCells (P := P) w ⟨b, off, none⟩ (es.length * e) (fun q => (g.w.cell? ⟨b, off + q, none⟩).getD undef) (fun j hj => by
        rw [addr_add, ← (hsome j hj).1]
        simp [World.cell?, hw])
      simpa [Builtin.firstCells] using this

theorem memCells_ok (hS : SR M g t) {e n : Nat} {y : AV} {cs : List AV} (h : memCells t e y = some (n, cs)) {yv : Value} (hy : VR M g y yv) : ∃ A, SrcC P M g e n cs yv A := by
  unfold memCells at h
  split at h
  · cases h; cases hy; exact ⟨#[], (src_nil (P := P) (e := e)).toC fun x hx => by cases hx⟩
  · cases h; cases hy; exact ⟨#[], (src_sl0 (P := P) (e := e)).toC fun x hx => by cases hx⟩
  · split at h
    · rename_i hc
      cases h
      obtain ⟨rfl, hk⟩ := hc
      obtain ⟨A, hA⟩ := src_sl (P := P) hy
      exact ⟨A, hA.toC (all_known hk)⟩
    · cases h
  · split at h
    · rename_i hc
      cases h
      obtain ⟨rfl, hk⟩ := hc
      obtain ⟨A, hA⟩ := src_sle (P := P) hy
      exact ⟨A, hA.toC (all_known hk)⟩
    · cases h
  · split at h
    · rename_i cs0 hl
      split at h
      · rename_i hc
        cases h
        obtain ⟨rfl, hb⟩ := hc
        exact src_ms hS hl hy hb
      · cases h
    · cases h
  · cases h

section
variable {sT xT e e2 : TypeId} {inf : TypeInfo} {zv : Value} {argTypes : Array TypeId}

/-- append where a new row is made -/
theorem memApp_out (hS : SR M g t) (h0 : argTypes[0]? = some sT) (h1 : argTypes[1]? = some xT) (hu : P.underlying sT = some (.slice e)) (hx : P.underlying xT = some (.slice e2)) (hi : P.info? e = some inf)
    (hz : inf.zero = some zv) (hzs : inf.size ≤ zv.cells.size) (hb : 1 ≤ inf.bytes) (ty : TypeId) {base : Option Addr} {n k sCap : Nat} {cs ys : List AV} {yv : Value} {A B : Array Value}
    (hX : SrcC P M g inf.size n cs (.slice base n sCap) B) (hY : SrcC P M g inf.size k ys yv A) (hfit : ¬ n + k ≤ sCap) (hsz : 2 * (n + k) * inf.bytes ≤ 2 ^ 48) :
    ∃ g' rv, (Builtin.append_ argTypes ty #[.slice base n sCap, yv]).run P g.w = .ok rv g'.w ∧ g.Le g' ∧
      VR M g' (.ms t.n inf.size 0 (n + k) (n + k)) rv ∧ SR M g' (t.newV (.cells (cs ++ ys))) := by
  obtain ⟨ad, cY, rfl⟩ := hY.val
  obtain ⟨c, hrun⟩ := run_append_out h0 h1 hu hx hi hz ty base n sCap k ad cY A B g.w (hY.run _ rfl) (hX.run _ rfl) hfit hb hsz
  have hlen : (cs ++ ys).length = (n + k) * inf.size := by rw [List.length_append, hX.len, hY.len, Nat.add_mul]
  have hbs : (B ++ A ++ Builtin.zeroCells zv.cells c).size = (n + k) * inf.size + c * zv.cells.size := by
    simp only [Array.size_append, hX.size, hY.size, zeroCells_size, Nat.add_mul]
  have hnew := hS.drew.newV (cs := cs ++ ys) (c := B ++ A ++ Builtin.zeroCells zv.cells c) e (by rw [hlen, hbs]; omega) (CellsR.app _ (hX.row.mono g.le_drew) (hY.row.mono g.le_drew))
  have hle := g.drew.le_addVar hS.drew.hok (B ++ A ++ Builtin.zeroCells zv.cells c) e
  have hn : (g.drew.addVar (B ++ A ++ Builtin.zeroCells zv.cells c) e).ν t.n = g.w.heap.size := by
    rw [← hS.n]; exact setAt_same _ _ _
  refine ⟨g.drew.addVar (B ++ A ++ Builtin.zeroCells zv.cells c) e, _, hrun, g.le_drew.trans hle, ?_, hnew.1⟩
  have hcs : csize (g.drew.addVar (B ++ A ++ Builtin.zeroCells zv.cells c) e).w g.w.heap.size = (n + k) * inf.size + c * zv.cells.size := by
    unfold csize
    rw [show (g.drew.addVar (B ++ A ++ Builtin.zeroCells zv.cells c) e).w.heap[g.w.heap.size]? = some (.cells (B ++ A ++ Builtin.zeroCells zv.cells c) e (0, 0)) from heap_alloc_new]
    exact hbs
  have := VR.ms (M := M) (g := g.drew.addVar (B ++ A ++ Builtin.zeroCells zv.cells c) e) t.n inf.size 0 (n + k) (n + k) (n + k + c) (.inr hS.n.symm) (Nat.le_refl _) (by omega)
    (by rw [hn]; simp [G.addVar, G.drew])
    (by
      rw [hn, hcs, Nat.add_mul]
      have := Nat.mul_le_mul_left c hzs
      omega)
  rw [hn] at this
  exact this

/-- a variable known by another name -/
def G.dup (g : G) (b : Nat) : G := { g with n := g.n + 1, ok := fun i => g.ok i ∨ i = g.n, ν := setAt g.ν g.n b }

theorem G.le_dup (g : G) (hok : ∀ i, g.ok i → i < g.n) (b : Nat) : g.Le (g.dup b) where
  n := Nat.le_succ _
  ok _ hi := .inl hi
  new _ hi := hi.imp (fun q => q) (fun q => Nat.le_of_eq q.symm)
  ρ _ _ := rfl
  ν i hi := setAt_ne _ _ (Nat.ne_of_lt (hok i hi))
  size := Nat.le_refl _
  lim _ k _ hk := ⟨k, hk, Nat.le_refl _, fun _ _ => rfl⟩
  oth _ _ _ := ⟨rfl, rfl⟩
  os := rfl
  tape := rfl
  output := rfl
  sz _ _ := rfl

theorem SR.dup (h : SR M g t) {x : Nat} {ob : VObj} (hx : look2 x t.vs = some ob) : SR M (g.dup (g.ν x)) (T.newV { t with vs := del2 x t.vs } ob) := by
  have hle := g.le_dup h.hok (g.ν x)
  have hn : (g.dup (g.ν x)).ν t.n = g.ν x := by rw [← h.n]; exact setAt_same _ _ _
  obtain ⟨x1, x2, x3⟩ := h.var x ob hx
  have hdel : ∀ y o, look2 y (del2 x t.vs) = some o → look2 y t.vs = some o ∧ y ≠ x := by
    intro y o hy
    rw [look2_del2] at hy
    by_cases e : y = x
    · rw [if_pos e] at hy; cases hy
    · rw [if_neg e] at hy; exact ⟨hy, e⟩
  constructor
  · simp [G.dup, T.newV, h.n]
  · exact (h.wf.sub (t' := { t with vs := del2 x t.vs }) rfl (del2_sub _ _) (List.Sublist.refl _)).newV _
  · intro i hi
    rcases hi with hi | hi
    · exact Nat.lt_succ_of_lt (h.okn i hi)
    · rw [hi, h.n]; exact Nat.lt_succ_self _
  · intro y o' hy
    simp only [T.newV, look2_push] at hy
    by_cases e : t.n = y
    · subst e
      rw [if_pos rfl] at hy
      cases hy
      rw [hn]
      exact ⟨.inr h.n.symm, x2, x3.mono hle rfl⟩
    · rw [if_neg e] at hy
      obtain ⟨hy', -⟩ := hdel y o' hy
      obtain ⟨v1, v2, v3⟩ := h.var y o' hy'
      rw [hle.ν y v1]
      exact ⟨.inl v1, v2, v3.mono hle rfl⟩
  · intro y z o1 o2 hy hz hyz
    simp only [T.newV, look2_push] at hy hz
    by_cases e : t.n = y <;> by_cases e' : t.n = z
    · exact e.symm.trans e'
    · rw [if_neg e'] at hz
      obtain ⟨hz', hne⟩ := hdel z o2 hz
      rw [← e, hn, hle.ν z (h.var z o2 hz').1] at hyz
      exact absurd (h.inj x z ob o2 hx hz' hyz).symm hne
    · rw [if_neg e] at hy
      obtain ⟨hy', hne⟩ := hdel y o1 hy
      rw [← e', hn, hle.ν y (h.var y o1 hy').1] at hyz
      exact absurd (h.inj y x o1 ob hy' hx hyz) hne
    · rw [if_neg e] at hy
      rw [if_neg e'] at hz
      obtain ⟨hy', -⟩ := hdel y o1 hy
      obtain ⟨hz', -⟩ := hdel z o2 hz
      rw [hle.ν y (h.var y o1 hy').1, hle.ν z (h.var z o2 hz').1] at hyz
      exact h.inj y z o1 o2 hy' hz' hyz
  · intro i en e hi
    obtain ⟨h1, h2, h3⟩ := h.ids i en e hi
    exact ⟨.inl h1, h2, h3⟩
  · exact h.idinj
  · exact h.kept.mono hle

theorem del_upd {α : Type} (x : Nat) (o : α) : ∀ (s : List (Nat × α)), del x (upd x o s) = del x s
  | [] => rfl
  | p :: s => by
    have ih := del_upd x o s
    rw [show upd x o (p :: s) = (Bool.rec p (p.1, o) (Nat.beq p.1 x) : Nat × α) :: upd x o s from rfl]
    by_cases e : p.1 = x
    · rw [beq_true e]
      rw [show del x (((p.1, o) : Nat × α) :: upd x o s) = del x (upd x o s) from by simp [del, beq_true e], show del x (p :: s) = del x s from by simp [del, beq_true e]]
      exact ih
    · rw [beq_false e]
      rw [show del x (p :: upd x o s) = p :: del x (upd x o s) from by simp [del, beq_false e], show del x (p :: s) = p :: del x s from by simp [del, beq_false e], ih]
theorem del2_upd2 {α : Type} (x : Nat) (l : List (List (Nat × α))) (o : α) : del2 x (upd2 x o l) = del2 x l := by
  unfold del2 upd2
  rw [List.map_map]
  exact List.map_congr_left fun s _ => del_upd x o s

/-- append where the row has room -/
theorem memApp_in (hS : SR M g t) (h0 : argTypes[0]? = some sT) (h1 : argTypes[1]? = some xT) (hu : P.underlying sT = some (.slice e)) (hx : P.underlying xT = some (.slice e2)) (hi : P.info? e = some inf)
    (ty : TypeId) {x len ccap k : Nat} {cs ys : List AV} {yv : Value} {A : Array Value} (hl : look2 x t.vs = some (.cells cs)) (hbb : g.ν x < g.w.heap.size) (hz : ccap * inf.size ≤ csize g.w (g.ν x))
    (hlc : len * inf.size ≤ cs.length) (hY : SrcC P M g inf.size k ys yv A) (hfit : len + k ≤ ccap) (hone : ys.all AV.isCell = true) :
    ∃ g' rv, (Builtin.append_ argTypes ty #[.slice (some ⟨g.ν x, 0, none⟩) len ccap, yv]).run P g.w = .ok rv g'.w ∧ g.Le g' ∧
      VR M g' (.ms t.n inf.size 0 (len + k) (len + k)) rv ∧ SR M g' (T.newV { t with vs := del2 x t.vs } (.cells (cs.take (len * inf.size) ++ ys))) := by
  obtain ⟨ad, cY, rfl⟩ := hY.val
  obtain ⟨v1, v2, v3⟩ := hS.var x _ hl
  generalize hbv : g.ν x = b at *
  cases v3 with
  | cells cs b c cty fz hh hzz hlen hv =>
    have hcs : csize g.w b = c.size := by unfold csize; rw [hh]
    rw [hcs] at hz
    have hyl := hY.len
    have hAl : A.toList.length = k * inf.size := by simpa using hY.size
    have hkm := Nat.mul_le_mul_right inf.size hfit
    rw [Nat.add_mul] at hkm
    have honeA : ∀ w, w ∈ A.toList → w.oneCell' = true := by
      intro w hw
      obtain ⟨q, hq, rfl⟩ := List.mem_iff_getElem.mp hw
      have hq' : q < ys.length := by omega
      have h3 := (hY.row.2 q hq').oneCell (List.all_eq_true.mp hone _ (List.getElem_mem hq'))
      have hAs : q < A.size := by simpa using hq
      simp only [Array.getD, hAs, dite_true] at h3
      rw [← oneCell_eq, Array.getElem_toList]
      exact h3
    have hst := run_storeCells' P b (0 + len * inf.size) cty fz A.toList 0 c g.w hh hzz (by omega) honeA
    simp only [Nat.add_zero] at hst
    have hrun := run_append_in h0 h1 hu hx hi ty (some ⟨b, 0, none⟩) len ccap k ad cY A g.w (hY.run _ rfl) hfit
    simp only [addr_add, hst, Result.andThen_ok] at hrun
    rw [Nat.zero_add] at hrun
    have hwr : len * inf.size + A.toList.length ≤ c.size := by omega
    have hbs : b < g.w.heap.size := hbb
    have hcz := csize_cells (c' := writeAt c (len * inf.size) A.toList) (ty' := cty) (fz' := fz) hh (writeAt_size _ _ _)
    have hsle := g.le_setVar b (.cells (writeAt c (len * inf.size) A.toList) cty fz) (by rw [← hbv] at v2 ⊢; exact v2) hcz
    have hset := hS.setVar hl (.cells (cs.take (len * inf.size) ++ ys)) (.cells (writeAt c (len * inf.size) A.toList) cty fz) (by rw [hbv]; exact hcz) (by
      rw [hbv]
      refine .cells _ _ (writeAt c (len * inf.size) A.toList) cty fz ?_ (fun q hq => ?_) ?_ (fun q hq => ?_)
      · show (setBlock g.w b _).heap[b]? = _
        rw [setBlock_heap, if_pos ⟨rfl, hbs⟩]
      · have := hzz q (by simpa [writeAt_size] using hq)
        simp only [World.frozen?, hh] at this
        show (setBlock g.w b _).frozen? _ = _
        simp only [World.frozen?, setBlock_heap, hbs, and_self, if_true]
        exact this
      · rw [writeAt_size, List.length_append, List.length_take, hyl]; omega
      · rw [List.length_append, List.length_take, hyl] at hq
        rw [Array.getD_eq_getD_getElem?, writeAt_get? _ _ _ _ hwr]
        by_cases h1 : q < len * inf.size
        · rw [if_neg (by omega), List.getElem_append_left (by rw [List.length_take]; omega), List.getElem_take]
          have := (hv q (by omega)).mono hsle
          rwa [Array.getD_eq_getD_getElem?] at this
        · have hmin : min (len * inf.size) cs.length = len * inf.size := Nat.min_eq_left hlc
          rw [if_pos (by omega), List.getElem_append_right (by rw [List.length_take]; omega)]
          have := (hY.row.2 (q - len * inf.size) (by omega)).mono hsle
          rw [Array.getD_eq_getD_getElem?] at this
          simp only [List.length_take, hmin, Array.getElem?_toList]
          exact this)
    rw [hbv] at hset
    have hlk : look2 x (upd2 x (VObj.cells (cs.take (len * inf.size) ++ ys)) t.vs) = some (.cells (cs.take (len * inf.size) ++ ys)) := by rw [look2_upd2, if_pos rfl, hl]; rfl
    have hdup := hset.dup hlk
    have hν : (g.setVar b (.cells (writeAt c (len * inf.size) A.toList) cty fz)).ν x = b := hbv
    rw [hν] at hdup
    have hdd : ∀ (l : List VScope) (o : VObj), del2 x (upd2 x o l) = del2 x l := del2_upd2 x
    rw [show ({ t with vs := upd2 x (VObj.cells (cs.take (len * inf.size) ++ ys)) t.vs } : T).vs = _ from rfl] at hdup
    simp only [hdd] at hdup
    have hok1 : ∀ i, (g.setVar b (.cells (writeAt c (len * inf.size) A.toList) cty fz)).ok i → i < (g.setVar b (.cells (writeAt c (len * inf.size) A.toList) cty fz)).n := hset.hok
    refine ⟨_, _, hrun, hsle.trans (G.le_dup _ hok1 b), ?_, hdup⟩
    have hn : ((g.setVar b (.cells (writeAt c (len * inf.size) A.toList) cty fz)).dup b).ν t.n = b := by rw [← hS.n]; exact setAt_same _ _ _
    have := VR.ms (M := M) (g := (g.setVar b (.cells (writeAt c (len * inf.size) A.toList) cty fz)).dup b) t.n inf.size 0 (len + k) (len + k) ccap (.inr hS.n.symm) (Nat.le_refl _) hfit
      (by rw [hn]; show b < (setBlock g.w b _).heap.size; rw [setBlock_size]; exact hbs)
      (by
        rw [hn]
        show 0 + ccap * inf.size ≤ csize (setBlock g.w b _) b
        rw [hcz, hcs]; omega)
    rw [hn] at this
    exact this

end

end

end M2
end
section
namespace M2
open Go
open Go.MapKept

section
variable {P : Program} {M : Maps} {im : FuncId → Option Nat} {d : Nat} {g : G} {F : Fr} {a : Act} {o : Oper} {t t' : T} {v : AV} {call : CallF}

theorem sound_memApp (him : ∀ f x, im f = some x → M.fm x = f) (hF : FR M g d F a.tmps) (hS : SR M g t) {c : Call} {x y : Operand} {x' y' : Opd} {e e2 : TypeId} {z : AV} {s b : Nat}
    (hx : cmpOpd im d x = some x') (hy : cmpOpd im d y = some y') (hu : P.underlying (c.argTypes.getD 0 0) = some (.slice e)) (hu2 : P.underlying (c.argTypes.getD 1 0) = some (.slice e2)) (hn : c.argTypes.size = 2)
    (he : elemT P e = some (z, s, b)) (hb : 1 ≤ b) (hc : c.callee = .builtin .append) (hargs : c.args = #[x, y])
    (ho : o.op = .call c) (hr : memApp s b z (x'.get F) (y'.get F) t = .ok v t') : Done P M o a g v t' := by
  obtain ⟨i, zv, hi, hz, rfl, rfl, hk, hzl, hv⟩ := elemT_ok he
  have vx := opd_ok him hF hx
  have vy := opd_ok him hF hy
  obtain ⟨sT, h0⟩ : ∃ ty, c.argTypes[0]? = some ty := ⟨c.argTypes[0], by simp [hn]⟩
  obtain ⟨xT, h1⟩ : ∃ ty, c.argTypes[1]? = some ty := ⟨c.argTypes[1], by simp [hn]⟩
  have hu' : P.underlying sT = some (.slice e) := by rw [← hu]; congr 1; simp [Array.getD_eq_getD_getElem?, h0]
  have hu2' : P.underlying xT = some (.slice e2) := by rw [← hu2]; congr 1; simp [Array.getD_eq_getD_getElem?, h1]
  have hzs : i.size ≤ zv.cells.size := by have := ((hv M g).cells hk).1; omega
  have key : ∀ rv w', (Builtin.append_ c.argTypes o.type #[a.eval x, a.eval y]).run P g.w = .ok rv w' → (execOp a.eval o).run P g.w = .ok (.value rv) w' := by
    intro rv w' hrv
    simp [execOp, ho, resolve, hc, hargs, invoke, builtin, hrv]
  unfold memApp at hr
  split at hr
  · rename_i cs0 hap
    obtain ⟨A, hA⟩ := memCells_ok (P := P) hS hap vy
    obtain ⟨ad, cY, hyv⟩ := hA.val
    have hA0 : A = #[] := Array.eq_empty_of_size_eq_zero (by simpa using hA.size)
    have hgo : ∀ base len cap, a.eval x = .slice base len cap → len ≤ cap → (execOp a.eval o).run P g.w = .ok (.value (a.eval x)) g.w := by
      intro base len cap hxv hle
      apply key
      rw [hxv, hyv]
      rw [hyv] at hA
      have := run_append_in (P := P) h0 h1 hu' hu2' hi o.type base len cap 0 ad cY A g.w (hA.run _ rfl) (by omega)
      rw [this, hA0]
      cases base with
      | none => rfl
      | some q => simp [storeCells]
    split at hr
    · rename_i hp
      cases hr
      rw [hp] at vx
      generalize hxv : a.eval x = xv at *
      cases vx
      exact done_pure (hgo _ _ _ rfl (Nat.le_refl _)) .nils hS
    · rename_i hp
      cases hr
      rw [hp] at vx
      generalize hxv : a.eval x = xv at *
      cases vx with
      | sl0 b off sp => exact done_pure (hgo _ _ _ rfl (Nat.le_refl _)) (.sl0 b off sp) hS
    · rename_i id e' pos cap fl alt es hp
      cases hr
      rw [hp] at vx
      generalize hxv : a.eval x = xv at *
      have vx' := vx
      cases vx with
      | sl id e pos cap fl alt es b off ccap vs hid hcc hb' hoff hlen hv' hsz hc' hf =>
        exact done_pure (hgo _ _ _ rfl (by omega)) vx' hS
    · rename_i y0 e' pos len cap hp
      cases hr
      rw [hp] at vx
      generalize hxv : a.eval x = xv at *
      have vx' := vx
      cases vx with
      | ms x e pos len cap ccap hx hlen hcc hb hz' => exact done_pure (hgo _ _ _ rfl (by omega)) vx' hS
    · contradiction
  · rename_i k ys hap
    obtain ⟨A, hA⟩ := memCells_ok (P := P) hS hap vy
    split at hr
    · rename_i n cs t1 hold
      split at hr
      · rename_i hcond
        cases hr
        obtain ⟨hsz, -, hone⟩ := hcond
        have out : ∀ {base : Option Addr} {sCap : Nat} {B : Array Value} {t1 : T}, SR M g t1 → a.eval x = .slice base n sCap → SrcC P M g i.size n cs (.slice base n sCap) B → ¬ n + (k + 1) ≤ sCap →
            Done P M o a g (.ms t1.n i.size 0 (n + (k + 1)) (n + (k + 1))) (t1.newV (.cells (cs ++ ys))) := by
          intro base sCap B t1 hS1 hxv hB hfit
          obtain ⟨g', rv, r1, r2, r3, r4⟩ := memApp_out (P := P) hS1 h0 h1 hu' hu2' hi hz hzs hb o.type hB hA hfit hsz
          refine done_value (key _ _ ?_) r2 r3 r4
          rw [hxv]; exact r1
        unfold memOld at hold
        split at hold
        · rename_i hp
          cases hold
          rw [hp] at vx
          generalize hxv : a.eval x = xv at vx
          cases vx
          exact out hS hxv ((src_nil (P := P) (e := i.size)).toC fun x hx => by cases hx) (by omega)
        · rename_i hp
          cases hold
          rw [hp] at vx
          generalize hxv : a.eval x = xv at vx
          cases vx with
          | sl0 b off sp => exact out hS hxv ((src_sl0 (P := P) (e := i.size)).toC fun x hx => by cases hx) (by omega)
        · rename_i id e' pos cap fl alt es hp
          split at hold
          · cases hold
          · split at hold
            · rename_i hcc
              obtain ⟨rfl, hcap, hkn⟩ := hcc
              cases hold
              rw [hp] at vx
              generalize hxv : a.eval x = xv at vx
              obtain ⟨B, hB⟩ := src_sl (P := P) vx
              cases vx with
              | sl id e pos cap fl alt es b off ccap vs hid hcc hb' hoff hlen hv' hsz' hc' hf =>
                simp at hcc
                exact out hS hxv (hB.toC (all_known hkn)) (by omega)
            · cases hold
        · rename_i y0 e' pos len cap hp
          split at hold
          · rename_i cs0 hlk
            split at hold
            · rename_i hcc
              obtain ⟨rfl, rfl, hle⟩ := hcc
              cases hold
              rw [hp] at vx
              generalize hxv : a.eval x = xv at vx
              have vx' := vx
              cases vx with
              | ms x0 e pos len cap ccap hxn hlen hcc hbb hzz =>
                by_cases hfit : n + (k + 1) ≤ ccap
                · obtain ⟨g', rv, r1, r2, r3, r4⟩ := memApp_in (P := P) hS h0 h1 hu' hu2' hi o.type hlk hbb (by omega) hle hA hfit hone
                  refine done_value (key _ _ ?_) r2 r3 r4
                  rw [hxv]; exact r1
                · obtain ⟨B, hB⟩ := src_ms (P := P) hS hlk vx' (by omega)
                  rw [List.drop_zero] at hB
                  have hS1 : SR M g { t with vs := del2 y0 t.vs } := hS.fewer rfl (del2_sub _ _) (List.Sublist.refl _)
                  exact out (t1 := { t with vs := del2 y0 t.vs }) hS1 hxv hB hfit
            · cases hold
          · cases hold
        · cases hold
      · contradiction
    · contradiction
  · contradiction

theorem replicate_flat_get {z : List AV} {n q : Nat} (hq : q < n * z.length) : ((List.replicate n z).flatten)[q]? = z[q % z.length]? := by
  induction n generalizing q with
  | zero => simp at hq
  | succ n ih =>
    rw [List.replicate_succ, List.flatten_cons]
    have hp : 0 < z.length := by
      rcases Nat.eq_zero_or_pos z.length with h | h
      · rw [h] at hq; simp at hq
      · exact h
    by_cases h : q < z.length
    · rw [List.getElem?_append_left h, Nat.mod_eq_of_lt h]
    · rw [List.getElem?_append_right (by omega), ih (by rw [Nat.succ_mul] at hq; omega)]
      congr 1
      conv => rhs; rw [show q = q - z.length + z.length by omega, Nat.add_mod_right]

theorem sound_memMkS (him : ∀ f x, im f = some x → M.fm x = f) (hF : FR M g d F a.tmps) (hS : SR M g t) {ty e : TypeId} {ln cp : Operand} {l' c' : Opd} {z : AV} {s b : Nat}
    (hu : P.underlying ty = some (.slice e)) (he : elemT P e = some (z, s, b)) (h1 : cmpOpd im d ln = some l') (h2 : cmpOpd im d cp = some c')
    (ho : o.op = .makeSlice ty ln cp) (hr : memMkS s b z (l'.get F) (c'.get F) t = .ok v t') : Done P M o a g v t' := by
  obtain ⟨i, zv, hi, hz, rfl, rfl, hk, hzl, hv⟩ := elemT_ok he
  have vl := opd_ok him hF h1
  have vc := opd_ok him hF h2
  unfold memMkS at hr
  split at hr
  · rename_i l c el ec
    split at hr
    · rename_i hcond
      obtain ⟨hl0, hlc, hb, hcb⟩ := hcond
      cases hr
      rw [el] at vl
      rw [ec] at vc
      generalize hlv : a.eval ln = lv at vl
      generalize hcv : a.eval cp = cv at vc
      cases vl
      cases vc
      have hvz := hv M g
      have hcz := hvz.cells hk
      have hsz : zv.cells.size = i.size := by omega
      have wl : IntKind.i64.wrap l = l := wrap_id (by omega) (by omega)
      have wc : IntKind.i64.wrap c = c := wrap_id (by omega) (by omega)
      have hlen : ((List.replicate c.toNat z.cells).flatten).length = c.toNat * i.size := by simp [hzl]
      have hnew := hS.newV (cs := (List.replicate c.toNat z.cells).flatten) (c := (Array.range (c.toNat * i.size)).map (fun q => zv.cells[q % i.size]!)) e (by rw [hlen]; simp) (fun q hq => by
        rw [hlen] at hq
        have hg := replicate_flat_get (z := z.cells) (n := c.toNat) (q := q) (by rw [hzl]; exact hq)
        have hpos : 0 < i.size := by
          rcases Nat.eq_zero_or_pos i.size with h | h
          · rw [h] at hq; simp at hq
          · exact h
        have hm : q % i.size < i.size := Nat.mod_lt _ hpos
        rw [hzl] at hg
        have e1 : ((List.replicate c.toNat z.cells).flatten)[q]'(by rw [hlen]; exact hq) = z.cells[q % i.size]'(by omega) := by
          rw [List.getElem?_eq_getElem (by rw [hlen]; exact hq), List.getElem?_eq_getElem (by omega)] at hg
          exact Option.some.inj hg
        rw [e1]
        have e2 : ((Array.range (c.toNat * i.size)).map (fun q => zv.cells[q % i.size]!)).getD q undef = zv.cells.getD (q % i.size) undef := by
          have hzg := zeros_get zv.cells c.toNat q (by rw [hsz]; exact hq)
          rw [hsz] at hzg
          rw [Array.getD_eq_getD_getElem?, Array.getD_eq_getD_getElem?, hzg]
        rw [e2]
        exact hcz.2 (q % i.size) (by omega))
      have hle := g.le_addVar hS.hok ((Array.range (c.toNat * i.size)).map (fun q => zv.cells[q % i.size]!)) e
      have hn : (g.addVar ((Array.range (c.toNat * i.size)).map (fun q => zv.cells[q % i.size]!)) e).ν t.n = g.w.heap.size := by rw [← hS.n]; exact setAt_same _ _ _
      have hms := VR.ms (M := M) (g := g.addVar ((Array.range (c.toNat * i.size)).map (fun q => zv.cells[q % i.size]!)) e) t.n i.size 0 l.toNat c.toNat c.toNat (.inr hS.n.symm) (by omega) (Nat.le_refl _)
        (by rw [hn]; simp [G.addVar]) (by
          rw [hn]
          unfold csize
          rw [show (g.addVar ((Array.range (c.toNat * i.size)).map (fun q => zv.cells[q % i.size]!)) e).w.heap[g.w.heap.size]? = some (.cells ((Array.range (c.toNat * i.size)).map (fun q => zv.cells[q % i.size]!)) e (0, 0)) from heap_alloc_new]
          simp)
      rw [hn] at hms
      refine done_value (g' := g.addVar ((Array.range (c.toNat * i.size)).map (fun q => zv.cells[q % i.size]!)) e) ?_ hle hms hnew.1
      have hc0 : 0 ≤ c := by omega
      have hm : ((i.bytes : Int) * c) ≤ 2 ^ 48 := hb
      have ntc : (decide (c < 0) || decide ((i.bytes : Int) * c > 2 ^ 48)) = false := by simp; omega
      simp only [execOp, ho, hlv, hcv, Instr.makeSlice, Sem.run_bind, run_underlying hu, Result.andThen_ok, asInt, run_asIntOf, Sem.run_pure, run_typeInfo hi, wl, wc]
      rw [if_neg (by simp; omega)]
      simp only [Sem.run_bind, run_askRoom, Result.andThen_ok, run_sizeOf hi]
      by_cases h0 : c.toNat * i.size = 0
      · simp only [h0, if_true, Sem.run_pure, Result.andThen_ok, newRow, Sem.run_bind, run_newObj]
        have e0 : Array.range 0 = #[] := rfl
        simp only [e0, Array.map_empty]
        rfl
      · simp only [h0, if_false, Sem.run_bind, run_zeroValue hi hz, Result.andThen_ok, Sem.run_pure, newRow, run_newObj, hsz]
        rfl
    · contradiction
  · contradiction

/-! #### maps -/

def G.addOb (g : G) (ob : Obj) : G := { n := g.n + 1, ok := fun i => g.ok i ∨ i = g.n, ρ := g.ρ, ν := setAt g.ν g.n g.w.heap.size, μ := setAt g.μ g.w.heap.size .var, w := g.w.alloc ob }

theorem heap_alloc_lt' {w : World} {ob : Obj} {b : Nat} (h : b < w.heap.size) : (w.alloc ob).heap[b]? = w.heap[b]? := (heap_alloc w ob).2 b h

theorem G.le_addOb (g : G) (hok : ∀ i, g.ok i → i < g.n) (ob : Obj) : g.Le (g.addOb ob) where
  n := Nat.le_succ _
  ok _ hi := .inl hi
  new _ hi := hi.imp (fun q => q) (fun q => Nat.le_of_eq q.symm)
  ρ _ _ := rfl
  ν i hi := setAt_ne _ _ (Nat.ne_of_lt (hok i hi))
  size := by
    show g.w.heap.size ≤ (g.w.alloc ob).heap.size
    rw [show (g.w.alloc ob).heap = g.w.heap.push ob from rfl, Array.size_push]; omega
  lim b k hb hk := ⟨k, by simp [G.addOb, setAt_ne _ _ (Nat.ne_of_lt hb), hk], Nat.le_refl _, fun off _ => cell?_of_heap (heap_alloc_lt' hb)⟩
  oth b hb _ := ⟨by simp [G.addOb, setAt_ne _ _ (Nat.ne_of_lt hb)], heap_alloc_lt' hb⟩
  os := rfl
  tape := rfl
  output := rfl
  sz b hb := csize_of_heap (heap_alloc_lt' hb)

theorem SR.newO (h : SR M g t) (ob : Obj) (o : VObj) (hr : ObjR M (g.addOb ob) o g.w.heap.size) : SR M (g.addOb ob) (t.newV o) := by
  have hle := g.le_addOb h.hok ob
  have hn : (g.addOb ob).ν t.n = g.w.heap.size := by rw [← h.n]; exact setAt_same _ _ _
  constructor
  · simp [G.addOb, T.newV, h.n]
  · exact h.wf.newV _
  · intro i hi
    rcases hi with hi | hi
    · exact Nat.lt_succ_of_lt (h.okn i hi)
    · rw [hi, h.n]; exact Nat.lt_succ_self _
  · intro x o' hx
    simp only [T.newV, look2_push] at hx
    by_cases e : t.n = x
    · subst e
      simp at hx
      subst hx
      refine ⟨.inr h.n.symm, ?_, ?_⟩
      · rw [hn]; exact setAt_same _ _ _
      · rw [hn]; exact hr
    · rw [if_neg e] at hx
      obtain ⟨h1, h2, h3⟩ := h.var x o' hx
      refine ⟨.inl h1, ?_, ?_⟩
      · rw [hle.ν x h1]
        simp only [G.addOb]
        rw [setAt_ne _ _ (Nat.ne_of_lt h3.lt)]; exact h2
      · rw [hle.ν x h1]
        exact h3.mono hle (heap_alloc_lt' h3.lt)
  · intro x y o1 o2 hx hy hxy
    simp only [T.newV, look2_push] at hx hy
    by_cases e : t.n = x <;> by_cases e' : t.n = y
    · exact e.symm.trans e'
    · rw [if_neg e'] at hy
      rw [← e, hn, hle.ν y (h.var y o2 hy).1] at hxy
      exact absurd hxy (Nat.ne_of_gt (h.varLt hy))
    · rw [if_neg e] at hx
      rw [← e', hn, hle.ν x (h.var x o1 hx).1] at hxy
      exact absurd hxy (Nat.ne_of_lt (h.varLt hx))
    · rw [if_neg e] at hx
      rw [if_neg e'] at hy
      rw [hle.ν x (h.var x o1 hx).1, hle.ν y (h.var y o2 hy).1] at hxy
      exact h.inj x y o1 o2 hx hy hxy
  · intro i en e hi
    obtain ⟨h1, h2, c', ty', fz', h3, h4, h5⟩ := h.ids i en e hi
    have hb : (g.ρ i).block < g.w.heap.size := (Array.getElem?_eq_some_iff.mp h3).1
    refine ⟨.inl h1, ?_, c', ty', fz', ?_, fun off ho => ?_, h5⟩
    · simp only [G.addOb]
      rw [setAt_ne _ _ (Nat.ne_of_lt hb)]; exact h2
    · exact (heap_alloc_lt' hb).trans h3
    · have := h4 off ho
      rw [← this]
      exact frozen_of_heap (heap_alloc_lt' hb)
  · exact h.idinj
  · exact h.kept.mono hle

theorem sound_mkmap (hS : SR M g t) {ty : TypeId} (ho : o.op = .makeMap ty none) : Done P M o a g (.mp t.n) (t.newV (.map [])) := by
  have hnew := hS.newO (.map #[] 0) (.map []) (.map [] _ #[] 0 (heap_alloc _ _).1 rfl (fun i hi => absurd hi (by simp)) (fun i hi => absurd hi (by simp)))
  have hn : (g.addOb (.map #[] 0)).ν t.n = g.w.heap.size := by rw [← hS.n]; exact setAt_same _ _ _
  have hv := VR.mp (M := M) (g := g.addOb (.map #[] 0)) t.n (.inr hS.n.symm)
  rw [hn] at hv
  refine done_value (g' := g.addOb (.map #[] 0)) ?_ (g.le_addOb hS.hok _) hv hnew
  simp [execOp, ho, Instr.makeMap]
  rfl

theorem keyT_ok {k : TypeId} {kk : KK} (h : keyT P k = some kk) : ∃ d, P.underlying k = some d ∧ ∀ (x : AV) (xv : Value) (g : G), keyIs kk x = true → VR M g x xv → IsKey d xv := by
  unfold keyT at h
  split at h
  · rename_i e
    cases h
    refine ⟨_, e, fun x xv g hx hv => ?_⟩
    cases x <;> simp [keyIs] at hx
    cases hv; trivial
  · rename_i i e
    cases h
    refine ⟨_, e, fun x xv g hx hv => ?_⟩
    cases x <;> simp [keyIs] at hx
    cases hv; exact hx
  · rename_i e
    cases h
    refine ⟨_, e, fun x xv g hx hv => ?_⟩
    cases x <;> simp [keyIs] at hx
    cases hv; trivial
  · cases h

/-- keys that our comparing knows -/
theorem keyEq_ok {x y : AV} {b : Bool} (h : keyEq x y = some b) {xv yv : Value} (hx : VR M g x xv) (hy : VR M g y yv) :
    (∃ s u, xv = .string s ∧ yv = .string u ∧ b = (s == u)) ∨ (∃ k p q, xv = .int k p ∧ yv = .int k q ∧ b = (p == q)) ∨ (∃ p q, xv = .bool p ∧ yv = .bool q ∧ b = (p == q)) := by
  unfold keyEq at h
  split at h
  · cases h
    cases hx; cases hy
    rename_i s u
    refine .inl ⟨_, _, rfl, rfl, ?_⟩
    show (s == u) = ((⟨s.toArray⟩ : ByteArray) == ⟨u.toArray⟩)
    rw [Bool.eq_iff_iff, bytes_beq]
    simp
  · split at h
    · rename_i e
      cases h
      cases hx; cases hy
      subst e
      exact .inr (.inl ⟨_, _, _, rfl, rfl, rfl⟩)
    · cases h
  · cases h
    cases hx; cases hy
    exact .inr (.inr ⟨_, _, rfl, rfl, rfl⟩)
  · cases h

/-- keys of one kind, found -/
theorem findA_ok {k : AV} {kv : Value} (hk : VR M g k kv) {dd : TypeDesc} (hkd : IsKey dd kv) : ∀ (l : List (AV × AV)) (ms : List MapEntry) (i : Nat) (r : Option (Nat × AV)), findA k l i = some r → ms.length = l.length →
    (∀ j (h : j < l.length) (h' : j < ms.length), VR M g l[j].1 ms[j].key ∧ VR M g l[j].2 ms[j].val) →
    match r with
    | none => Instr.findNow dd kv ms i = some none
    | some (j, u) => i ≤ j ∧ ∃ (h : j - i < ms.length), Instr.findNow dd kv ms i = some (some (j, ms[j - i].val)) ∧ VR M g u ms[j - i].val ∧ ms[j - i].key = kv
  | [], ms, i, r, h, hl, _ => by
    have : ms = [] := List.length_eq_zero_iff.mp hl
    subst this
    cases h
    rfl
  | p :: l, ms, i, r, h, hl, hv => by
    cases ms with
    | nil => cases hl
    | cons m ms =>
      unfold findA at h
      have h0 := hv 0 (by simp) (by simp)
      simp only [List.getElem_cons_zero] at h0
      have hsame : ∀ b, keyEq k p.1 = some b → Instr.sameNow dd kv m.key = some b ∧ (b = true → m.key = kv) := by
        intro b hb
        rcases keyEq_ok hb hk h0.1 with ⟨s, u, rfl, e2, rfl⟩ | ⟨q, x, y, rfl, e2, rfl⟩ | ⟨x, y, rfl, e2, rfl⟩
        · rw [e2]
          cases dd <;> simp_all [IsKey, Instr.sameNow]
          intro hh; exact (bytes_beq _ _ |>.mp hh).symm
        · rw [e2]
          cases dd <;> simp_all [IsKey, Instr.sameNow]
        · rw [e2]
          cases dd <;> simp_all [IsKey, Instr.sameNow]
      split at h
      · rename_i hb
        cases h
        obtain ⟨s1, s2⟩ := hsame true hb
        refine ⟨Nat.le_refl _, by simp, ?_, ?_, ?_⟩
        · simp [Instr.findNow, s1]
        · simpa using h0.2
        · simpa using s2 rfl
      · rename_i hb
        obtain ⟨s1, -⟩ := hsame false hb
        have ih := findA_ok hk hkd l ms (i + 1) r h (by simpa using hl) (fun j h1 h2 => by
          have := hv (j + 1) (by simpa using h1) (by simpa using h2)
          simpa using this)
        cases r with
        | none => simpa [Instr.findNow, s1] using ih
        | some ju =>
          obtain ⟨j, u⟩ := ju
          obtain ⟨i1, i2, i3, i4, i5⟩ := ih
          have e : j - i = (j - (i + 1)) + 1 := by omega
          refine ⟨by omega, by simp; omega, ?_, ?_, ?_⟩
          · simp only [e, List.getElem_cons_succ]
            simpa [Instr.findNow, s1] using i3
          · simp only [e, List.getElem_cons_succ]; exact i4
          · simp only [e, List.getElem_cons_succ]; exact i5
      · cases h

end

end M2
end
section
namespace M2
open Go
open Go.MapKept

section
variable {P : Program} {M : Maps} {im : FuncId → Option Nat} {d : Nat} {g : G} {F : Fr} {a : Act} {o : Oper} {t t' : T} {v : AV} {call : CallF}

theorem entries_ok (hS : SR M g t) {m : AV} {es : List (AV × AV)} (h : memEntries t m = some es) {mv : Value} (hm : VR M g m mv) :
    (mv = .map none ∧ es = []) ∨ ∃ r ms clock, mv = .map (some r) ∧ g.w.heap[r]? = some (.map ms clock) ∧ ms.size = es.length ∧
      ∀ j (h : j < es.length) (h' : j < ms.size), VR M g es[j].1 ms[j].key ∧ VR M g es[j].2 ms[j].val := by
  unfold memEntries at h
  split at h
  · cases h; cases hm; exact .inl ⟨rfl, rfl⟩
  · rename_i x
    split at h
    · rename_i es' hl
      cases h
      obtain ⟨h1, h2, h3⟩ := hS.var x _ hl
      generalize hb : g.ν x = b at *
      cases hm with
      | mp x hx =>
        cases h3 with
        | map es b ms clock hh hl hk hv => exact .inr ⟨_, ms, clock, rfl, by rw [hb]; exact hh, hl, fun j h h' => ⟨hk j h h', hv j h h'⟩⟩
    · cases h
  · cases h

section
variable {w : World} {mty kt et : TypeId} {dd : TypeDesc} {r : Nat} {ms : Array MapEntry} {clock j : Nat} {key u value : Value} {ti : TypeInfo} {zv : Value}

theorem run_lookup_some (hm : P.underlying mty = some (.map kt et)) (hd : P.underlying kt = some dd) (hb : w.heap[r]? = some (.map ms clock)) (hk : IsKey dd key) (h : Instr.findNow dd key ms.toList 0 = some (some (j, u))) (ok : Bool) :
    (Instr.lookup mty (.map (some r)) key ok).run P w = .ok (if ok then .tuple #[u, .bool true] else u) w := by
  simp [Instr.lookup, run_underlying hm, run_getObj_map hb, run_checkKey hd hk, run_findKey hd h, Result.andThen]
theorem run_lookup_none (hm : P.underlying mty = some (.map kt et)) (hd : P.underlying kt = some dd) (hb : w.heap[r]? = some (.map ms clock)) (hk : IsKey dd key) (h : Instr.findNow dd key ms.toList 0 = some none)
    (hi : P.info? et = some ti) (hz : ti.zero = some zv) (ok : Bool) :
    (Instr.lookup mty (.map (some r)) key ok).run P w = .ok (if ok then .tuple #[zv, .bool false] else zv) w := by
  simp [Instr.lookup, run_underlying hm, run_getObj_map hb, run_checkKey hd hk, run_findKey hd h, run_zeroValue hi hz, Result.andThen]
theorem run_lookup_nil (hm : P.underlying mty = some (.map kt et)) (hd : P.underlying kt = some dd) (hk : IsKey dd key) (hi : P.info? et = some ti) (hz : ti.zero = some zv) (ok : Bool) :
    (Instr.lookup mty (.map none) key ok).run P w = .ok (if ok then .tuple #[zv, .bool false] else zv) w := by
  have h : Instr.findNow dd key [] 0 = some none := rfl
  simp [Instr.lookup, run_underlying hm, run_checkKey hd hk, run_findKey hd h, run_zeroValue hi hz, Result.andThen]
theorem run_mapUpdate_old {e0 : MapEntry} (hm : P.underlying mty = some (.map kt et)) (hd : P.underlying kt = some dd) (hb : w.heap[r]? = some (.map ms clock)) (hk : IsKey dd key) (h : Instr.findNow dd key ms.toList 0 = some (some (j, u)))
    (hj : ms[j]? = some e0) (h0 : e0.key = key) :
    (Instr.mapUpdate mty (.map (some r)) key value).run P w = .ok () (setBlock w r (.map (ms.modify j fun e => { e with key, val := value }) clock)) := by
  simp [Instr.mapUpdate, run_underlying hm, run_getObj_map hb, run_checkKey hd hk, run_findKey hd h, hj, h0, run_keyThatStays hk, run_setObj_map _ hb, Result.andThen]
  rfl
theorem run_mapUpdate_new (hm : P.underlying mty = some (.map kt et)) (hd : P.underlying kt = some dd) (hb : w.heap[r]? = some (.map ms clock)) (hk : IsKey dd key) (h : Instr.findNow dd key ms.toList 0 = some none) :
    (Instr.mapUpdate mty (.map (some r)) key value).run P w = .ok () (setBlock w r (.map (ms.push { key, val := value, born := clock }) (clock + 1))) := by
  simp [Instr.mapUpdate, run_underlying hm, run_getObj_map hb, run_checkKey hd hk, run_findKey hd h, run_setObj_map _ hb, Result.andThen]
  rfl
end

theorem sound_lkp (him : ∀ f x, im f = some x → M.fm x = f) (hF : FR M g d F a.tmps) (hS : SR M g t) {ty k e : TypeId} {x i : Operand} {x' i' : Opd} {z : AV} {ok : Bool} {kk : KK}
    (hu : P.underlying ty = some (.map k e)) (hz : zeroOf P e = some z) (hx : cmpOpd im d x = some x') (hi : cmpOpd im d i = some i') (hk : keyT P k = some kk)
    (ho : o.op = .lookup ty x i ok) (hr : memLkp kk z ok (x'.get F) (i'.get F) t = .ok v t') : Done P M o a g v t' := by
  have vx := opd_ok him hF hx
  have vi := opd_ok him hF hi
  obtain ⟨ti, zv, hti, hzv, -, hzr⟩ := zeroOf_ok hz
  obtain ⟨dd, hd, hkey⟩ := keyT_ok (M := M) hk
  have pair : ∀ {p : AV} {pv : Value} (b : Bool), VR M g p pv → VR M g (Bool.rec p (.tup [p, .bool b]) ok) (if ok then .tuple #[pv, .bool b] else pv) := by
    intro p pv b hp
    cases ok with
    | false => exact hp
    | true =>
      refine .tup [p, .bool b] #[pv, .bool b] rfl fun q hq => ?_
      match q, hq with
      | 0, _ => exact hp
      | 1, _ => exact .bool b
  unfold memLkp at hr
  split at hr
  · rename_i es hes
    cases hkk : keyIs kk (i'.get F) with
    | false => rw [hkk] at hr; cases hr
    | true =>
      rw [hkk] at hr
      simp only at hr
      have hik := hkey _ _ g hkk vi
      have hgo : ∀ rv, (Instr.lookup ty (a.eval x) (a.eval i) ok).run P g.w = .ok rv g.w → (execOp a.eval o).run P g.w = .ok (.value rv) g.w := by
        intro rv h
        simp [execOp, ho, h]
      rcases entries_ok hS hes vx with ⟨hxv, rfl⟩ | ⟨r, ms, clock, hxv, hh, hl, hv⟩
      · rw [hxv] at hgo
        cases hr
        exact done_pure (hgo _ (run_lookup_nil hu hd hik hti hzv ok)) (pair false (hzr M g)) hS
      · rw [hxv] at hgo
        cases hf : findA (i'.get F) es 0 with
        | none => rw [hf] at hr; cases hr
        | some r0 =>
          have hfk := findA_ok vi hik es ms.toList 0 r0 hf (by simpa using hl) (fun j h h' => by
            have := hv j h (by simpa using h')
            simpa using this)
          rw [hf] at hr
          cases r0 with
          | none =>
            cases hr
            exact done_pure (hgo _ (run_lookup_none hu hd hh hik hfk hti hzv ok)) (pair false (hzr M g)) hS
          | some ju =>
            obtain ⟨j, q⟩ := ju
            cases hr
            obtain ⟨-, f2, f3, f4, -⟩ := hfk
            exact done_pure (hgo _ (run_lookup_some hu hd hh hik f3 ok)) (pair true f4) hS
  · cases hr

theorem csize_map {w : World} {b : Nat} {ms ms' : Array MapEntry} {cl cl' : Nat} (h : w.heap[b]? = some (.map ms cl)) : csize (setBlock w b (.map ms' cl')) b = csize w b := by
  have hb : b < w.heap.size := (Array.getElem?_eq_some_iff.mp h).1
  unfold csize
  rw [setBlock_heap, if_pos ⟨rfl, hb⟩, h]

theorem sound_mup (him : ∀ f x, im f = some x → M.fm x = f) (hF : FR M g d F a.tmps) (hS : SR M g t) {ty k e : TypeId} {x i u : Operand} {x' i' u' : Opd} {kk : KK}
    (hu : P.underlying ty = some (.map k e)) (hx : cmpOpd im d x = some x') (hi : cmpOpd im d i = some i') (hv : cmpOpd im d u = some u') (hk : keyT P k = some kk)
    (ho : o.op = .mapUpdate ty x i u) (hr : memMup kk (x'.get F) (i'.get F) (u'.get F) t = .ok v t') : Done P M o a g v t' := by
  have vx := opd_ok him hF hx
  have vi := opd_ok him hF hi
  have vu := opd_ok him hF hv
  obtain ⟨dd, hd, hkey⟩ := keyT_ok (M := M) hk
  have hgo : ∀ w', (Instr.mapUpdate ty (a.eval x) (a.eval i) (a.eval u)).run P g.w = .ok () w' → (execOp a.eval o).run P g.w = .ok .skip w' := by
    intro w' h
    simp [execOp, ho, h]
  unfold memMup at hr
  split at hr
  · rename_i m hm
    split at hr
    · rename_i es hl
      obtain ⟨x1, x2, x3⟩ := hS.var m _ hl
      rw [hm] at vx
      generalize hxv : a.eval x = xv at vx hgo
      generalize hbb : g.ν m = b at x2 x3
      cases vx with
      | mp m hmn =>
        rw [hbb] at hgo
        cases hkk : keyIs kk (i'.get F) with
        | false => rw [hkk] at hr; cases hr
        | true =>
          rw [hkk] at hr
          simp only at hr
          have hik := hkey _ _ g hkk vi
          cases x3 with
          | map es b ms clock hh hlen hks hvs =>
            have hbs : b < g.w.heap.size := (Array.getElem?_eq_some_iff.mp hh).1
            cases hf : findA (i'.get F) es 0 with
            | none => rw [hf] at hr; cases hr
            | some r0 =>
              have hfk := findA_ok vi hik es ms.toList 0 r0 hf (by simpa using hlen) (fun j h h' => by
                have h'' : j < ms.size := by simpa using h'
                simpa using ⟨hks j h h'', hvs j h h''⟩)
              rw [hf] at hr
              cases r0 with
              | none =>
                cases hr
                have hcz := csize_map (ms' := ms.push { key := a.eval i, val := a.eval u, born := clock }) (cl' := clock + 1) hh
                have hle := g.le_setVar b (.map (ms.push { key := a.eval i, val := a.eval u, born := clock }) (clock + 1)) x2 hcz
                refine done_skip (g' := g.setVar b (.map (ms.push { key := a.eval i, val := a.eval u, born := clock }) (clock + 1))) (hgo _ (run_mapUpdate_new hu hd hh hik hfk)) hle ?_
                have := hS.setVar hl (.map (es ++ [(i'.get F, u'.get F)])) (.map (ms.push { key := a.eval i, val := a.eval u, born := clock }) (clock + 1)) (by rw [hbb]; exact hcz) (by
                  rw [hbb]
                  refine .map _ _ (ms.push { key := a.eval i, val := a.eval u, born := clock }) (clock + 1) ?_ (by simp [hlen]) (fun q hq hq' => ?_) (fun q hq hq' => ?_)
                  · show (setBlock g.w b _).heap[b]? = _
                    rw [setBlock_heap, if_pos ⟨rfl, hbs⟩]
                  · by_cases h1 : q < es.length
                    · rw [List.getElem_append_left h1, Array.getElem_push_lt (by omega)]
                      exact (hks q h1 (by omega)).mono hle
                    · have hqe : q = ms.size := by simp at hq'; omega
                      subst hqe
                      simp only [Array.getElem_push_eq]
                      rw [List.getElem_append_right (by omega)]
                      simp only [hlen, Nat.sub_self, List.getElem_cons_zero]
                      exact vi.mono hle
                  · by_cases h1 : q < es.length
                    · rw [List.getElem_append_left h1, Array.getElem_push_lt (by omega)]
                      exact (hvs q h1 (by omega)).mono hle
                    · have hqe : q = ms.size := by simp at hq'; omega
                      subst hqe
                      simp only [Array.getElem_push_eq]
                      rw [List.getElem_append_right (by omega)]
                      simp only [hlen, Nat.sub_self, List.getElem_cons_zero]
                      exact vu.mono hle)
                rw [hbb] at this
                exact this
              | some ju =>
                obtain ⟨j, q0⟩ := ju
                cases hr
                obtain ⟨-, f2, f3, f4, f5⟩ := hfk
                have hjl : j < ms.size := by simpa using f2
                have hjm : ms[j]? = some ms[j] := Array.getElem?_eq_getElem hjl
                have hjk : (ms[j]).key = a.eval i := by simpa using f5
                have hcz := csize_map (ms' := ms.modify j fun e => { e with key := a.eval i, val := a.eval u }) (cl' := clock) hh
                have hle := g.le_setVar b (.map (ms.modify j fun e => { e with key := a.eval i, val := a.eval u }) clock) x2 hcz
                refine done_skip (g' := g.setVar b (.map (ms.modify j fun e => { e with key := a.eval i, val := a.eval u }) clock)) (hgo _ (run_mapUpdate_old hu hd hh hik f3 hjm hjk)) hle ?_
                have := hS.setVar hl (.map (es.set j (i'.get F, u'.get F))) (.map (ms.modify j fun e => { e with key := a.eval i, val := a.eval u }) clock) (by rw [hbb]; exact hcz) (by
                  rw [hbb]
                  refine .map _ _ (ms.modify j fun e => { e with key := a.eval i, val := a.eval u }) clock ?_ (by simp [hlen]) (fun q hq hq' => ?_) (fun q hq hq' => ?_)
                  · show (setBlock g.w b _).heap[b]? = _
                    rw [setBlock_heap, if_pos ⟨rfl, hbs⟩]
                  · simp only [List.length_set] at hq
                    by_cases h1 : j = q
                    · subst h1
                      simp only [List.getElem_set_self, Array.getElem_modify, if_true]
                      exact vi.mono hle
                    · simp only [List.getElem_set_ne h1, Array.getElem_modify, if_neg h1]
                      exact (hks q hq (by omega)).mono hle
                  · simp only [List.length_set] at hq
                    by_cases h1 : j = q
                    · subst h1
                      simp only [List.getElem_set_self, Array.getElem_modify, if_true]
                      exact vu.mono hle
                    · simp only [List.getElem_set_ne h1, Array.getElem_modify, if_neg h1]
                      exact (hvs q hq (by omega)).mono hle)
                rw [hbb] at this
                exact this
    · cases hr
  · cases hr

theorem sound_memLen (him : ∀ f x, im f = some x → M.fm x = f) (hF : FR M g d F a.tmps) (hS : SR M g t) {c : Call} {x : Operand} {y : Opd} {k e : TypeId}
    (h : cmpOpd im d x = some y) (hu : P.underlying (c.argTypes.getD 0 0) = some (.map k e)) (hn : c.argTypes.size = 1) (hc : c.callee = .builtin .len) (hargs : c.args = #[x])
    (ho : o.op = .call c) (hr : memLen (y.get F) t = .ok v t') : Done P M o a g v t' := by
  have vx := opd_ok him hF h
  obtain ⟨ty, hty⟩ : ∃ ty, c.argTypes[0]? = some ty := ⟨c.argTypes[0], by simp [hn]⟩
  have hu' : P.underlying ty = some (.map k e) := by
    rw [← hu]; congr 1; simp [Array.getD_eq_getD_getElem?, hty]
  have key : ∀ rv, (Builtin.len_ c.argTypes o.type #[a.eval x]).run P g.w = .ok rv g.w → (execOp a.eval o).run P g.w = .ok (.value rv) g.w := by
    intro rv hrv
    simp [execOp, ho, resolve, hc, hargs, invoke, builtin, hrv]
  unfold memLen at hr
  split at hr
  · rename_i es hes
    cases hr
    rcases entries_ok hS hes vx with ⟨hxv, rfl⟩ | ⟨r, ms, clock, hxv, hh, hl, -⟩
    · rw [hxv] at key
      exact done_pure (v' := .int .i64 0) (key _ (by simp [Builtin.len_, hty, run_underlying hu', goInt])) (.int _ _) hS
    · rw [hxv] at key
      refine done_pure (v' := .int .i64 ms.size) (key _ (by simp [Builtin.len_, hty, run_underlying hu', goInt, run_getObj_map hh])) ?_ hS
      rw [hl]; exact .int _ _
  · cases hr

/-! #### bytes to a string -/

theorem bytesA_ok : ∀ (es : List AV) (s : List UInt8), bytesA es = some s → ∃ ns : List Nat, es = ns.map (fun n => AV.int .u8 (Int.ofNat n)) ∧ s = ns.map UInt8.ofNat
  | [], s, h => by cases h; exact ⟨[], rfl, rfl⟩
  | x :: es, s, h => by
    unfold bytesA at h
    split at h
    · rename_i e; cases e
    · rename_i n l e
      injection e with e1 e2
      subst e2
      split at h
      · rename_i r hr
        cases h
        obtain ⟨ns, rfl, rfl⟩ := bytesA_ok es r hr
        exact ⟨n :: ns, by rw [e1]; rfl, rfl⟩
      · cases h
    · cases h

theorem byte_cells (ns : List Nat) : ((List.range ns.length).map fun q => Value.int .u8 (ns.getD q 0 : Nat)) = (ns.map Int.ofNat).map (Value.int .u8) := by
  rw [List.map_map]
  apply List.ext_getElem
  · simp
  · intro q h1 h2
    have hq : q < ns.length := by simpa using h1
    simp only [List.getElem_map, List.getElem_range, List.getD_eq_getElem?_getD, List.getElem?_eq_getElem hq, Option.getD_some]
    rfl

theorem sound_b2s (him : ∀ f x, im f = some x → M.fm x = f) (hF : FR M g d F a.tmps) (hS : SR M g t) {src dst e : TypeId} {x : Operand} {y : Opd} (h : cmpOpd im d x = some y)
    (h1 : P.underlying src = some (.slice e)) (h2 : P.underlying dst = some .string) (hu : P.underlying e = some (.int .u8)) (ho : o.op = .convert src dst x)
    (hr : memB2s (y.get F) t = .ok v t') : Done P M o a g v t' := by
  have vx := opd_ok him hF h
  have hgo : ∀ ad len cap s, a.eval x = .slice ad len cap → (Conv.bytesToString (.slice ad len cap)).run P g.w = .ok (.string s) g.w → (execOp a.eval o).run P g.w = .ok (.value (.string s)) g.w := by
    intro ad len cap s hxv hs
    cases ad with
    | none => simp [execOp, ho, hxv, convert, run_underlying h1, run_underlying h2, run_underlying hu, hs]
    | some ad => simp [execOp, ho, hxv, convert, run_underlying h1, run_underlying h2, run_underlying hu, hs]
  unfold memB2s at hr
  split at hr
  · rename_i hp
    cases hr
    rw [hp] at vx
    generalize hxv : a.eval x = xv at vx
    cases vx
    refine done_pure (v' := .string ⟨#[]⟩) (hgo _ _ _ _ hxv ?_) (.str []) hS
    simp [Conv.bytesToString]
    rfl
  · rename_i hp
    cases hr
    rw [hp] at vx
    generalize hxv : a.eval x = xv at vx
    cases vx with
    | sl0 b off sp =>
      refine done_pure (v' := .string ⟨#[]⟩) (hgo _ _ _ _ hxv ?_) (.str []) hS
      simp [Conv.bytesToString, loadCells, loadCellsFrom]
      rfl
  · rename_i id e' pos cap fl alt es hp
    split at hr
    · split at hr
      · rename_i s hs
        cases hr
        rw [hp] at vx
        generalize hxv : a.eval x = xv at vx
        obtain ⟨ns, rfl, rfl⟩ := bytesA_ok es s hs
        cases vx with
        | sl id e pos cap fl alt es b off ccap vs hid hcc hb hoff hlen hv hsz hc hf =>
          have hcell : ∀ q, q < ns.length → g.w.cell? ⟨b, off + q, none⟩ = some (.int .u8 (ns.getD q 0 : Nat)) := by
            intro q hq
            have h1 := hv q (by simpa using hq)
            have h2 := hc q 0 (by simpa using hq) (by omega)
            simp only [Nat.mul_one, Nat.add_zero] at h2
            rw [h2]
            simp only [List.getElem_map] at h1
            generalize hvq : vs q = w at h1
            cases h1
            simp [Value.cells, List.getD_eq_getElem?_getD, List.getElem?_eq_getElem hq]
          have hld := run_loadCells (P := P) g.w ⟨b, off, none⟩ ns.length (fun q => .int .u8 (ns.getD q 0 : Nat)) (fun q hq => by rw [addr_add]; exact hcell q hq)
          have hmap : ((List.range ns.length).map fun q => Value.int .u8 (ns.getD q 0 : Nat)) = (ns.map Int.ofNat).map (Value.int .u8) := byte_cells ns
          rw [hmap] at hld
          have hrun := run_bytesToString (P := P) g.w ⟨b, off, none⟩ ns.length ccap (ns.map Int.ofNat) hld
          rw [foldl_push_bytes] at hrun
          have hlm : (ns.map fun n => AV.int .u8 (Int.ofNat n)).length = ns.length := by simp
          rw [hlm] at hxv
          refine done_pure (v' := .string ⟨(ns.map UInt8.ofNat).toArray⟩) (hgo _ _ _ _ hxv ?_) (.str _) hS
          rw [hrun]
          have e1 : (ns.map Int.ofNat).map (fun n => UInt8.ofNat n.toNat) = ns.map UInt8.ofNat := by rw [List.map_map]; rfl
          rw [e1]
          simp [ByteArray.empty, ByteArray.emptyWithCapacity]
          rfl
      · cases hr
    · cases hr
  · cases hr

/-! #### clear -/

theorem sound_clr (him : ∀ f x, im f = some x → M.fm x = f) (hF : FR M g d F a.tmps) (hS : SR M g t) {c : Call} {x : Operand} {y : Opd} {e : TypeId} {z : AV} {s b : Nat}
    (h : cmpOpd im d x = some y) (hu : P.underlying (c.argTypes.getD 0 0) = some (.slice e)) (hn : c.argTypes.size = 1) (he : elemT P e = some (z, s, b)) (hc : c.callee = .builtin .clear) (hargs : c.args = #[x])
    (ho : o.op = .call c) (hr : memClr s z (y.get F) t = .ok v t') : Done P M o a g v t' := by
  obtain ⟨i, zv, hi, hz, rfl, rfl, hk, hzl, hv⟩ := elemT_ok he
  have vx := opd_ok him hF h
  obtain ⟨ty, hty⟩ : ∃ ty, c.argTypes[0]? = some ty := ⟨c.argTypes[0], by simp [hn]⟩
  have hu' : P.underlying ty = some (.slice e) := by
    rw [← hu]; congr 1; simp [Array.getD_eq_getD_getElem?, hty]
  have key : ∀ w', (Builtin.clear_ c.argTypes o.type #[a.eval x]).run P g.w = .ok (.tuple #[]) w' → (execOp a.eval o).run P g.w = .ok (.value (.tuple #[])) w' := by
    intro w' hrv
    simp [execOp, ho, resolve, hc, hargs, invoke, builtin, hrv]
  have tup : ∀ g', VR M g' (.tup []) (.tuple #[]) := fun g' => .tup [] #[] rfl (fun i h => absurd h (by simp))
  unfold memClr at hr
  split at hr
  · rename_i hp
    cases hr
    rw [hp] at vx
    generalize hxv : a.eval x = xv at vx key
    cases vx
    exact done_pure (key _ (by simp [Builtin.clear_, hty, run_underlying hu'])) (tup _) hS
  · rename_i hp
    cases hr
    rw [hp] at vx
    generalize hxv : a.eval x = xv at vx key
    cases vx with
    | sl0 b o sp => exact done_pure (key _ (by simp [Builtin.clear_, hty, run_underlying hu'])) (tup _) hS
  · rename_i p e' pos len cap hp
    rw [hp] at vx
    generalize hxv : a.eval x = xv at vx key
    cases vx with
    | ms p e' pos len cap ccap hx hl hcc hb hzz =>
      split at hr
      · rename_i cs hlk
        split at hr
        · rename_i hcond
          cases hr
          simp only [Bool.and_eq_true] at hcond
          obtain ⟨⟨⟨q1, q2⟩, q3⟩, q4⟩ := hcond
          have q1 := Nat.eq_of_beq_eq_true q1
          have q2 : 0 < len := by simpa using q2
          have q3 := Nat.le_of_ble_eq_true q3
          subst q1
          have hvz := (hv M g).cells hk
          have hsz : zv.cells.size = i.size := by omega
          obtain ⟨e1, e2, e3⟩ := hS.var p _ hlk
          cases e3 with
          | cells cs b c cty fz hh hz0 hlen hvv =>
            generalize hZ : (List.replicate len z.cells).flatten = Z
            generalize hW : (Builtin.zeroCells zv.cells len).toList = W
            have hZl : Z.length = len * i.size := by subst hZ; simp [hzl]
            have hWl : W.length = len * i.size := by subst hW; simp [Builtin.zeroCells, hsz]
            have hrel : ∀ q, q < len * i.size → ∃ w, w < i.size ∧ Z[q]? = z.cells[w]? ∧ W[q]? = zv.cells[w]? := by
              intro q hq
              have hpos : 0 < i.size := by
                rcases Nat.eq_zero_or_pos i.size with h | h
                · rw [h] at hq; simp at hq
                · exact h
              refine ⟨q % i.size, Nat.mod_lt _ hpos, ?_, ?_⟩
              · subst hZ
                rw [replicate_flat_get (by rw [hzl]; exact hq), hzl]
              · subst hW
                have := zeros_get zv.cells len q (by rw [hsz]; exact hq)
                rw [hsz] at this
                rw [Array.getElem?_toList]
                unfold Builtin.zeroCells
                rw [hsz]
                exact this
            have hVR : ∀ q (h1 : q < Z.length), VR M g Z[q] (W.getD q undef) := by
              intro q h1
              obtain ⟨w, w1, w2, w3⟩ := hrel q (by omega)
              rw [List.getElem?_eq_getElem h1, List.getElem?_eq_getElem (by omega)] at w2
              rw [Option.some.inj w2]
              have := hvz.2 w (by omega)
              rw [Array.getD_eq_getD_getElem?] at this
              rw [List.getD_eq_getElem?_getD, w3]
              exact this
            have hcell : ∀ q (h1 : q < Z.length), Z[q].isCell = true := by
              intro q h1
              obtain ⟨w, w1, w2, w3⟩ := hrel q (by omega)
              rw [List.getElem?_eq_getElem h1, List.getElem?_eq_getElem (by omega)] at w2
              rw [Option.some.inj w2]
              exact List.all_eq_true.mp q4 _ (List.getElem_mem _)
            have hone : ∀ w, w ∈ W → w.oneCell' = true := by
              intro w hw
              obtain ⟨j, hj, rfl⟩ := List.mem_iff_getElem.mp hw
              have h1 : j < Z.length := by omega
              have := (hVR j h1).oneCell (hcell j h1)
              rw [List.getD_eq_getElem?_getD, List.getElem?_eq_getElem hj] at this
              simp only [Option.getD_some] at this
              cases hq : W[j] <;> simp_all [M2.oneCell, Value.oneCell']
            have hszz : pos + 0 + W.length ≤ c.size := by omega
            have hst := run_storeCells' P (g.ν p) pos cty fz W 0 c g.w hh hz0 hszz hone
            simp only [Nat.add_zero] at hst
            have hcs : csize (setBlock g.w (g.ν p) (.cells (writeAt c pos W) cty fz)) (g.ν p) = csize g.w (g.ν p) := csize_cells hh (writeAt_size _ _ _)
            have hle := g.le_setVar (g.ν p) (.cells (writeAt c pos W) cty fz) e2 hcs
            have hbb : g.ν p < g.w.heap.size := (Array.getElem?_eq_some_iff.mp hh).1
            refine done_value (g' := g.setVar (g.ν p) (.cells (writeAt c pos W) cty fz)) (key _ ?_) hle (tup _) ?_
            · obtain ⟨m, rfl⟩ : ∃ m, len = m + 1 := ⟨len - 1, by omega⟩
              simp [Builtin.clear_, hty, run_underlying hu', run_zeroValue hi hz, hW, hst, G.setVar]
            · exact hS.setVar hlk (.cells (putAt cs pos Z)) (.cells (writeAt c pos W) cty fz) hcs (by
                refine .cells _ _ (writeAt c pos W) cty fz ?_ (fun q hq => ?_) ?_ (fun q hq => ?_)
                · show (setBlock g.w (g.ν p) _).heap[g.ν p]? = _
                  rw [setBlock_heap, if_pos ⟨rfl, hbb⟩]
                · have := hz0 q (by simpa [writeAt_size] using hq)
                  simp only [World.frozen?, hh] at this
                  show (setBlock g.w (g.ν p) _).frozen? _ = _
                  simp only [World.frozen?, setBlock_heap, hbb, and_self, if_true]
                  exact this
                · rw [writeAt_size]; simp [putAt]; omega
                · have hpl : pos + Z.length ≤ cs.length := by omega
                  have hq' : q < cs.length := by rw [putAt_length _ _ _ hpl] at hq; exact hq
                  rw [writeAt_getD _ _ _ _ (by omega)]
                  by_cases hin : pos ≤ q ∧ q < pos + W.length
                  · rw [if_pos hin, putAt_in _ _ _ hpl q hq hin.1 (by omega)]
                    exact (hVR (q - pos) (by omega)).mono hle
                  · rw [if_neg hin, putAt_out _ _ _ hpl q hq (by omega)]
                    exact (hvv q hq').mono hle)
        · rename_i hcond h0
          cases hr
          have h0 := Nat.eq_of_beq_eq_true h0
          subst h0
          exact done_pure (key _ (by simp [Builtin.clear_, hty, run_underlying hu'])) (tup _) hS
        · cases hr
      · cases hr
  · cases hr

/-! #### a row that may be written, built -/

theorem zip_ops (F : Fr) : ∀ (ps : List (Nat × Opd)), (ps.map Prod.fst).zip (((ps.map Prod.snd).map (·.get F)).map Opd.c) = ps.map fun p => (p.1, Opd.c (p.2.get F))
  | [] => rfl
  | p :: ps => by simp only [List.map_cons, List.zip_cons_cons, zip_ops F ps]

theorem sound_bld (him : ∀ f x, im f = some x → M.fm x = f) (hF : FR M g d F a.tmps) (hS : SR M g t) {ty e : TypeId} {len : Nat} {parts : Array (Nat × Operand)} {z : AV} {s b : Nat} {ps : List (Nat × Opd)}
    (hu : P.underlying ty = some (.slice e)) (he : elemT P e = some (z, s, b)) (hl : len * s ≤ 2 ^ 24) (hps : parts.toList.mapM (partB im d) = some ps)
    (ho : o.op = .buildSlice ty len parts) (hr : memBld s len z (ps.map Prod.fst) ((ps.map Prod.snd).map (·.get F)) t = .ok v t') : Done P M o a g v t' := by
  obtain ⟨i, zv, hi, hz, rfl, hb, hk, hzl, hv⟩ := elemT_ok he
  unfold memBld at hr
  rw [zip_ops] at hr
  split at hr
  · rename_i vs hf
    split at hr
    · rename_i hall
      cases hr
      have hvz := hv M g
      have hcz := hvz.cells hk
      have hsz : zv.cells.size = i.size := by omega
      obtain ⟨hml, hmg⟩ := mapM_get _ _ _ hps
      have hE : EsR M g zv.cells.size (List.replicate len z) ((Array.range (len * zv.cells.size)).map (fun q => zv.cells[q % zv.cells.size]!)) :=
        EsR.zero hvz len _ (fun q hq => zeros_get _ _ _ hq) (by simp)
      rw [hsz] at hE
      obtain ⟨us, h1, h2, h3, h4⟩ := fillS_ok (ps.map fun p => (p.1, Opd.c (p.2.get F))) (parts.map fun (i, x) => (i, a.eval x)).toList _ _ vs hE hf (by simp [hml]) (by
        intro j h h'
        have h0 : j < ps.length := by simpa using h
        have h'' : j < parts.toList.length := by simpa using h'
        have := hmg j h'' h0
        simp only [Array.toList_map, List.getElem_map]
        generalize parts.toList[j] = pr at this
        obtain ⟨pi, px⟩ := pr
        unfold partB at this
        rw [Option.map_eq_some_iff] at this
        obtain ⟨y, hy, e⟩ := this
        rw [← e]
        exact ⟨rfl, opd_ok him hF hy⟩)
      have hlen : vs.length = len := by simpa using h4
      have hus : us.size = vs.length * i.size := by rw [h3, hlen]; simp
      have hcr := h2.cellsR (all_known hall) hus
      have hnew := hS.newV (cs := vs.flatMap AV.cells) (c := us) e (by rw [hcr.1]; exact Nat.le_refl _) hcr.2
      have hle := g.le_addVar hS.hok us e
      have hn : (g.addVar us e).ν t.n = g.w.heap.size := by rw [← hS.n]; exact setAt_same _ _ _
      have hms := VR.ms (M := M) (g := g.addVar us e) t.n i.size 0 len len len (.inr hS.n.symm) (Nat.le_refl _) (Nat.le_refl _)
        (by rw [hn]; simp [G.addVar]) (by
          rw [hn]
          unfold csize
          rw [show (g.addVar us e).w.heap[g.w.heap.size]? = some (.cells us e (0, 0)) from heap_alloc_new]
          simp only
          rw [hus, hlen]
          omega)
      rw [hn] at hms
      refine done_value (g' := g.addVar us e) ?_ hle hms hnew.1
      simp only [execOp, ho, Instr.buildSlice, Sem.run_bind, run_underlying hu, Result.andThen_ok, run_sizeOf hi]
      rw [if_neg (by omega)]
      by_cases h0 : len * i.size = 0
      · simp only [h0, if_true, Sem.run_pure]
        simp only [h0] at h1
        have h1' : Instr.fill (fun i_1 => some (i_1 * i.size, i.size)) ((Array.range 0).map fun q => (#[] : Array Value)[q % (#[] : Array Value).size]!) (parts.map fun (i, x) => (i, a.eval x)).toList = some us := by
          have e0 : Array.range 0 = #[] := rfl
          rw [e0, Array.map_empty] at h1 ⊢
          exact h1
        simp only [Result.andThen_ok, h1', Sem.run_bind, newRow, run_newObj, Sem.run_pure]
        rfl
      · simp only [h0, if_false, Sem.run_bind, run_zeroValue hi hz, Result.andThen_ok, Sem.run_pure]
        simp only [hsz, h1, newRow, Sem.run_bind, run_newObj, Result.andThen_ok, Sem.run_pure]
        rfl
    · cases hr
  · contradiction


def G.addOth (g : G) (c : Array Value) (ty : TypeId) : G := { g with μ := setAt g.μ g.w.heap.size .oth, w := g.w.alloc (.cells c ty) }
theorem G.le_addOth (g : G) (c : Array Value) (ty : TypeId) : g.Le (g.addOth c ty) where
  n := Nat.le_refl _
  ok _ hi := hi
  new _ hi := .inl hi
  ρ _ _ := rfl
  ν _ _ := rfl
  size := by simp [G.addOth]
  lim b k hb hk := ⟨k, by simp [G.addOth, setAt_ne _ _ (Nat.ne_of_lt hb), hk], Nat.le_refl _, fun off _ => cell?_of_heap (heap_alloc_lt hb)⟩
  oth b hb _ := ⟨by simp [G.addOth, setAt_ne _ _ (Nat.ne_of_lt hb)], heap_alloc_lt hb⟩
  os := rfl
  tape := rfl
  output := rfl
  sz b hb := csize_of_heap (heap_alloc_lt hb)
theorem SR.addOth {g : G} {t : T} (hS : SR M g t) (c : Array Value) (ty : TypeId) : SR M (g.addOth c ty) t where
  n := hS.n
  wf := hS.wf
  okn := hS.okn
  var x o hx := by
    obtain ⟨a, b, d⟩ := hS.var x o hx
    have hb : g.ν x < g.w.heap.size := by
      cases d with
      | cells cs b c ty fz hh hz hl hv => exact (getElem?_some_iff.mp hh).1
      | map es b ms clock hh hl hk hv => exact (getElem?_some_iff.mp hh).1
    exact ⟨a, by simp [G.addOth, setAt_ne _ _ (Nat.ne_of_lt hb), b], d.mono (g.le_addOth c ty) (heap_alloc_lt hb)⟩
  inj := hS.inj
  ids i en e hi := by
    obtain ⟨a, b, c1, ty1, fz, h1, h2, h3⟩ := hS.ids i en e hi
    have hb := (getElem?_some_iff.mp h1).1
    exact ⟨a, by simp [G.addOth, setAt_ne _ _ (Nat.ne_of_lt hb), b], c1, ty1, fz, (heap_alloc_lt hb).trans h1, fun off ho => by rw [← h2 off ho]; exact frozen_of_heap (heap_alloc_lt hb), h3⟩
  idinj := hS.idinj
  kept := hS.kept.mono (g.le_addOth c ty)

theorem sound_bldc (him : ∀ f x, im f = some x → M.fm x = f) (hF : FR M g d F a.tmps) (hS : SR M g t) {ty e : TypeId} {len : Nat} {parts : Array (Nat × Operand)} {z : AV} {s b : Nat} {ps : List (Nat × Opd)}
    (hu : P.underlying ty = some (.slice e)) (he : elemT P e = some (z, s, b)) (hl : len * s ≤ 2 ^ 24) (hps : parts.toList.mapM (partB im d) = some ps)
    (ho : o.op = .buildSlice ty len parts) (hr : memBldc s len z (ps.map Prod.fst) ((ps.map Prod.snd).map (·.get F)) t = .ok v t') : Done P M o a g v t' := by
  obtain ⟨i, zv, hi, hz, rfl, hb, hk, hzl, hv⟩ := elemT_ok he
  unfold memBldc at hr
  rw [zip_ops] at hr
  split at hr
  · rename_i vs hf
    · cases hr
      have hvz := hv M g
      have hcz := hvz.cells hk
      have hsz : zv.cells.size = i.size := by omega
      obtain ⟨hml, hmg⟩ := mapM_get _ _ _ hps
      have hE : EsR M g zv.cells.size (List.replicate len z) ((Array.range (len * zv.cells.size)).map (fun q => zv.cells[q % zv.cells.size]!)) :=
        EsR.zero hvz len _ (fun q hq => zeros_get _ _ _ hq) (by simp)
      rw [hsz] at hE
      obtain ⟨us, h1, h2, h3, h4⟩ := fillS_ok (ps.map fun p => (p.1, Opd.c (p.2.get F))) (parts.map fun (i, x) => (i, a.eval x)).toList _ _ vs hE hf (by simp [hml]) (by
        intro j h h'
        have h0 : j < ps.length := by simpa using h
        have h'' : j < parts.toList.length := by simpa using h'
        have := hmg j h'' h0
        simp only [Array.toList_map, List.getElem_map]
        generalize parts.toList[j] = pr at this
        obtain ⟨pi, px⟩ := pr
        unfold partB at this
        rw [Option.map_eq_some_iff] at this
        obtain ⟨y, hy, e⟩ := this
        rw [← e]
        exact ⟨rfl, opd_ok him hF hy⟩)
      have hlen : vs.length = len := by simpa using h4
      have hle := g.le_addOth us e
      have hsr := hS.addOth us e
      obtain ⟨q1, f, q2, q3, q4⟩ := h2
      have hsl : VR M (g.addOth us e) (.sle i.size vs) (.slice (some ⟨g.w.heap.size, 0, none⟩) len len) := by
        rw [← hlen]
        refine .sle i.size vs g.w.heap.size 0 vs.length f (Nat.le_refl _) (fun j hj => (q2 j hj).mono hle) q3 (fun j k hj hk => ?_) ?_
        · rw [← q4 j k hj hk, Nat.zero_add]
          show (g.w.alloc (.cells us e)).cell? _ = _
          unfold World.cell?
          rw [show (g.w.alloc (.cells us e)).heap[(⟨g.w.heap.size, j * i.size + k, none⟩ : Addr).block]? = some (.cells us e (0, 0)) from heap_alloc_new]
          rfl
        · refine ⟨by simp [G.addOth], ?_⟩
          show Own.fix _ (setAt g.μ g.w.heap.size .oth g.w.heap.size)
          rw [setAt_same]
          trivial
      refine done_value (g' := g.addOth us e) ?_ hle hsl hsr
      simp only [execOp, ho, Instr.buildSlice, Sem.run_bind, run_underlying hu, Result.andThen_ok, run_sizeOf hi]
      rw [if_neg (by omega)]
      by_cases h0 : len * i.size = 0
      · simp only [h0, if_true, Sem.run_pure]
        simp only [h0] at h1
        have h1' : Instr.fill (fun i_1 => some (i_1 * i.size, i.size)) ((Array.range 0).map fun q => (#[] : Array Value)[q % (#[] : Array Value).size]!) (parts.map fun (i, x) => (i, a.eval x)).toList = some us := by
          have e0 : Array.range 0 = #[] := rfl
          rw [e0, Array.map_empty] at h1 ⊢
          exact h1
        simp only [Result.andThen_ok, h1', Sem.run_bind, newRow, run_newObj, Sem.run_pure]
        rfl
      · simp only [h0, if_false, Sem.run_bind, run_zeroValue hi hz, Result.andThen_ok, Sem.run_pure]
        simp only [hsz, h1, newRow, Sem.run_bind, run_newObj, Result.andThen_ok, Sem.run_pure]
        rfl
  · contradiction

end

end M2
end
section
namespace M2
open Go

section
variable {P : Program} {M : Maps} {im : FuncId → Option Nat} {d : Nat} {g : G} {F : Fr} {a : Act} {o : Oper} {t t' : T} {v : AV} {call : CallF}

/-! #### equality of structs and arrays -/

theorem part_ok {ty : TypeId} {ag : Bool} (ha : aggT P ty = some ag) {i : TypeInfo} (hi : P.info? ty = some i) {xs : List AV} {vs : Array Value} (h : CellsR M g xs vs) {off : Nat} {r : AV}
    (hp : partA ag xs off i.size = some r) (w : World) : ∃ rv, (part ty vs off).run P w = .ok rv w ∧ VR M g r rv := by
  unfold partA at hp
  cases ag with
  | true =>
    simp only at hp
    split at hp
    · rename_i hl
      cases hp
      exact ⟨_, run_partA ha hi vs off w, agg_sub h.1 h.2 off i.size hl⟩
    · contradiction
  | false =>
    simp only at hp
    obtain ⟨hl, rfl⟩ := List.getElem?_eq_some_iff.mp hp
    exact ⟨_, run_part1 ha vs off (by rw [h.1]; exact hl) w, h.2 off hl⟩

def eqItems (d : Nat) (elem : TypeId) (n : Nat) (xs ys : Array Value) : List Nat → Sem Bool
  | [] => pure true
  | k :: ks => do
    let a ← part elem xs (k * n)
    let b ← part elem ys (k * n)
    let r ← Op.equalIn d elem a b
    if (!r) = true then pure false else eqItems d elem n xs ys ks

theorem run_equalIn_array (d len : Nat) (ty elem : TypeId) (i : TypeInfo) (xs ys : Array Value) (ht : P.underlying ty = some (.array len elem)) (hi : P.info? elem = some i) (w : World) :
    (Op.equalIn (d + 1) ty (.agg xs) (.agg ys)).run P w = (eqItems d elem i.size xs ys (List.range' 0 len)).run P w := by
  simp only [Op.equalIn, Sem.run_bind, run_underlying ht, Result.andThen_ok, run_sizeOf hi, Std.Legacy.Range.forIn_eq_forIn_range', Std.Legacy.Range.size, Nat.sub_zero, Nat.add_sub_cancel, Nat.div_one]
  generalize List.range' 0 len = ks
  clear ht
  induction ks generalizing w with
  | nil => simp [eqItems]
  | cons k ks ih =>
    simp only [List.forIn_cons, eqItems, Sem.run_bind, Sem.run_ite]
    generalize (part elem xs (k * i.size)).run P w = r1
    cases r1 with
    | ok a w1 =>
      simp only [Result.andThen_ok]
      generalize (part elem ys (k * i.size)).run P w1 = r2
      cases r2 with
      | ok b w2 =>
        simp only [Result.andThen_ok]
        generalize (Op.equalIn d elem a b).run P w2 = r3
        cases r3 with
        | ok r w3 =>
          cases r
          · simp only [Result.andThen_ok, Bool.not_false, if_true, Sem.run_pure]
          · simp only [Result.andThen_ok, Bool.not_true, Bool.false_eq_true, if_false, Sem.run_pure]
            exact ih w3
        | halt x w3 => simp [Result.andThen]
      | halt x w2 => simp [Result.andThen]
    | halt x w1 => simp [Result.andThen]

/-- a field, with what is known of its type -/
def etyField (n : Nat) (f : Field) : Option (Nat × Nat × Bool × ETy) := do
  let s ← sizeT P f.type
  let a ← aggT P f.type
  let e ← etyOf P n f.type
  some (f.offset, s, a, e)

theorem etyOf_st {n : Nat} {ty : TypeId} {fs : Array Field} (hu : P.underlying ty = some (.struct fs)) {e : ETy} (h : etyOf P (n + 1) ty = some e) :
    P.stoodInHeld ty = false ∧ (∀ f, f ∈ fs.toList → f.name ≠ "_") ∧ ∃ l, fs.toList.mapM (etyField (P := P) n) = some l ∧ e = .st l := by
  unfold etyOf at h
  simp only [hu] at h
  split at h
  · contradiction
  · rename_i h1
    split at h
    · contradiction
    · rename_i h2
      rw [Option.map_eq_some_iff] at h
      obtain ⟨l, h3, h4⟩ := h
      refine ⟨by simpa using h1, ?_, l, h3, h4.symm⟩
      intro f hf hn
      apply h2
      simp only [List.any_eq_true, beq_iff_eq]
      exact ⟨f, hf, hn⟩

theorem etyOf_inv {n : Nat} {ty : TypeId} {e : ETy} (h : etyOf P (n + 1) ty = some e) :
    (e = .bool → P.underlying ty = some .bool) ∧ (e = .int → ∃ k, P.underlying ty = some (.int k)) ∧ (e = .str → P.underlying ty = some .string) ∧
    (∀ l, e = .st l → ∃ fa, P.underlying ty = some (.struct fa)) ∧
    (∀ len s ag e', e = .arr len s ag e' → ∃ elem, P.underlying ty = some (.array len elem) ∧ sizeT P elem = some s ∧ aggT P elem = some ag ∧ etyOf P n elem = some e') := by
  unfold etyOf at h
  cases hu : P.underlying ty with
  | none => simp [hu] at h
  | some u =>
    cases u <;> simp only [hu] at h <;> try contradiction
    · cases h; simp
    · cases h; simp
    · cases h; simp
    · simp only [Option.bind_eq_bind, Option.bind_eq_some_iff] at h
      obtain ⟨s, hs, a, ha, e2, he2, q⟩ := h
      cases q
      refine ⟨by simp, by simp, by simp, by simp, ?_⟩
      intro len s' ag e' q
      cases q
      exact ⟨_, rfl, hs, ha, he2⟩
    · split at h
      · contradiction
      · split at h
        · contradiction
        · rw [Option.map_eq_some_iff] at h
          obtain ⟨l, _, q⟩ := h
          subst q
          refine ⟨by simp, by simp, by simp, fun _ _ => ⟨_, rfl⟩, by simp⟩

theorem eqs_ok : ∀ (m n : Nat) (ty : TypeId) (e : ETy) (d : Nat), etyOf P n ty = some e → m ≤ d → ∀ (X Y : AV) (b : Bool), avEqs m e X Y = some b →
    ∀ (x y : Value), VR M g X x → VR M g Y y → ∀ w, (Op.equalIn d ty x y).run P w = .ok b w := by
  intro m
  induction m with
  | zero => intro n ty e d _ _ X Y b h; simp [avEqs] at h
  | succ m ih =>
    intro n ty e d he hd X Y b h x y hx hy w
    cases n with
    | zero => simp [etyOf] at he
    | succ n =>
      obtain ⟨d, rfl⟩ : ∃ k, d = k + 1 := ⟨d - 1, by omega⟩
      change eqsStep (avEqs m) _ _ _ = _ at h
      unfold eqsStep at h
      split at h
      · cases h; cases hx; cases hy
        exact run_equalIn_bool' w d ty _ _ ((etyOf_inv he).1 rfl)
      · split at h
        · rename_i hk
          cases h; cases hx; cases hy
          subst hk
          obtain ⟨k, hu⟩ := (etyOf_inv he).2.1 rfl
          exact run_equalIn_int w d ty _ _ _ _ hu
        · contradiction
      · cases h; cases hx; cases hy
        rw [run_equalIn_string w d ty _ _ ((etyOf_inv he).2.2.1 rfl)]
        simp only [ByteArray.toList_mk]
      · rename_i fs xs ys
        cases hx with
        | agg _ xv hx1 hx2 =>
          cases hy with
          | agg _ yv hy1 hy2 =>
            have hu := (etyOf_inv he).2.2.2.1 _ rfl
            obtain ⟨fa, hu⟩ := hu
            obtain ⟨hst, hnm, l, hl, q⟩ := etyOf_st hu he
            cases q
            have hfo : P.fieldsOf ty = fa := by simp [Program.fieldsOf, hu]
            rw [run_equalIn_struct w d ty xv yv (by rw [hfo]; exact hu) hst, hfo]
            clear hu he hfo
            generalize fa.toList = fl at *
            induction fl generalizing fs b w with
            | nil =>
              simp at hl
              subst hl
              simp only [eqsFields] at h
              cases h
              rfl
            | cons f fl ihl =>
              simp only [List.mapM_cons, Option.bind_eq_bind, Option.bind_eq_some_iff, Option.pure_def] at hl
              obtain ⟨q, hq, r, hr, hfs⟩ := hl
              cases hfs
              unfold etyField at hq
              simp only [Option.bind_eq_bind, Option.bind_eq_some_iff] at hq
              obtain ⟨s, hs, ag, ha, e', he', hqq⟩ := hq
              cases hqq
              obtain ⟨inf, hi, rfl⟩ := sizeT_ok hs
              simp only [eqsFields] at h
              split at h
              · rename_i pa pb hpa hpb
                obtain ⟨ra, ra1, ra2⟩ := part_ok (P := P) ha hi ⟨hx1, hx2⟩ hpa w
                obtain ⟨rb, rb1, rb2⟩ := part_ok (P := P) ha hi ⟨hy1, hy2⟩ hpb w
                unfold Op.eqFields
                rw [if_pos (hnm f (by simp))]
                simp only [Sem.run_bind, ra1, rb1, Result.andThen_ok]
                cases hc : avEqs m e' pa pb with
                | none => rw [hc] at h; contradiction
                | some c =>
                  rw [hc] at h
                  have hrun := ih n f.type e' d he' (by omega) pa pb c hc ra rb ra2 rb2 w
                  rw [hrun]
                  simp only [Result.andThen_ok]
                  cases c with
                  | true =>
                    simp only [Bool.not_true, Bool.false_eq_true, if_false]
                    exact ihl b w r h (fun f' hf' => hnm f' (by simp [hf'])) hr
                  | false =>
                    cases h
                    simp
              · contradiction
      · rename_i len size ag e' xs ys
        cases hx with
        | agg _ xv hx1 hx2 =>
          cases hy with
          | agg _ yv hy1 hy2 =>
            have hu := (etyOf_inv he).2.2.2.2 _ _ _ _ rfl
            obtain ⟨elem, hu, hs, ha, he'⟩ := hu
            obtain ⟨inf, hi, rfl⟩ := sizeT_ok hs
            rw [run_equalIn_array d len ty elem inf xv yv hu hi]
            clear hu he
            have key : ∀ (l k : Nat) (b : Bool) (w : World), eqsItems (avEqs m) inf.size ag e' xs ys l k = some b → (eqItems d elem inf.size xv yv (List.range' k l)).run P w = .ok b w := by
              intro l
              induction l with
              | zero => intro k b w h; simp only [eqsItems] at h; cases h; rfl
              | succ l ihl =>
                intro k b w h
                simp only [eqsItems] at h
                split at h
                · rename_i pa pb hpa hpb
                  obtain ⟨ra, ra1, ra2⟩ := part_ok (P := P) ha hi ⟨hx1, hx2⟩ hpa w
                  obtain ⟨rb, rb1, rb2⟩ := part_ok (P := P) ha hi ⟨hy1, hy2⟩ hpb w
                  simp only [List.range'_succ, eqItems, Sem.run_bind, ra1, rb1, Result.andThen_ok]
                  cases hc : avEqs m e' pa pb with
                  | none => rw [hc] at h; contradiction
                  | some c =>
                    rw [hc] at h
                    have hrun := ih n elem e' d he' (by omega) pa pb c hc ra rb ra2 rb2 w
                    rw [hrun]
                    simp only [Result.andThen_ok]
                    cases c with
                    | true =>
                      simp only [Bool.not_true, Bool.false_eq_true, if_false]
                      exact ihl (k + 1) b w h
                    | false =>
                      cases h
                      simp
                · contradiction
            exact key len 0 b w h
      · contradiction

theorem sound_eqs (him : ∀ f x, im f = some x → M.fm x = f) (hF : FR M g d F a.tmps) (hS : SR M g t) {neg : Bool} {ty ty' : TypeId} {x y : Operand} {x' y' : Opd} {e : ETy} {n : Nat}
    (hx : cmpOpd im d x = some x') (hy : cmpOpd im d y = some y') (he : etyOf P n ty = some e) (hg : P.eqGuardType P.depth ty = false) (hty : ∃ u, P.underlying ty = some u ∧ ((∃ fs, u = .struct fs) ∨ ∃ l q, u = .array l q))
    (ho : o.op = .binOp (if neg then .neq else .eql) ty x y ty') (hr : opEqs e neg x' y' call F t = .ok v t') : Done P M o a g v t' := by
  have vx := opd_ok him hF hx
  have vy := opd_ok him hF hy
  unfold opEqs at hr
  cases hb : avEqs 8 e (x'.get F) (y'.get F) with
  | none => rw [hb] at hr; contradiction
  | some r =>
    rw [hb] at hr
    cases hr
    have hrun := eqs_ok (P := P) 8 n ty e 10000 he (by omega) _ _ r hb _ _ vx vy g.w
    generalize hX : x'.get F = X at *
    generalize hY : y'.get F = Y at *
    have hagg : (∃ p, X = .agg p) ∧ ∃ q, Y = .agg q := by
      obtain ⟨u, hu, hs⟩ := hty
      change eqsStep (avEqs 7) _ _ _ = _ at hb
      unfold eqsStep at hb
      cases n with
      | zero => simp [etyOf] at he
      | succ n =>
        obtain ⟨i1, i2, i3, -, -⟩ := etyOf_inv he
        have hne : e ≠ .bool ∧ e ≠ .int ∧ e ≠ .str := by
          refine ⟨fun q => ?_, fun q => ?_, fun q => ?_⟩
          · have := i1 q
            rw [hu] at this
            rcases hs with ⟨fs, rfl⟩ | ⟨l, q, rfl⟩ <;> cases this
          · obtain ⟨k, this⟩ := i2 q
            rw [hu] at this
            rcases hs with ⟨fs, rfl⟩ | ⟨l, q, rfl⟩ <;> cases this
          · have := i3 q
            rw [hu] at this
            rcases hs with ⟨fs, rfl⟩ | ⟨l, q, rfl⟩ <;> cases this
        split at hb <;> first
          | exact absurd rfl hne.1
          | exact absurd rfl hne.2.1
          | exact absurd rfl hne.2.2
          | exact ⟨⟨_, rfl⟩, _, rfl⟩
          | contradiction
    obtain ⟨⟨p, rfl⟩, q, rfl⟩ := hagg
    generalize hxv : a.eval x = xv at *
    generalize hyv : a.eval y = yv at *
    cases vx with
    | agg _ xs h1 h2 =>
      cases vy with
      | agg _ ys h3 h4 =>
        refine done_pure (v' := .bool (r != neg)) ?_ (.bool _) hS
        have hgd := fun op => run_eqGuard_agg (P := P) g.w op ty x y xs ys hg
        cases neg
        · simp [execOp, ho, hxv, hyv, hgd, run_eql_struct, hrun]
        · simp [execOp, ho, hxv, hyv, hgd, run_neq_struct, hrun]

end

end M2
end
section
namespace M2
open Go

section
variable {P : Program} {M : Maps} {im : FuncId → Option Nat} {d ntmps : Nat} {g : G} {F : Fr} {a : Act} {o : Oper} {t t' : T} {v : AV} {call : CallF}

theorem opds_one {xs : Array Operand} {y : Opd} (h : cmpOpds im d xs = some [y]) : ∃ x, xs = #[x] ∧ cmpOpd im d x = some y := by
  obtain ⟨l⟩ := xs
  simp only [cmpOpds] at h
  cases l with
  | nil => simp at h
  | cons x l =>
    simp only [List.mapM_cons, Option.bind_eq_bind, Option.bind_eq_some_iff, Option.pure_def] at h
    obtain ⟨q, hq, r, hr, e⟩ := h
    cases e
    cases l with
    | nil => exact ⟨x, rfl, hq⟩
    | cons x2 l =>
      simp only [List.mapM_cons, Option.bind_eq_bind, Option.bind_eq_some_iff, Option.pure_def] at hr
      obtain ⟨_, _, _, _, e⟩ := hr
      cases e

theorem opds_two {xs : Array Operand} {y z : Opd} (h : cmpOpds im d xs = some [y, z]) : ∃ x u, xs = #[x, u] ∧ cmpOpd im d x = some y ∧ cmpOpd im d u = some z := by
  obtain ⟨l⟩ := xs
  simp only [cmpOpds] at h
  cases l with
  | nil => simp at h
  | cons x l =>
    simp only [List.mapM_cons, Option.bind_eq_bind, Option.bind_eq_some_iff, Option.pure_def] at h
    obtain ⟨q, hq, r, hr, e⟩ := h
    cases e
    obtain ⟨u, e, hu⟩ := opds_one (im := im) (d := d) (xs := ⟨l⟩) hr
    have : l = [u] := congrArg Array.toList e
    subst this
    exact ⟨x, u, rfl, hq, hu⟩

theorem opdO_none {x : Option Operand} (h : cmpOpdO im d x = some none) : x = none := by
  cases x with
  | none => rfl
  | some x =>
    simp only [cmpOpdO, Option.map_eq_some_iff] at h
    obtain ⟨_, _, e⟩ := h
    cases e

theorem ixGo_eq : ∀ (l : List UInt8) (n : Nat) (k : Nat), n < 256 → ixGo l n k = if Lib.indexByte l (UInt8.ofNat n) = -1 then -1 else Lib.indexByte l (UInt8.ofNat n) + k := by
  intro l
  induction l with
  | nil => intro n k _; rfl
  | cons b l ih =>
    intro n k hn
    have hge := Lib.indexByte_ge l (UInt8.ofNat n)
    unfold ixGo Lib.indexByte
    by_cases e : b.toNat = n
    · have e' : b = UInt8.ofNat n := by rw [← e]; exact (UInt8.ofNat_toNat).symm
      rw [beq_true e, e']
      simp
    · have e' : (b == UInt8.ofNat n) = false := by
        rw [beq_eq_false_iff_ne]
        intro q
        apply e
        rw [q, UInt8.toNat_ofNat']
        omega
      rw [beq_false e, e', ih n (k + 1) hn]
      simp only [Bool.false_eq_true, if_false]
      by_cases h1 : Lib.indexByte l (UInt8.ofNat n) = -1
      · simp [h1]
      · have h2 : (Lib.indexByte l (UInt8.ofNat n) == -1) = false := by rw [beq_eq_false_iff_ne]; exact h1
        rw [if_neg h1, h2]
        simp only [Bool.false_eq_true, if_false]
        rw [if_neg (by omega)]
        omega

theorem find_ixb {fn : Func} (h : fn.name = "internal/bytealg.IndexByteString") : Extern.find fn = some Extern.BytealgIndexByte.indexByte := by
  unfold Extern.find
  rw [h]
  rfl

theorem sound_ixb (him : ∀ f x, im f = some x → M.fm x = f) (hF : FR M g d F a.tmps) (hS : SR M g t) {c : Call} {f : FuncId} {x y : Opd} (hi : isIxb P f = true) (hargs : cmpOpds im d c.args = some [x, y])
    (hcal : c.callee = .value (.func f)) (ho : o.op = .call c) (hr : opIxb x y call F t = .ok v t') : Done P M o a g v t' := by
  obtain ⟨u, z, hx, hux, hzy⟩ := opds_two hargs
  have vx := opd_ok him hF hux
  have vy := opd_ok him hF hzy
  unfold isIxb at hi
  split at hi
  · rename_i fn hfn
    simp only [Bool.and_eq_true, beq_iff_eq] at hi
    obtain ⟨i1, i2, i3⟩ := hi
    unfold opIxb at hr
    split at hr
    · rename_i s n hs hn
      cases hb : Nat.blt n 256 with
      | false => rw [hb] at hr; cases hr
      | true =>
        rw [hb] at hr
        cases hr
        have hn256 : n < 256 := Nat.le_of_ble_eq_true hb
        rw [hs] at vx
        rw [hn] at vy
        generalize hxv : a.eval u = xv at vx
        generalize hyv : a.eval z = yv at vy
        cases vx
        cases vy
        have hnm : (fn.name == "runtime.NumGoroutine") = false := by rw [i2]; decide
        have hfx : Extern.findNext fn = none := by cases hq : Extern.findNext fn with
          | none => rfl
          | some q => rw [hq] at i3; cases i3
        refine done_pure (v' := .int .i64 (ixGo s n 0)) ?_ (.int _ _) hS
        have hrun := Lib.run_indexByteString (P := P) ⟨s.toArray⟩ (Int.ofNat n) g.w
        have hval : Lib.indexByte s (UInt8.ofNat n) = ixGo s n 0 := by
          rw [ixGo_eq s n 0 hn256]
          split
          · assumption
          · simp
        have hrun' : (Extern.BytealgIndexByte.indexByte #[.string ⟨s.toArray⟩, .int .u8 (Int.ofNat n)]).run P g.w = .ok (.int .i64 (ixGo s n 0)) g.w := by
          rw [hrun, ← hval]
          simp
        have hres : (execOp a.eval o).run P g.w = (callFunc f (c.args.map a.eval)).run P g.w := by
          simp [execOp, ho, resolve, hcal, Act.eval, Deferred.ofValue, invoke]
        have hargv : c.args.map a.eval = #[.string ⟨s.toArray⟩, .int .u8 (Int.ofNat n)] := by
          rw [hx, ← hxv, ← hyv]
          simp
        rw [hres, hargv]
        unfold callFunc
        simp only [Sem.run_bind, run_program, Result.andThen_ok, hfn, hnm, Bool.false_eq_true, if_false, i1, if_true, run_mark, hfx, find_ixb i2, hrun', Sem.run_pure]
    · cases hr
  · cases hi

theorem cntGo_eq : ∀ (s : List UInt8) (n m : Nat), n < 256 → cntGo s n m = m + Lib.countByte s (UInt8.ofNat n)
  | [], n, m, _ => by simp [cntGo, Lib.countByte]
  | b :: l, n, m, hn => by
    unfold cntGo
    have ih := cntGo_eq l n
    by_cases e : b.toNat = n
    · have hb : b = UInt8.ofNat n := by rw [← e]; simp
      rw [beq_true e]
      simp only
      rw [ih (m + 1) hn]
      unfold Lib.countByte
      rw [hb, List.count_cons_self]
      omega
    · have hb : ¬ (b = UInt8.ofNat n) := by
        intro q
        apply e
        rw [q, UInt8.toNat_ofNat']
        omega
      rw [beq_false e]
      simp only
      rw [ih m hn]
      unfold Lib.countByte
      rw [List.count_cons_of_ne hb]

theorem find_cnt {fn : Func} (h : fn.name = "internal/bytealg.CountString") : Extern.find fn = some Extern.BytealgCount.count := by
  unfold Extern.find
  rw [h]
  rfl

theorem sound_cnt (him : ∀ f x, im f = some x → M.fm x = f) (hF : FR M g d F a.tmps) (hS : SR M g t) {c : Call} {f : FuncId} {x y : Opd} (hi : isCnt P f = true) (hargs : cmpOpds im d c.args = some [x, y])
    (hcal : c.callee = .value (.func f)) (ho : o.op = .call c) (hr : memCnt (x.get F) (y.get F) t = .ok v t') : Done P M o a g v t' := by
  obtain ⟨u, z, hx, hux, hzy⟩ := opds_two hargs
  have vx := opd_ok him hF hux
  have vy := opd_ok him hF hzy
  unfold isCnt at hi
  split at hi
  · rename_i fn hfn
    simp only [Bool.and_eq_true, beq_iff_eq] at hi
    obtain ⟨i1, i2, i3⟩ := hi
    unfold memCnt at hr
    split at hr
    · rename_i s n hs hn
      cases hb : Nat.blt n 256 with
      | false => rw [hb] at hr; cases hr
      | true =>
        rw [hb] at hr
        cases hr
        have hn256 : n < 256 := Nat.le_of_ble_eq_true hb
        rw [hs] at vx
        rw [hn] at vy
        generalize hxv : a.eval u = xv at vx
        generalize hyv : a.eval z = yv at vy
        cases vx
        cases vy
        have hnm : (fn.name == "runtime.NumGoroutine") = false := by rw [i2]; decide
        have hfx : Extern.findNext fn = none := by cases hq : Extern.findNext fn with
          | none => rfl
          | some q => rw [hq] at i3; cases i3
        refine done_pure (v' := .int .i64 (cntGo s n 0 : Nat)) ?_ (.int _ _) hS
        have hrun := Lib.run_countString (P := P) ⟨s.toArray⟩ (Int.ofNat n) g.w
        have hrun' : (Extern.BytealgCount.count #[.string ⟨s.toArray⟩, .int .u8 (Int.ofNat n)]).run P g.w = .ok (.int .i64 (cntGo s n 0 : Nat)) g.w := by
          rw [hrun, cntGo_eq s n 0 hn256]
          simp
        have hres : (execOp a.eval o).run P g.w = (callFunc f (c.args.map a.eval)).run P g.w := by
          simp [execOp, ho, resolve, hcal, Act.eval, Deferred.ofValue, invoke]
        have hargv : c.args.map a.eval = #[.string ⟨s.toArray⟩, .int .u8 (Int.ofNat n)] := by
          rw [hx, ← hxv, ← hyv]
          simp
        rw [hres, hargv]
        unfold callFunc
        simp only [Sem.run_bind, run_program, Result.andThen_ok, hfn, hnm, Bool.false_eq_true, if_false, i1, if_true, run_mark, hfx, find_cnt i2, hrun', Sem.run_pure]
    · cases hr
  · cases hi

theorem sound_callop (him : ∀ f x, im f = some x → M.fm x = f) (hcall : CallOK P M call) (hF : FR M g d F a.tmps) (hS : SR M g t) {c : Call} {ao : AOp}
    (hc : cmpCall P im d c = some ao) (ho : o.op = .call c) (hr : ao.run call F t = .ok v t') : Done P M o a g v t' := by
  unfold cmpCall at hc
  cases hargs : cmpOpds im d c.args with
  | none => simp [hargs] at hc
  | some args =>
    simp only [hargs, Option.bind_eq_bind, Option.bind_some] at hc
    split at hc
    · rename_i f hcal
      split at hc
      · rename_i hi
        split at hc
        · cases hc
          exact sound_ixb (call := call) him hF hS hi hargs hcal ho hr
        · cases hc
      split at hc
      · rename_i hi
        split at hc
        · cases hc
          exact sound_cnt him hF hS hi hargs hcal ho hr
        · cases hc
      · simp only [Option.bind_eq_some_iff] at hc
        obtain ⟨n, hn, e⟩ := hc
        cases e
        exact sound_call him hcall hF hS hn hargs hcal ho hr
    · rename_i x hcal
      simp only [Option.bind_eq_some_iff] at hc
      obtain ⟨n, hn, e⟩ := hc
      cases e
      exact sound_calld him hcall hF hS hn hargs hcal ho hr
    · rename_i hcal
      split at hc
      · rename_i y
        obtain ⟨x, hx, hxy⟩ := opds_one hargs
        split at hc
        · rename_i hu hn
          cases hc
          exact sound_len (call := call) him hF hS hxy hu hn (by simp) hcal hx ho hr
        · rename_i e hu hn
          cases hc
          exact sound_len (call := call) him hF hS hxy hu hn (by simp) hcal hx ho hr
        · rename_i n e hu hn
          cases hc
          cases hr
          obtain ⟨ty, hty⟩ : ∃ ty, c.argTypes[0]? = some ty := ⟨c.argTypes[0], by simp [hn]⟩
          have hu' : P.underlying ty = some (.array n e) := by
            rw [← hu]; congr 1; simp [Array.getD_eq_getD_getElem?, hty]
          refine done_pure (v' := .int .i64 n) ?_ (.int _ _) hS
          simp [execOp, ho, resolve, hcal, hx, invoke, builtin, Builtin.len_, hty, run_underlying hu', goInt]
        · rename_i k e hu hn
          cases hc
          exact sound_memLen him hF hS hxy hu hn hcal hx ho hr
        · contradiction
      · contradiction
    · rename_i hcal
      split at hc
      · rename_i y z
        obtain ⟨x, u, hx, hxy, huz⟩ := opds_two hargs
        split at hc
        · rename_i e e2 hu hu2 hn
          simp only [Option.bind_eq_some_iff] at hc
          obtain ⟨⟨ze, s, b⟩, he, hq⟩ := hc
          simp only at hq
          split at hq
          · rename_i hb
            cases hq
            split at hr
            · exact sound_memApp him hF hS hxy huz hu hu2 hn he hb hcal hx ho hr
            · exact sound_app (call := call) him hF hS hxy huz hu hu2 hn he hb hcal hx ho hr
          · contradiction
        · rename_i e ik hu hu2 hn
          simp only [Option.bind_eq_some_iff] at hc
          obtain ⟨⟨ze, s, b⟩, he, hq⟩ := hc
          simp only at hq
          split at hq
          · rename_i hb
            cases hq
            exact sound_apz him hF hS hxy huz hu hu2 hn he hb hcal hx ho hr
          · contradiction
        · contradiction
      · contradiction
    · rename_i hcal
      split at hc
      · rename_i y
        obtain ⟨x, hx, hxy⟩ := opds_one hargs
        split at hc
        · rename_i e hu hn
          simp only [Option.bind_eq_some_iff] at hc
          obtain ⟨⟨ze, s, b⟩, he, hq⟩ := hc
          cases hq
          exact sound_clr him hF hS hxy hu hn he hcal hx ho hr
        · contradiction
      · contradiction
    · rename_i hcal
      split at hc
      · obtain ⟨x, u, hx, hxy, huz⟩ := opds_two hargs
        cases hc
        exact sound_cpx (call := call) him hF hS hxy huz hcal hx ho hr
      · contradiction
    · rename_i hcal
      split at hc
      · obtain ⟨x, hx, hxy⟩ := opds_one hargs
        cases hc
        exact sound_re (call := call) him hF hS hxy hcal hx ho hr
      · contradiction
    · rename_i hcal
      split at hc
      · obtain ⟨x, hx, hxy⟩ := opds_one hargs
        cases hc
        exact sound_im (call := call) him hF hS hxy hcal hx ho hr
      · contradiction
    · rename_i hcal
      split at hc
      · obtain ⟨x, u, hx, hxy, huz⟩ := opds_two hargs
        cases hc
        exact sound_mnx (call := call) (mx := false) him hF hS hxy huz (by simpa using hcal) hx ho hr
      · contradiction
    · rename_i hcal
      split at hc
      · obtain ⟨x, u, hx, hxy, huz⟩ := opds_two hargs
        cases hc
        exact sound_mnx (call := call) (mx := true) him hF hS hxy huz (by simpa using hcal) hx ho hr
      · contradiction
    · contradiction

theorem eq_of_run (ty : TypeId) (t1 t2 : TypeId) (w : World) {c1 c2 : Value} {r : Bool} (h : (binOp .eql ty (.iface t1 c1) (.iface t2 c2)).run P w = .ok (.bool r) w) : (Op.equal ty (.iface t1 c1) (.iface t2 c2)).run P w = .ok r w := by
  change (do pure (Value.bool (← Op.equal ty (.iface t1 c1) (.iface t2 c2))) : Sem Value).run P w = _ at h
  generalize Op.equal ty (.iface t1 c1) (.iface t2 c2) = q at h ⊢
  rw [Sem.run_bind] at h
  cases hq : q.run P w with
  | ok b w' =>
    rw [hq] at h
    simp only [Result.andThen_ok, Sem.run_pure] at h
    cases h
    rfl
  | _ => rw [hq] at h; cases h

theorem sound_mki (him : ∀ f x, im f = some x → M.fm x = f) (hF : FR M g d F a.tmps) (hS : SR M g t) {ty : TypeId} {k : IntKind} {x : Operand} {y : Opd} (h : cmpOpd im d x = some y)
    (hu : P.underlying ty = some (.int k)) (ho : o.op = .makeInterface ty x) (hr : opMem (.mki ty) [y] call F t = .ok v t') : Done P M o a g v t' := by
  have vx := opd_ok him hF h
  change memMki ty (y.get F) t = _ at hr
  unfold memMki at hr
  split at hr
  · rename_i k' n hy
    cases hr
    rw [hy] at vx
    generalize hxv : a.eval x = xv at vx
    refine done_pure (v' := .iface ty xv) ?_ (.ifc _ _ _ vx) hS
    simp [execOp, ho, hxv, Instr.makeInterface, run_underlying hu]
  · cases hr

theorem sound_eqi (him : ∀ f x, im f = some x → M.fm x = f) (hF : FR M g d F a.tmps) (hS : SR M g t) {neg : Bool} {ty ty' : TypeId} {x y : Operand} {x' y' : Opd} {ms : Array (String × TypeId)}
    (hx : cmpOpd im d x = some x') (hy : cmpOpd im d y = some y') (hu : P.underlying ty = some (.interface ms))
    (ho : o.op = .binOp (if neg then .neq else .eql) ty x y ty') (hr : opMem (.eqi neg (niceT P)) [x', y'] call F t = .ok v t') : Done P M o a g v t' := by
  have vx := opd_ok him hF hx
  have vy := opd_ok him hF hy
  change memEqi neg (niceT P) (x'.get F) (y'.get F) t = _ at hr
  unfold memEqi at hr
  cases hb : eqI (niceT P) (x'.get F) (y'.get F) with
  | none => rw [hb] at hr; cases hr
  | some r =>
    rw [hb] at hr
    cases hr
    generalize hxv : a.eval x = xv at *
    generalize hyv : a.eval y = yv at *
    have key : ((∃ t1 c1, xv = .iface t1 c1) ∨ xv = .nilIface) ∧ ((∃ t1 c1, yv = .iface t1 c1) ∨ yv = .nilIface) ∧ (¬ (xv = .nilIface ∧ yv = .nilIface)) ∧ ∀ w, (Op.equal ty xv yv).run P w = .ok r w := by
      have lift : ∀ (w : World) (p q : Value) (r : Bool), (∀ d : Nat, (Op.equalIn (d + 2) ty p q).run P w = .ok r w) → (Op.equal ty p q).run P w = .ok r w := fun w p q r h => by
        unfold Op.equal
        exact h 9998
      unfold eqI at hb
      split at hb
      · rename_i e1 e2
        cases hb
        rw [e1] at vx; rw [e2] at vy
        cases vx
        cases vy
        exact ⟨.inr rfl, .inl ⟨_, _, rfl⟩, (fun h => by cases h.2), fun w => lift w _ _ _ fun d => by simp [Op.equalIn, run_underlying hu]⟩
      · rename_i e1 e2
        cases hb
        rw [e1] at vx; rw [e2] at vy
        cases vx
        cases vy
        exact ⟨.inl ⟨_, _, rfl⟩, .inr rfl, (fun h => by cases h.1), fun w => lift w _ _ _ fun d => by simp [Op.equalIn, run_underlying hu]⟩
      · rename_i ta va tb vb e1 e2
        rw [e1] at vx; rw [e2] at vy
        cases vx with
        | ifc _ _ ca ha =>
        cases vy with
        | ifc _ _ cb hb' =>
        refine ⟨.inl ⟨_, _, rfl⟩, .inl ⟨_, _, rfl⟩, (fun h => by cases h.1), fun w => ?_⟩
        split at hb
        · rename_i hne
          cases hb
          have hne : ta ≠ tb := fun e => by rw [e, Nat.beq_refl] at hne; cases hne
          exact lift w _ _ _ fun d => by simp [Op.equalIn, run_underlying hu, hne]
        · rename_i heq
          have heq : ta = tb := Nat.eq_of_beq_eq_true heq
          subst heq
          split at hb
          · rename_i k m k' n
            split at hb
            · rename_i hn
              cases hb
              rw [Bool.and_eq_true, decide_eq_true_eq] at hn
              obtain ⟨⟨q, hq⟩, hc⟩ := niceT_ok P hn.1
              obtain rfl := hn.2
              cases ha
              cases hb'
              cases hi : P.info? ta with
              | none => simp [hi] at hc
              | some i =>
                have hcc : i.comparable = true := by simpa [hi] using hc
                have e1 := Lib.run_eql_iface_int (P := P) w (k := k) m n hu hc hq
                exact eq_of_run ty _ _ w e1
            · cases hb
          · cases hb
      · cases hb
    obtain ⟨k1, k2, k3, k4⟩ := key
    have hg : ∀ w, (eqGuard (if neg then .neq else .eql) ty x y xv yv).run P w = .ok () w := by
      intro w
      rcases k1 with ⟨t1, c1, rfl⟩ | rfl <;> rcases k2 with ⟨t2, c2, rfl⟩ | rfl <;> first | exact absurd ⟨rfl, rfl⟩ k3 | (cases neg <;> simp [eqGuard])
    obtain ⟨b1, b2⟩ := binOp_eql ty xv yv
      (by rintro k1' n1 k2' n2 ⟨rfl, rfl⟩; rcases k1 with ⟨_, _, h⟩ | h <;> cases h)
      (by rintro k1' n1 k2' n2 ⟨rfl, rfl⟩; rcases k1 with ⟨_, _, h⟩ | h <;> cases h)
      (by rintro k1' n1 m1 k2' n2 m2 ⟨rfl, rfl⟩; rcases k1 with ⟨_, _, h⟩ | h <;> cases h)
      (by rintro p q ⟨rfl, rfl⟩; rcases k1 with ⟨_, _, h⟩ | h <;> cases h)
    refine done_pure (v' := .bool (r != neg)) ?_ (.bool _) hS
    have he := k4 g.w
    cases neg
    · simp at hg
      simp [execOp, ho, hxv, hyv, hg, b1, he]
    · simp at hg
      simp [execOp, ho, hxv, hyv, hg, b2, he]

theorem sound_eq (him : ∀ f x, im f = some x → M.fm x = f) (hF : FR M g d F a.tmps) (hS : SR M g t) {neg : Bool} {ty ty' : TypeId} {x y : Operand} {x' y' : Opd} {ao : AOp}
    (hx : cmpOpd im d x = some x') (hy : cmpOpd im d y = some y') (hc : cmpEq P neg (if neg then .neq else .eql) ty x y x' y' = some ao)
    (ho : o.op = .binOp (if neg then .neq else .eql) ty x y ty') (hr : ao.run call F t = .ok v t') : Done P M o a g v t' := by
  unfold cmpEq at hc
  split at hc
  · cases hc; exact sound_bin (call := call) him hF hS hx hy ho hr
  · cases hc; exact sound_bin (call := call) him hF hS hx hy ho hr
  · rename_i hu; cases hc; exact sound_eqk (call := call) (k := .bool) him hF hS hx hy hu rfl (by simp) ho hr
  · rename_i hu; cases hc; exact sound_eqk (call := call) (k := .ptr) him hF hS hx hy hu ⟨_, rfl⟩ (by simp) ho hr
  · rename_i hu; cases hc; exact sound_eqk (call := call) (k := .slice) him hF hS hx hy hu ⟨_, rfl⟩ (by simp) ho hr
  · rename_i hu; cases hc; exact sound_eqk (call := call) (k := .func) him hF hS hx hy hu ⟨_, _, _, rfl⟩ (by simp) ho hr
  · rename_i hu; cases hc; exact sound_eqk (call := call) (k := .map) him hF hS hx hy hu ⟨_, _, rfl⟩ (by simp) ho hr
  · rename_i hu
    split at hc
    · rename_i hk
      cases hc
      exact sound_eqk (call := call) (k := .iface) him hF hS hx hy hu ⟨_, rfl⟩ (fun _ => hk) ho hr
    · cases hc
      exact sound_eqi (call := call) him hF hS hx hy hu ho hr
  · rename_i fs hu
    split at hc
    · contradiction
    · rename_i hg
      rw [Option.map_eq_some_iff] at hc
      obtain ⟨e, he, rfl⟩ := hc
      exact sound_eqs (call := call) him hF hS hx hy he (by simpa using hg) ⟨_, hu, .inl ⟨_, rfl⟩⟩ ho hr
  · rename_i l q hu
    split at hc
    · contradiction
    · rename_i hg
      rw [Option.map_eq_some_iff] at hc
      obtain ⟨e, he, rfl⟩ := hc
      exact sound_eqs (call := call) him hF hS hx hy he (by simpa using hg) ⟨_, hu, .inr ⟨_, _, rfl⟩⟩ ho hr
  · contradiction

theorem sound_mark (him : ∀ f x, im f = some x → M.fm x = f) (hF : FR M g d F a.tmps) (hS : SR M g t) {src dst e1 e : TypeId} {x : Operand} {y : Opd} (h : cmpOpd im d x = some y)
    (h1 : P.underlying src = some (.slice e1)) (h2 : P.underlying dst = some (.slice e)) (hs : (src == dst) = true) (hu : P.underlying e = some (.int .u8)) (ho : o.op = .convert src dst x)
    (hr : opMark y call F t = .ok v t') : Done P M o a g v t' := by
  have vx := opd_ok him hF h
  unfold opMark at hr
  split at hr
  · rename_i id es0 pos cap fl alt es hy
    split at hr
    · rename_i p hl
      obtain ⟨en, eo⟩ := p
      cases hr
      rw [hy] at vx
      generalize hxv : a.eval x = xv at vx
      have vx0 := vx
      cases vx with
      | sl id _ pos cap fl alt es b off ccap vs hidn hcc hbk hoff hlen hv hsz' hc hf =>
        obtain ⟨i1, i2, c, cty, fz, i3, i4, i5, i6⟩ := hS.ids id _ _ hl
        subst hbk
        have hbb : (g.ρ id).block < g.w.heap.size := (getElem?_some_iff.mp i3).1
        obtain ⟨lo, hi⟩ := fz
        generalize hfz : (if lo == hi then (c.size, c.size + 1) else (min lo c.size, max hi (c.size + 1))) = fz'
        have hfz' : fz'.1 = fz'.2 ∨ c.size ≤ fz'.1 := by
          rw [← hfz]
          split
          · exact .inr (Nat.le_refl _)
          · rename_i hne
            refine .inr ?_
            have : c.size ≤ lo := by
              rcases i6 with q | q
              · exact absurd (by simpa using q) hne
              · exact q
            show c.size ≤ min lo c.size
            omega
        have hw : (g.w.freeze ⟨(g.ρ id).block, c.size, none⟩ 1) = setBlock g.w (g.ρ id).block (.cells c cty fz') := by
          unfold World.freeze
          rw [if_neg (by decide)]
          unfold setBlock
          congr 1
          apply Array.ext_getElem?
          intro q
          rw [Array.getElem?_modify, Array.getElem?_setIfInBounds]
          by_cases e : (g.ρ id).block = q
          · subst e
            rw [if_pos rfl, if_pos rfl, i3, if_pos hbb, ← hfz]
            rfl
          · rw [if_neg e, if_neg e]
        have hheap : ∀ q, q ≠ (g.ρ id).block → (setBlock g.w (g.ρ id).block (.cells c cty fz')).heap[q]? = g.w.heap[q]? := fun q hq => by
          rw [setBlock_heap, if_neg (fun e => hq e.1)]
        have hself : (setBlock g.w (g.ρ id).block (.cells c cty fz')).heap[(g.ρ id).block]? = some (.cells c cty fz') := by
          rw [setBlock_heap, if_pos ⟨rfl, hbb⟩]
        have hfo : ∀ off, off < c.size → (setBlock g.w (g.ρ id).block (.cells c cty fz')).frozen? ⟨(g.ρ id).block, off, none⟩ = false := by
          intro off ho
          unfold World.frozen?
          rw [show (setBlock g.w (g.ρ id).block (.cells c cty fz')).heap[(⟨(g.ρ id).block, off, none⟩ : Addr).block]? = _ from hself]
          obtain ⟨p1, p2⟩ := fz'
          have hq : p1 = p2 ∨ c.size ≤ p1 := hfz'
          show (decide (p1 ≤ off) && decide (off < p2)) = false
          rcases hq with q | q
          · simp; omega
          · simp; omega
        have hle : g.Le (g.setVar (g.ρ id).block (.cells c cty fz')) :=
          { n := Nat.le_refl _, ok := fun _ h => h, new := fun _ h => .inl h, ρ := fun _ _ => rfl, ν := fun _ _ => rfl, size := by simp [G.setVar, setBlock],
            lim := fun q k hq hk => by
              refine ⟨k, hk, Nat.le_refl _, fun off _ => ?_⟩
              by_cases e : q = (g.ρ id).block
              · subst e
                show (setBlock g.w _ _).cell? _ = _
                simp only [World.cell?, hself, i3]
              · exact cell?_of_heap (hheap q e)
            oth := fun q hq hst => by
              have e : q ≠ (g.ρ id).block := fun e => by rw [e, i2] at hst; cases hst
              exact ⟨rfl, hheap q e⟩
            os := rfl, tape := rfl, output := rfl, sz := fun q _ => csize_setBlock g.w _ _ (csize_cells i3 rfl) q }
        refine done_value (g' := g.setVar (g.ρ id).block (.cells c cty fz')) (v' := .slice (some ⟨(g.ρ id).block, off, none⟩) es.length ccap) ?_ hle (vx0.mono hle) ?_
        · have hsh : g.w.shape? (g.ρ id).block = some (cty, c.size) := by simp [World.shape?, i3]
          show _ = Result.ok _ (setBlock g.w (g.ρ id).block (.cells c cty fz'))
          rw [← hw]
          simp [execOp, ho, hxv, convert, run_underlying h1, run_underlying h2, run_underlying hu, hs, markStringish, hsh]
        · constructor
          · exact hS.n
          · exact hS.wf
          · exact hS.okn
          · intro z oz hz
            obtain ⟨v1, v2, v3⟩ := hS.var z oz hz
            exact ⟨v1, v2, v3.mono hle (hheap _ (fun e => by have e' : g.ν z = (g.ρ id).block := e; rw [e', i2] at v2; cases v2))⟩
          · exact hS.inj
          · intro j en' e' hj
            obtain ⟨j1, j2, c', ty', fz2, j3, j4, j5⟩ := hS.ids j en' e' hj
            by_cases e : (g.ρ j).block = (g.ρ id).block
            · have hjj := hS.idinj j id _ _ hj hl e
              subst hjj
              rw [i3] at j3
              cases j3
              refine ⟨j1, j2, c, cty, fz', hself, fun off ho => ?_, j5.1, hfz'⟩
              exact hfo off ho
            · refine ⟨j1, j2, c', ty', fz2, (hheap _ e).trans j3, fun off ho => ?_, j5⟩
              rw [← j4 off ho]
              exact frozen_of_heap (hheap _ e)
          · exact hS.idinj
          · exact hS.kept.mono hle
    · cases hr
  · cases hr

/-- the byte behind a row's end is kept from being written -/
theorem mark_core (hS : SR M g t) {id en eo off : Nat} (hl : look2 id t.is = some (en, eo)) :
    ∃ g', g.Le g' ∧ SR M g' t ∧ (markStringish ⟨(g.ρ id).block, off, none⟩).run P g.w = .ok () g'.w := by
  obtain ⟨i1, i2, c, cty, fz, i3, i4, i5, i6⟩ := hS.ids id _ _ hl
  have hbb : (g.ρ id).block < g.w.heap.size := (getElem?_some_iff.mp i3).1
  obtain ⟨lo, hi⟩ := fz
  generalize hfz : (if lo == hi then (c.size, c.size + 1) else (min lo c.size, max hi (c.size + 1))) = fz'
  have hfz' : fz'.1 = fz'.2 ∨ c.size ≤ fz'.1 := by
    rw [← hfz]
    split
    · exact .inr (Nat.le_refl _)
    · rename_i hne
      refine .inr ?_
      have : c.size ≤ lo := by
        rcases i6 with q | q
        · exact absurd (by simpa using q) hne
        · exact q
      show c.size ≤ min lo c.size
      omega
  have hw : (g.w.freeze ⟨(g.ρ id).block, c.size, none⟩ 1) = setBlock g.w (g.ρ id).block (.cells c cty fz') := by
    unfold World.freeze
    rw [if_neg (by decide)]
    unfold setBlock
    congr 1
    apply Array.ext_getElem?
    intro q
    rw [Array.getElem?_modify, Array.getElem?_setIfInBounds]
    by_cases e : (g.ρ id).block = q
    · subst e
      rw [if_pos rfl, if_pos rfl, i3, if_pos hbb, ← hfz]
      rfl
    · rw [if_neg e, if_neg e]
  have hheap : ∀ q, q ≠ (g.ρ id).block → (setBlock g.w (g.ρ id).block (.cells c cty fz')).heap[q]? = g.w.heap[q]? := fun q hq => by
    rw [setBlock_heap, if_neg (fun e => hq e.1)]
  have hself : (setBlock g.w (g.ρ id).block (.cells c cty fz')).heap[(g.ρ id).block]? = some (.cells c cty fz') := by
    rw [setBlock_heap, if_pos ⟨rfl, hbb⟩]
  have hfo : ∀ off, off < c.size → (setBlock g.w (g.ρ id).block (.cells c cty fz')).frozen? ⟨(g.ρ id).block, off, none⟩ = false := by
    intro off ho
    unfold World.frozen?
    rw [show (setBlock g.w (g.ρ id).block (.cells c cty fz')).heap[(⟨(g.ρ id).block, off, none⟩ : Addr).block]? = _ from hself]
    obtain ⟨p1, p2⟩ := fz'
    have hq : p1 = p2 ∨ c.size ≤ p1 := hfz'
    show (decide (p1 ≤ off) && decide (off < p2)) = false
    rcases hq with q | q
    · simp; omega
    · simp; omega
  have hle : g.Le (g.setVar (g.ρ id).block (.cells c cty fz')) :=
    { n := Nat.le_refl _, ok := fun _ h => h, new := fun _ h => .inl h, ρ := fun _ _ => rfl, ν := fun _ _ => rfl, size := by simp [G.setVar, setBlock],
      lim := fun q k hq hk => by
        refine ⟨k, hk, Nat.le_refl _, fun off _ => ?_⟩
        by_cases e : q = (g.ρ id).block
        · subst e
          show (setBlock g.w _ _).cell? _ = _
          simp only [World.cell?, hself, i3]
        · exact cell?_of_heap (hheap q e)
      oth := fun q hq hst => by
        have e : q ≠ (g.ρ id).block := fun e => by rw [e, i2] at hst; cases hst
        exact ⟨rfl, hheap q e⟩
      os := rfl, tape := rfl, output := rfl, sz := fun q _ => csize_setBlock g.w _ _ (csize_cells i3 rfl) q }
  refine ⟨g.setVar (g.ρ id).block (.cells c cty fz'), hle, ?_, ?_⟩
  rotate_left
  · have hsh : g.w.shape? (g.ρ id).block = some (cty, c.size) := by simp [World.shape?, i3]
    show _ = Result.ok _ (setBlock g.w (g.ρ id).block (.cells c cty fz'))
    rw [← hw]
    simp [markStringish, hsh]
  · constructor
    · exact hS.n
    · exact hS.wf
    · exact hS.okn
    · intro z oz hz
      obtain ⟨v1, v2, v3⟩ := hS.var z oz hz
      exact ⟨v1, v2, v3.mono hle (hheap _ (fun e => by have e' : g.ν z = (g.ρ id).block := e; rw [e', i2] at v2; cases v2))⟩
    · exact hS.inj
    · intro j en' e' hj
      obtain ⟨j1, j2, c', ty', fz2, j3, j4, j5⟩ := hS.ids j en' e' hj
      by_cases e : (g.ρ j).block = (g.ρ id).block
      · have hjj := hS.idinj j id _ _ hj hl e
        subst hjj
        rw [i3] at j3
        cases j3
        refine ⟨j1, j2, c, cty, fz', hself, fun off ho => ?_, j5.1, hfz'⟩
        exact hfo off ho
      · refine ⟨j1, j2, c', ty', fz2, (hheap _ e).trans j3, fun off ho => ?_, j5⟩
        rw [← j4 off ho]
        exact frozen_of_heap (hheap _ e)
    · exact hS.idinj
    · exact hS.kept.mono hle

theorem sound_s2b (him : ∀ f x, im f = some x → M.fm x = f) (hF : FR M g d F a.tmps) (hS : SR M g t) {src dst e : TypeId} {x : Operand} {y : Opd} (h : cmpOpd im d x = some y)
    (h1 : P.underlying src = some .string) (h2 : P.underlying dst = some (.slice e)) (hu : P.underlying e = some (.int .u8)) (ho : o.op = .convert src dst x)
    (hr : opMem .s2b [y] call F t = .ok v t') : Done P M o a g v t' := by
  have vx := opd_ok him hF h
  change memS2b (y.get F) t = _ at hr
  unfold memS2b at hr
  split at hr
  · rename_i s hy
    cases hr
    rw [hy] at vx
    generalize hxv : a.eval x = xv at vx
    cases vx
    let c := g.w.tape g.w.drawn (.appendCap s.length 0 e) % (2 ^ 63 - s.length)
    let row : Array Value := (s.map fun b => Value.int .u8 b.toNat).toArray ++ Array.replicate c (.int .u8 0)
    have hE : EsR M g.drew 1 (s.map fun b => AV.int .u8 b.toNat) row := by
      refine ⟨by simp [row], fun i => .int .u8 (s.getD i 0).toNat, fun i hi => ?_, fun i hi => rfl, fun i j hi hj => ?_⟩
      · have hi' : i < s.length := by simpa using hi
        have e0 : (s.map fun b => AV.int .u8 b.toNat)[i] = .int .u8 (s.getD i 0).toNat := by simp [List.getD, hi']
        rw [e0]
        exact .int _ _
      · have hi' : i < s.length := by simpa using hi
        have : j = 0 := by omega
        subst this
        simp [row, Value.cells, List.getD, hi', Array.getElem?_append]
    have hsl := EsR.slice hS.drew.hok hE e s.length c (s.length + c) true (by simp) (by simp)
    have hnew := hS.drew.newI row e (s.length * 1) 1 c (by simp [row])
    have e2 : (s.map fun b => AV.int .u8 b.toNat).length * 1 = s.length * 1 := by simp
    rw [e2] at hsl
    rw [show g.drew.n = t.n from hS.n] at hsl
    have hlk : look2 t.n (t.newI (s.length * 1) 1).is = some (s.length * 1, 1) := by
      unfold T.newI
      simp [look2_push]
    have hrho : ((g.drew.addRow row e (s.length * 1) c).ρ t.n).block = g.w.heap.size := by
      have : t.n = g.drew.n := hS.n.symm
      rw [this]
      show (setAt g.drew.ρ g.drew.n (⟨g.drew.w.heap.size, 0, c⟩ : Place) g.drew.n).block = _
      rw [setAt_same]
      rfl
    obtain ⟨g', hle, hs', hrun⟩ := mark_core (P := P) (off := 0) hnew hlk
    rw [hrho] at hrun
    refine done_value (g' := g') (v' := .slice (some ⟨g.w.heap.size, 0, none⟩) s.length (s.length + c)) ?_ (g.le_drew.trans ((g.drew.le_addRow hS.drew.hok _ _ _ _).trans hle)) ?_ hs'
    · have hcut : (Question.appendCap s.length 0 e).cut (g.w.tape g.w.drawn (.appendCap s.length 0 e)) = s.length + c := rfl
      simp only [execOp, ho, hxv, convert, Sem.run_bind, run_underlying h1, run_underlying h2, run_underlying hu, Result.andThen_ok, Conv.stringToBytes, run_choose, Question.forced, World.drew_eq, newRow, run_newObj]
      have hrow : Array.map (fun b : UInt8 => Value.int .u8 (b.toNat : Int)) s.toArray ++ Array.replicate (s.length + c - s.length) (Value.int .u8 0) = row := by simp [row]
      have hrun2 : (markStringish ⟨g.w.drew.heap.size, 0, none⟩).run P (g.w.drew.alloc (.cells row e)) = .ok () g'.w := hrun
      simp only [Result.andThen_ok, Sem.run_pure, World.alloc_eq, ByteArray.size, Bool.false_eq_true, if_false, List.size_toArray, hcut, hrow, hrun2]
      rfl
    · have := hsl.mono hle
      have e5 : (s.map fun b => AV.int .u8 b.toNat).length = s.length := by simp
      rw [e5] at this
      exact this
  · cases hr

theorem op_sound1 (him : ∀ f x, im f = some x → M.fm x = f) (hcall : CallOK P M call) (hF : FR M g d F a.tmps) (hS : SR M g t) {ao : AOp}
    (hc : cmpOp1 P im d o.op = some ao) (hr : ao.run call F t = .ok v t') : Done P M o a g v t' := by
  unfold cmpOp1 at hc
  split at hc <;> rename_i ho
  · simp only [Option.bind_eq_bind, Option.bind_eq_some_iff] at hc
    obtain ⟨y, hy, e⟩ := hc
    cases e
    exact sound_mv (call := call) him hF hS hy (.inl ho) hr
  · simp only [Option.bind_eq_bind, Option.bind_eq_some_iff] at hc
    obtain ⟨y, hy, e⟩ := hc
    cases e
    exact sound_mv (call := call) him hF hS hy (.inr ho) hr
  · simp only [Option.bind_eq_bind, Option.bind_eq_some_iff] at hc
    obtain ⟨c', hc', x', hx', y', hy', e⟩ := hc
    cases e
    exact sound_pick (call := call) him hF hS hc' hx' hy' ho hr
  · simp only [Option.bind_eq_bind, Option.bind_eq_some_iff] at hc
    obtain ⟨z, hz, e⟩ := hc
    cases e
    exact sound_alloc (call := call) (F := F) hS hz ho hr
  · simp only [Option.bind_eq_bind, Option.bind_eq_some_iff] at hc
    obtain ⟨y, hy, e⟩ := hc
    cases e
    exact sound_box (call := call) him hF hS hy ho hr
  · exact sound_build (call := call) him hF hS hc ho hr
  · split at hc
    · rename_i e hu
      simp only [Option.bind_eq_bind, Option.bind_eq_some_iff] at hc
      obtain ⟨⟨z, s, b⟩, he, hq⟩ := hc
      simp only at hq
      split at hq
      · rename_i hl
        rw [Option.map_eq_some_iff] at hq
        obtain ⟨ps, hps, rfl⟩ := hq
        split at hr
        · exact sound_buildSo (call := call) him hF hS hu he hl hps ho hr
        · split at hr
          · exact sound_bld him hF hS hu he hl hps ho hr
          · split at hr
            · exact sound_bldc him hF hS hu he hl hps ho hr
            · exact sound_buildS (call := call) him hF hS hu he hl hps ho hr
      · contradiction
    · contradiction
  · simp only [Option.bind_eq_bind, Option.bind_eq_some_iff] at hc
    obtain ⟨y, hy, s, hs, e⟩ := hc
    split at e
    · rename_i ha
      cases e
      exact sound_ldA (call := call) him hF hS hy hs ha ho hr
    · rename_i ha
      cases e
      exact sound_ld1 (call := call) him hF hS hy ha ho hr
    · contradiction
  · simp only [Option.bind_eq_bind, Option.bind_eq_some_iff] at hc
    obtain ⟨s, hs, y, hy, z, hz, e⟩ := hc
    cases e
    exact sound_st (call := call) him hF hS hy hz hs ho hr
  · simp only [Option.bind_eq_bind, Option.bind_eq_some_iff] at hc
    obtain ⟨y, hy, e⟩ := hc
    cases e
    exact sound_nilck (call := call) him hF hS hy ho hr
  · rename_i op ty x y ty' _
    unfold cmpBin at hc
    simp only [Option.bind_eq_bind, Option.bind_eq_some_iff] at hc
    obtain ⟨x', hx, y', hy, e⟩ := hc
    split at e
    · exact sound_eq (call := call) (neg := false) him hF hS hx hy e ho hr
    · exact sound_eq (call := call) (neg := true) him hF hS hx hy e ho hr
    · cases e
      exact sound_bin (call := call) him hF hS hx hy ho hr
  · simp only [Option.bind_eq_bind, Option.bind_eq_some_iff] at hc
    obtain ⟨y, hy, e⟩ := hc
    cases e
    exact sound_un (call := call) him hF hS hy ho hr
  · simp only [Option.bind_eq_bind, Option.bind_eq_some_iff] at hc
    obtain ⟨y, hy, e⟩ := hc
    by_cases hmk : ∃ z, ao = .mark z
    · obtain ⟨z, rfl⟩ := hmk
      unfold cmpConv at e
      split at e
      all_goals (first | (cases e; done) | skip)
      · split at e <;> cases e
      · rename_i e1 e2 hu1 hu2
        split at e
        · rename_i hcond
          cases e
          simp only [Bool.and_eq_true] at hcond
          exact sound_mark (call := call) him hF hS hy hu1 hu2 (by simpa using hcond.1) (isU8_ok P hcond.2) ho hr
        · cases e
      · split at e <;> cases e
    · by_cases hmm : ∃ k xs, ao = .mem k xs
      · obtain ⟨k, xs, rfl⟩ := hmm
        unfold cmpConv at e
        split at e
        all_goals (first | (cases e; done) | skip)
        · rename_i e1 hu1 hu2
          split at e
          · rename_i hcond
            cases e
            exact sound_s2b (call := call) him hF hS hy hu1 hu2 (isU8_ok P hcond) ho hr
          · cases e
        · split at e <;> cases e
        · rename_i e1 hu1 hu2
          split at e
          · rename_i hcond
            cases e
            exact sound_b2s him hF hS hy hu1 hu2 (isU8_ok P hcond) ho hr
          · cases e
      · exact sound_conv (call := call) him hF hS hy e (fun z hz => hmk ⟨z, hz⟩) (fun k xs h => hmm ⟨k, xs, h⟩) ho hr
  · simp only [Option.bind_eq_bind, Option.bind_eq_some_iff] at hc
    obtain ⟨n, hn, fs, hfs, cs, hcs, e⟩ := hc
    cases e
    exact sound_mkfn (call := call) him hF hS hn hfs hcs ho hr
  · split at hc
    · rename_i e hu
      simp only [Option.bind_eq_bind, Option.bind_eq_some_iff] at hc
      obtain ⟨⟨z, s, b⟩, he, l, hl, c', hc', q⟩ := hc
      cases q
      split at hr
      · exact sound_memMkS him hF hS hu he hl hc' ho hr
      · exact sound_mkS (call := call) him hF hS hu he hl hc' ho hr
    · contradiction
  · simp only [Option.bind_eq_bind, Option.bind_eq_some_iff] at hc
    obtain ⟨y, hy, l, hl, h, hh, m, hm, q⟩ := hc
    split at q
    · rename_i hu
      split at q
      · contradiction
      · rename_i hmn
        cases q
        cases m with
        | none =>
          have hm0 := opdO_none hm
          rw [hm0] at ho
          exact sound_slS (call := call) him hF hS hy hl hh hu ho hr
        | some m => simp at hmn
    · rename_i e hu
      split at q
      · contradiction
      · rename_i hmn
        simp only [Option.bind_eq_some_iff] at q
        obtain ⟨s, hs, q⟩ := q
        cases q
        refine sound_slL (call := call) him hF hS hy hl hh hm ?_ hu hs ho hr
        intro h1
        cases h with
        | none => simp [h1] at hmn
        | some _ => rfl
    · contradiction
  · split at hc
    · rename_i fs hu
      simp only [Option.bind_eq_bind, Option.bind_eq_some_iff] at hc
      obtain ⟨fl, hfl, s, hs, q⟩ := hc
      split at q
      · contradiction
      · rename_i h0
        simp only [Option.bind_eq_some_iff] at q
        obtain ⟨y, hy, q⟩ := q
        cases q
        exact sound_faddr (call := call) him hF hS hy hu hfl hs h0 ho hr
    · contradiction
  · split at hc
    · rename_i e hu
      simp only [Option.bind_eq_bind, Option.bind_eq_some_iff] at hc
      obtain ⟨s, hs, y, hy, j, hj, q⟩ := hc
      cases q
      exact sound_iaddr (call := call) him hF hS hy hj hu hs ho hr
    · rename_i n e hu
      simp only [Option.bind_eq_bind, Option.bind_eq_some_iff] at hc
      obtain ⟨s, hs, y, hy, j, hj, q⟩ := hc
      cases q
      exact sound_iaddrA (call := call) him hF hS hy hj hu hs ho hr
    · contradiction
  · split at hc
    · rename_i fs hu
      simp only [Option.bind_eq_bind, Option.bind_eq_some_iff] at hc
      obtain ⟨fl, hfl, s, hs, q⟩ := hc
      split at q
      · rename_i ha
        simp only [Option.bind_eq_some_iff] at q
        obtain ⟨y, hy, q⟩ := q
        cases q
        exact sound_fldA (call := call) him hF hS hy hu hfl ha hs ho hr
      · rename_i ha
        simp only [Option.bind_eq_some_iff] at q
        obtain ⟨y, hy, q⟩ := q
        cases q
        exact sound_fld1 (call := call) him hF hS hy hu hfl ha ho hr
      · contradiction
    · contradiction
  · split at hc
    · rename_i hu
      simp only [Option.bind_eq_bind, Option.bind_eq_some_iff] at hc
      obtain ⟨y, hy, j, hj, q⟩ := hc
      cases q
      exact sound_idxS (call := call) him hF hS hy hj hu ho hr
    · rename_i n e hu
      simp only [Option.bind_eq_bind, Option.bind_eq_some_iff] at hc
      obtain ⟨s, hs, q⟩ := hc
      split at q
      · rename_i ha
        simp only [Option.bind_eq_some_iff] at q
        obtain ⟨y, hy, j, hj, q⟩ := q
        cases q
        exact sound_idxA (call := call) him hF hS hy hj hu ha hs ho hr
      · rename_i ha
        split at q
        · rename_i h1
          simp only [Option.bind_eq_some_iff] at q
          obtain ⟨y, hy, j, hj, q⟩ := q
          cases q
          exact sound_idx1 (call := call) him hF hS hy hj hu ha hs h1 ho hr
        · contradiction
      · contradiction
    · contradiction
  · simp only [Option.bind_eq_bind, Option.bind_eq_some_iff] at hc
    obtain ⟨y, hy, q⟩ := hc
    cases q
    exact sound_ext (call := call) him hF hS hy ho hr
  · exact sound_callop him hcall hF hS hc ho hr
  · cases hc
    cases hr
    exact sound_mkmap hS ho
  · split at hc
    · rename_i k e hu
      simp only [Option.bind_eq_bind, Option.bind_eq_some_iff] at hc
      obtain ⟨z, hz, m, hm, y, hy, kk, hk, q⟩ := hc
      cases q
      exact sound_lkp him hF hS hu hz hm hy hk ho hr
    · contradiction
  · split at hc
    · rename_i k e hu
      simp only [Option.bind_eq_bind, Option.bind_eq_some_iff] at hc
      obtain ⟨m, hm, y, hy, w, hw, kk, hk, q⟩ := hc
      cases q
      exact sound_mup him hF hS hu hm hy hw hk ho hr
    · contradiction
  · split at hc
    · rename_i k hu
      simp only [Option.bind_eq_bind, Option.bind_eq_some_iff] at hc
      obtain ⟨y, hy, q⟩ := hc
      cases q
      exact sound_mki (call := call) him hF hS hy hu ho hr
    · contradiction
  · contradiction

theorem op_sound (him : ∀ f x, im f = some x → M.fm x = f) (hcall : CallOK P M call) (hF : FR M g d F a.tmps) (hS : SR M g t) {ao : AOp}
    (hc : cmpOp P im d o.op = some ao) (hr : ao.run call F t = .ok v t') : Done P M o a g v t' := by
  rcases cmpOp_cases hc with hc | rfl
  · exact op_sound1 him hcall hF hS hc hr
  · cases hr

end

end M2
end
section
namespace M2
open Go

/-! ### Code -/

theorem wp_loop_n {P : Program} {c : Code} {Q : Exit → Act → World → Prop} (I : Nat → Act → World → Prop)
    (round : ∀ n a w, I n a w → c.wp P (Exit.then (fun a' w' => ∃ m, m < n ∧ I m a' w') Q) a w) : ∀ n a w, I n a w → (Code.loop c).wp P Q a w := by
  intro n a w h b k cs
  have key : ∀ n a w, I n a w → ∃ e a' w', Q e a' w' ∧ Arrives P (lone (b.at a (.code c :: .inLoop c :: k)) cs w) b k cs e a' w' := by
    intro n
    induction n using Nat.strongRecOn with
    | _ n ih =>
      intro a w hI
      obtain ⟨e, a₁, w₁, hq, harr⟩ := round n a w hI b (.inLoop c :: k) cs
      cases e with
      | normal =>
        obtain ⟨m, hlt, hI₁⟩ := hq
        obtain ⟨e₂, a₂, w₂, hq₂, harr₂⟩ := ih m hlt a₁ w₁ hI₁
        exact ⟨e₂, a₂, w₂, hq₂, .of_steps (Steps.trans harr (.one step_inLoop)) harr₂⟩
      | exit id => exact ⟨_, a₁, w₁, hq, .pass (x := .inLoop c) rfl (fun _ _ => .inl (by simp)) harr⟩
      | goto l => exact ⟨_, a₁, w₁, hq, .pass (x := .inLoop c) rfl (fun _ _ => .inl (by simp)) harr⟩
      | ret => exact ⟨_, a₁, w₁, hq, .pass (x := .inLoop c) rfl (fun _ _ => .inl (by simp)) harr⟩
      | panic ch => exact ⟨_, a₁, w₁, hq, .pass (x := .inLoop c) rfl (fun _ _ => .inl (by simp)) harr⟩
      | outgrown => exact ⟨_, a₁, w₁, hq, .pass (x := .inLoop c) rfl (fun _ _ => .inl (by simp)) harr⟩
  obtain ⟨e, a', w', hq, harr⟩ := key n a w h
  exact ⟨e, a', w', hq, .of_steps (.one step_loop) harr⟩

/-- a frame and a state stand for the model's -/
structure Fits (M : Maps) (g : G) (d ntmps : Nat) (F : Fr) (t : T) (a : Act) : Prop where
  f : FR M g d F a.tmps
  s : SR M g t
  n : a.tmps.size = ntmps
  d : a.defers = []

def Post (M : Maps) (g : G) (d ntmps : Nat) (Q : Exit → Act → World → Prop) : RR → Prop
  | .fail => False
  | .norm F t => ∀ g' a, g.Le g' → Fits M g' d ntmps F t a → Q .normal a g'.w
  | .exit id F t => ∀ g' a, g.Le g' → Fits M g' d ntmps F t a → Q (.exit id) a g'.w
  | .ret F t => ∀ g' a, g.Le g' → Fits M g' d ntmps F t a → Q .ret a g'.w

theorem Post.later {M : Maps} {g g' : G} (h : g.Le g') {d ntmps : Nat} {Q : Exit → Act → World → Prop} {r : RR} (hp : Post M g d ntmps Q r) : Post M g' d ntmps Q r := by
  cases r with
  | fail => exact hp
  | norm F t => exact fun g'' a hl hf => hp g'' a (h.trans hl) hf
  | exit id F t => exact fun g'' a hl hf => hp g'' a (h.trans hl) hf
  | ret F t => exact fun g'' a hl hf => hp g'' a (h.trans hl) hf

def CodeOK (P : Program) (M : Maps) (im : FuncId → Option Nat) (e : Ev) : Prop :=
  ∀ d ntmps c ac, cmpC P im d ntmps c = some ac → ∀ g F t a Q, Fits M g d ntmps F t a → Post M g d ntmps Q (e ac F t) → c.wp P Q a g.w

section
variable {P : Program} {M : Maps} {im : FuncId → Option Nat} {d ntmps : Nat} {call : CallF}

theorem put_fits {g : G} {F : Fr} {t : T} {a : Act} (hf : Fits M g d ntmps F t a) {o : Option Tmp} {r : Option Bits} (hd : cmpDst d ntmps o = some r) {v : AV} {v' : Value} (hv : VR M g v v') :
    Fits M g d ntmps (F.putO? r v) t (a.put o v') := by
  cases o with
  | none => cases hd; exact hf
  | some u =>
    simp only [cmpDst] at hd
    split at hd
    · rename_i h
      cases hd
      have h1 : FR M g d (F.put (pth d u) v) (a.tmps.setIfInBounds u v') := hf.f.put (by rw [hf.n]; exact h.1) hv
      exact ⟨h1, hf.s, by simp [Act.put, hf.n], hf.d⟩
    · contradiction

theorem wanted_ok {g : G} {F : Fr} {t : T} {a : Act} (hf : Fits M g d ntmps F t a) {ops : Array Oper} {o : Oper} {q : Option (Bits × Bool)} (hq : cmpGuard d ntmps ops o.guard = some q)
    {b : Bool} (hw : wantedA F q = some b) : Region.wanted o (yielded ops a.tmps) = b := by
  unfold Region.wanted
  cases hg : o.guard with
  | none =>
    rw [hg] at hq
    cases hq
    cases hw
    rfl
  | some p =>
    obtain ⟨j, want⟩ := p
    rw [hg] at hq
    simp only [cmpGuard] at hq
    split at hq
    · rename_i u hu
      split at hq
      · rename_i hlt
        cases hq
        have hv := hf.f.rel u hlt.2
        unfold wantedA at hw
        simp only at hw
        have hsz : u < a.tmps.size := by rw [hf.n]; exact hlt.1
        have hget : a.tmps[u]? = some (a.tmps.getD u undef) := by simp [Array.getD, hsz]
        split at hw
        · rename_i b' hb'
          cases hw
          rw [hb'] at hv
          generalize a.tmps.getD u undef = x at hv hget
          cases hv
          show (yielded ops a.tmps j == some want) = (b' == want)
          simp [yielded, hu, hget]
        · rename_i l hl
          cases hw
          rw [hl] at hv
          generalize a.tmps.getD u undef = x at hv hget
          cases hv
          show (yielded ops a.tmps j == some want) = false
          simp [yielded, hu, hget]
        · contradiction
      · contradiction
    · contradiction

theorem ops_sound (him : ∀ f x, im f = some x → M.fm x = f) (hcall : CallOK P M call) (ops : Array Oper) (Q : Exit → Act → World → Prop) : ∀ (l : List Oper) (al : List AO),
    l.mapM (cmpO P im d ntmps ops) = some al → ∀ g F t a, Fits M g d ntmps F t a → Post M g d ntmps Q (runOps al call F t) → wpList P ops Q l a g.w := by
  intro l
  induction l with
  | nil =>
    intro al h g F t a hf hp
    simp at h
    subst h
    exact hp g a (.refl g) hf
  | cons o l ih =>
    intro al h g F t a hf hp
    simp only [List.mapM_cons, Option.bind_eq_bind, Option.bind_eq_some_iff, Option.pure_def] at h
    obtain ⟨ao, hao, als, hals, e⟩ := h
    cases e
    unfold cmpO at hao
    simp only [Option.bind_eq_bind, Option.bind_eq_some_iff] at hao
    obtain ⟨op, hop, r, hr, q, hq, e⟩ := hao
    cases e
    have hrun : runOps ({ dst := r, guard := q, op := op } :: als) call F t = opsCons { dst := r, guard := q, op := op } als (fun call F t => runOps als call F t) call F t := rfl
    rw [hrun] at hp
    unfold opsCons at hp
    simp only at hp
    unfold wpList
    cases hw : wantedA F q with
    | none => rw [hw] at hp; exact hp.elim
    | some b =>
      rw [hw] at hp
      rw [wanted_ok hf hq hw]
      cases b with
      | true =>
        simp only [if_true]
        cases hres : op.run call F t with
        | fail => rw [hres] at hp; exact hp.elim
        | ok v t1 =>
          simp only [hres] at hp
          refine .inl (op_sound him hcall hf.f hf.s hop hres _ _ (fun g' v' hle hv hs => ?_))
          exact ih als hals g' _ t1 _ (put_fits ⟨hf.f.mono hle, hs, hf.n, hf.d⟩ hr hv) (hp.later hle)
      | false =>
        simp only [Bool.false_eq_true, if_false]
        exact ih als hals g _ t _ (put_fits hf hr undef_ok) hp

end

end M2
end
section
namespace M2
open Go

/-! ### Regions that draw their order -/

section
variable {call : CallF} {t : T}

theorem optP_get {x : Opd} {F F' : Fr} (h : ∀ p, p ∈ optP x → F.get p = F'.get p) : x.get F = x.get F' := by
  cases x with
  | t p => exact h p (by simp [optP, optPaths])
  | c v => rfl

theorem optPs_get {xs : List Opd} {F F' : Fr} (h : ∀ p, p ∈ xs.flatMap optP → F.get p = F'.get p) : xs.map (·.get F) = xs.map (·.get F') := by
  induction xs with
  | nil => rfl
  | cons x xs ih =>
    rw [List.map_cons, List.map_cons, optP_get (fun p hp => h p (by simp [hp])), ih (fun p hp => h p (by rw [List.flatMap_cons]; exact List.mem_append_right _ hp))]

theorem bnd_congr {x : Option Opd} {F F' : Fr} (h : ∀ p, p ∈ optPaths x → F.get p = F'.get p) (a b : Nat) : bnd x F a b = bnd x F' a b := by
  cases x with
  | none => rfl
  | some x => unfold bnd; simp only; rw [optP_get h]

theorem fillA_congr {F F' : Fr} : ∀ (ps : List (Nat × Nat × Opd)) (cs : List AV), (∀ p, p ∈ ps.flatMap (fun p => optP p.2.2) → F.get p = F'.get p) → fillA F cs ps = fillA F' cs ps := by
  intro ps
  induction ps with
  | nil => intro cs _; rfl
  | cons p ps ih =>
    intro cs h
    obtain ⟨o, s, x⟩ := p
    have hx : x.get F = x.get F' := optP_get (fun p hp => h p (by rw [List.flatMap_cons]; exact List.mem_append_left _ hp))
    have hr := fun cs => ih cs (fun p hp => h p (by rw [List.flatMap_cons]; exact List.mem_append_right _ hp))
    simp only [fillA, hx, hr]

theorem fillS_congr {F F' : Fr} (e : Nat) : ∀ (ps : List (Nat × Opd)) (cs : List AV), (∀ p, p ∈ ps.flatMap (fun p => optP p.2) → F.get p = F'.get p) → fillS F e cs ps = fillS F' e cs ps := by
  intro ps
  induction ps with
  | nil => intro cs _; rfl
  | cons p ps ih =>
    intro cs h
    obtain ⟨o, x⟩ := p
    have hx : x.get F = x.get F' := optP_get (fun p hp => h p (by rw [List.flatMap_cons]; exact List.mem_append_left _ hp))
    have hr := fun cs => ih cs (fun p hp => h p (by rw [List.flatMap_cons]; exact List.mem_append_right _ hp))
    simp only [fillS, hx, hr]

theorem run_congr (ao : AOp) {F F' : Fr} (h : ∀ p, p ∈ opPaths ao → F.get p = F'.get p) : ao.run call F t = ao.run call F' t := by
  have two : ∀ {x y : Opd}, (∀ p, p ∈ optP x ++ optP y → F.get p = F'.get p) → x.get F = x.get F' ∧ y.get F = y.get F' := fun h =>
    ⟨optP_get (fun p hp => h p (List.mem_append_left _ hp)), optP_get (fun p hp => h p (List.mem_append_right _ hp))⟩
  cases ao with
  | mv x => show opMv x call F t = opMv x call F' t; unfold opMv; rw [optP_get h]
  | pick c a b =>
    have h1 := two (x := a) (y := b) (fun p hp => h p (by
      simp only [opPaths, List.append_assoc]; exact List.mem_append_right _ hp))
    have h2 : c.get F = c.get F' := optP_get (fun p hp => h p (by simp only [opPaths, List.append_assoc]; exact List.mem_append_left _ hp))
    show opPick c a b call F t = opPick c a b call F' t
    unfold opPick
    rw [h1.1, h1.2, h2]
  | alloc z => rfl
  | box x => show opBox x call F t = opBox x call F' t; unfold opBox; rw [optP_get h]
  | build z ps => show opBuild z ps call F t = opBuild z ps call F' t; unfold opBuild; rw [fillA_congr ps z h]
  | buildS e l z ps => show opBuildS e l z ps call F t = opBuildS e l z ps call F' t; unfold opBuildS; rw [fillS_congr e ps _ h]
  | ld1 x => show opLd1 x call F t = opLd1 x call F' t; unfold opLd1; rw [optP_get h]
  | ldA n x => show opLdA n x call F t = opLdA n x call F' t; unfold opLdA; rw [optP_get h]
  | st n a b => have := two h; show opSt n a b call F t = opSt n a b call F' t; unfold opSt; rw [this.1, this.2]
  | nilck x => show opNilck x call F t = opNilck x call F' t; unfold opNilck; rw [optP_get h]
  | bin o a b => have := two h; show opBin o a b call F t = opBin o a b call F' t; unfold opBin; rw [this.1, this.2]
  | eqk k n a b => have := two h; show opEqk k n a b call F t = opEqk k n a b call F' t; unfold opEqk; rw [this.1, this.2]
  | eqs k n a b => have := two h; show opEqs k n a b call F t = opEqs k n a b call F' t; unfold opEqs; rw [this.1, this.2]
  | un o x => show opUn o x call F t = opUn o x call F' t; unfold opUn; rw [optP_get h]
  | cv k x => show opCv k x call F t = opCv k x call F' t; unfold opCv; rw [optP_get h]
  | mkfn f a b =>
    show opMkfn f a b call F t = opMkfn f a b call F' t
    unfold opMkfn
    rw [optPs_get (fun p hp => h p (List.mem_append_left _ hp)), optPs_get (fun p hp => h p (List.mem_append_right _ hp))]
  | mkS e b z l c => have := two h; show opMkS e b z l c call F t = opMkS e b z l c call F' t; unfold opMkS; rw [this.1, this.2]
  | slS x lo hi =>
    have h1 : x.get F = x.get F' := optP_get (fun p hp => h p (by simp only [opPaths, List.append_assoc]; exact List.mem_append_left _ hp))
    have h2 := bnd_congr (x := lo) (F := F) (F' := F') (fun p hp => h p (by simp only [opPaths, List.mem_append]; exact .inl (.inr hp)))
    have h3 := bnd_congr (x := hi) (F := F) (F' := F') (fun p hp => h p (by simp only [opPaths, List.mem_append]; exact .inr hp))
    show opSlS x lo hi call F t = opSlS x lo hi call F' t
    unfold opSlS
    rw [h1]
    simp only [h2, h3]
  | slL e x lo hi mx =>
    have h1 : x.get F = x.get F' := optP_get (fun p hp => h p (by simp only [opPaths, List.append_assoc]; exact List.mem_append_left _ hp))
    have h2 := bnd_congr (x := lo) (F := F) (F' := F') (fun p hp => h p (by simp only [opPaths, List.mem_append]; exact .inl (.inl (.inr hp))))
    have h3 := bnd_congr (x := hi) (F := F) (F' := F') (fun p hp => h p (by simp only [opPaths, List.mem_append]; exact .inl (.inr hp)))
    have h4 := bnd_congr (x := mx) (F := F) (F' := F') (fun p hp => h p (by simp only [opPaths, List.mem_append]; exact .inr hp))
    show opSlL e x lo hi mx call F t = opSlL e x lo hi mx call F' t
    unfold opSlL
    rw [h1]
    simp only [h2, h3, h4]
  | faddr o x => show opFaddr o x call F t = opFaddr o x call F' t; unfold opFaddr; rw [optP_get h]
  | iaddr e a b => have := two h; show opIaddr e a b call F t = opIaddr e a b call F' t; unfold opIaddr; rw [this.1, this.2]
  | iaddrA n e a b => have := two h; show opIaddrA n e a b call F t = opIaddrA n e a b call F' t; unfold opIaddrA; rw [this.1, this.2]
  | fld1 o x => show opFld1 o x call F t = opFld1 o x call F' t; unfold opFld1; rw [optP_get h]
  | fldA o n x => show opFldA o n x call F t = opFldA o n x call F' t; unfold opFldA; rw [optP_get h]
  | idxS a b => have := two h; show opIdxS a b call F t = opIdxS a b call F' t; unfold opIdxS; rw [this.1, this.2]
  | idx1 n a b => have := two h; show opIdx1 n a b call F t = opIdx1 n a b call F' t; unfold opIdx1; rw [this.1, this.2]
  | idxA n e a b => have := two h; show opIdxA n e a b call F t = opIdxA n e a b call F' t; unfold opIdxA; rw [this.1, this.2]
  | ext x i => show opExt x i call F t = opExt x i call F' t; unfold opExt; rw [optP_get h]
  | call f xs => show opCall f xs call F t = opCall f xs call F' t; unfold opCall; rw [optPs_get h]
  | calld f xs =>
    have h1 : f.get F = f.get F' := optP_get (fun p hp => h p (List.mem_append_left _ hp))
    have h2 := optPs_get (xs := xs) (fun p hp => h p (List.mem_append_right _ hp))
    show opCalld f xs call F t = opCalld f xs call F' t
    unfold opCalld
    rw [h1, h2]
  | len s x => show opLen s x call F t = opLen s x call F' t; unfold opLen; rw [optP_get h]
  | app e b z x y => have := two h; show opApp e b z x y call F t = opApp e b z x y call F' t; unfold opApp; rw [this.1, this.2]
  | cpx a b => have := two h; show opCpx a b call F t = opCpx a b call F' t; unfold opCpx; rw [this.1, this.2]
  | re x => show opRe x call F t = opRe x call F' t; unfold opRe; rw [optP_get h]
  | im x => show opIm x call F t = opIm x call F' t; unfold opIm; rw [optP_get h]
  | buildSo e l z ps => show opBuildSo e l z ps call F t = opBuildSo e l z ps call F' t; unfold opBuildSo; rw [fillS_congr e ps _ h]
  | mem k xs => show opMem k xs call F t = opMem k xs call F' t; unfold opMem; rw [optPs_get h]
  | ixb x y => have := two h; show opIxb x y call F t = opIxb x y call F' t; unfold opIxb; rw [this.1, this.2]
  | mark x => show opMark x call F t = opMark x call F' t; unfold opMark; rw [optP_get h]
  | mnx m a b => have := two h; show opMnx m a b call F t = opMnx m a b call F' t; unfold opMnx; rw [this.1, this.2]

end

/-! #### what must come ahead -/

inductive Anc (ops : List Oper) : Nat → Nat → Prop where
  | edge (i : Nat) (o : Oper) (e : Edge) (ho : ops[i]? = some o) (he : e ∈ o.after) (hb : Region.binds .any e = true) : Anc ops i e.on
  | trans (i j k : Nat) (h : Anc ops i j) (h' : Anc ops j k) : Anc ops i k

theorem maskOf_spec (acc : List Nat) (o : Oper) (j : Nat) (h : (maskOf acc o).testBit j = true) :
    ∃ e, e ∈ o.after ∧ Region.binds .any e = true ∧ (j = e.on ∨ (acc.getD e.on 0).testBit j = true) := by
  unfold maskOf at h
  have key : ∀ (l : List Edge) (s : Nat), (l.foldl (fun s e => if Region.binds .any e then s ||| 2 ^ e.on ||| acc.getD e.on 0 else s) s).testBit j = true →
      s.testBit j = true ∨ ∃ e, e ∈ l ∧ Region.binds .any e = true ∧ (j = e.on ∨ (acc.getD e.on 0).testBit j = true) := by
    intro l
    induction l with
    | nil => intro s h; exact .inl h
    | cons e l ih =>
      intro s h
      simp only [List.foldl_cons] at h
      rcases ih _ h with h | ⟨e', h1, h2, h3⟩
      · split at h
        · rename_i hb
          rw [Nat.testBit_or, Nat.testBit_or, Bool.or_eq_true, Bool.or_eq_true, Nat.testBit_two_pow] at h
          rcases h with (h | h) | h
          · exact .inl h
          · exact .inr ⟨e, by simp, hb, .inl (by have := of_decide_eq_true h; omega)⟩
          · exact .inr ⟨e, by simp, hb, .inr h⟩
        · exact .inl h
      · exact .inr ⟨e', by simp [h1], h2, h3⟩
  rcases key _ _ h with h | ⟨e, h1, h2, h3⟩
  · simp at h
  · exact ⟨e, by simpa using h1, h2, h3⟩

theorem masks_spec (ops : List Oper) (i j : Nat) (h : bit (masks ops) i j = true) : Anc ops i j := by
  have key : ∀ (l pre : List Oper) (acc : List Nat), ops = pre ++ l → acc.length = pre.length → (∀ i j, (acc.getD i 0).testBit j = true → Anc ops i j) →
      ∀ i j, ((l.foldl (fun acc o => acc ++ [maskOf acc o]) acc).getD i 0).testBit j = true → Anc ops i j := by
    intro l
    induction l with
    | nil => intro pre acc _ _ h i j hb; exact h i j hb
    | cons o l ih =>
      intro pre acc hops hlen h i j hb
      refine ih (pre ++ [o]) (acc ++ [maskOf acc o]) (by simp [hops]) (by simp [hlen]) ?_ i j hb
      intro i j hb
      by_cases h1 : i < acc.length
      · exact h i j (by simpa [List.getD, List.getElem?_append_left h1] using hb)
      · by_cases h2 : i = acc.length
        · subst h2
          have hb' : (maskOf acc o).testBit j = true := by simpa [List.getD] using hb
          obtain ⟨e, e1, e2, e3⟩ := maskOf_spec acc o j hb'
          have ho : ops[acc.length]? = some o := by rw [hops, hlen]; simp
          rcases e3 with rfl | e3
          · exact .edge _ o e ho e1 e2
          · exact .trans _ _ _ (.edge _ o e ho e1 e2) (h _ _ e3)
        · have : (acc ++ [maskOf acc o]).getD i 0 = 0 := by
            rw [List.getD_eq_getElem?_getD, List.getElem?_eq_none (by simp; omega)]
            rfl
          rw [this] at hb
          simp at hb
  exact key ops [] [] rfl rfl (fun i j h => by simp at h) i j h

end M2
end
section
namespace M2
open Go

/-! #### the text's own course through a drawn region -/

def rng (Ts : Nat → T) (j id : Nat) : Prop := (Ts j).n ≤ id ∧ id < (Ts (j + 1)).n
def ancp (ops : List Oper) (r : Nat) (g0 : G) (Ts : Nat → T) (i id : Nat) : Prop := g0.ok id ∨ ∃ k, Anc ops i k ∧ k < r ∧ rng Ts k id
def ancs (ops : List Oper) (r : Nat) (g0 : G) (Ts : Nat → T) (j id : Nat) : Prop := g0.ok id ∨ ∃ k, (k = j ∨ Anc ops j k) ∧ k < r ∧ rng Ts k id

def StepR (call : CallF) (ka : DK × AO) (F : Fr) (t : T) (v : AV) (F' : Fr) (t1 : T) : Prop :=
  F' = F.putO? ka.2.dst v ∧ ((wantedA F ka.2.guard = some true ∧ ∃ t', ka.2.op.run call F (viewD ka.1 t) = .ok v t' ∧ mergeD ka.1 t t' = some t1) ∨
    (wantedA F ka.2.guard = some false ∧ v = undefA ∧ t1 = t))

/-- the variable that an operation gets at, if it is carried out -/
def gets (ka : DK × AO) (F : Fr) (x : Nat) (s : Bool) : Prop := wantedA F ka.2.guard = some true ∧ accX ka.1 ka.2.op F = some (x, s)

/-- of two that get at one variable, one of them to write, the later one knows of the earlier one -/
def LogOK (ks : List (DK × AO)) (Fs : Nat → Fr) : Prop :=
  ∀ i j (hi : i < ks.length) (hj : j < ks.length), j < i → ∀ x s s', gets ks[i] (Fs i) x s → gets ks[j] (Fs j) x s' → (s || s') = true → (ks[i].1.place.2).testBit ks[j].1.place.1 = true

theorem logX_spec {k : DK} {p : Option (Nat × Bool)} {l l1 : Log} (h : logX k p l = some l1) {x : Nat} {s : Bool} (hp : p = some (x, s)) :
    l1 = (k.place.1, x, s) :: l ∧ ∀ e, e ∈ l → e.2.1 = x → (s || e.2.2) = true → k.place.2.testBit e.1 = true := by
  subst hp
  unfold logX at h
  simp only at h
  cases hok : okLog k.place.2 x s l with
  | false => rw [hok] at h; cases h
  | true =>
    rw [hok] at h
    cases h
    refine ⟨rfl, fun e he hx hs => ?_⟩
    unfold okLog at hok
    rw [List.all_eq_true] at hok
    have := hok e he
    rw [hs, beq_true hx] at this
    simpa using this

theorem logD_spec {k : DK} {op : AOp} {F : Fr} {l l1 : Log} (h : logD k op F l = some l1) :
    (∀ x s, accX k op F = some (x, s) → l1 = (k.place.1, x, s) :: l ∧ ∀ e, e ∈ l → e.2.1 = x → (s || e.2.2) = true → k.place.2.testBit e.1 = true) ∧ (∀ e, e ∈ l → e ∈ l1) := by
  have gen : ∀ p, logX k p l = some l1 → ∀ e, e ∈ l → e ∈ l1 := by
    intro p hp e he
    cases p with
    | none => cases hp; exact he
    | some q =>
      obtain ⟨x, s⟩ := q
      rw [(logX_spec hp rfl).1]
      exact List.mem_cons_of_mem _ he
  cases k with
  | loadm i m => exact ⟨fun x s hx => logX_spec h hx, gen _ h⟩
  | sto i m => exact ⟨fun x s hx => logX_spec h hx, gen _ h⟩
  | pure => cases h; exact ⟨fun x s hx => by simp [accX] at hx, fun e he => he⟩
  | load => cases h; exact ⟨fun x s hx => by simp [accX] at hx, fun e he => he⟩
  | iso => cases h; exact ⟨fun x s hx => by simp [accX] at hx, fun e he => he⟩

theorem runD_trace (ws : List AO) (call : CallF) : ∀ (ks : List (DK × AO)) (F : Fr) (t : T) (l : Log), runD ks ws call F t l ≠ .fail →
    ∃ (Fs : Nat → Fr) (Ts : Nat → T) (vs : Nat → AV), Fs 0 = F ∧ Ts 0 = t ∧ (∀ i (h : i < ks.length), StepR call ks[i] (Fs i) (Ts i) (vs i) (Fs (i + 1)) (Ts (i + 1))) ∧
      runD ks ws call F t l = runOps ws call (Fs ks.length) (Ts ks.length) ∧ LogOK ks Fs ∧
      (∀ i (h : i < ks.length) x s, gets ks[i] (Fs i) x s → ∀ e, e ∈ l → e.2.1 = x → (s || e.2.2) = true → ks[i].1.place.2.testBit e.1 = true) := by
  intro ks
  induction ks with
  | nil => intro F t l _; exact ⟨fun _ => F, fun _ => t, fun _ => .und, rfl, rfl, fun i h => absurd h (by simp), rfl, fun i j h => absurd h (by simp), fun i h => absurd h (by simp)⟩
  | cons k ks ih =>
    intro F t l hne
    have hrun : runD (k :: ks) ws call F t l = dCons k ks (fun call F t l => runD ks ws call F t l) call F t l := rfl
    rw [hrun] at hne
    have build : ∀ v t1 l1, StepR call k F t v (F.putO? k.2.dst v) t1 → runD (k :: ks) ws call F t l = runD ks ws call (F.putO? k.2.dst v) t1 l1 → runD ks ws call (F.putO? k.2.dst v) t1 l1 ≠ .fail →
        (∀ e, e ∈ l → e ∈ l1) → (∀ x s, gets k F x s → (k.1.place.1, x, s) ∈ l1 ∧ ∀ e, e ∈ l → e.2.1 = x → (s || e.2.2) = true → k.1.place.2.testBit e.1 = true) →
        ∃ (Fs : Nat → Fr) (Ts : Nat → T) (vs : Nat → AV), Fs 0 = F ∧ Ts 0 = t ∧ (∀ i (h : i < (k :: ks).length), StepR call (k :: ks)[i] (Fs i) (Ts i) (vs i) (Fs (i + 1)) (Ts (i + 1))) ∧
          runD (k :: ks) ws call F t l = runOps ws call (Fs (k :: ks).length) (Ts (k :: ks).length) ∧ LogOK (k :: ks) Fs ∧
          (∀ i (h : i < (k :: ks).length) x s, gets (k :: ks)[i] (Fs i) x s → ∀ e, e ∈ l → e.2.1 = x → (s || e.2.2) = true → (k :: ks)[i].1.place.2.testBit e.1 = true) := by
      intro v t1 l1 hs heq hne' hsub hg
      obtain ⟨Fs, Ts, vs, h1, h2, h3, h4, h5, h6⟩ := ih _ _ _ hne'
      refine ⟨fun i => match i with | 0 => F | i + 1 => Fs i, fun i => match i with | 0 => t | i + 1 => Ts i, fun i => match i with | 0 => v | i + 1 => vs i, rfl, rfl, ?_, ?_, ?_, ?_⟩
      · intro i hi
        cases i with
        | zero => simp only [List.getElem_cons_zero, h1, h2]; exact hs
        | succ i => simpa using h3 i (by simpa using hi)
      · rw [heq, h4]; rfl
      · intro i j hi hj hlt x s s' hgi hgj hss
        cases i with
        | zero => omega
        | succ i =>
          cases j with
          | zero =>
            have := h6 i (by simpa using hi) x s (by simpa using hgi) _ (hg x s' (by simpa using hgj)).1 rfl hss
            simpa using this
          | succ j => simpa using h5 i j (by simpa using hi) (by simpa using hj) (by omega) x s s' (by simpa using hgi) (by simpa using hgj) hss
      · intro i hi x s hgi e he hx hss
        cases i with
        | zero => exact (hg x s (by simpa using hgi)).2 e he hx hss
        | succ i => simpa using h6 i (by simpa using hi) x s (by simpa using hgi) e (hsub e he) hx hss
    unfold dCons at hne
    split at hne
    · rename_i hw
      split at hne
      · rename_i l1 hl
        split at hne
        · rename_i v t' hop
          split at hne
          · rename_i t1 hm
            obtain ⟨g1, g2⟩ := logD_spec hl
            refine build v t1 l1 ⟨rfl, .inl ⟨hw, t', hop, hm⟩⟩ ?_ hne g2 (fun x s hg => ?_)
            · rw [hrun]; unfold dCons; simp only [hw, hl, hop, hm]
            · obtain ⟨q1, q2⟩ := g1 x s hg.2
              exact ⟨by rw [q1]; exact List.mem_cons_self, q2⟩
          · exact absurd rfl hne
        · exact absurd rfl hne
      · exact absurd rfl hne
    · rename_i hw
      refine build undefA t l ⟨rfl, .inr ⟨hw, rfl, rfl⟩⟩ ?_ hne (fun _ h => h) (fun x s hg => ?_)
      · rw [hrun]; unfold dCons; simp only [hw]
      · have := hg.1
        rw [hw] at this
        cases this
    · exact absurd rfl hne

/-- a variable that the operation makes -/
def New (Ts : Nat → T) (j : Nat) (o : VObj) : Prop := (Ts (j + 1)).vs = push ((Ts j).n, o) (Ts j).vs ∧ (Ts j).n < (Ts (j + 1)).n

theorem merge_facts {k : DK} {t t' t1 : T} (h : mergeD k t t' = some t1) :
    (isLd k = true → t1 = t) ∧ (k = .iso → t1.n = t'.n ∧ t1.vs = t.vs ∧ t1.is = t'.is ∧ t'.vs.flatten = [] ∧ t.n ≤ t'.n) ∧
    (k = .pure → t1.n = t'.n ∧ t1.is = t.is ∧ t'.is.flatten = [] ∧ t.n ≤ t'.n ∧
      ((t'.vs.flatten = [] ∧ t1.vs = t.vs) ∨ ∃ o, t'.vs.flatten = [(t.n, o)] ∧ t1.vs = push (t.n, o) t.vs ∧ t.n < t'.n)) ∧
    (∀ i m, k = .sto i m → t1 = ⟨t.n, t'.vs, t.is⟩) := by
  cases k with
  | load => simp only [mergeD] at h; cases h; simp
  | loadm i m => simp only [mergeD] at h; cases h; simp
  | sto i m => simp only [mergeD] at h; cases h; simp [isLd]
  | iso =>
    simp only [mergeD] at h
    split at h
    · rename_i h1 h2
      cases h
      simp [isLd, h1, Nat.le_of_ble_eq_true h2]
    · contradiction
  | pure =>
    simp only [mergeD] at h
    split at h
    · rename_i h0
      split at h
      · rename_i h1
        cases hb : Nat.ble t.n t'.n with
        | false => rw [hb] at h; contradiction
        | true =>
          rw [hb] at h
          cases h
          simp [isLd, h0, h1, Nat.le_of_ble_eq_true hb]
      · rename_i p h1
        cases hb : (Nat.beq p.1 t.n && Nat.blt t.n t'.n) with
        | false => rw [hb] at h; contradiction
        | true =>
          rw [hb] at h
          cases h
          simp only [Bool.and_eq_true] at hb
          have e1 := Nat.eq_of_beq_eq_true hb.1
          have e2 : t.n < t'.n := Nat.le_of_ble_eq_true hb.2
          obtain ⟨x, o⟩ := p
          simp only at e1
          subst e1
          refine ⟨by simp [isLd], by simp, fun _ => ⟨rfl, rfl, h0, by omega, .inr ⟨o, h1, rfl, e2⟩⟩, by simp⟩
      · contradiction
    · contradiction

theorem step_facts {call : CallF} {ka : DK × AO} {F F' : Fr} {t t1 : T} {v : AV} (h : StepR call ka F t v F' t1) :
    t.n ≤ t1.n ∧ True ∧ (ka.1 ≠ .iso → t1.is = t.is) ∧ (ka.1 = .iso → t1.vs = t.vs) ∧ (isLd ka.1 = true → t1 = t) := by
  obtain ⟨-, h | h⟩ := h
  · obtain ⟨-, t', -, hm⟩ := h
    obtain ⟨m1, m2, m3, m4⟩ := merge_facts hm
    cases hk : ka.1 with
    | load => rw [hk] at m1; have := m1 rfl; subst this; simp
    | loadm i m => rw [hk] at m1; have := m1 rfl; subst this; simp
    | sto i m => rw [hk] at m4; have := m4 i m rfl; subst this; simp [isLd]
    | iso =>
      rw [hk] at m2
      obtain ⟨a1, a2, a3, a4, a5⟩ := m2 rfl
      exact ⟨by omega, trivial, by simp, fun _ => a2, by simp [isLd]⟩
    | pure =>
      rw [hk] at m3
      obtain ⟨a1, a2, a3, a4, a5⟩ := m3 rfl
      exact ⟨by omega, trivial, fun _ => a2, by simp, by simp [isLd]⟩
  · obtain ⟨-, -, rfl⟩ := h
    exact ⟨Nat.le_refl _, trivial, fun _ => rfl, fun _ => rfl, fun _ => rfl⟩

/-- the kind fits the operation -/
def KindOK (ka : DK × AO) : Prop := kindOf ka.2.op = some ka.1 ∨ (kindOf ka.2.op = some .load ∧ ∃ i m, ka.1 = .loadm i m) ∨ (isSt ka.2.op = true ∧ ∃ i m, ka.1 = .sto i m)

theorem st_run {n : Nat} {x y : Opd} {call : CallF} {F : Fr} {t t' : T} {w : AV} (h : opSt n x y call F t = .ok w t') :
    ∃ p off cs cs', x.get F = .ptr p off ∧ look2 p t.vs = some (.cells cs) ∧ t' = { t with vs := upd2 p (.cells cs') t.vs } ∧ w = undefA := by
  unfold opSt at h
  split at h
  · rename_i p off hp
    split at h
    · rename_i cs hl
      split at h
      · cases h
        exact ⟨p, off, cs, _, hp, hl, rfl, rfl⟩
      · cases h
    · cases h
  · cases h

theorem KindOK.sto {ka : DK × AO} (h : KindOK ka) {i m : Nat} (hk : ka.1 = .sto i m) : ∃ n x y, ka.2.op = .st n x y := by
  rcases h with h | ⟨-, _, _, h⟩ | ⟨h, -⟩
  · rw [hk] at h
    cases hop : ka.2.op <;> rw [hop] at h <;> simp [kindOf] at h
  · rw [hk] at h; cases h
  · cases hop : ka.2.op <;> rw [hop] at h <;> simp [isSt] at h
    exact ⟨_, _, _, rfl⟩

theorem step_vs {call : CallF} {ka : DK × AO} {F F' : Fr} {t t1 : T} {v : AV} (hk : KindOK ka) (h : StepR call ka F t v F' t1) :
    ((∀ x, ¬ gets ka F x true) ∧ (t1.vs = t.vs ∨ ∃ o, t1.vs = push (t.n, o) t.vs ∧ t.n < t1.n)) ∨
    (∃ x o, gets ka F x true ∧ t1.vs = upd2 x o t.vs ∧ (∃ o0, look2 x t.vs = some o0) ∧ t1.n = t.n) := by
  obtain ⟨-, h | h⟩ := h
  · obtain ⟨hw, t', hr, hm⟩ := h
    obtain ⟨m1, m2, m3, m4⟩ := merge_facts hm
    have nog : (∀ i m, ka.1 ≠ .sto i m) → ∀ x, ¬ gets ka F x true := by
      rintro hne x ⟨-, hx⟩
      unfold accX at hx
      split at hx
      · split at hx <;> (first | (unfold accP at hx; split at hx <;> cases hx) | cases hx)
      · rename_i i m e; exact hne i m e
      · cases hx
    cases hkk : ka.1 with
    | load => rw [hkk] at m1; have := m1 rfl; subst this; exact .inl ⟨nog (by simp [hkk]), .inl rfl⟩
    | loadm i m => rw [hkk] at m1; have := m1 rfl; subst this; exact .inl ⟨nog (by simp [hkk]), .inl rfl⟩
    | iso => exact .inl ⟨nog (by simp [hkk]), .inl (m2 hkk).2.1⟩
    | pure =>
      obtain ⟨a1, a2, a3, a4, a5⟩ := m3 hkk
      refine .inl ⟨nog (by simp [hkk]), ?_⟩
      rcases a5 with ⟨-, a5⟩ | ⟨o, -, a5, a6⟩
      · exact .inl a5
      · exact .inr ⟨o, a5, by omega⟩
    | sto i m =>
      obtain ⟨n, x, y, hop⟩ := hk.sto hkk
      rw [hop, hkk] at hr
      obtain ⟨p, off, cs, cs', h1, h2, h3, h4⟩ := st_run (call := call) hr
      have := m4 i m hkk
      subst this
      subst h3
      exact .inr ⟨p, .cells cs', ⟨hw, by simp [accX, hkk, hop, accP, h1]⟩, rfl, ⟨_, h2⟩, rfl⟩
  · obtain ⟨hw, -, rfl⟩ := h
    refine .inl ⟨?_, .inl rfl⟩
    rintro x ⟨hx, -⟩
    rw [hw] at hx
    cases hx

/-- a write -/
def Wr (ks : List (DK × AO)) (Fs : Nat → Fr) (Ts : Nat → T) (j x : Nat) (o : VObj) : Prop :=
  (∃ h : j < ks.length, gets ks[j] (Fs j) x true) ∧ (Ts (j + 1)).vs = upd2 x o (Ts j).vs ∧ ∃ o0, look2 x (Ts j).vs = some o0
/-- one that writes -/
def Wx (ks : List (DK × AO)) (Fs : Nat → Fr) (j x : Nat) : Prop := ∃ h : j < ks.length, gets ks[j] (Fs j) x true

theorem gets_one {ka : DK × AO} {F : Fr} {x y : Nat} {s s' : Bool} (h : gets ka F x s) (h' : gets ka F y s') : x = y := by
  have := h.2.symm.trans h'.2
  cases this
  rfl

abbrev Steps (call : CallF) (ks : List (DK × AO)) (Fs : Nat → Fr) (Ts : Nat → T) (vs : Nat → AV) : Prop :=
  ∀ i (h : i < ks.length), StepR call ks[i] (Fs i) (Ts i) (vs i) (Fs (i + 1)) (Ts (i + 1))

section
variable {call : CallF} {ks : List (DK × AO)} {Fs : Nat → Fr} {Ts : Nat → T} {vs : Nat → AV}

theorem n_mono (hst : Steps call ks Fs Ts vs) : ∀ i j, i ≤ j → j ≤ ks.length → (Ts i).n ≤ (Ts j).n := by
  intro i j hij
  induction j with
  | zero => intro _; have : i = 0 := by omega
            subst this; exact Nat.le_refl _
  | succ j ih =>
    intro hj
    by_cases h : i = j + 1
    · subst h; exact Nat.le_refl _
    · exact Nat.le_trans (ih (by omega) (by omega)) (step_facts (hst j (by omega))).1

theorem rng_apart (hst : Steps call ks Fs Ts vs) {i j id : Nat} (hi : i < ks.length) (hj : j < ks.length) (h1 : rng Ts i id) (h2 : rng Ts j id) : i = j := by
  rcases Nat.lt_trichotomy i j with h | h | h
  · have := n_mono hst (i + 1) j (by omega) (by omega)
    unfold rng at h1 h2
    omega
  · exact h
  · have := n_mono hst (j + 1) i (by omega) (by omega)
    unfold rng at h1 h2
    omega

theorem wf_vs (hst : Steps call ks Fs Ts vs) (hkd : ∀ i (h : i < ks.length), KindOK ks[i]) (h0 : (Ts 0).WF) : ∀ i, i ≤ ks.length → ((Ts i).vs.flatten.map Prod.fst).Nodup ∧ ∀ p, p ∈ (Ts i).vs.flatten → p.1 < (Ts i).n := by
  intro i
  induction i with
  | zero => intro _; exact ⟨h0.vk, h0.vn⟩
  | succ i ih =>
    intro hi
    obtain ⟨i1, i2⟩ := ih (by omega)
    obtain ⟨h1, -⟩ := step_facts (hst i (by omega))
    rcases step_vs (hkd i (by omega)) (hst i (by omega)) with ⟨-, h2 | ⟨o, h2, h3⟩⟩ | ⟨y, o', -, h2, -, h4⟩
    · rw [h2]; exact ⟨i1, fun p hp => Nat.lt_of_lt_of_le (i2 p hp) h1⟩
    · rw [h2, flatten_push]
      refine ⟨?_, fun p hp => ?_⟩
      · rw [List.map_cons, List.nodup_cons]
        refine ⟨fun hm => ?_, i1⟩
        obtain ⟨p, hp, e⟩ := List.mem_map.mp hm
        have := i2 p hp
        simp only at e
        omega
      · cases hp with
        | head => exact h3
        | tail _ hp => exact Nat.lt_of_lt_of_le (i2 p hp) h1
    · rw [h2, upd2_keys]
      refine ⟨i1, fun p hp => ?_⟩
      have hm : p.1 ∈ (upd2 y o' (Ts i).vs).flatten.map Prod.fst := List.mem_map.mpr ⟨p, hp, rfl⟩
      rw [upd2_keys] at hm
      obtain ⟨q, hq, e⟩ := List.mem_map.mp hm
      rw [h4, ← e]
      exact i2 q hq

theorem wf_lt (hst : Steps call ks Fs Ts vs) (hkd : ∀ i (h : i < ks.length), KindOK ks[i]) (h0 : (Ts 0).WF) (i : Nat) (hi : i ≤ ks.length) (x : Nat) (o : VObj) (h : look2 x (Ts i).vs = some o) : x < (Ts i).n := by
  rw [look2_flatten] at h
  exact (wf_vs hst hkd h0 i hi).2 _ (look_mem h)

theorem look_Ts (hst : Steps call ks Fs Ts vs) (hkd : ∀ i (h : i < ks.length), KindOK ks[i]) (h0 : (Ts 0).WF) : ∀ i, i ≤ ks.length → ∀ x o, look2 x (Ts i).vs = some o →
    (∃ j, j < i ∧ Wr ks Fs Ts j x o ∧ ∀ k, j < k → k < i → ¬ Wx ks Fs k x) ∨
    ((∀ k, k < i → ¬ Wx ks Fs k x) ∧ (look2 x (Ts 0).vs = some o ∨ ∃ j, j < i ∧ New Ts j o ∧ x = (Ts j).n)) := by
  intro i
  induction i with
  | zero => intro _ x o h; exact .inr ⟨fun k h => absurd h (by omega), .inl h⟩
  | succ i ih =>
    intro hi x o h
    have rest : (¬ Wx ks Fs i x) → look2 x (Ts i).vs = some o → (∃ j, j < i + 1 ∧ Wr ks Fs Ts j x o ∧ ∀ k, j < k → k < i + 1 → ¬ Wx ks Fs k x) ∨
        ((∀ k, k < i + 1 → ¬ Wx ks Fs k x) ∧ (look2 x (Ts 0).vs = some o ∨ ∃ j, j < i + 1 ∧ New Ts j o ∧ x = (Ts j).n)) := by
      intro hno h
      have lift : ∀ k, k < i + 1 → k ≠ i → k < i := fun k h1 h2 => by omega
      rcases ih (by omega) x o h with ⟨j, a, b, c⟩ | ⟨a, b⟩
      · refine .inl ⟨j, by omega, b, fun k h1 h2 => ?_⟩
        by_cases e : k = i
        · rw [e]; exact hno
        · exact c k h1 (lift k h2 e)
      · refine .inr ⟨fun k h2 => ?_, b.imp (fun q => q) (fun ⟨j, a, b⟩ => ⟨j, by omega, b⟩)⟩
        by_cases e : k = i
        · rw [e]; exact hno
        · exact a k (lift k h2 e)
    rcases step_vs (hkd i (by omega)) (hst i (by omega)) with ⟨n1, h2⟩ | ⟨y, o', n1, n2, n3, n4⟩
    · have hno : ¬ Wx ks Fs i x := fun ⟨_, q⟩ => n1 x q
      rcases h2 with h2 | ⟨o', h2, h3⟩
      · rw [h2] at h; exact rest hno h
      · rw [h2, look2_push] at h
        by_cases e : (Ts i).n = x
        · rw [if_pos e] at h
          cases h
          refine .inr ⟨fun k hk => ?_, .inr ⟨i, by omega, ⟨h2, h3⟩, e.symm⟩⟩
          rintro ⟨hk', q⟩
          by_cases ek : k = i
          · subst ek; exact n1 x q
          · rcases step_vs (hkd k hk') (hst k hk') with ⟨m1, -⟩ | ⟨y, o2, m1, m2, m3, m4⟩
            · exact m1 x q
            · have := gets_one q m1
              subst this
              obtain ⟨o0, m3⟩ := m3
              have hlt := wf_lt hst hkd h0 k (by omega) x o0 m3
              have := n_mono hst k i (by omega) (by omega)
              omega
        · rw [if_neg e] at h
          exact rest hno h
    · rw [n2, look2_upd2] at h
      by_cases e : x = y
      · subst e
        obtain ⟨o0, n3⟩ := n3
        rw [if_pos rfl, n3] at h
        cases h
        exact .inl ⟨i, by omega, ⟨⟨by omega, n1⟩, n2, o0, n3⟩, fun k h1 h2 => by omega⟩
      · rw [if_neg e] at h
        exact rest (fun ⟨_, q⟩ => e (gets_one q n1)) h

theorem look_orig (hst : Steps call ks Fs Ts vs) (hkd : ∀ i (h : i < ks.length), KindOK ks[i]) : ∀ i, i ≤ ks.length → ∀ x o, look2 x (Ts i).vs = some o →
    (∃ o0, look2 x (Ts 0).vs = some o0) ∨ ∃ j o0, j < i ∧ New Ts j o0 ∧ x = (Ts j).n := by
  intro i
  induction i with
  | zero => intro _ x o h; exact .inl ⟨o, h⟩
  | succ i ih =>
    intro hi x o h
    have rest : ∀ o, look2 x (Ts i).vs = some o → (∃ o0, look2 x (Ts 0).vs = some o0) ∨ ∃ j o0, j < i + 1 ∧ New Ts j o0 ∧ x = (Ts j).n := fun o h =>
      (ih (by omega) x o h).imp (fun q => q) fun ⟨j, o0, a, b⟩ => ⟨j, o0, by omega, b⟩
    rcases step_vs (hkd i (by omega)) (hst i (by omega)) with ⟨-, h2 | ⟨o', h2, h3⟩⟩ | ⟨y, o', -, h2, ⟨o0, h3⟩, h4⟩
    · rw [h2] at h; exact rest o h
    · rw [h2, look2_push] at h
      by_cases e : (Ts i).n = x
      · exact .inr ⟨i, o', by omega, ⟨h2, h3⟩, e.symm⟩
      · rw [if_neg e] at h
        exact rest o h
    · rw [h2, look2_upd2] at h
      by_cases e : x = y
      · subst e; exact rest o0 h3
      · rw [if_neg e] at h; exact rest o h

theorem Fs_get (hst : Steps call ks Fs Ts vs) (p : Bits) : ∀ i, i ≤ ks.length → ((∀ j (h : j < ks.length), j < i → ks[j].2.dst ≠ some p) ∧ (Fs i).get p = (Fs 0).get p) ∨
    ∃ j, ∃ h : j < ks.length, j < i ∧ ks[j].2.dst = some p ∧ (∀ k (hk : k < ks.length), j < k → k < i → ks[k].2.dst ≠ some p) ∧ (Fs i).get p = vs j := by
  intro i
  induction i with
  | zero => intro _; exact .inl ⟨fun j _ h => absurd h (by omega), rfl⟩
  | succ i ih =>
    intro hi
    have hil : i < ks.length := by omega
    have hF := (hst i hil).1
    by_cases hd : ks[i].2.dst = some p
    · refine .inr ⟨i, hil, by omega, hd, fun k _ h1 h2 => by omega, ?_⟩
      rw [hF, hd]
      exact Fr.get_put_same p _ _
    · have hsame : (Fs (i + 1)).get p = (Fs i).get p := by
        rw [hF]
        cases hdd : ks[i].2.dst with
        | none => rfl
        | some q =>
          have : q ≠ p := fun e => hd (by rw [hdd, e])
          exact Fr.get_put_ne q p _ _ this
      rcases ih (by omega) with ⟨h1, h2⟩ | ⟨j, hj, h1, h2, h3, h4⟩
      · refine .inl ⟨fun j h hlt => ?_, hsame.trans h2⟩
        by_cases e : j = i
        · subst e; exact hd
        · exact h1 j h (by omega)
      · refine .inr ⟨j, hj, by omega, h2, fun k hk a b => ?_, hsame.trans h4⟩
        by_cases e : k = i
        · subst e; exact hd
        · exact h3 k hk a (by omega)

end

noncomputable def maskF (F : Fr) (ps : List Bits) : Fr := ps.foldl (fun f p => f.put p (F.get p)) .nil

theorem maskF_get (F : Fr) (ps : List Bits) (q : Bits) : (q ∈ ps → (maskF F ps).get q = F.get q) ∧ (q ∉ ps → (maskF F ps).get q = .und) := by
  have key : ∀ (ps : List Bits) (f0 : Fr), (q ∈ ps → (ps.foldl (fun f p => f.put p (F.get p)) f0).get q = F.get q) ∧ (q ∉ ps → (ps.foldl (fun f p => f.put p (F.get p)) f0).get q = f0.get q) := by
    intro ps
    induction ps with
    | nil => intro f0; simp
    | cons p ps ih =>
      intro f0
      obtain ⟨h1, h2⟩ := ih (f0.put p (F.get p))
      simp only [List.foldl_cons, List.mem_cons]
      by_cases hq : q ∈ ps
      · exact ⟨fun _ => h1 hq, fun h => absurd (.inr hq) h⟩
      · rw [h2 hq, Fr.get_put]
        by_cases e : p = q
        · subst e; simp
        · rw [if_neg e]
          exact ⟨fun h => by rcases h with h | h
                             · exact absurd h.symm e
                             · exact absurd h hq, fun _ => rfl⟩
  obtain ⟨h1, h2⟩ := key ps .nil
  exact ⟨h1, fun h => (h2 h).trans (Fr.get_nil q)⟩

end M2
end
section
namespace M2
open Go
open Classical

def G.sub (g : G) (p : Nat → Prop) : G := { g with ok := fun i => g.ok i ∧ p i }

/-- a part of what is known, all else sealed -/
noncomputable def G.view (g : G) (n : Nat) (p : Nat → Prop) (B : Nat → Prop) : G :=
  { n := n, ok := fun i => g.ok i ∧ p i, ρ := g.ρ, ν := g.ν, μ := fun b => if B b then (g.μ b).frz else g.μ b, w := g.w }

theorem seal_fix (o : Own) (m : Nat) : o.frz.fix m ↔ o.fix m := by cases o <;> exact Iff.rfl
theorem seal_still (o : Own) : o.frz.still = true := by cases o <;> rfl
theorem seal_of_still {o : Own} (h : o.still = true) : o.frz = o := by cases o <;> first | rfl | cases h

theorem KeptR.view {M : Maps} {g : G} (h : KeptR M g) (n : Nat) (p B : Nat → Prop) : KeptR M (g.view n p B) := fun b o v hb => by
  obtain ⟨h1, h2, h3⟩ := h b o v hb
  refine ⟨h1, ?_, h3⟩
  show (if B b then (g.μ b).frz else g.μ b) = .oth
  rw [h2]
  split <;> rfl

theorem G.ext_view (g : G) (n : Nat) (p B : Nat → Prop) : (g.sub p).Ext (g.view n p B) where
  ok _ h := h
  ρ _ _ := rfl
  ν _ _ := rfl
  fixed b m h := by
    refine ⟨h.1, ?_⟩
    show Own.fix m (if B b then (g.μ b).frz else g.μ b)
    split
    · exact (seal_fix _ _).mpr h.2
    · exact h.2
  cell _ _ _ _ _ := rfl
  sz _ hb := ⟨hb, rfl⟩

theorem G.ext_sub {g g' : G} {p q : Nat → Prop} (h : g.Ext g') (hpq : ∀ i, p i → q i) : (g.sub p).Ext (g'.sub q) where
  ok i hi := ⟨h.ok i hi.1, hpq i hi.2⟩
  ρ i hi := h.ρ i hi.1
  ν i hi := h.ν i hi.1
  fixed b m hf := h.fixed b m hf
  cell b m off hf ho := h.cell b m off hf ho
  sz b hb := h.sz b hb

theorem G.Ext.refl (g : G) : g.Ext g := ⟨fun _ h => h, fun _ _ => rfl, fun _ _ => rfl, fun _ _ h => h, fun _ _ _ _ _ => rfl, fun _ hb => ⟨hb, rfl⟩⟩

theorem G.sub_ext (g : G) (p : Nat → Prop) : (g.sub p).Ext g := ⟨fun _ h => h.1, fun _ _ => rfl, fun _ _ => rfl, fun _ _ h => h, fun _ _ _ _ _ => rfl, fun _ hb => ⟨hb, rfl⟩⟩

/-- the known part put back -/
noncomputable def G.back (g g' : G) (B : Nat → Prop) : G :=
  { n := g.n, ok := fun i => g.ok i ∨ g'.ok i, ρ := fun i => if g.ok i then g.ρ i else g'.ρ i, ν := fun i => if g.ok i then g.ν i else g'.ν i,
    μ := fun b => if B b then g.μ b else g'.μ b, w := g'.w }

section
variable {g g' : G} {n : Nat} {p B : Nat → Prop}

theorem back_sealed (h : (g.view n p B).Le g') (hB : ∀ b, B b → b < g.w.heap.size) {b : Nat} (hb : B b) : g'.w.heap[b]? = g.w.heap[b]? ∧ g'.μ b = (g.μ b).frz := by
  have hv : (g.view n p B).μ b = (g.μ b).frz := if_pos hb
  have := h.oth b (hB b hb) (by rw [hv]; exact seal_still _)
  exact ⟨this.2, by rw [this.1, hv]⟩

theorem le_back (h : (g.view n p B).Le g') (hB : ∀ b, B b → b < g.w.heap.size) (hn : g.n ≤ n) : g.Le (g.back g' B) where
  n := Nat.le_refl _
  ok i hi := .inl hi
  new i hi := by
    rcases hi with hi | hi
    · exact .inl hi
    · rcases h.new i hi with q | q
      · exact .inl q.1
      · exact .inr (Nat.le_trans hn q)
  ρ i hi := if_pos hi
  ν i hi := if_pos hi
  size := h.size
  lim b k hb hk := by
    by_cases hbb : B b
    · obtain ⟨h1, -⟩ := back_sealed h hB hbb
      exact ⟨k, by show (if B b then g.μ b else g'.μ b) = _; rw [if_pos hbb, hk], Nat.le_refl _, fun off _ => cell?_of_heap h1⟩
    · have hv : (g.view n p B).μ b = .lim k := by show (if B b then _ else _) = _; rw [if_neg hbb, hk]
      obtain ⟨k', h1, h2, h3⟩ := h.lim b k hb hv
      exact ⟨k', by show (if B b then g.μ b else g'.μ b) = _; rw [if_neg hbb, h1], h2, h3⟩
  oth b hb hs := by
    by_cases hbb : B b
    · obtain ⟨h1, -⟩ := back_sealed h hB hbb
      exact ⟨if_pos hbb, h1⟩
    · have hv : (g.view n p B).μ b = g.μ b := if_neg hbb
      obtain ⟨h1, h2⟩ := h.oth b hb (by rw [hv]; exact hs)
      exact ⟨by show (if B b then g.μ b else g'.μ b) = _; rw [if_neg hbb, h1, hv], h2⟩
  os := h.os
  tape := h.tape
  output := h.output
  sz := h.sz

/-- what the operation knows, in the world put back -/
theorem ext_back (h : (g.view n p B).Le g') (hB : ∀ b, B b → b < g.w.heap.size) (hold : ∀ i, g.ok i → g'.ok i → p i) {q : Nat → Prop} (hq : ∀ i, g'.ok i → q i) : g'.Ext ((g.back g' B).sub q) where
  ok i hi := ⟨.inr hi, hq i hi⟩
  ρ i hi := by
    show (if g.ok i then g.ρ i else g'.ρ i) = _
    split
    · rename_i hg
      exact (h.ρ i ⟨hg, hold i hg hi⟩).symm
    · rfl
  ν i hi := by
    show (if g.ok i then g.ν i else g'.ν i) = _
    split
    · rename_i hg
      exact (h.ν i ⟨hg, hold i hg hi⟩).symm
    · rfl
  fixed b m hf := by
    refine ⟨hf.1, ?_⟩
    show Own.fix m (if B b then g.μ b else g'.μ b)
    split
    · rename_i hb
      have := (back_sealed h hB hb).2
      have h2 := hf.2
      rw [this] at h2
      exact (seal_fix _ _).mp h2
    · exact hf.2
  cell _ _ _ _ _ := rfl
  sz _ hb := ⟨hb, rfl⟩

end

/-- variables' rows under a richer world -/
theorem ObjR.ext {M : Maps} {g g' : G} (h : g.Ext g') {o : VObj} {b : Nat} (hb : g'.w.heap[b]? = g.w.heap[b]?) (ho : ObjR M g o b) : ObjR M g' o b := by
  cases ho with
  | cells cs b c ty fz hh hz hl hv =>
    refine .cells cs b c ty fz (hb.trans hh) (fun off ho => ?_) hl (fun i hi => (hv i hi).ext h)
    have := hz off ho
    simpa [World.frozen?, hb] using this
  | map es b ms clock hh hl hk hv => exact .map es b ms clock (hb.trans hh) hl (fun i hi h' => (hk i hi h').ext h) (fun i hi h' => (hv i hi h').ext h)

/-- what is known of an open row -/
def RowOpen (g : G) (i en e : Nat) : Prop :=
  g.μ (g.ρ i).block = .lim ((g.ρ i).off + en) ∧ ∃ c ty fz, g.w.heap[(g.ρ i).block]? = some (.cells c ty fz) ∧
    (∀ off, off < c.size → g.w.frozen? ⟨(g.ρ i).block, off, none⟩ = false) ∧ (g.ρ i).off + en + (g.ρ i).extra * e ≤ c.size ∧ (fz.1 = fz.2 ∨ c.size ≤ fz.1)

section
variable {P : Program} {M : Maps} {im : FuncId → Option Nat} {d : Nat} {g : G} {F : Fr} {a : Act} {o : Oper} {t t' : T} {v : AV} {call : CallF}

theorem run_st (him : ∀ f x, im f = some x → M.fm x = f) (hF : FR M g d F a.tmps) (hS : SR M g t) {ty : TypeId} {x u : Operand} {y z : Opd} (h : cmpOpd im d x = some y)
    (h' : cmpOpd im d u = some z) {s : Nat} (hs : sizeT P ty = some s) (ho : o.op = .store ty x u) (hr : opSt s y z call F t = .ok v t') : ∃ p off cs cs' ob, y.get F = .ptr p off ∧ look2 p t.vs = some (.cells cs) ∧
    t' = { t with vs := upd2 p (.cells cs') t.vs } ∧ v = undefA ∧ (execOp a.eval o).run P g.w = .ok .skip (setBlock g.w (g.ν p) ob) ∧ csize (setBlock g.w (g.ν p) ob) (g.ν p) = csize g.w (g.ν p) ∧ ObjR M (g.setVar (g.ν p) ob) (.cells cs') (g.ν p) := by
  have vx := opd_ok him hF h
  have vu := opd_ok him hF h'
  obtain ⟨i, hi, rfl⟩ := sizeT_ok hs
  unfold opSt at hr
  split at hr
  · rename_i p off hp
    rw [hp] at vx
    generalize hxv : a.eval x = xv at vx
    cases vx with
    | ptr p off hpn =>
      split at hr
      · rename_i cs hl
        split at hr
        · rename_i hc
          cases hr
          simp only [Bool.and_eq_true] at hc
          obtain ⟨⟨⟨h1, h2⟩, h3⟩, h4⟩ := hc
          have h3 := Nat.eq_of_beq_eq_true h3
          have h4 := Nat.le_of_ble_eq_true h4
          obtain ⟨k1, k2⟩ := vu.cells h1
          obtain ⟨e1, e2, e3⟩ := hS.var p _ hl
          generalize hbv : g.ν p = b at *
          cases e3 with
          | cells cs b c cty fz hh hz hlen hv =>
            have hone : ∀ w, w ∈ (a.eval u).cells.toList → w.oneCell' = true := by
              intro w hw
              obtain ⟨j, hj, rfl⟩ := List.mem_iff_getElem.mp hw
              have hj' : j < (a.eval u).cells.size := by simpa using hj
              have hj2 : j < (z.get F).cells.length := by omega
              have hvr := k2 j hj2
              have hcell : ((z.get F).cells[j]).isCell = true := List.all_eq_true.mp h2 _ (List.getElem_mem hj2)
              have := hvr.oneCell hcell
              simp only [Array.getD, hj', dite_true] at this
              simp only [Array.getElem_toList]
              cases hq : (a.eval u).cells[j] <;> simp_all [M2.oneCell, Value.oneCell']
            have hsz : off + 0 + (a.eval u).cells.toList.length ≤ c.size := by simp; omega
            have hst := run_storeCells' P b off cty fz (a.eval u).cells.toList 0 c g.w hh hz hsz hone
            simp only [Nat.add_zero] at hst
            have hle := g.le_setVar b (.cells (writeAt c off (a.eval u).cells.toList) cty fz) (hbv ▸ e2) (csize_cells hh (writeAt_size _ _ _))
            have hbb : b < g.w.heap.size := (Array.getElem?_eq_some_iff.mp hh).1
            refine ⟨p, off, cs, putAt cs off (z.get F).cells, .cells (writeAt c off (a.eval u).cells.toList) cty fz, hp, hl, rfl, rfl, ?_, by rw [hbv]; exact csize_cells hh (writeAt_size _ _ _), ?_⟩
            · have hsz2 : (a.eval u).cells.size = i.size := by omega
              simp [execOp, ho, Instr.storeAt, Instr.sureAddr, hxv, storeVar, run_sizeOf hi, hsz2, hst, hbv]
            · rw [hbv]
              refine .cells _ _ (writeAt c off (a.eval u).cells.toList) cty fz ?_ (fun q hq => ?_) ?_ (fun q hq => ?_)
              · show (setBlock g.w b _).heap[b]? = _
                rw [setBlock_heap, if_pos ⟨rfl, hbb⟩]
              · have := hz q (by simpa [writeAt_size] using hq)
                simp only [World.frozen?, hh] at this
                show (setBlock g.w b _).frozen? _ = _
                simp only [World.frozen?, setBlock_heap, hbb, and_self, if_true]
                exact this
              · rw [writeAt_size]; simp [putAt]; omega
              · have hpl : off + (z.get F).cells.length ≤ cs.length := by omega
                have hq' : q < cs.length := by rw [putAt_length _ _ _ hpl] at hq; exact hq
                rw [writeAt_getD _ _ _ _ (by simp; omega)]
                simp only [Array.length_toList]
                by_cases hin : off ≤ q ∧ q < off + (a.eval u).cells.size
                · rw [if_pos hin, putAt_in _ _ _ hpl q hq hin.1 (by omega)]
                  have hk := (k2 (q - off) (by omega)).mono hle
                  have e2 : (a.eval u).cells.toList.getD (q - off) undef = (a.eval u).cells.getD (q - off) undef := by
                    simp [List.getD, Array.getD, show q - off < (a.eval u).cells.size by omega]
                  rw [e2]
                  exact hk
                · rw [if_neg hin, putAt_out _ _ _ hpl q hq (by omega)]
                  exact (hv q hq').mono hle
        · contradiction
      · contradiction
  · contradiction

end

structure Inv (M : Maps) (d ntmps : Nat) (ops : List Oper) (ks : List (DK × AO)) (g0 : G) (a0 : Act) (Fs : Nat → Fr) (Ts : Nat → T) (vs : Nat → AV) (S : Nat → Prop) (g : G) (a : Act) : Prop where
  le : g0.Le g
  n : g.n = g0.n
  okr : ∀ i, g.ok i → g0.ok i ∨ ∃ j, j < ks.length ∧ S j ∧ rng Ts j i
  sz : a.tmps.size = ntmps
  df : a.defers = []
  tm : ∀ t, t < 2 ^ d → (∀ j (h : j < ks.length), S j → ks[j].2.dst ≠ some (pth d t)) → a.tmps.getD t undef = a0.tmps.getD t undef
  tw : ∀ j (h : j < ks.length), S j → ∀ t, t < 2 ^ d → ks[j].2.dst = some (pth d t) → (∀ k (hk : k < ks.length), S k → j < k → ks[k].2.dst ≠ some (pth d t)) →
    VR M (g.sub (ancs ops ks.length g0 Ts j)) (vs j) (a.tmps.getD t undef)
  vo : ∀ x o, look2 x (Ts 0).vs = some o → g.μ (g0.ν x) = .var ∧ ((∀ k, S k → ¬ Wx ks Fs k x) → g.w.heap[g0.ν x]? = g0.w.heap[g0.ν x]?)
  vn : ∀ j, j < ks.length → S j → ∀ o, New Ts j o → g.ok (Ts j).n ∧ g.μ (g.ν (Ts j).n) = .var ∧ g0.w.heap.size ≤ g.ν (Ts j).n ∧ g.ν (Ts j).n < g.w.heap.size ∧
    ((∀ k, S k → ¬ Wx ks Fs k (Ts j).n) → ObjR M (g.sub (ancs ops ks.length g0 Ts j)) o (g.ν (Ts j).n))
  vw : ∀ j x o, S j → Wr ks Fs Ts j x o → (∀ k, S k → j < k → ¬ Wx ks Fs k x) → ObjR M (g.sub (ancs ops ks.length g0 Ts j)) o (g.ν x)
  vi : ∀ j k, j < ks.length → k < ks.length → S j → S k → ∀ o o', New Ts j o → New Ts k o' → g.ν (Ts j).n = g.ν (Ts k).n → j = k
  ids : ∃ m, m ≤ ks.length ∧ (∀ j (h : j < ks.length), ks[j].1 = .iso → (S j ↔ j < m)) ∧ ((Ts m).is.flatten.map Prod.fst).Nodup ∧
    (m = 0 ∨ ∃ j, ∃ h : j < ks.length, m = j + 1 ∧ ks[j].1 = .iso) ∧
    (∀ p, p ∈ (Ts m).is.flatten → p.1 < (Ts m).n) ∧
    (∀ i en e, look2 i (Ts m).is = some (en, e) → g.ok i ∧ (g0.ok i ∨ ∃ j, m = j + 1 ∧ ancs ops ks.length g0 Ts j i) ∧ RowOpen g i en e) ∧
    (∀ i j a b, look2 i (Ts m).is = some a → look2 j (Ts m).is = some b → (g.ρ i).block = (g.ρ j).block → i = j)

end M2
end
section
namespace M2
open Go
open Classical

section
variable {P : Program} {M : Maps} {im : FuncId → Option Nat} {d ntmps : Nat} {call : CallF} {ops : Array Oper} {ks : List (DK × AO)} {g0 g : G} {a0 a : Act} {Fs : Nat → Fr} {Ts : Nat → T} {vs : Nat → AV} {S : Nat → Prop}

structure Setup (P : Program) (M : Maps) (im : FuncId → Option Nat) (d ntmps : Nat) (call : CallF) (ops : Array Oper) (ks : List (DK × AO)) (g0 : G) (a0 : Act) (Fs : Nat → Fr) (Ts : Nat → T) (vs : Nat → AV) : Prop where
  him : ∀ f x, im f = some x → M.fm x = f
  hcall : CallOK P M call
  cmp : ∀ i (h : i < ks.length), ∃ o, ops[i]? = some o ∧ cmpO P im d ntmps ops o = some ks[i].2
  ancLt : ∀ i j, Anc ops.toList i j → j < i
  kind : ∀ i (h : i < ks.length), KindOK ks[i]
  fits : Fits M g0 d ntmps (Fs 0) (Ts 0) a0
  step : ∀ i (h : i < ks.length), StepR call ks[i] (Fs i) (Ts i) (vs i) (Fs (i + 1)) (Ts (i + 1))
  ordI : ∀ i j (hi : i < ks.length) (hj : j < ks.length), j < i → ks[i].1 = .iso → ks[j].1 = .iso → Anc ops.toList i j
  ordL : ∀ i j (hi : i < ks.length) (hj : j < ks.length), j < i → memK ks[i].1 = true → makesVar ks[j].2.op = true → Anc ops.toList i j
  ordT : ∀ i j (hi : i < ks.length) (hj : j < ks.length), i ≠ j → ∀ p, p ∈ aoNames ks[i].2 → ks[j].2.dst = some p → (j < i → Anc ops.toList i j) ∧ (i < j → Anc ops.toList j i)
  ordX : ∀ i j (hi : i < ks.length) (hj : j < ks.length), j < i → ∀ x s s', gets ks[i] (Fs i) x s → gets ks[j] (Fs j) x s' → (s || s') = true → Anc ops.toList i j
  plain : ∀ i j (hi : i < ks.length) (hj : j < ks.length), ks[i].1 = .load → ∀ p q, ks[j].1 ≠ .sto p q

structure Ready (ops : Array Oper) (ks : List (DK × AO)) (S : Nat → Prop) (i : Nat) : Prop where
  lt : i < ks.length
  no : ¬ S i
  down : ∀ j k, S j → Anc ops.toList j k → S k
  anc : ∀ k, Anc ops.toList i k → S k

theorem ancs_sub {i j : Nat} {r : Nat} (h : Anc ops.toList i j) (id : Nat) (hid : ancs ops.toList r g0 Ts j id) : ancp ops.toList r g0 Ts i id := by
  rcases hid with q | ⟨k, h1, h2, h3⟩
  · exact .inl q
  · rcases h1 with rfl | h1
    · exact .inr ⟨k, h, h2, h3⟩
    · exact .inr ⟨k, .trans _ _ _ h h1, h2, h3⟩

theorem ancp_sub {i r : Nat} (id : Nat) (hid : ancp ops.toList r g0 Ts i id) : ancs ops.toList r g0 Ts i id := by
  rcases hid with q | ⟨k, h1, h2, h3⟩
  · exact .inl q
  · exact .inr ⟨k, .inr h1, h2, h3⟩

theorem sub_old (hle : g0.Le g) (p : Nat → Prop) (hp : ∀ i, g0.ok i → p i) : g0.Ext (g.sub p) where
  ok i hi := ⟨hle.ok i hi, hp i hi⟩
  ρ i hi := hle.ρ i hi
  ν i hi := hle.ν i hi
  fixed _ _ hf := hle.fixed hf
  cell _ _ _ hf ho := hle.cell hf ho
  sz b hb := ⟨Nat.lt_of_lt_of_le hb hle.size, hle.sz b hb⟩

/-- what an operation that is ready reads -/
theorem frame_ok (st : Setup P M im d ntmps call ops ks g0 a0 Fs Ts vs) (inv : Inv M d ntmps ops.toList ks g0 a0 Fs Ts vs S g a) {i : Nat} (rd : Ready ops ks S i) (n : Nat) (B : Nat → Prop) :
    FR M (g.view n (ancp ops.toList ks.length g0 Ts i) B) d (maskF (Fs i) (aoNames (ks[i]'rd.lt).2)) a.tmps := by
  refine ⟨by rw [inv.sz, ← st.fits.n]; exact st.fits.f.size, fun t ht => ?_⟩
  obtain ⟨m1, m2⟩ := maskF_get (Fs i) (aoNames (ks[i]'rd.lt).2) (pth d t)
  by_cases hp : pth d t ∈ aoNames (ks[i]'rd.lt).2
  · rw [m1 hp]
    refine VR.ext (g.ext_view n _ B) ?_
    have later : ∀ k (hk : k < ks.length), S k → (ks[k]).2.dst = some (pth d t) → k < i := by
      intro k hk hS hd
      have hne : i ≠ k := fun e => rd.no (e ▸ hS)
      rcases Nat.lt_trichotomy k i with h | h | h
      · exact h
      · exact absurd h.symm hne
      · exact absurd (rd.down k i hS ((st.ordT i k rd.lt hk hne _ hp hd).2 h)) rd.no
    rcases Fs_get st.step (pth d t) i (Nat.le_of_lt rd.lt) with ⟨h1, h2⟩ | ⟨j, hj, h1, h2, h3, h4⟩
    · rw [h2, inv.tm t ht (fun j hj hS hd => h1 j hj (later j hj hS hd) hd)]
      exact (st.fits.f.rel t ht).ext (sub_old inv.le _ (fun _ q => .inl q))
    · rw [h4]
      have hij : i ≠ j := by omega
      have hanc := (st.ordT i j rd.lt hj hij _ hp h2).1 h1
      have hS := rd.anc j hanc
      refine (inv.tw j hj hS t ht h2 (fun k hk hSk hlt hd => h3 k hk hlt (later k hk hSk hd) hd)).ext ?_
      exact G.ext_sub (G.Ext.refl g) (ancs_sub hanc)
  · rw [m2 hp]; exact .und _

/-- the open rows that a call sees -/
theorem iso_is (st : Setup P M im d ntmps call ops ks g0 a0 Fs Ts vs) {i m : Nat} (rd : Ready ops ks S i) (hk : (ks[i]'rd.lt).1 = .iso)
    (hS : ∀ j (h : j < ks.length), ks[j].1 = .iso → (S j ↔ j < m)) (hm0 : m = 0 ∨ ∃ j, ∃ h : j < ks.length, m = j + 1 ∧ ks[j].1 = .iso) : m ≤ i ∧ (Ts i).is = (Ts m).is := by
  have hmi : m ≤ i := by
    rcases hm0 with h | ⟨j, hj, h1, h2⟩
    · omega
    · have hSj : S j := (hS j hj h2).mpr (by omega)
      have hne : j ≠ i := fun e => rd.no (e ▸ hSj)
      rcases Nat.lt_trichotomy j i with h | h | h
      · omega
      · exact absurd h hne
      · exact absurd (rd.down j i hSj (st.ordI j i hj rd.lt h h2 hk)) rd.no
  refine ⟨hmi, ?_⟩
  have key : ∀ q, m ≤ q → q ≤ i → (Ts q).is = (Ts m).is := by
    intro q
    induction q with
    | zero => intro h1 _; have : m = 0 := by omega
              rw [this]
    | succ q ih =>
      intro h1 h2
      by_cases e : m = q + 1
      · rw [e]
      · have hq : q < ks.length := by have := rd.lt; omega
        have hni : ks[q].1 ≠ .iso := by
          intro hiso
          have := rd.anc q (st.ordI i q rd.lt hq (by omega) hk hiso)
          have := (hS q hq hiso).mp this
          omega
        rw [(step_facts (st.step q hq)).2.2.1 hni]
        exact ih (by omega) (by omega)
  exact key i hmi (Nat.le_refl _)

/-- the slots behind an operation -/
theorem put_slots (st : Setup P M im d ntmps call ops ks g0 a0 Fs Ts vs) (inv : Inv M d ntmps ops.toList ks g0 a0 Fs Ts vs S g a) {i : Nat} (rd : Ready ops ks S i) {g' : G} (hle : g.Le g')
    {o : Oper} (hd : cmpDst d ntmps o.dst = some (ks[i]'rd.lt).2.dst) {v' : Value} (hv : VR M (g'.sub (ancs ops.toList ks.length g0 Ts i)) (vs i) v') :
    (a.put o.dst v').tmps.size = ntmps ∧ (a.put o.dst v').defers = [] ∧
    (∀ t, t < 2 ^ d → (∀ j (h : j < ks.length), (S j ∨ j = i) → ks[j].2.dst ≠ some (pth d t)) → (a.put o.dst v').tmps.getD t undef = a0.tmps.getD t undef) ∧
    (∀ j (h : j < ks.length), (S j ∨ j = i) → ∀ t, t < 2 ^ d → ks[j].2.dst = some (pth d t) → (∀ k (hk : k < ks.length), (S k ∨ k = i) → j < k → ks[k].2.dst ≠ some (pth d t)) →
      VR M (g'.sub (ancs ops.toList ks.length g0 Ts j)) (vs j) ((a.put o.dst v').tmps.getD t undef)) := by
  have old : ∀ t, t < 2 ^ d → (ks[i]'rd.lt).2.dst ≠ some (pth d t) → (a.put o.dst v').tmps.getD t undef = a.tmps.getD t undef := by
    intro t ht hne
    cases hod : o.dst with
    | none => rfl
    | some u =>
      rw [hod] at hd
      simp only [cmpDst] at hd
      split at hd
      · rename_i hu
        have hdd : (ks[i]'rd.lt).2.dst = some (pth d u) := (Option.some.inj hd).symm
        have hut : u ≠ t := fun e => hne (by rw [hdd, e])
        show (a.tmps.setIfInBounds u v').getD t undef = _
        by_cases hs : t < a.tmps.size
        · simp [Array.getD, hs, Array.getElem_setIfInBounds_ne, hut]
        · simp [Array.getD, hs]
      · contradiction
  have new : ∀ t, t < 2 ^ d → (ks[i]'rd.lt).2.dst = some (pth d t) → (a.put o.dst v').tmps.getD t undef = v' := by
    intro t ht he
    cases hod : o.dst with
    | none =>
      rw [hod] at hd
      have : (ks[i]'rd.lt).2.dst = none := (Option.some.inj hd).symm
      rw [this] at he
      cases he
    | some u =>
      rw [hod] at hd
      simp only [cmpDst] at hd
      split at hd
      · rename_i hu
        have hdd : (ks[i]'rd.lt).2.dst = some (pth d u) := (Option.some.inj hd).symm
        rw [hdd] at he
        have hut : u = t := pth_inj d u t hu.2 ht (Option.some.inj he)
        subst hut
        have hs : u < a.tmps.size := by rw [inv.sz]; exact hu.1
        show (a.tmps.setIfInBounds u v').getD u undef = _
        simp [Array.getD, hs]
      · contradiction
  refine ⟨?_, ?_, ?_, ?_⟩
  · cases hod : o.dst with
    | none => exact inv.sz
    | some u => simp [Act.put, inv.sz]
  · cases hod : o.dst with
    | none => exact inv.df
    | some u => exact inv.df
  · intro t ht hno
    rw [old t ht (hno i rd.lt (.inr rfl))]
    exact inv.tm t ht (fun j hj hS => hno j hj (.inl hS))
  · intro j hj hS t ht hdj hlast
    by_cases hji : j = i
    · subst hji
      rw [new t ht hdj]
      exact hv
    · have hSj : S j := hS.resolve_right hji
      have hne : (ks[i]'rd.lt).2.dst ≠ some (pth d t) := by
        intro hdi
        have hlt : ¬ j < i := fun h => hlast i rd.lt (.inr rfl) h hdi
        have hmem : pth d t ∈ aoNames (ks[i]'rd.lt).2 := by simp [aoNames, hdi]
        have := (st.ordT i j rd.lt hj (fun e => hji e.symm) _ hmem hdj).2 (by omega)
        exact rd.no (rd.down j i hSj this)
      rw [old t ht hne]
      exact (inv.tw j hj hSj t ht hdj (fun k hk hSk hlt => hlast k hk (.inl hSk) hlt)).ext (G.ext_sub hle.ext (fun _ q => q))

end

end M2
end
section
namespace M2
open Go
open Classical

section
variable {P : Program} {M : Maps} {im : FuncId → Option Nat} {d ntmps : Nat} {call : CallF} {ops : Array Oper} {ks : List (DK × AO)} {g0 g : G} {a0 a : Act} {Fs : Nat → Fr} {Ts : Nat → T} {vs : Nat → AV} {S : Nat → Prop}

theorem of_opt {t t' : T} {v : AV} {r : Option AV} (h : OR.ofOption t r = .ok v t') : t'.vs = t.vs := by
  cases r with
  | none => cases h
  | some w => cases h; rfl

theorem of_bool {t t' : T} {v w : AV} {b : Bool} (h : (Bool.rec .fail (.ok w t) b : OR) = .ok v t') : t'.vs = t.vs := by
  cases b with
  | false => cases h
  | true => cases h; rfl

theorem run_makes (ao : AOp) {F : Fr} {t t' : T} {v : AV} (hk : kindOf ao = some .pure) (hm : makesVar ao = false) (h : ao.run call F t = .ok v t') : t'.vs = t.vs := by
  cases ao with
  | mv x => cases h; rfl
  | pick c x y =>
    change opPick c x y call F t = _ at h
    unfold opPick at h
    split at h
    · rename_i b _
      cases b <;> (cases h; rfl)
    · cases h
  | alloc z => cases hm
  | box x => cases hm
  | build z ps =>
    change opBuild z ps call F t = _ at h
    unfold opBuild at h
    split at h
    · cases h; rfl
    · cases h
  | buildS e l z ps =>
    change opBuildS e l z ps call F t = _ at h
    unfold opBuildS at h
    split at h
    · cases h; rfl
    · cases h
  | ld1 x => cases hk
  | ldA n x => cases hk
  | st n x y => cases hk
  | nilck x => change opNilck x call F t = _ at h; unfold opNilck at h; split at h <;> (cases h; try rfl)
  | bin o x y => change OR.ofOption t (avBin o (x.get F) (y.get F)) = _ at h; exact of_opt h
  | eqk k n x y => change opEqk k n x y call F t = _ at h; unfold opEqk at h; split at h <;> (cases h; try rfl)
  | eqs k n x y => change opEqs k n x y call F t = _ at h; unfold opEqs at h; split at h <;> (cases h; try rfl)
  | un o x => change OR.ofOption t (avUn o (x.get F)) = _ at h; exact of_opt h
  | cv k x => change OR.ofOption t (avCv k (x.get F)) = _ at h; exact of_opt h
  | mkfn f x y => cases h; rfl
  | mkS e b z l c => cases hk
  | slS x lo hi => change opSlS x lo hi call F t = _ at h; unfold opSlS at h; repeat' split at h
                   all_goals (cases h; try rfl)
  | slL e x lo hi mx => change opSlL e x lo hi mx call F t = _ at h; unfold opSlL at h; repeat' split at h
                        all_goals (cases h; try rfl)
  | faddr o x => change opFaddr o x call F t = _ at h; unfold opFaddr at h; repeat' split at h
                 all_goals (cases h; try rfl)
  | iaddr e x i => change opIaddr e x i call F t = _ at h; unfold opIaddr at h; repeat' split at h
                   all_goals (first | (cases h; done) | (cases h; rfl) | exact of_bool h)
  | iaddrA n e x i => change opIaddrA n e x i call F t = _ at h; unfold opIaddrA at h; repeat' split at h
                      all_goals (cases h; try rfl)
  | fld1 o x => change opFld1 o x call F t = _ at h; unfold opFld1 at h; repeat' split at h
                all_goals (first | (cases h; done) | exact of_opt h)
  | fldA o n x => change opFldA o n x call F t = _ at h; unfold opFldA at h; repeat' split at h
                  all_goals (cases h; try rfl)
  | idxS x i => change opIdxS x i call F t = _ at h; unfold opIdxS at h; repeat' split at h
                all_goals (cases h; try rfl)
  | idx1 n x i => change opIdx1 n x i call F t = _ at h; unfold opIdx1 at h; repeat' split at h
                  all_goals (first | (cases h; done) | exact of_opt h)
  | idxA n e x i => change opIdxA n e x i call F t = _ at h; unfold opIdxA at h; repeat' split at h
                    all_goals (cases h; try rfl)
  | ext x i => change opExt x i call F t = _ at h; unfold opExt at h; repeat' split at h
               all_goals (first | (cases h; done) | exact of_opt h)
  | call f xs => cases hk
  | calld f xs => cases hk
  | len s x => change opLen s x call F t = _ at h; unfold opLen at h; repeat' split at h
               all_goals (cases h; try rfl)
  | app e b z x y => cases hk
  | cpx x y => change opCpx x y call F t = _ at h; unfold opCpx at h; repeat' split at h
               all_goals (cases h; try rfl)
  | re x => change opRe x call F t = _ at h; unfold opRe at h; repeat' split at h
            all_goals (cases h; try rfl)
  | im x => change opIm x call F t = _ at h; unfold opIm at h; repeat' split at h
            all_goals (cases h; try rfl)
  | buildSo e l z ps => cases hk
  | mem k xs => cases hk
  | mark x => cases hk
  | ixb x y => change opIxb x y call F t = _ at h; unfold opIxb at h; repeat' split at h
               all_goals (first | (cases h; done) | exact of_bool h)
  | mnx m x y => change opMnx m x y call F t = _ at h; unfold opMnx at h; repeat' split at h
                 all_goals (cases h; try rfl)

theorem gets_sto {ka : DK × AO} {F : Fr} {x : Nat} (h : gets ka F x true) : ∃ i m, ka.1 = .sto i m := by
  have hx := h.2
  unfold accX at hx
  split at hx
  · split at hx <;> (first | (unfold accP at hx; split at hx <;> cases hx) | cases hx)
  · rename_i i m e; exact ⟨i, m, e⟩
  · cases hx

theorem not_load_gets {ka : DK × AO} {F : Fr} {x : Nat} (hl : isLd ka.1 = true) : ¬ gets ka F x true := by
  intro h
  obtain ⟨i, m, e⟩ := gets_sto h
  rw [e] at hl
  cases hl

theorem KindOK.pure {ka : DK × AO} (h : KindOK ka) (hk : ka.1 = .pure) : kindOf ka.2.op = some .pure := by
  rcases h with h | ⟨-, _, _, h⟩ | ⟨-, _, _, h⟩
  · rw [hk] at h; exact h
  · rw [hk] at h; cases h
  · rw [hk] at h; cases h

theorem makes_of_new (st : Setup P M im d ntmps call ops ks g0 a0 Fs Ts vs) {j : Nat} (hj : j < ks.length) {o : VObj} (hn : New Ts j o) : makesVar ks[j].2.op = true := by
  have same : (Ts (j + 1)).n = (Ts j).n → False := fun h => by have h2 := hn.2; omega
  obtain ⟨-, h | h⟩ := st.step j hj
  · obtain ⟨-, t', hr, hm⟩ := h
    obtain ⟨m1, m2, m3, m4⟩ := merge_facts hm
    cases hk : ks[j].1 with
    | load => exact (same (by rw [m1 (by rw [hk]; rfl)])).elim
    | loadm p q => exact (same (by rw [m1 (by rw [hk]; rfl)])).elim
    | sto p q => exact (same (by rw [m4 p q hk])).elim
    | iso => exact absurd (hn.1.symm.trans (m2 hk).2.1) (fun h => by
        have := congrArg (fun l => l.flatten.length) h
        simp [flatten_push] at this)
    | pure =>
      cases hmk : makesVar ks[j].2.op with
      | true => rfl
      | false =>
        exfalso
        have hvs := run_makes _ ((st.kind j hj).pure hk) hmk hr
        rw [hk] at hvs
        obtain ⟨-, -, -, -, q⟩ := m3 hk
        rcases q with ⟨-, q⟩ | ⟨o', q, -, -⟩
        · exact absurd (hn.1.symm.trans q) (fun h => by
            have := congrArg (fun l => l.flatten.length) h
            simp [flatten_push] at this)
        · rw [hvs] at q
          simp [viewD] at q
  · exact (same (by rw [h.2.2])).elim

/-- where a variable comes from -/
theorem var_orig (st : Setup P M im d ntmps call ops ks g0 a0 Fs Ts vs) (inv : Inv M d ntmps ops.toList ks g0 a0 Fs Ts vs S g a) {i : Nat} (hi : i ≤ ks.length)
    (hS : ∀ j, j < i → j < ks.length → ∀ o, New Ts j o → S j) {x : Nat} {o : VObj} (hx : look2 x (Ts i).vs = some o) :
    g.ok x ∧ g.μ (g.ν x) = .var ∧ ((∃ o0, look2 x (Ts 0).vs = some o0 ∧ g0.ok x ∧ g.ν x < g0.w.heap.size) ∨
      ∃ j o0, j < i ∧ S j ∧ x = (Ts j).n ∧ New Ts j o0 ∧ g0.w.heap.size ≤ g.ν x) := by
  rcases look_orig st.step st.kind i hi x o hx with ⟨o0, h⟩ | ⟨j, o0, hj, hn, rfl⟩
  · obtain ⟨v1, v2, v3⟩ := st.fits.s.var x o0 h
    obtain ⟨u1, -⟩ := inv.vo x o0 h
    have hν := inv.le.ν x v1
    exact ⟨inv.le.ok x v1, by rw [hν]; exact u1, .inl ⟨o0, h, v1, by rw [hν]; exact v3.lt⟩⟩
  · have hjl : j < ks.length := by omega
    have hSj := hS j hj hjl o0 hn
    obtain ⟨v1, v2, v3, -⟩ := inv.vn j hjl hSj o0 hn
    exact ⟨v1, v2, .inr ⟨j, o0, hj, hSj, rfl, hn, v3⟩⟩

theorem vars_inj (st : Setup P M im d ntmps call ops ks g0 a0 Fs Ts vs) (inv : Inv M d ntmps ops.toList ks g0 a0 Fs Ts vs S g a) {i k : Nat} (hi : i ≤ ks.length) (hk : k ≤ ks.length)
    (hS : ∀ j, j < i → j < ks.length → ∀ o, New Ts j o → S j) (hS2 : ∀ j, j < k → j < ks.length → ∀ o, New Ts j o → S j) {x y : Nat} {o o' : VObj} (hx : look2 x (Ts i).vs = some o) (hy : look2 y (Ts k).vs = some o')
    (he : g.ν x = g.ν y) : x = y := by
  obtain ⟨-, -, hx⟩ := var_orig st inv hi hS hx
  obtain ⟨-, -, hy⟩ := var_orig st inv hk hS2 hy
  rcases hx with ⟨p, a1, a2, a3⟩ | ⟨j, p, a1, a2, rfl, a4, a5⟩ <;> rcases hy with ⟨q, b1, b2, b3⟩ | ⟨k, q, b1, b2, rfl, b4, b5⟩
  · rw [inv.le.ν x a2, inv.le.ν y b2] at he
    exact st.fits.s.inj x y p q a1 b1 he
  · omega
  · omega
  · have := inv.vi j k (by omega) (by omega) a2 b2 p q a4 b4 he
    rw [this]

/-- what stands ahead of a write is there -/
theorem new_before (st : Setup P M im d ntmps call ops ks g0 a0 Fs Ts vs) {S : Nat → Prop} (down : ∀ j k, S j → Anc ops.toList j k → S k) {i : Nat} (hi : i < ks.length) (hS : S i ∨ ∀ k, Anc ops.toList i k → S k) (hm : memK ks[i].1 = true) :
    ∀ j, j < i → j < ks.length → ∀ o, New Ts j o → S j := by
  intro j hj hjl o hn
  have := st.ordL i j hi hjl hj hm (makes_of_new st hjl hn)
  rcases hS with h | h
  · exact down i j h this
  · exact h j this

end

end M2
end
section
namespace M2
open Go
open Classical

section
variable {P : Program} {M : Maps} {im : FuncId → Option Nat} {d ntmps : Nat} {call : CallF} {ops : Array Oper} {ks : List (DK × AO)} {g0 g : G} {a0 a : Act} {Fs : Nat → Fr} {Ts : Nat → T} {vs : Nat → AV} {S : Nat → Prop}

theorem push_ne {p : Nat × VObj} {l : List VScope} (h : push p l = l) : False := by
  have := congrArg (fun l => l.flatten.length) h
  simp [flatten_push] at this

theorem new_unique {j : Nat} {o o' : VObj} (h : New Ts j o) (h' : New Ts j o') : o = o' := by
  have := congrArg List.flatten (h.1.symm.trans h'.1)
  rw [flatten_push, flatten_push] at this
  injection this with h1 h2
  injection h1

/-- an operation that changes nothing that we keep -/
theorem inv_same (st : Setup P M im d ntmps call ops ks g0 a0 Fs Ts vs) (inv : Inv M d ntmps ops.toList ks g0 a0 Fs Ts vs S g a) {i : Nat} (rd : Ready ops ks S i)
    (hT : Ts (i + 1) = Ts i) (hnw : ∀ x, ¬ gets (ks[i]'rd.lt) (Fs i) x true) {o : Oper} (hd : cmpDst d ntmps o.dst = some (ks[i]'rd.lt).2.dst) {v' : Value} (hv : VR M (g.sub (ancs ops.toList ks.length g0 Ts i)) (vs i) v') :
    Inv M d ntmps ops.toList ks g0 a0 Fs Ts vs (fun j => S j ∨ j = i) g (a.put o.dst v') := by
  obtain ⟨p1, p2, p3, p4⟩ := put_slots st inv rd (.refl g) hd hv
  have notNew : ∀ o, ¬ New Ts i o := fun o h => by have := h.2; rw [hT] at this; omega
  refine ⟨inv.le, inv.n, fun id h => (inv.okr id h).imp (fun q => q) (fun ⟨j, a, b, c⟩ => ⟨j, a, .inl b, c⟩), p1, p2, p3, p4,
    fun x o hx => ⟨(inv.vo x o hx).1, fun hno => (inv.vo x o hx).2 (fun k hk => hno k (.inl hk))⟩, ?_, ?_, ?_, ?_⟩
  · intro j hj hS o hn
    rcases hS with hS | rfl
    · obtain ⟨a1, a2, a3, a4, a5⟩ := inv.vn j hj hS o hn
      exact ⟨a1, a2, a3, a4, fun hno => a5 (fun k hk => hno k (.inl hk))⟩
    · exact absurd hn (notNew o)
  · intro j x o hS hw hno
    rcases hS with hS | rfl
    · exact inv.vw j x o hS hw (fun k hk hlt => hno k (.inl hk) hlt)
    · obtain ⟨⟨_, q⟩, -⟩ := hw
      exact absurd q (hnw x)
  · intro j k hj hk hSj hSk o o' hn hn' he
    rcases hSj with hSj | rfl
    · rcases hSk with hSk | rfl
      · exact inv.vi j k hj hk hSj hSk o o' hn hn' he
      · exact absurd hn' (notNew o')
    · exact absurd hn (notNew o)
  · obtain ⟨m, h1, h2, h3, h4, h5, h6, h7⟩ := inv.ids
    by_cases hiso : (ks[i]'rd.lt).1 = .iso
    · obtain ⟨q1, q2⟩ := iso_is st rd hiso h2 h4
      refine ⟨i + 1, rd.lt, ?_, by rw [hT, q2]; exact h3, .inr ⟨i, rd.lt, rfl, hiso⟩, ?_, ?_, by rw [hT, q2]; exact h7⟩
      · intro j hj hj2
        constructor
        · rintro (hS | rfl)
          · have := (h2 j hj hj2).mp hS; omega
          · omega
        · intro hlt
          by_cases e : j = i
          · exact .inr e
          · exact .inl (rd.anc j (st.ordI i j rd.lt hj (by omega) hiso hj2))
      · intro p hp
        rw [hT, q2] at hp
        rw [hT]
        exact Nat.lt_of_lt_of_le (h5 p hp) (n_mono st.step m i q1 (Nat.le_of_lt rd.lt))
      · intro id en e hl
        rw [hT, q2] at hl
        obtain ⟨r1, r2, r3⟩ := h6 id en e hl
        refine ⟨r1, .inr ⟨i, rfl, ?_⟩, r3⟩
        rcases r2 with r2 | ⟨j, hj, r2⟩
        · exact .inl r2
        · rcases h4 with h4 | ⟨j', hj', h8, h9⟩
          · omega
          · have e : j = j' := by omega
            subst e
            exact ancp_sub _ (ancs_sub (st.ordI i j rd.lt hj' (by omega) hiso h9) _ r2)
    · refine ⟨m, h1, fun j hj hj2 => ?_, h3, h4, h5, h6, h7⟩
      rw [← h2 j hj hj2]
      constructor
      · rintro (hS | rfl)
        · exact hS
        · exact absurd hj2 hiso
      · exact .inl

/-- what an operation may not touch -/
def Bset (ks : List (DK × AO)) (g : G) (Ts : Nat → T) (i : Nat) (hi : i < ks.length) (b : Nat) : Prop :=
  b < g.w.heap.size ∧ ¬ (ks[i].1 = .iso ∧ ∃ id x, look2 id (Ts i).is = some x ∧ (g.ρ id).block = b)

theorem view_sr (st : Setup P M im d ntmps call ops ks g0 a0 Fs Ts vs) (inv : Inv M d ntmps ops.toList ks g0 a0 Fs Ts vs S g a) {i : Nat} (rd : Ready ops ks S i) (hk : (ks[i]'rd.lt).1 = .pure ∨ (ks[i]'rd.lt).1 = .iso) :
    SR M (g.view (Ts i).n (ancp ops.toList ks.length g0 Ts i) (Bset ks g Ts i rd.lt)) (viewD (ks[i]'rd.lt).1 (Ts i)) := by
  obtain ⟨m, h1, h2, h3, h4, h5, h6, h7⟩ := inv.ids
  have hokn : ∀ id, ancp ops.toList ks.length g0 Ts i id → id < (Ts i).n := by
    rintro id (q | ⟨k, q1, q2, q3⟩)
    · exact Nat.lt_of_lt_of_le (st.fits.s.okn id q) (n_mono st.step 0 i (by omega) (Nat.le_of_lt rd.lt))
    · exact Nat.lt_of_lt_of_le q3.2 (n_mono st.step (k + 1) i (st.ancLt i k q1) (Nat.le_of_lt rd.lt))
  have hn : ∀ k, (viewD k (Ts i)).n = (Ts i).n := fun k => by cases k <;> rfl
  cases hkk : (ks[i]'rd.lt).1 with
  | load => rw [hkk] at hk; rcases hk with hk | hk <;> cases hk
  | loadm p q => rw [hkk] at hk; rcases hk with hk | hk <;> cases hk
  | sto p q => rw [hkk] at hk; rcases hk with hk | hk <;> cases hk
  | pure =>
    exact { n := rfl, wf := ⟨by simp [viewD], fun p hp => by simp [viewD] at hp, by simp [viewD], fun p hp => by simp [viewD] at hp⟩, okn := fun id hid => hokn id hid.2,
            var := fun x o hx => by simp [viewD, look2_cons, look_nil, look2_nil] at hx, inj := fun x y o o' hx => by simp [viewD, look2_cons, look_nil, look2_nil] at hx,
            ids := fun i en e hx => by simp [viewD, look2_cons, look_nil, look2_nil] at hx, idinj := fun i j a b hx => by simp [viewD, look2_cons, look_nil, look2_nil] at hx,
            kept := (st.fits.s.kept.mono inv.le).view _ _ _ }
  | iso =>
    obtain ⟨q1, q2⟩ := iso_is st rd hkk h2 h4
    have hnm := n_mono st.step m i q1 (Nat.le_of_lt rd.lt)
    refine { n := rfl, wf := ⟨by simp [viewD], fun p hp => by simp [viewD] at hp, by simpa [viewD, q2] using h3, fun p hp => ?_⟩, okn := fun id hid => hokn id hid.2,
             var := fun x o hx => by simp [viewD, look2_cons, look_nil, look2_nil] at hx, inj := fun x y o o' hx => by simp [viewD, look2_cons, look_nil, look2_nil] at hx,
             ids := ?_, idinj := ?_, kept := (st.fits.s.kept.mono inv.le).view _ _ _ }
    · exact Nat.lt_of_lt_of_le (h5 p (by simpa [viewD, q2] using hp)) hnm
    · intro id en e hx
      have hx' : look2 id (Ts m).is = some (en, e) := by rw [← q2]; exact hx
      obtain ⟨r1, r2, r3, r4⟩ := h6 id en e hx'
      have hanc : ancp ops.toList ks.length g0 Ts i id := by
        rcases r2 with r2 | ⟨j, hj, r2⟩
        · exact .inl r2
        · rcases h4 with h4 | ⟨j', hj', h8, h9⟩
          · omega
          · have e : j = j' := by omega
            subst e
            exact ancs_sub (st.ordI i j rd.lt hj' (by omega) hkk h9) _ r2
      refine ⟨⟨r1, hanc⟩, ?_, r4⟩
      show (if Bset ks g Ts i rd.lt (g.ρ id).block then _ else _) = _
      rw [if_neg (fun hb => hb.2 ⟨hkk, id, (en, e), hx, rfl⟩)]
      exact r3
    · intro x y p q hx hy he
      exact h7 x y p q (by rw [← q2]; exact hx) (by rw [← q2]; exact hy) he

/-- an operation is carried out, out of turn, and put back -/
theorem inv_go (st : Setup P M im d ntmps call ops ks g0 a0 Fs Ts vs) (inv : Inv M d ntmps ops.toList ks g0 a0 Fs Ts vs S g a) {i : Nat} (rd : Ready ops ks S i) (hk : (ks[i]'rd.lt).1 = .pure ∨ (ks[i]'rd.lt).1 = .iso)
    {t' : T} (hm : mergeD (ks[i]'rd.lt).1 (Ts i) t' = some (Ts (i + 1))) {g' : G} (hle' : (g.view (Ts i).n (ancp ops.toList ks.length g0 Ts i) (Bset ks g Ts i rd.lt)).Le g') (hs' : SR M g' t')
    {o : Oper} (hd : cmpDst d ntmps o.dst = some (ks[i]'rd.lt).2.dst) {v' : Value} (hv : VR M g' (vs i) v') :
    ∃ g'', g''.w = g'.w ∧ g.Le g'' ∧ Inv M d ntmps ops.toList ks g0 a0 Fs Ts vs (fun j => S j ∨ j = i) g'' (a.put o.dst v') := by
  obtain ⟨m, h1, h2, h3, h4, h5, h6, h7⟩ := inv.ids
  have hB : ∀ b, Bset ks g Ts i rd.lt b → b < g.w.heap.size := fun b h => h.1
  have hn0 : (Ts 0).n ≤ (Ts i).n := n_mono st.step 0 i (by omega) (Nat.le_of_lt rd.lt)
  have hgn : g.n ≤ (Ts i).n := by rw [inv.n, st.fits.s.n]; exact hn0
  have ht1 : (Ts (i + 1)).n = t'.n := by
    obtain ⟨-, m2, m3, -⟩ := merge_facts hm
    cases hkk : (ks[i]'rd.lt).1 with
    | load => rw [hkk] at hk; rcases hk with hk | hk <;> cases hk
    | loadm p q => rw [hkk] at hk; rcases hk with hk | hk <;> cases hk
    | sto p q => rw [hkk] at hk; rcases hk with hk | hk <;> cases hk
    | iso => exact (m2 hkk).1
    | pure => exact (m3 hkk).1
  have hnew : ∀ id, g'.ok id → (g.ok id ∧ ancp ops.toList ks.length g0 Ts i id) ∨ rng Ts i id := by
    intro id hid
    rcases hle'.new id hid with q | q
    · exact .inl q
    · exact .inr ⟨q, by rw [ht1]; exact hs'.okn id hid⟩
  have hnog : ∀ id, rng Ts i id → ¬ g.ok id := by
    intro id hr hg
    rcases inv.okr id hg with q | ⟨j, q1, q2, q3⟩
    · have := st.fits.s.okn id q
      have := hr.1
      omega
    · have := rng_apart st.step rd.lt q1 hr q3
      subst this
      exact rd.no q2
  have hold : ∀ id, g.ok id → g'.ok id → ancp ops.toList ks.length g0 Ts i id := by
    intro id h1 h2
    rcases hnew id h2 with q | q
    · exact q.2
    · exact absurd h1 (hnog id q)
  have hq : ∀ id, g'.ok id → ancs ops.toList ks.length g0 Ts i id := by
    intro id h
    rcases hnew id h with q | q
    · exact ancp_sub _ q.2
    · exact .inr ⟨i, .inl rfl, rd.lt, q⟩
  have hle := le_back hle' hB hgn
  have hext := ext_back hle' hB hold hq
  refine ⟨g.back g' (Bset ks g Ts i rd.lt), rfl, hle, ?_⟩
  obtain ⟨p1, p2, p3, p4⟩ := put_slots st inv rd hle hd (hv.ext hext)
  have varB : ∀ b, b < g.w.heap.size → g.μ b = .var → Bset ks g Ts i rd.lt b := by
    intro b hb hμ
    refine ⟨hb, ?_⟩
    rintro ⟨hiso, id, x, hx, rfl⟩
    obtain ⟨q1, q2⟩ := iso_is st rd hiso h2 h4
    have := (h6 id x.1 x.2 (by rw [← q2]; exact hx)).2.2.1
    rw [hμ] at this
    cases this
  have μB : ∀ b, Bset ks g Ts i rd.lt b → (g.back g' (Bset ks g Ts i rd.lt)).μ b = g.μ b ∧ (g.back g' (Bset ks g Ts i rd.lt)).w.heap[b]? = g.w.heap[b]? := by
    intro b hb
    exact ⟨if_pos hb, (back_sealed hle' hB hb).1⟩
  have νold : ∀ id, g.ok id → (g.back g' (Bset ks g Ts i rd.lt)).ν id = g.ν id := fun id h => if_pos h
  have ρold : ∀ id, g.ok id → (g.back g' (Bset ks g Ts i rd.lt)).ρ id = g.ρ id := fun id h => if_pos h
  have ownNew : ∀ o, New Ts i o → (ks[i]'rd.lt).1 = .pure ∧ ∃ o', look2 (Ts i).n t'.vs = some o' ∧ o' = o := by
    intro o hnw
    obtain ⟨-, m2, m3, -⟩ := merge_facts hm
    cases hkk : (ks[i]'rd.lt).1 with
    | load => rw [hkk] at hk; rcases hk with hk | hk <;> cases hk
    | loadm p q => rw [hkk] at hk; rcases hk with hk | hk <;> cases hk
    | sto p q => rw [hkk] at hk; rcases hk with hk | hk <;> cases hk
    | iso => exact absurd (hnw.1.symm.trans (m2 hkk).2.1) (fun h => push_ne h)
    | pure =>
      obtain ⟨-, -, -, -, q⟩ := m3 hkk
      rcases q with ⟨-, q⟩ | ⟨o', q1, q2, q3⟩
      · exact absurd (hnw.1.symm.trans q) (fun h => push_ne h)
      · have : New Ts i o' := ⟨q2, by rw [ht1]; exact q3⟩
        refine ⟨rfl, o', ?_, new_unique this hnw⟩
        rw [look2_flatten, q1, look_cons, if_pos rfl]
  have newBlock : ∀ o, New Ts i o → g'.ok (Ts i).n ∧ ¬ g.ok (Ts i).n ∧ g'.μ (g'.ν (Ts i).n) = .var ∧ g.w.heap.size ≤ g'.ν (Ts i).n ∧ ObjR M g' o (g'.ν (Ts i).n) := by
    intro o hnw
    obtain ⟨hp, o', hl, rfl⟩ := ownNew o hnw
    obtain ⟨v1, v2, v3⟩ := hs'.var _ _ hl
    refine ⟨v1, hnog _ ⟨Nat.le_refl _, hnw.2⟩, v2, ?_, v3⟩
    rcases Nat.lt_or_ge (g'.ν (Ts i).n) g.w.heap.size with hlt | hge
    · exfalso
      have hb : Bset ks g Ts i rd.lt (g'.ν (Ts i).n) := ⟨hlt, fun q => by rw [hp] at q; cases q.1⟩
      have hse := (back_sealed hle' hB hb).2
      rw [v2] at hse
      have := seal_still (g.μ (g'.ν (Ts i).n))
      rw [← hse] at this
      cases this
    · exact hge
  have oldBlock : ∀ j, j < ks.length → S j → ∀ o, New Ts j o → g.ν (Ts j).n < g.w.heap.size := fun j hj hS o hnw => (inv.vn j hj hS o hnw).2.2.2.1
  have hnotw : ∀ x, ¬ gets (ks[i]'rd.lt) (Fs i) x true := by
    intro x hx
    obtain ⟨p, q, e⟩ := gets_sto hx
    rw [e] at hk
    rcases hk with hk | hk <;> cases hk
  refine ⟨inv.le.trans hle, inv.n, ?_, p1, p2, p3, p4, ?_, ?_, ?_, ?_, ?_⟩
  · intro id hid
    rcases hid with hid | hid
    · exact (inv.okr id hid).imp (fun q => q) (fun ⟨j, a, b, c⟩ => ⟨j, a, .inl b, c⟩)
    · rcases hnew id hid with q | q
      · exact (inv.okr id q.1).imp (fun q => q) (fun ⟨j, a, b, c⟩ => ⟨j, a, .inl b, c⟩)
      · exact .inr ⟨i, rd.lt, .inr rfl, q⟩
  · intro x o hx
    obtain ⟨v1, v2⟩ := inv.vo x o hx
    have hsz : g0.ν x < g.w.heap.size := Nat.lt_of_lt_of_le (st.fits.s.varLt hx) inv.le.size
    obtain ⟨u1, u2⟩ := μB _ (varB _ hsz v1)
    exact ⟨u1.trans v1, fun hno => u2.trans (v2 (fun k hk => hno k (.inl hk)))⟩
  · intro j hj hS o hnw
    by_cases hji : j = i
    · subst hji
      obtain ⟨b1, b2, b3, b4, b5⟩ := newBlock o hnw
      have hν : (g.back g' (Bset ks g Ts j rd.lt)).ν (Ts j).n = g'.ν (Ts j).n := if_neg b2
      rw [hν]
      refine ⟨.inr b1, ?_, Nat.le_trans inv.le.size b4, b5.lt, fun _ => b5.ext hext rfl⟩
      show (if Bset ks g Ts j rd.lt _ then _ else _) = _
      rw [if_neg (fun hb => absurd hb.1 (by omega))]
      exact b3
    · have hSj := hS.resolve_right hji
      obtain ⟨v1, v2, v3, v4, v5⟩ := inv.vn j hj hSj o hnw
      rw [νold _ v1]
      obtain ⟨u1, u2⟩ := μB _ (varB _ v4 v2)
      exact ⟨.inl v1, u1.trans v2, v3, Nat.lt_of_lt_of_le v4 hle.size, fun hno => (v5 (fun k hk => hno k (.inl hk))).ext (G.ext_sub hle.ext (fun _ q => q)) u2⟩
  · intro j x o hS hw hno
    rcases hS with hS | rfl
    · have hv := inv.vw j x o hS hw (fun k hk hlt => hno k (.inl hk) hlt)
      obtain ⟨⟨hj, hg⟩, -, o0, hx0⟩ := hw
      obtain ⟨p, q, e⟩ := gets_sto hg
      have hnb := new_before st rd.down hj (.inl hS) (by rw [e]; rfl)
      obtain ⟨v1, v2, -⟩ := var_orig st inv (Nat.le_of_lt hj) hnb hx0
      rw [νold _ v1]
      obtain ⟨u1, u2⟩ := μB _ (varB _ hv.lt v2)
      exact hv.ext (G.ext_sub hle.ext (fun _ q => q)) u2
    · obtain ⟨⟨_, q⟩, -⟩ := hw
      exact absurd q (hnotw x)
  · intro j k hj hk2 hSj hSk o o' hnj hnk he
    by_cases hji : j = i <;> by_cases hki : k = i
    · rw [hji, hki]
    · have hSk' := hSk.resolve_right hki
      subst hji
      obtain ⟨b1, b2, b3, b4, b5⟩ := newBlock o hnj
      have hν : (g.back g' (Bset ks g Ts j rd.lt)).ν (Ts j).n = g'.ν (Ts j).n := if_neg b2
      rw [hν, νold _ (inv.vn k hk2 hSk' o' hnk).1] at he
      have := oldBlock k hk2 hSk' o' hnk
      omega
    · have hSj' := hSj.resolve_right hji
      subst hki
      obtain ⟨b1, b2, b3, b4, b5⟩ := newBlock o' hnk
      have hν : (g.back g' (Bset ks g Ts k rd.lt)).ν (Ts k).n = g'.ν (Ts k).n := if_neg b2
      rw [hν, νold _ (inv.vn j hj hSj' o hnj).1] at he
      have := oldBlock j hj hSj' o hnj
      omega
    · have hSj' := hSj.resolve_right hji
      have hSk' := hSk.resolve_right hki
      rw [νold _ (inv.vn j hj hSj' o hnj).1, νold _ (inv.vn k hk2 hSk' o' hnk).1] at he
      exact inv.vi j k hj hk2 hSj' hSk' o o' hnj hnk he
  · by_cases hiso : (ks[i]'rd.lt).1 = .iso
    · obtain ⟨q1, q2⟩ := iso_is st rd hiso h2 h4
      obtain ⟨-, m2, -, -⟩ := merge_facts hm
      obtain ⟨-, -, his, -, -⟩ := m2 hiso
      have ρnew : ∀ id, g'.ok id → (g.back g' (Bset ks g Ts i rd.lt)).ρ id = g'.ρ id := by
        intro id h
        show (if g.ok id then g.ρ id else g'.ρ id) = _
        split
        · rename_i hg
          exact (hle'.ρ id ⟨hg, hold id hg h⟩).symm
        · rfl
      refine ⟨i + 1, rd.lt, ?_, by rw [his]; exact hs'.wf.ik, .inr ⟨i, rd.lt, rfl, hiso⟩, fun p hp => by rw [ht1]; rw [his] at hp; exact hs'.wf.jn p hp, ?_, ?_⟩
      · intro j hj hj2
        constructor
        · rintro (hS | rfl)
          · have := (h2 j hj hj2).mp hS; omega
          · omega
        · intro hlt
          by_cases e : j = i
          · exact .inr e
          · exact .inl (rd.anc j (st.ordI i j rd.lt hj (by omega) hiso hj2))
      · intro id en e hl
        rw [his] at hl
        obtain ⟨r1, r2, c, ty, fz, r3, r4, r5⟩ := hs'.ids id en e hl
        refine ⟨.inr r1, .inr ⟨i, rfl, hq id r1⟩, ?_⟩
        unfold RowOpen
        rw [ρnew id r1]
        refine ⟨?_, c, ty, fz, r3, r4, r5⟩
        show (if Bset ks g Ts i rd.lt _ then _ else _) = _
        rw [if_neg (fun hb => ?_)]
        · exact r2
        · have hse := (back_sealed hle' hB hb).2
          rw [r2] at hse
          have := seal_still (g.μ (g'.ρ id).block)
          rw [← hse] at this
          cases this
      · intro x y p q hx hy he
        rw [his] at hx hy
        rw [ρnew x (hs'.ids x p.1 p.2 hx).1, ρnew y (hs'.ids y q.1 q.2 hy).1] at he
        exact hs'.idinj x y p q hx hy he
    · refine ⟨m, h1, fun j hj hj2 => ?_, h3, h4, h5, ?_, ?_⟩
      · rw [← h2 j hj hj2]
        constructor
        · rintro (hS | rfl)
          · exact hS
          · exact absurd hj2 hiso
        · exact .inl
      · intro id en e hl
        obtain ⟨r1, r2, r3, c, ty, fz, r4, r5, r6⟩ := h6 id en e hl
        refine ⟨.inl r1, r2, ?_⟩
        unfold RowOpen
        rw [ρold id r1]
        have hb : Bset ks g Ts i rd.lt (g.ρ id).block := ⟨(getElem?_some_iff.mp r4).1, fun q => hiso q.1⟩
        obtain ⟨u1, u2⟩ := μB _ hb
        refine ⟨u1.trans r3, c, ty, fz, u2.trans r4, fun off ho => ?_, r6⟩
        rw [← r5 off ho]
        exact frozen_of_heap u2
      · intro x y p q hx hy he
        rw [ρold x (h6 x p.1 p.2 hx).1, ρold y (h6 y q.1 q.2 hy).1] at he
        exact h7 x y p q hx hy he

end

end M2
end
