/- General ground for the statement: an abstract machine that the program's code is shown to follow, and the contracts of the functions that the law reaches. Part 1. -/
import Derived.Test.YtofcelckpdepaaaA0
import Derived.Orders
set_option linter.unusedVariables false
set_option linter.unusedSimpArgs false
section
namespace M2
open Go

section
variable {P : Program} {M : Maps} {im : FuncId → Option Nat} {d ntmps : Nat} {g : G} {F : Fr} {a : Act} {o : Oper} {t t' : T} {v : AV} {call : CallF}

theorem opds_one {xs : Array Operand} {y : Opd} (h : cmpOpds im d xs = some [y]) : ∃ x, xs = #[x] ∧ cmpOpd im d x = some y := by
  obtain ⟨l⟩ := xs
  simp only [cmpOpds] at h
  cases l with
  | nil => simp at h
  | cons x l =>
    simp only [List.mapM_cons, Option.bind_eq_bind, Option.bind_eq_some_iff, Option.pure_def] at h
    obtain ⟨q, hq, r, hr, e⟩ := h
    cases e
    cases l with
    | nil => exact ⟨x, rfl, hq⟩
    | cons x2 l =>
      simp only [List.mapM_cons, Option.bind_eq_bind, Option.bind_eq_some_iff, Option.pure_def] at hr
      obtain ⟨_, _, _, _, e⟩ := hr
      cases e

theorem opds_two {xs : Array Operand} {y z : Opd} (h : cmpOpds im d xs = some [y, z]) : ∃ x u, xs = #[x, u] ∧ cmpOpd im d x = some y ∧ cmpOpd im d u = some z := by
  obtain ⟨l⟩ := xs
  simp only [cmpOpds] at h
  cases l with
  | nil => simp at h
  | cons x l =>
    simp only [List.mapM_cons, Option.bind_eq_bind, Option.bind_eq_some_iff, Option.pure_def] at h
    obtain ⟨q, hq, r, hr, e⟩ := h
    cases e
    obtain ⟨u, e, hu⟩ := opds_one (im := im) (d := d) (xs := ⟨l⟩) hr
    have : l = [u] := congrArg Array.toList e
    subst this
    exact ⟨x, u, rfl, hq, hu⟩

theorem opdO_none {x : Option Operand} (h : cmpOpdO im d x = some none) : x = none := by
  cases x with
  | none => rfl
  | some x =>
    simp only [cmpOpdO, Option.map_eq_some_iff] at h
    obtain ⟨_, _, e⟩ := h
    cases e

theorem ixGo_eq : ∀ (l : List UInt8) (n : Nat) (k : Nat), n < 256 → ixGo l n k = if Lib.indexByte l (UInt8.ofNat n) = -1 then -1 else Lib.indexByte l (UInt8.ofNat n) + k := by
  intro l
  induction l with
  | nil => intro n k _; rfl
  | cons b l ih =>
    intro n k hn
    have hge := Lib.indexByte_ge l (UInt8.ofNat n)
    unfold ixGo Lib.indexByte
    by_cases e : b.toNat = n
    · have e' : b = UInt8.ofNat n := by rw [← e]; exact (UInt8.ofNat_toNat).symm
      rw [beq_true e, e']
      simp
    · have e' : (b == UInt8.ofNat n) = false := by
        rw [beq_eq_false_iff_ne]
        intro q
        apply e
        rw [q, UInt8.toNat_ofNat']
        omega
      rw [beq_false e, e', ih n (k + 1) hn]
      simp only [Bool.false_eq_true, if_false]
      by_cases h1 : Lib.indexByte l (UInt8.ofNat n) = -1
      · simp [h1]
      · have h2 : (Lib.indexByte l (UInt8.ofNat n) == -1) = false := by rw [beq_eq_false_iff_ne]; exact h1
        rw [if_neg h1, h2]
        simp only [Bool.false_eq_true, if_false]
        rw [if_neg (by omega)]
        omega

theorem find_ixb {fn : Func} (h : fn.name = "internal/bytealg.IndexByteString") : Extern.find fn = some Extern.BytealgIndexByte.indexByte := by
  unfold Extern.find
  rw [h]
  rfl

theorem sound_ixb (him : ∀ f x, im f = some x → M.fm x = f) (hF : FR M g d F a.tmps) (hS : SR M g t) {c : Call} {f : FuncId} {x y : Opd} (hi : isIxb P f = true) (hargs : cmpOpds im d c.args = some [x, y])
    (hcal : c.callee = .value (.func f)) (ho : o.op = .call c) (hr : opIxb x y call F t = .ok v t') : Done P M o a g v t' := by
  obtain ⟨u, z, hx, hux, hzy⟩ := opds_two hargs
  have vx := opd_ok him hF hux
  have vy := opd_ok him hF hzy
  unfold isIxb at hi
  split at hi
  · rename_i fn hfn
    simp only [Bool.and_eq_true, beq_iff_eq] at hi
    obtain ⟨i1, i2, i3⟩ := hi
    unfold opIxb at hr
    split at hr
    · rename_i s n hs hn
      cases hb : Nat.blt n 256 with
      | false => rw [hb] at hr; cases hr
      | true =>
        rw [hb] at hr
        cases hr
        have hn256 : n < 256 := Nat.le_of_ble_eq_true hb
        rw [hs] at vx
        rw [hn] at vy
        generalize hxv : a.eval u = xv at vx
        generalize hyv : a.eval z = yv at vy
        cases vx
        cases vy
        have hnm : (fn.name == "runtime.NumGoroutine") = false := by rw [i2]; decide
        have hfx : Extern.findNext fn = none := by cases hq : Extern.findNext fn with
          | none => rfl
          | some q => rw [hq] at i3; cases i3
        refine done_pure (v' := .int .i64 (ixGo s n 0)) ?_ (.int _ _) hS
        have hrun := Lib.run_indexByteString (P := P) ⟨s.toArray⟩ (Int.ofNat n) g.w
        have hval : Lib.indexByte s (UInt8.ofNat n) = ixGo s n 0 := by
          rw [ixGo_eq s n 0 hn256]
          split
          · assumption
          · simp
        have hrun' : (Extern.BytealgIndexByte.indexByte #[.string ⟨s.toArray⟩, .int .u8 (Int.ofNat n)]).run P g.w = .ok (.int .i64 (ixGo s n 0)) g.w := by
          rw [hrun, ← hval]
          simp
        have hres : (execOp a.eval o).run P g.w = (callFunc f (c.args.map a.eval)).run P g.w := by
          simp [execOp, ho, resolve, hcal, Act.eval, Deferred.ofValue, invoke]
        have hargv : c.args.map a.eval = #[.string ⟨s.toArray⟩, .int .u8 (Int.ofNat n)] := by
          rw [hx, ← hxv, ← hyv]
          simp
        rw [hres, hargv]
        unfold callFunc
        simp only [Sem.run_bind, run_program, Result.andThen_ok, hfn, hnm, Bool.false_eq_true, if_false, i1, if_true, run_mark, hfx, find_ixb i2, hrun', Sem.run_pure]
    · cases hr
  · cases hi

theorem sound_callop (him : ∀ f x, im f = some x → M.fm x = f) (hcall : CallOK P M call) (hF : FR M g d F a.tmps) (hS : SR M g t) {c : Call} {ao : AOp}
    (hc : cmpCall P im d c = some ao) (ho : o.op = .call c) (hr : ao.run call F t = .ok v t') : Done P M o a g v t' := by
  unfold cmpCall at hc
  cases hargs : cmpOpds im d c.args with
  | none => simp [hargs] at hc
  | some args =>
    simp only [hargs, Option.bind_eq_bind, Option.bind_some] at hc
    split at hc
    · rename_i f hcal
      split at hc
      · rename_i hi
        split at hc
        · cases hc
          exact sound_ixb (call := call) him hF hS hi hargs hcal ho hr
        · cases hc
      · simp only [Option.bind_eq_some_iff] at hc
        obtain ⟨n, hn, e⟩ := hc
        cases e
        exact sound_call him hcall hF hS hn hargs hcal ho hr
    · rename_i x hcal
      simp only [Option.bind_eq_some_iff] at hc
      obtain ⟨n, hn, e⟩ := hc
      cases e
      exact sound_calld him hcall hF hS hn hargs hcal ho hr
    · rename_i hcal
      split at hc
      · rename_i y
        obtain ⟨x, hx, hxy⟩ := opds_one hargs
        split at hc
        · rename_i hu hn
          cases hc
          exact sound_len (call := call) him hF hS hxy hu hn (by simp) hcal hx ho hr
        · rename_i e hu hn
          cases hc
          exact sound_len (call := call) him hF hS hxy hu hn (by simp) hcal hx ho hr
        · rename_i n e hu hn
          cases hc
          cases hr
          obtain ⟨ty, hty⟩ : ∃ ty, c.argTypes[0]? = some ty := ⟨c.argTypes[0], by simp [hn]⟩
          have hu' : P.underlying ty = some (.array n e) := by
            rw [← hu]; congr 1; simp [Array.getD_eq_getD_getElem?, hty]
          refine done_pure (v' := .int .i64 n) ?_ (.int _ _) hS
          simp [execOp, ho, resolve, hcal, hx, invoke, builtin, Builtin.len_, hty, run_underlying hu', goInt]
        · contradiction
      · contradiction
    · rename_i hcal
      split at hc
      · rename_i y z
        obtain ⟨x, u, hx, hxy, huz⟩ := opds_two hargs
        split at hc
        · rename_i e e2 hu hu2 hn
          simp only [Option.bind_eq_some_iff] at hc
          obtain ⟨⟨ze, s, b⟩, he, hq⟩ := hc
          simp only at hq
          split at hq
          · rename_i hb
            cases hq
            exact sound_app (call := call) him hF hS hxy huz hu hu2 hn he hb hcal hx ho hr
          · contradiction
        · contradiction
      · contradiction
    · rename_i hcal
      split at hc
      · obtain ⟨x, u, hx, hxy, huz⟩ := opds_two hargs
        cases hc
        exact sound_cpx (call := call) him hF hS hxy huz hcal hx ho hr
      · contradiction
    · rename_i hcal
      split at hc
      · obtain ⟨x, hx, hxy⟩ := opds_one hargs
        cases hc
        exact sound_re (call := call) him hF hS hxy hcal hx ho hr
      · contradiction
    · rename_i hcal
      split at hc
      · obtain ⟨x, hx, hxy⟩ := opds_one hargs
        cases hc
        exact sound_im (call := call) him hF hS hxy hcal hx ho hr
      · contradiction
    · rename_i hcal
      split at hc
      · obtain ⟨x, u, hx, hxy, huz⟩ := opds_two hargs
        cases hc
        exact sound_mnx (call := call) (mx := false) him hF hS hxy huz (by simpa using hcal) hx ho hr
      · contradiction
    · rename_i hcal
      split at hc
      · obtain ⟨x, u, hx, hxy, huz⟩ := opds_two hargs
        cases hc
        exact sound_mnx (call := call) (mx := true) him hF hS hxy huz (by simpa using hcal) hx ho hr
      · contradiction
    · contradiction

theorem sound_eq (him : ∀ f x, im f = some x → M.fm x = f) (hF : FR M g d F a.tmps) (hS : SR M g t) {neg : Bool} {ty ty' : TypeId} {x y : Operand} {x' y' : Opd} {ao : AOp}
    (hx : cmpOpd im d x = some x') (hy : cmpOpd im d y = some y') (hc : cmpEq P neg (if neg then .neq else .eql) ty x y x' y' = some ao)
    (ho : o.op = .binOp (if neg then .neq else .eql) ty x y ty') (hr : ao.run call F t = .ok v t') : Done P M o a g v t' := by
  unfold cmpEq at hc
  split at hc
  · cases hc; exact sound_bin (call := call) him hF hS hx hy ho hr
  · cases hc; exact sound_bin (call := call) him hF hS hx hy ho hr
  · rename_i hu; cases hc; exact sound_eqk (call := call) (k := .bool) him hF hS hx hy hu rfl (by simp) ho hr
  · rename_i hu; cases hc; exact sound_eqk (call := call) (k := .ptr) him hF hS hx hy hu ⟨_, rfl⟩ (by simp) ho hr
  · rename_i hu; cases hc; exact sound_eqk (call := call) (k := .slice) him hF hS hx hy hu ⟨_, rfl⟩ (by simp) ho hr
  · rename_i hu; cases hc; exact sound_eqk (call := call) (k := .func) him hF hS hx hy hu ⟨_, _, _, rfl⟩ (by simp) ho hr
  · rename_i hu; cases hc; exact sound_eqk (call := call) (k := .map) him hF hS hx hy hu ⟨_, _, rfl⟩ (by simp) ho hr
  · rename_i hu
    split at hc
    · rename_i hk
      cases hc
      exact sound_eqk (call := call) (k := .iface) him hF hS hx hy hu ⟨_, rfl⟩ (fun _ => hk) ho hr
    · contradiction
  · rename_i fs hu
    split at hc
    · contradiction
    · rename_i hg
      rw [Option.map_eq_some_iff] at hc
      obtain ⟨e, he, rfl⟩ := hc
      exact sound_eqs (call := call) him hF hS hx hy he (by simpa using hg) ⟨_, hu, .inl ⟨_, rfl⟩⟩ ho hr
  · rename_i l q hu
    split at hc
    · contradiction
    · rename_i hg
      rw [Option.map_eq_some_iff] at hc
      obtain ⟨e, he, rfl⟩ := hc
      exact sound_eqs (call := call) him hF hS hx hy he (by simpa using hg) ⟨_, hu, .inr ⟨_, _, rfl⟩⟩ ho hr
  · contradiction

theorem sound_mark (him : ∀ f x, im f = some x → M.fm x = f) (hF : FR M g d F a.tmps) (hS : SR M g t) {src dst e1 e : TypeId} {x : Operand} {y : Opd} (h : cmpOpd im d x = some y)
    (h1 : P.underlying src = some (.slice e1)) (h2 : P.underlying dst = some (.slice e)) (hs : (src == dst) = true) (hu : P.underlying e = some (.int .u8)) (ho : o.op = .convert src dst x)
    (hr : opMark y call F t = .ok v t') : Done P M o a g v t' := by
  have vx := opd_ok him hF h
  unfold opMark at hr
  split at hr
  · rename_i id es0 pos cap fl alt es hy
    split at hr
    · rename_i p hl
      obtain ⟨en, eo⟩ := p
      cases hr
      rw [hy] at vx
      generalize hxv : a.eval x = xv at vx
      have vx0 := vx
      cases vx with
      | sl id _ pos cap fl alt es b off ccap vs hidn hcc hbk hoff hlen hv hsz' hc hf =>
        obtain ⟨i1, i2, c, cty, fz, i3, i4, i5, i6⟩ := hS.ids id _ _ hl
        subst hbk
        have hbb : (g.ρ id).block < g.w.heap.size := (getElem?_some_iff.mp i3).1
        obtain ⟨lo, hi⟩ := fz
        generalize hfz : (if lo == hi then (c.size, c.size + 1) else (min lo c.size, max hi (c.size + 1))) = fz'
        have hfz' : fz'.1 = fz'.2 ∨ c.size ≤ fz'.1 := by
          rw [← hfz]
          split
          · exact .inr (Nat.le_refl _)
          · rename_i hne
            refine .inr ?_
            have : c.size ≤ lo := by
              rcases i6 with q | q
              · exact absurd (by simpa using q) hne
              · exact q
            show c.size ≤ min lo c.size
            omega
        have hw : (g.w.freeze ⟨(g.ρ id).block, c.size, none⟩ 1) = setBlock g.w (g.ρ id).block (.cells c cty fz') := by
          unfold World.freeze
          rw [if_neg (by decide)]
          unfold setBlock
          congr 1
          apply Array.ext_getElem?
          intro q
          rw [Array.getElem?_modify, Array.getElem?_setIfInBounds]
          by_cases e : (g.ρ id).block = q
          · subst e
            rw [if_pos rfl, if_pos rfl, i3, if_pos hbb, ← hfz]
            rfl
          · rw [if_neg e, if_neg e]
        have hheap : ∀ q, q ≠ (g.ρ id).block → (setBlock g.w (g.ρ id).block (.cells c cty fz')).heap[q]? = g.w.heap[q]? := fun q hq => by
          rw [setBlock_heap, if_neg (fun e => hq e.1)]
        have hself : (setBlock g.w (g.ρ id).block (.cells c cty fz')).heap[(g.ρ id).block]? = some (.cells c cty fz') := by
          rw [setBlock_heap, if_pos ⟨rfl, hbb⟩]
        have hfo : ∀ off, off < c.size → (setBlock g.w (g.ρ id).block (.cells c cty fz')).frozen? ⟨(g.ρ id).block, off, none⟩ = false := by
          intro off ho
          unfold World.frozen?
          rw [show (setBlock g.w (g.ρ id).block (.cells c cty fz')).heap[(⟨(g.ρ id).block, off, none⟩ : Addr).block]? = _ from hself]
          obtain ⟨p1, p2⟩ := fz'
          have hq : p1 = p2 ∨ c.size ≤ p1 := hfz'
          show (decide (p1 ≤ off) && decide (off < p2)) = false
          rcases hq with q | q
          · simp; omega
          · simp; omega
        have hle : g.Le (g.setVar (g.ρ id).block (.cells c cty fz')) :=
          { n := Nat.le_refl _, ok := fun _ h => h, new := fun _ h => .inl h, ρ := fun _ _ => rfl, ν := fun _ _ => rfl, size := by simp [G.setVar, setBlock],
            lim := fun q k hq hk => by
              refine ⟨k, hk, Nat.le_refl _, fun off _ => ?_⟩
              by_cases e : q = (g.ρ id).block
              · subst e
                show (setBlock g.w _ _).cell? _ = _
                simp only [World.cell?, hself, i3]
              · exact cell?_of_heap (hheap q e)
            oth := fun q hq hst => by
              have e : q ≠ (g.ρ id).block := fun e => by rw [e, i2] at hst; cases hst
              exact ⟨rfl, hheap q e⟩
            os := rfl, tape := rfl, output := rfl }
        refine done_value (g' := g.setVar (g.ρ id).block (.cells c cty fz')) (v' := .slice (some ⟨(g.ρ id).block, off, none⟩) es.length ccap) ?_ hle (vx0.mono hle) ?_
        · have hsh : g.w.shape? (g.ρ id).block = some (cty, c.size) := by simp [World.shape?, i3]
          show _ = Result.ok _ (setBlock g.w (g.ρ id).block (.cells c cty fz'))
          rw [← hw]
          simp [execOp, ho, hxv, convert, run_underlying h1, run_underlying h2, run_underlying hu, hs, markStringish, hsh]
        · constructor
          · exact hS.n
          · exact hS.wf
          · exact hS.okn
          · intro z oz hz
            obtain ⟨v1, v2, v3⟩ := hS.var z oz hz
            exact ⟨v1, v2, v3.mono hle (hheap _ (fun e => by have e' : g.ν z = (g.ρ id).block := e; rw [e', i2] at v2; cases v2))⟩
          · exact hS.inj
          · intro j en' e' hj
            obtain ⟨j1, j2, c', ty', fz2, j3, j4, j5⟩ := hS.ids j en' e' hj
            by_cases e : (g.ρ j).block = (g.ρ id).block
            · have hjj := hS.idinj j id _ _ hj hl e
              subst hjj
              rw [i3] at j3
              cases j3
              refine ⟨j1, j2, c, cty, fz', hself, fun off ho => ?_, j5.1, hfz'⟩
              exact hfo off ho
            · refine ⟨j1, j2, c', ty', fz2, (hheap _ e).trans j3, fun off ho => ?_, j5⟩
              rw [← j4 off ho]
              exact frozen_of_heap (hheap _ e)
          · exact hS.idinj
    · cases hr
  · cases hr

theorem op_sound (him : ∀ f x, im f = some x → M.fm x = f) (hcall : CallOK P M call) (hF : FR M g d F a.tmps) (hS : SR M g t) {ao : AOp}
    (hc : cmpOp P im d o.op = some ao) (hr : ao.run call F t = .ok v t') : Done P M o a g v t' := by
  unfold cmpOp at hc
  split at hc <;> rename_i ho
  · simp only [Option.bind_eq_bind, Option.bind_eq_some_iff] at hc
    obtain ⟨y, hy, e⟩ := hc
    cases e
    exact sound_mv (call := call) him hF hS hy (.inl ho) hr
  · simp only [Option.bind_eq_bind, Option.bind_eq_some_iff] at hc
    obtain ⟨y, hy, e⟩ := hc
    cases e
    exact sound_mv (call := call) him hF hS hy (.inr ho) hr
  · simp only [Option.bind_eq_bind, Option.bind_eq_some_iff] at hc
    obtain ⟨c', hc', x', hx', y', hy', e⟩ := hc
    cases e
    exact sound_pick (call := call) him hF hS hc' hx' hy' ho hr
  · simp only [Option.bind_eq_bind, Option.bind_eq_some_iff] at hc
    obtain ⟨z, hz, e⟩ := hc
    cases e
    exact sound_alloc (call := call) (F := F) hS hz ho hr
  · simp only [Option.bind_eq_bind, Option.bind_eq_some_iff] at hc
    obtain ⟨y, hy, e⟩ := hc
    cases e
    exact sound_box (call := call) him hF hS hy ho hr
  · exact sound_build (call := call) him hF hS hc ho hr
  · split at hc
    · rename_i e hu
      simp only [Option.bind_eq_bind, Option.bind_eq_some_iff] at hc
      obtain ⟨⟨z, s, b⟩, he, hq⟩ := hc
      simp only at hq
      split at hq
      · rename_i hl
        rw [Option.map_eq_some_iff] at hq
        obtain ⟨ps, hps, rfl⟩ := hq
        split at hr
        · exact sound_buildSo (call := call) him hF hS hu he hl hps ho hr
        · exact sound_buildS (call := call) him hF hS hu he hl hps ho hr
      · contradiction
    · contradiction
  · simp only [Option.bind_eq_bind, Option.bind_eq_some_iff] at hc
    obtain ⟨y, hy, s, hs, e⟩ := hc
    split at e
    · rename_i ha
      cases e
      exact sound_ldA (call := call) him hF hS hy hs ha ho hr
    · rename_i ha
      cases e
      exact sound_ld1 (call := call) him hF hS hy ha ho hr
    · contradiction
  · simp only [Option.bind_eq_bind, Option.bind_eq_some_iff] at hc
    obtain ⟨s, hs, y, hy, z, hz, e⟩ := hc
    cases e
    exact sound_st (call := call) him hF hS hy hz hs ho hr
  · simp only [Option.bind_eq_bind, Option.bind_eq_some_iff] at hc
    obtain ⟨y, hy, e⟩ := hc
    cases e
    exact sound_nilck (call := call) him hF hS hy ho hr
  · rename_i op ty x y ty' _
    unfold cmpBin at hc
    simp only [Option.bind_eq_bind, Option.bind_eq_some_iff] at hc
    obtain ⟨x', hx, y', hy, e⟩ := hc
    split at e
    · exact sound_eq (call := call) (neg := false) him hF hS hx hy e ho hr
    · exact sound_eq (call := call) (neg := true) him hF hS hx hy e ho hr
    · cases e
      exact sound_bin (call := call) him hF hS hx hy ho hr
  · simp only [Option.bind_eq_bind, Option.bind_eq_some_iff] at hc
    obtain ⟨y, hy, e⟩ := hc
    cases e
    exact sound_un (call := call) him hF hS hy ho hr
  · simp only [Option.bind_eq_bind, Option.bind_eq_some_iff] at hc
    obtain ⟨y, hy, e⟩ := hc
    by_cases hmk : ∃ z, ao = .mark z
    · obtain ⟨z, rfl⟩ := hmk
      unfold cmpConv at e
      split at e
      all_goals (first | (cases e; done) | skip)
      rename_i e1 e2 hu1 hu2
      split at e
      · rename_i hcond
        cases e
        simp only [Bool.and_eq_true] at hcond
        exact sound_mark (call := call) him hF hS hy hu1 hu2 (by simpa using hcond.1) (isU8_ok P hcond.2) ho hr
      · cases e
    · exact sound_conv (call := call) him hF hS hy e (fun z hz => hmk ⟨z, hz⟩) ho hr
  · simp only [Option.bind_eq_bind, Option.bind_eq_some_iff] at hc
    obtain ⟨n, hn, fs, hfs, cs, hcs, e⟩ := hc
    cases e
    exact sound_mkfn (call := call) him hF hS hn hfs hcs ho hr
  · split at hc
    · rename_i e hu
      simp only [Option.bind_eq_bind, Option.bind_eq_some_iff] at hc
      obtain ⟨⟨z, s, b⟩, he, l, hl, c', hc', q⟩ := hc
      cases q
      exact sound_mkS (call := call) him hF hS hu he hl hc' ho hr
    · contradiction
  · simp only [Option.bind_eq_bind, Option.bind_eq_some_iff] at hc
    obtain ⟨y, hy, l, hl, h, hh, m, hm, q⟩ := hc
    split at q
    · rename_i hu
      split at q
      · contradiction
      · rename_i hmn
        cases q
        cases m with
        | none =>
          have hm0 := opdO_none hm
          rw [hm0] at ho
          exact sound_slS (call := call) him hF hS hy hl hh hu ho hr
        | some m => simp at hmn
    · rename_i e hu
      split at q
      · contradiction
      · rename_i hmn
        simp only [Option.bind_eq_some_iff] at q
        obtain ⟨s, hs, q⟩ := q
        cases q
        refine sound_slL (call := call) him hF hS hy hl hh hm ?_ hu hs ho hr
        intro h1
        cases h with
        | none => simp [h1] at hmn
        | some _ => rfl
    · contradiction
  · split at hc
    · rename_i fs hu
      simp only [Option.bind_eq_bind, Option.bind_eq_some_iff] at hc
      obtain ⟨fl, hfl, s, hs, q⟩ := hc
      split at q
      · contradiction
      · rename_i h0
        simp only [Option.bind_eq_some_iff] at q
        obtain ⟨y, hy, q⟩ := q
        cases q
        exact sound_faddr (call := call) him hF hS hy hu hfl hs h0 ho hr
    · contradiction
  · split at hc
    · rename_i e hu
      simp only [Option.bind_eq_bind, Option.bind_eq_some_iff] at hc
      obtain ⟨s, hs, y, hy, j, hj, q⟩ := hc
      cases q
      exact sound_iaddr (call := call) him hF hS hy hj hu hs ho hr
    · rename_i n e hu
      simp only [Option.bind_eq_bind, Option.bind_eq_some_iff] at hc
      obtain ⟨s, hs, y, hy, j, hj, q⟩ := hc
      cases q
      exact sound_iaddrA (call := call) him hF hS hy hj hu hs ho hr
    · contradiction
  · split at hc
    · rename_i fs hu
      simp only [Option.bind_eq_bind, Option.bind_eq_some_iff] at hc
      obtain ⟨fl, hfl, s, hs, q⟩ := hc
      split at q
      · rename_i ha
        simp only [Option.bind_eq_some_iff] at q
        obtain ⟨y, hy, q⟩ := q
        cases q
        exact sound_fldA (call := call) him hF hS hy hu hfl ha hs ho hr
      · rename_i ha
        simp only [Option.bind_eq_some_iff] at q
        obtain ⟨y, hy, q⟩ := q
        cases q
        exact sound_fld1 (call := call) him hF hS hy hu hfl ha ho hr
      · contradiction
    · contradiction
  · split at hc
    · rename_i hu
      simp only [Option.bind_eq_bind, Option.bind_eq_some_iff] at hc
      obtain ⟨y, hy, j, hj, q⟩ := hc
      cases q
      exact sound_idxS (call := call) him hF hS hy hj hu ho hr
    · rename_i n e hu
      simp only [Option.bind_eq_bind, Option.bind_eq_some_iff] at hc
      obtain ⟨s, hs, q⟩ := hc
      split at q
      · rename_i ha
        simp only [Option.bind_eq_some_iff] at q
        obtain ⟨y, hy, j, hj, q⟩ := q
        cases q
        exact sound_idxA (call := call) him hF hS hy hj hu ha hs ho hr
      · rename_i ha
        split at q
        · rename_i h1
          simp only [Option.bind_eq_some_iff] at q
          obtain ⟨y, hy, j, hj, q⟩ := q
          cases q
          exact sound_idx1 (call := call) him hF hS hy hj hu ha hs h1 ho hr
        · contradiction
      · contradiction
    · contradiction
  · simp only [Option.bind_eq_bind, Option.bind_eq_some_iff] at hc
    obtain ⟨y, hy, q⟩ := hc
    cases q
    exact sound_ext (call := call) him hF hS hy ho hr
  · exact sound_callop him hcall hF hS hc ho hr
  · contradiction

end

end M2
end
section
namespace M2
open Go

/-! ### Code -/

theorem wp_loop_n {P : Program} {c : Code} {Q : Exit → Act → World → Prop} (I : Nat → Act → World → Prop)
    (round : ∀ n a w, I n a w → c.wp P (Exit.then (fun a' w' => ∃ m, m < n ∧ I m a' w') Q) a w) : ∀ n a w, I n a w → (Code.loop c).wp P Q a w := by
  intro n a w h b k cs
  have key : ∀ n a w, I n a w → ∃ e a' w', Q e a' w' ∧ Arrives P (lone (b.at a (.code c :: .inLoop c :: k)) cs w) b k cs e a' w' := by
    intro n
    induction n using Nat.strongRecOn with
    | _ n ih =>
      intro a w hI
      obtain ⟨e, a₁, w₁, hq, harr⟩ := round n a w hI b (.inLoop c :: k) cs
      cases e with
      | normal =>
        obtain ⟨m, hlt, hI₁⟩ := hq
        obtain ⟨e₂, a₂, w₂, hq₂, harr₂⟩ := ih m hlt a₁ w₁ hI₁
        exact ⟨e₂, a₂, w₂, hq₂, .of_steps (Steps.trans harr (.one step_inLoop)) harr₂⟩
      | exit id => exact ⟨_, a₁, w₁, hq, .pass (x := .inLoop c) rfl (fun _ _ => .inl (by simp)) harr⟩
      | goto l => exact ⟨_, a₁, w₁, hq, .pass (x := .inLoop c) rfl (fun _ _ => .inl (by simp)) harr⟩
      | ret => exact ⟨_, a₁, w₁, hq, .pass (x := .inLoop c) rfl (fun _ _ => .inl (by simp)) harr⟩
      | panic ch => exact ⟨_, a₁, w₁, hq, .pass (x := .inLoop c) rfl (fun _ _ => .inl (by simp)) harr⟩
      | outgrown => exact ⟨_, a₁, w₁, hq, .pass (x := .inLoop c) rfl (fun _ _ => .inl (by simp)) harr⟩
  obtain ⟨e, a', w', hq, harr⟩ := key n a w h
  exact ⟨e, a', w', hq, .of_steps (.one step_loop) harr⟩

/-- a frame and a state stand for the model's -/
structure Fits (M : Maps) (g : G) (d ntmps : Nat) (F : Fr) (t : T) (a : Act) : Prop where
  f : FR M g d F a.tmps
  s : SR M g t
  n : a.tmps.size = ntmps
  d : a.defers = []

def Post (M : Maps) (g : G) (d ntmps : Nat) (Q : Exit → Act → World → Prop) : RR → Prop
  | .fail => False
  | .norm F t => ∀ g' a, g.Le g' → Fits M g' d ntmps F t a → Q .normal a g'.w
  | .exit id F t => ∀ g' a, g.Le g' → Fits M g' d ntmps F t a → Q (.exit id) a g'.w
  | .ret F t => ∀ g' a, g.Le g' → Fits M g' d ntmps F t a → Q .ret a g'.w

theorem Post.later {M : Maps} {g g' : G} (h : g.Le g') {d ntmps : Nat} {Q : Exit → Act → World → Prop} {r : RR} (hp : Post M g d ntmps Q r) : Post M g' d ntmps Q r := by
  cases r with
  | fail => exact hp
  | norm F t => exact fun g'' a hl hf => hp g'' a (h.trans hl) hf
  | exit id F t => exact fun g'' a hl hf => hp g'' a (h.trans hl) hf
  | ret F t => exact fun g'' a hl hf => hp g'' a (h.trans hl) hf

def CodeOK (P : Program) (M : Maps) (im : FuncId → Option Nat) (e : Ev) : Prop :=
  ∀ d ntmps c ac, cmpC P im d ntmps c = some ac → ∀ g F t a Q, Fits M g d ntmps F t a → Post M g d ntmps Q (e ac F t) → c.wp P Q a g.w

section
variable {P : Program} {M : Maps} {im : FuncId → Option Nat} {d ntmps : Nat} {call : CallF}

theorem put_fits {g : G} {F : Fr} {t : T} {a : Act} (hf : Fits M g d ntmps F t a) {o : Option Tmp} {r : Option Bits} (hd : cmpDst d ntmps o = some r) {v : AV} {v' : Value} (hv : VR M g v v') :
    Fits M g d ntmps (F.putO? r v) t (a.put o v') := by
  cases o with
  | none => cases hd; exact hf
  | some u =>
    simp only [cmpDst] at hd
    split at hd
    · rename_i h
      cases hd
      have h1 : FR M g d (F.put (pth d u) v) (a.tmps.setIfInBounds u v') := hf.f.put (by rw [hf.n]; exact h.1) hv
      exact ⟨h1, hf.s, by simp [Act.put, hf.n], hf.d⟩
    · contradiction

theorem wanted_ok {g : G} {F : Fr} {t : T} {a : Act} (hf : Fits M g d ntmps F t a) {ops : Array Oper} {o : Oper} {q : Option (Bits × Bool)} (hq : cmpGuard d ntmps ops o.guard = some q)
    {b : Bool} (hw : wantedA F q = some b) : Region.wanted o (yielded ops a.tmps) = b := by
  unfold Region.wanted
  cases hg : o.guard with
  | none =>
    rw [hg] at hq
    cases hq
    cases hw
    rfl
  | some p =>
    obtain ⟨j, want⟩ := p
    rw [hg] at hq
    simp only [cmpGuard] at hq
    split at hq
    · rename_i u hu
      split at hq
      · rename_i hlt
        cases hq
        have hv := hf.f.rel u hlt.2
        unfold wantedA at hw
        simp only at hw
        have hsz : u < a.tmps.size := by rw [hf.n]; exact hlt.1
        have hget : a.tmps[u]? = some (a.tmps.getD u undef) := by simp [Array.getD, hsz]
        split at hw
        · rename_i b' hb'
          cases hw
          rw [hb'] at hv
          generalize a.tmps.getD u undef = x at hv hget
          cases hv
          show (yielded ops a.tmps j == some want) = (b' == want)
          simp [yielded, hu, hget]
        · rename_i l hl
          cases hw
          rw [hl] at hv
          generalize a.tmps.getD u undef = x at hv hget
          cases hv
          show (yielded ops a.tmps j == some want) = false
          simp [yielded, hu, hget]
        · contradiction
      · contradiction
    · contradiction

theorem ops_sound (him : ∀ f x, im f = some x → M.fm x = f) (hcall : CallOK P M call) (ops : Array Oper) (Q : Exit → Act → World → Prop) : ∀ (l : List Oper) (al : List AO),
    l.mapM (cmpO P im d ntmps ops) = some al → ∀ g F t a, Fits M g d ntmps F t a → Post M g d ntmps Q (runOps al call F t) → wpList P ops Q l a g.w := by
  intro l
  induction l with
  | nil =>
    intro al h g F t a hf hp
    simp at h
    subst h
    exact hp g a (.refl g) hf
  | cons o l ih =>
    intro al h g F t a hf hp
    simp only [List.mapM_cons, Option.bind_eq_bind, Option.bind_eq_some_iff, Option.pure_def] at h
    obtain ⟨ao, hao, als, hals, e⟩ := h
    cases e
    unfold cmpO at hao
    simp only [Option.bind_eq_bind, Option.bind_eq_some_iff] at hao
    obtain ⟨op, hop, r, hr, q, hq, e⟩ := hao
    cases e
    have hrun : runOps ({ dst := r, guard := q, op := op } :: als) call F t = opsCons { dst := r, guard := q, op := op } als (fun call F t => runOps als call F t) call F t := rfl
    rw [hrun] at hp
    unfold opsCons at hp
    simp only at hp
    unfold wpList
    cases hw : wantedA F q with
    | none => rw [hw] at hp; exact hp.elim
    | some b =>
      rw [hw] at hp
      rw [wanted_ok hf hq hw]
      cases b with
      | true =>
        simp only [if_true]
        cases hres : op.run call F t with
        | fail => rw [hres] at hp; exact hp.elim
        | ok v t1 =>
          simp only [hres] at hp
          refine .inl (op_sound him hcall hf.f hf.s hop hres _ _ (fun g' v' hle hv hs => ?_))
          exact ih als hals g' _ t1 _ (put_fits ⟨hf.f.mono hle, hs, hf.n, hf.d⟩ hr hv) (hp.later hle)
      | false =>
        simp only [Bool.false_eq_true, if_false]
        exact ih als hals g _ t _ (put_fits hf hr undef_ok) hp

end

end M2
end
section
namespace M2
open Go

/-! ### Regions that draw their order -/

section
variable {call : CallF} {t : T}

theorem optP_get {x : Opd} {F F' : Fr} (h : ∀ p, p ∈ optP x → F.get p = F'.get p) : x.get F = x.get F' := by
  cases x with
  | t p => exact h p (by simp [optP, optPaths])
  | c v => rfl

theorem optPs_get {xs : List Opd} {F F' : Fr} (h : ∀ p, p ∈ xs.flatMap optP → F.get p = F'.get p) : xs.map (·.get F) = xs.map (·.get F') := by
  induction xs with
  | nil => rfl
  | cons x xs ih =>
    rw [List.map_cons, List.map_cons, optP_get (fun p hp => h p (by simp [hp])), ih (fun p hp => h p (by rw [List.flatMap_cons]; exact List.mem_append_right _ hp))]

theorem bnd_congr {x : Option Opd} {F F' : Fr} (h : ∀ p, p ∈ optPaths x → F.get p = F'.get p) (a b : Nat) : bnd x F a b = bnd x F' a b := by
  cases x with
  | none => rfl
  | some x => unfold bnd; simp only; rw [optP_get h]

theorem fillA_congr {F F' : Fr} : ∀ (ps : List (Nat × Nat × Opd)) (cs : List AV), (∀ p, p ∈ ps.flatMap (fun p => optP p.2.2) → F.get p = F'.get p) → fillA F cs ps = fillA F' cs ps := by
  intro ps
  induction ps with
  | nil => intro cs _; rfl
  | cons p ps ih =>
    intro cs h
    obtain ⟨o, s, x⟩ := p
    have hx : x.get F = x.get F' := optP_get (fun p hp => h p (by rw [List.flatMap_cons]; exact List.mem_append_left _ hp))
    have hr := fun cs => ih cs (fun p hp => h p (by rw [List.flatMap_cons]; exact List.mem_append_right _ hp))
    simp only [fillA, hx, hr]

theorem fillS_congr {F F' : Fr} (e : Nat) : ∀ (ps : List (Nat × Opd)) (cs : List AV), (∀ p, p ∈ ps.flatMap (fun p => optP p.2) → F.get p = F'.get p) → fillS F e cs ps = fillS F' e cs ps := by
  intro ps
  induction ps with
  | nil => intro cs _; rfl
  | cons p ps ih =>
    intro cs h
    obtain ⟨o, x⟩ := p
    have hx : x.get F = x.get F' := optP_get (fun p hp => h p (by rw [List.flatMap_cons]; exact List.mem_append_left _ hp))
    have hr := fun cs => ih cs (fun p hp => h p (by rw [List.flatMap_cons]; exact List.mem_append_right _ hp))
    simp only [fillS, hx, hr]

theorem run_congr (ao : AOp) {F F' : Fr} (h : ∀ p, p ∈ opPaths ao → F.get p = F'.get p) : ao.run call F t = ao.run call F' t := by
  have two : ∀ {x y : Opd}, (∀ p, p ∈ optP x ++ optP y → F.get p = F'.get p) → x.get F = x.get F' ∧ y.get F = y.get F' := fun h =>
    ⟨optP_get (fun p hp => h p (List.mem_append_left _ hp)), optP_get (fun p hp => h p (List.mem_append_right _ hp))⟩
  cases ao with
  | mv x => show opMv x call F t = opMv x call F' t; unfold opMv; rw [optP_get h]
  | pick c a b =>
    have h1 := two (x := a) (y := b) (fun p hp => h p (by
      simp only [opPaths, List.append_assoc]; exact List.mem_append_right _ hp))
    have h2 : c.get F = c.get F' := optP_get (fun p hp => h p (by simp only [opPaths, List.append_assoc]; exact List.mem_append_left _ hp))
    show opPick c a b call F t = opPick c a b call F' t
    unfold opPick
    rw [h1.1, h1.2, h2]
  | alloc z => rfl
  | box x => show opBox x call F t = opBox x call F' t; unfold opBox; rw [optP_get h]
  | build z ps => show opBuild z ps call F t = opBuild z ps call F' t; unfold opBuild; rw [fillA_congr ps z h]
  | buildS e l z ps => show opBuildS e l z ps call F t = opBuildS e l z ps call F' t; unfold opBuildS; rw [fillS_congr e ps _ h]
  | ld1 x => show opLd1 x call F t = opLd1 x call F' t; unfold opLd1; rw [optP_get h]
  | ldA n x => show opLdA n x call F t = opLdA n x call F' t; unfold opLdA; rw [optP_get h]
  | st n a b => have := two h; show opSt n a b call F t = opSt n a b call F' t; unfold opSt; rw [this.1, this.2]
  | nilck x => show opNilck x call F t = opNilck x call F' t; unfold opNilck; rw [optP_get h]
  | bin o a b => have := two h; show opBin o a b call F t = opBin o a b call F' t; unfold opBin; rw [this.1, this.2]
  | eqk k n a b => have := two h; show opEqk k n a b call F t = opEqk k n a b call F' t; unfold opEqk; rw [this.1, this.2]
  | eqs k n a b => have := two h; show opEqs k n a b call F t = opEqs k n a b call F' t; unfold opEqs; rw [this.1, this.2]
  | un o x => show opUn o x call F t = opUn o x call F' t; unfold opUn; rw [optP_get h]
  | cv k x => show opCv k x call F t = opCv k x call F' t; unfold opCv; rw [optP_get h]
  | mkfn f a b =>
    show opMkfn f a b call F t = opMkfn f a b call F' t
    unfold opMkfn
    rw [optPs_get (fun p hp => h p (List.mem_append_left _ hp)), optPs_get (fun p hp => h p (List.mem_append_right _ hp))]
  | mkS e b z l c => have := two h; show opMkS e b z l c call F t = opMkS e b z l c call F' t; unfold opMkS; rw [this.1, this.2]
  | slS x lo hi =>
    have h1 : x.get F = x.get F' := optP_get (fun p hp => h p (by simp only [opPaths, List.append_assoc]; exact List.mem_append_left _ hp))
    have h2 := bnd_congr (x := lo) (F := F) (F' := F') (fun p hp => h p (by simp only [opPaths, List.mem_append]; exact .inl (.inr hp)))
    have h3 := bnd_congr (x := hi) (F := F) (F' := F') (fun p hp => h p (by simp only [opPaths, List.mem_append]; exact .inr hp))
    show opSlS x lo hi call F t = opSlS x lo hi call F' t
    unfold opSlS
    rw [h1]
    simp only [h2, h3]
  | slL e x lo hi mx =>
    have h1 : x.get F = x.get F' := optP_get (fun p hp => h p (by simp only [opPaths, List.append_assoc]; exact List.mem_append_left _ hp))
    have h2 := bnd_congr (x := lo) (F := F) (F' := F') (fun p hp => h p (by simp only [opPaths, List.mem_append]; exact .inl (.inl (.inr hp))))
    have h3 := bnd_congr (x := hi) (F := F) (F' := F') (fun p hp => h p (by simp only [opPaths, List.mem_append]; exact .inl (.inr hp)))
    have h4 := bnd_congr (x := mx) (F := F) (F' := F') (fun p hp => h p (by simp only [opPaths, List.mem_append]; exact .inr hp))
    show opSlL e x lo hi mx call F t = opSlL e x lo hi mx call F' t
    unfold opSlL
    rw [h1]
    simp only [h2, h3, h4]
  | faddr o x => show opFaddr o x call F t = opFaddr o x call F' t; unfold opFaddr; rw [optP_get h]
  | iaddr e a b => have := two h; show opIaddr e a b call F t = opIaddr e a b call F' t; unfold opIaddr; rw [this.1, this.2]
  | iaddrA n e a b => have := two h; show opIaddrA n e a b call F t = opIaddrA n e a b call F' t; unfold opIaddrA; rw [this.1, this.2]
  | fld1 o x => show opFld1 o x call F t = opFld1 o x call F' t; unfold opFld1; rw [optP_get h]
  | fldA o n x => show opFldA o n x call F t = opFldA o n x call F' t; unfold opFldA; rw [optP_get h]
  | idxS a b => have := two h; show opIdxS a b call F t = opIdxS a b call F' t; unfold opIdxS; rw [this.1, this.2]
  | idx1 n a b => have := two h; show opIdx1 n a b call F t = opIdx1 n a b call F' t; unfold opIdx1; rw [this.1, this.2]
  | idxA n e a b => have := two h; show opIdxA n e a b call F t = opIdxA n e a b call F' t; unfold opIdxA; rw [this.1, this.2]
  | ext x i => show opExt x i call F t = opExt x i call F' t; unfold opExt; rw [optP_get h]
  | call f xs => show opCall f xs call F t = opCall f xs call F' t; unfold opCall; rw [optPs_get h]
  | calld f xs =>
    have h1 : f.get F = f.get F' := optP_get (fun p hp => h p (List.mem_append_left _ hp))
    have h2 := optPs_get (xs := xs) (fun p hp => h p (List.mem_append_right _ hp))
    show opCalld f xs call F t = opCalld f xs call F' t
    unfold opCalld
    rw [h1, h2]
  | len s x => show opLen s x call F t = opLen s x call F' t; unfold opLen; rw [optP_get h]
  | app e b z x y => have := two h; show opApp e b z x y call F t = opApp e b z x y call F' t; unfold opApp; rw [this.1, this.2]
  | cpx a b => have := two h; show opCpx a b call F t = opCpx a b call F' t; unfold opCpx; rw [this.1, this.2]
  | re x => show opRe x call F t = opRe x call F' t; unfold opRe; rw [optP_get h]
  | im x => show opIm x call F t = opIm x call F' t; unfold opIm; rw [optP_get h]
  | buildSo e l z ps => show opBuildSo e l z ps call F t = opBuildSo e l z ps call F' t; unfold opBuildSo; rw [fillS_congr e ps _ h]
  | ixb x y => have := two h; show opIxb x y call F t = opIxb x y call F' t; unfold opIxb; rw [this.1, this.2]
  | mark x => show opMark x call F t = opMark x call F' t; unfold opMark; rw [optP_get h]
  | mnx m a b => have := two h; show opMnx m a b call F t = opMnx m a b call F' t; unfold opMnx; rw [this.1, this.2]

end

/-! #### what must come ahead -/

inductive Anc (ops : List Oper) : Nat → Nat → Prop where
  | edge (i : Nat) (o : Oper) (e : Edge) (ho : ops[i]? = some o) (he : e ∈ o.after) (hb : Region.binds .any e = true) : Anc ops i e.on
  | trans (i j k : Nat) (h : Anc ops i j) (h' : Anc ops j k) : Anc ops i k

theorem maskOf_spec (acc : List Nat) (o : Oper) (j : Nat) (h : (maskOf acc o).testBit j = true) :
    ∃ e, e ∈ o.after ∧ Region.binds .any e = true ∧ (j = e.on ∨ (acc.getD e.on 0).testBit j = true) := by
  unfold maskOf at h
  have key : ∀ (l : List Edge) (s : Nat), (l.foldl (fun s e => if Region.binds .any e then s ||| 2 ^ e.on ||| acc.getD e.on 0 else s) s).testBit j = true →
      s.testBit j = true ∨ ∃ e, e ∈ l ∧ Region.binds .any e = true ∧ (j = e.on ∨ (acc.getD e.on 0).testBit j = true) := by
    intro l
    induction l with
    | nil => intro s h; exact .inl h
    | cons e l ih =>
      intro s h
      simp only [List.foldl_cons] at h
      rcases ih _ h with h | ⟨e', h1, h2, h3⟩
      · split at h
        · rename_i hb
          rw [Nat.testBit_or, Nat.testBit_or, Bool.or_eq_true, Bool.or_eq_true, Nat.testBit_two_pow] at h
          rcases h with (h | h) | h
          · exact .inl h
          · exact .inr ⟨e, by simp, hb, .inl (by have := of_decide_eq_true h; omega)⟩
          · exact .inr ⟨e, by simp, hb, .inr h⟩
        · exact .inl h
      · exact .inr ⟨e', by simp [h1], h2, h3⟩
  rcases key _ _ h with h | ⟨e, h1, h2, h3⟩
  · simp at h
  · exact ⟨e, by simpa using h1, h2, h3⟩

theorem masks_spec (ops : List Oper) (i j : Nat) (h : bit (masks ops) i j = true) : Anc ops i j := by
  have key : ∀ (l pre : List Oper) (acc : List Nat), ops = pre ++ l → acc.length = pre.length → (∀ i j, (acc.getD i 0).testBit j = true → Anc ops i j) →
      ∀ i j, ((l.foldl (fun acc o => acc ++ [maskOf acc o]) acc).getD i 0).testBit j = true → Anc ops i j := by
    intro l
    induction l with
    | nil => intro pre acc _ _ h i j hb; exact h i j hb
    | cons o l ih =>
      intro pre acc hops hlen h i j hb
      refine ih (pre ++ [o]) (acc ++ [maskOf acc o]) (by simp [hops]) (by simp [hlen]) ?_ i j hb
      intro i j hb
      by_cases h1 : i < acc.length
      · exact h i j (by simpa [List.getD, List.getElem?_append_left h1] using hb)
      · by_cases h2 : i = acc.length
        · subst h2
          have hb' : (maskOf acc o).testBit j = true := by simpa [List.getD] using hb
          obtain ⟨e, e1, e2, e3⟩ := maskOf_spec acc o j hb'
          have ho : ops[acc.length]? = some o := by rw [hops, hlen]; simp
          rcases e3 with rfl | e3
          · exact .edge _ o e ho e1 e2
          · exact .trans _ _ _ (.edge _ o e ho e1 e2) (h _ _ e3)
        · have : (acc ++ [maskOf acc o]).getD i 0 = 0 := by
            rw [List.getD_eq_getElem?_getD, List.getElem?_eq_none (by simp; omega)]
            rfl
          rw [this] at hb
          simp at hb
  exact key ops [] [] rfl rfl (fun i j h => by simp at h) i j h

end M2
end
section
namespace M2
open Go

/-! #### the text's own course through a drawn region -/

def rng (Ts : Nat → T) (j id : Nat) : Prop := (Ts j).n ≤ id ∧ id < (Ts (j + 1)).n
def ancp (ops : List Oper) (r : Nat) (g0 : G) (Ts : Nat → T) (i id : Nat) : Prop := g0.ok id ∨ ∃ k, Anc ops i k ∧ k < r ∧ rng Ts k id
def ancs (ops : List Oper) (r : Nat) (g0 : G) (Ts : Nat → T) (j id : Nat) : Prop := g0.ok id ∨ ∃ k, (k = j ∨ Anc ops j k) ∧ k < r ∧ rng Ts k id

def StepR (call : CallF) (ka : DK × AO) (F : Fr) (t : T) (v : AV) (F' : Fr) (t1 : T) : Prop :=
  F' = F.putO? ka.2.dst v ∧ ((wantedA F ka.2.guard = some true ∧ ∃ t', ka.2.op.run call F (viewD ka.1 t) = .ok v t' ∧ mergeD ka.1 t t' = some t1) ∨
    (wantedA F ka.2.guard = some false ∧ v = undefA ∧ t1 = t))

/-- the variable that an operation gets at, if it is carried out -/
def gets (ka : DK × AO) (F : Fr) (x : Nat) (s : Bool) : Prop := wantedA F ka.2.guard = some true ∧ accX ka.1 ka.2.op F = some (x, s)

/-- of two that get at one variable, one of them to write, the later one knows of the earlier one -/
def LogOK (ks : List (DK × AO)) (Fs : Nat → Fr) : Prop :=
  ∀ i j (hi : i < ks.length) (hj : j < ks.length), j < i → ∀ x s s', gets ks[i] (Fs i) x s → gets ks[j] (Fs j) x s' → (s || s') = true → (ks[i].1.place.2).testBit ks[j].1.place.1 = true

theorem logX_spec {k : DK} {p : Option (Nat × Bool)} {l l1 : Log} (h : logX k p l = some l1) {x : Nat} {s : Bool} (hp : p = some (x, s)) :
    l1 = (k.place.1, x, s) :: l ∧ ∀ e, e ∈ l → e.2.1 = x → (s || e.2.2) = true → k.place.2.testBit e.1 = true := by
  subst hp
  unfold logX at h
  simp only at h
  cases hok : okLog k.place.2 x s l with
  | false => rw [hok] at h; cases h
  | true =>
    rw [hok] at h
    cases h
    refine ⟨rfl, fun e he hx hs => ?_⟩
    unfold okLog at hok
    rw [List.all_eq_true] at hok
    have := hok e he
    rw [hs, beq_true hx] at this
    simpa using this

theorem logD_spec {k : DK} {op : AOp} {F : Fr} {l l1 : Log} (h : logD k op F l = some l1) :
    (∀ x s, accX k op F = some (x, s) → l1 = (k.place.1, x, s) :: l ∧ ∀ e, e ∈ l → e.2.1 = x → (s || e.2.2) = true → k.place.2.testBit e.1 = true) ∧ (∀ e, e ∈ l → e ∈ l1) := by
  have gen : ∀ p, logX k p l = some l1 → ∀ e, e ∈ l → e ∈ l1 := by
    intro p hp e he
    cases p with
    | none => cases hp; exact he
    | some q =>
      obtain ⟨x, s⟩ := q
      rw [(logX_spec hp rfl).1]
      exact List.mem_cons_of_mem _ he
  cases k with
  | loadm i m => exact ⟨fun x s hx => logX_spec h hx, gen _ h⟩
  | sto i m => exact ⟨fun x s hx => logX_spec h hx, gen _ h⟩
  | pure => cases h; exact ⟨fun x s hx => by simp [accX] at hx, fun e he => he⟩
  | load => cases h; exact ⟨fun x s hx => by simp [accX] at hx, fun e he => he⟩
  | iso => cases h; exact ⟨fun x s hx => by simp [accX] at hx, fun e he => he⟩

theorem runD_trace (ws : List AO) (call : CallF) : ∀ (ks : List (DK × AO)) (F : Fr) (t : T) (l : Log), runD ks ws call F t l ≠ .fail →
    ∃ (Fs : Nat → Fr) (Ts : Nat → T) (vs : Nat → AV), Fs 0 = F ∧ Ts 0 = t ∧ (∀ i (h : i < ks.length), StepR call ks[i] (Fs i) (Ts i) (vs i) (Fs (i + 1)) (Ts (i + 1))) ∧
      runD ks ws call F t l = runOps ws call (Fs ks.length) (Ts ks.length) ∧ LogOK ks Fs ∧
      (∀ i (h : i < ks.length) x s, gets ks[i] (Fs i) x s → ∀ e, e ∈ l → e.2.1 = x → (s || e.2.2) = true → ks[i].1.place.2.testBit e.1 = true) := by
  intro ks
  induction ks with
  | nil => intro F t l _; exact ⟨fun _ => F, fun _ => t, fun _ => .und, rfl, rfl, fun i h => absurd h (by simp), rfl, fun i j h => absurd h (by simp), fun i h => absurd h (by simp)⟩
  | cons k ks ih =>
    intro F t l hne
    have hrun : runD (k :: ks) ws call F t l = dCons k ks (fun call F t l => runD ks ws call F t l) call F t l := rfl
    rw [hrun] at hne
    have build : ∀ v t1 l1, StepR call k F t v (F.putO? k.2.dst v) t1 → runD (k :: ks) ws call F t l = runD ks ws call (F.putO? k.2.dst v) t1 l1 → runD ks ws call (F.putO? k.2.dst v) t1 l1 ≠ .fail →
        (∀ e, e ∈ l → e ∈ l1) → (∀ x s, gets k F x s → (k.1.place.1, x, s) ∈ l1 ∧ ∀ e, e ∈ l → e.2.1 = x → (s || e.2.2) = true → k.1.place.2.testBit e.1 = true) →
        ∃ (Fs : Nat → Fr) (Ts : Nat → T) (vs : Nat → AV), Fs 0 = F ∧ Ts 0 = t ∧ (∀ i (h : i < (k :: ks).length), StepR call (k :: ks)[i] (Fs i) (Ts i) (vs i) (Fs (i + 1)) (Ts (i + 1))) ∧
          runD (k :: ks) ws call F t l = runOps ws call (Fs (k :: ks).length) (Ts (k :: ks).length) ∧ LogOK (k :: ks) Fs ∧
          (∀ i (h : i < (k :: ks).length) x s, gets (k :: ks)[i] (Fs i) x s → ∀ e, e ∈ l → e.2.1 = x → (s || e.2.2) = true → (k :: ks)[i].1.place.2.testBit e.1 = true) := by
      intro v t1 l1 hs heq hne' hsub hg
      obtain ⟨Fs, Ts, vs, h1, h2, h3, h4, h5, h6⟩ := ih _ _ _ hne'
      refine ⟨fun i => match i with | 0 => F | i + 1 => Fs i, fun i => match i with | 0 => t | i + 1 => Ts i, fun i => match i with | 0 => v | i + 1 => vs i, rfl, rfl, ?_, ?_, ?_, ?_⟩
      · intro i hi
        cases i with
        | zero => simp only [List.getElem_cons_zero, h1, h2]; exact hs
        | succ i => simpa using h3 i (by simpa using hi)
      · rw [heq, h4]; rfl
      · intro i j hi hj hlt x s s' hgi hgj hss
        cases i with
        | zero => omega
        | succ i =>
          cases j with
          | zero =>
            have := h6 i (by simpa using hi) x s (by simpa using hgi) _ (hg x s' (by simpa using hgj)).1 rfl hss
            simpa using this
          | succ j => simpa using h5 i j (by simpa using hi) (by simpa using hj) (by omega) x s s' (by simpa using hgi) (by simpa using hgj) hss
      · intro i hi x s hgi e he hx hss
        cases i with
        | zero => exact (hg x s (by simpa using hgi)).2 e he hx hss
        | succ i => simpa using h6 i (by simpa using hi) x s (by simpa using hgi) e (hsub e he) hx hss
    unfold dCons at hne
    split at hne
    · rename_i hw
      split at hne
      · rename_i l1 hl
        split at hne
        · rename_i v t' hop
          split at hne
          · rename_i t1 hm
            obtain ⟨g1, g2⟩ := logD_spec hl
            refine build v t1 l1 ⟨rfl, .inl ⟨hw, t', hop, hm⟩⟩ ?_ hne g2 (fun x s hg => ?_)
            · rw [hrun]; unfold dCons; simp only [hw, hl, hop, hm]
            · obtain ⟨q1, q2⟩ := g1 x s hg.2
              exact ⟨by rw [q1]; exact List.mem_cons_self, q2⟩
          · exact absurd rfl hne
        · exact absurd rfl hne
      · exact absurd rfl hne
    · rename_i hw
      refine build undefA t l ⟨rfl, .inr ⟨hw, rfl, rfl⟩⟩ ?_ hne (fun _ h => h) (fun x s hg => ?_)
      · rw [hrun]; unfold dCons; simp only [hw]
      · have := hg.1
        rw [hw] at this
        cases this
    · exact absurd rfl hne

/-- a variable that the operation makes -/
def New (Ts : Nat → T) (j : Nat) (o : VObj) : Prop := (Ts (j + 1)).vs = push ((Ts j).n, o) (Ts j).vs ∧ (Ts j).n < (Ts (j + 1)).n

theorem merge_facts {k : DK} {t t' t1 : T} (h : mergeD k t t' = some t1) :
    (isLd k = true → t1 = t) ∧ (k = .iso → t1.n = t'.n ∧ t1.vs = t.vs ∧ t1.is = t'.is ∧ t'.vs.flatten = [] ∧ t.n ≤ t'.n) ∧
    (k = .pure → t1.n = t'.n ∧ t1.is = t.is ∧ t'.is.flatten = [] ∧ t.n ≤ t'.n ∧
      ((t'.vs.flatten = [] ∧ t1.vs = t.vs) ∨ ∃ o, t'.vs.flatten = [(t.n, o)] ∧ t1.vs = push (t.n, o) t.vs ∧ t.n < t'.n)) ∧
    (∀ i m, k = .sto i m → t1 = ⟨t.n, t'.vs, t.is⟩) := by
  cases k with
  | load => simp only [mergeD] at h; cases h; simp
  | loadm i m => simp only [mergeD] at h; cases h; simp
  | sto i m => simp only [mergeD] at h; cases h; simp [isLd]
  | iso =>
    simp only [mergeD] at h
    split at h
    · rename_i h1 h2
      cases h
      simp [isLd, h1, Nat.le_of_ble_eq_true h2]
    · contradiction
  | pure =>
    simp only [mergeD] at h
    split at h
    · rename_i h0
      split at h
      · rename_i h1
        cases hb : Nat.ble t.n t'.n with
        | false => rw [hb] at h; contradiction
        | true =>
          rw [hb] at h
          cases h
          simp [isLd, h0, h1, Nat.le_of_ble_eq_true hb]
      · rename_i p h1
        cases hb : (Nat.beq p.1 t.n && Nat.blt t.n t'.n) with
        | false => rw [hb] at h; contradiction
        | true =>
          rw [hb] at h
          cases h
          simp only [Bool.and_eq_true] at hb
          have e1 := Nat.eq_of_beq_eq_true hb.1
          have e2 : t.n < t'.n := Nat.le_of_ble_eq_true hb.2
          obtain ⟨x, o⟩ := p
          simp only at e1
          subst e1
          refine ⟨by simp [isLd], by simp, fun _ => ⟨rfl, rfl, h0, by omega, .inr ⟨o, h1, rfl, e2⟩⟩, by simp⟩
      · contradiction
    · contradiction

theorem step_facts {call : CallF} {ka : DK × AO} {F F' : Fr} {t t1 : T} {v : AV} (h : StepR call ka F t v F' t1) :
    t.n ≤ t1.n ∧ True ∧ (ka.1 ≠ .iso → t1.is = t.is) ∧ (ka.1 = .iso → t1.vs = t.vs) ∧ (isLd ka.1 = true → t1 = t) := by
  obtain ⟨-, h | h⟩ := h
  · obtain ⟨-, t', -, hm⟩ := h
    obtain ⟨m1, m2, m3, m4⟩ := merge_facts hm
    cases hk : ka.1 with
    | load => rw [hk] at m1; have := m1 rfl; subst this; simp
    | loadm i m => rw [hk] at m1; have := m1 rfl; subst this; simp
    | sto i m => rw [hk] at m4; have := m4 i m rfl; subst this; simp [isLd]
    | iso =>
      rw [hk] at m2
      obtain ⟨a1, a2, a3, a4, a5⟩ := m2 rfl
      exact ⟨by omega, trivial, by simp, fun _ => a2, by simp [isLd]⟩
    | pure =>
      rw [hk] at m3
      obtain ⟨a1, a2, a3, a4, a5⟩ := m3 rfl
      exact ⟨by omega, trivial, fun _ => a2, by simp, by simp [isLd]⟩
  · obtain ⟨-, -, rfl⟩ := h
    exact ⟨Nat.le_refl _, trivial, fun _ => rfl, fun _ => rfl, fun _ => rfl⟩

/-- the kind fits the operation -/
def KindOK (ka : DK × AO) : Prop := kindOf ka.2.op = some ka.1 ∨ (kindOf ka.2.op = some .load ∧ ∃ i m, ka.1 = .loadm i m) ∨ (isSt ka.2.op = true ∧ ∃ i m, ka.1 = .sto i m)

theorem st_run {n : Nat} {x y : Opd} {call : CallF} {F : Fr} {t t' : T} {w : AV} (h : opSt n x y call F t = .ok w t') :
    ∃ p off cs cs', x.get F = .ptr p off ∧ look2 p t.vs = some (.cells cs) ∧ t' = { t with vs := upd2 p (.cells cs') t.vs } ∧ w = undefA := by
  unfold opSt at h
  split at h
  · rename_i p off hp
    split at h
    · rename_i cs hl
      split at h
      · cases h
        exact ⟨p, off, cs, _, hp, hl, rfl, rfl⟩
      · cases h
    · cases h
  · cases h

theorem KindOK.sto {ka : DK × AO} (h : KindOK ka) {i m : Nat} (hk : ka.1 = .sto i m) : ∃ n x y, ka.2.op = .st n x y := by
  rcases h with h | ⟨-, _, _, h⟩ | ⟨h, -⟩
  · rw [hk] at h
    cases hop : ka.2.op <;> rw [hop] at h <;> simp [kindOf] at h
  · rw [hk] at h; cases h
  · cases hop : ka.2.op <;> rw [hop] at h <;> simp [isSt] at h
    exact ⟨_, _, _, rfl⟩

theorem step_vs {call : CallF} {ka : DK × AO} {F F' : Fr} {t t1 : T} {v : AV} (hk : KindOK ka) (h : StepR call ka F t v F' t1) :
    ((∀ x, ¬ gets ka F x true) ∧ (t1.vs = t.vs ∨ ∃ o, t1.vs = push (t.n, o) t.vs ∧ t.n < t1.n)) ∨
    (∃ x o, gets ka F x true ∧ t1.vs = upd2 x o t.vs ∧ (∃ o0, look2 x t.vs = some o0) ∧ t1.n = t.n) := by
  obtain ⟨-, h | h⟩ := h
  · obtain ⟨hw, t', hr, hm⟩ := h
    obtain ⟨m1, m2, m3, m4⟩ := merge_facts hm
    have nog : (∀ i m, ka.1 ≠ .sto i m) → ∀ x, ¬ gets ka F x true := by
      rintro hne x ⟨-, hx⟩
      unfold accX at hx
      split at hx
      · split at hx <;> (first | (unfold accP at hx; split at hx <;> cases hx) | cases hx)
      · rename_i i m e; exact hne i m e
      · cases hx
    cases hkk : ka.1 with
    | load => rw [hkk] at m1; have := m1 rfl; subst this; exact .inl ⟨nog (by simp [hkk]), .inl rfl⟩
    | loadm i m => rw [hkk] at m1; have := m1 rfl; subst this; exact .inl ⟨nog (by simp [hkk]), .inl rfl⟩
    | iso => exact .inl ⟨nog (by simp [hkk]), .inl (m2 hkk).2.1⟩
    | pure =>
      obtain ⟨a1, a2, a3, a4, a5⟩ := m3 hkk
      refine .inl ⟨nog (by simp [hkk]), ?_⟩
      rcases a5 with ⟨-, a5⟩ | ⟨o, -, a5, a6⟩
      · exact .inl a5
      · exact .inr ⟨o, a5, by omega⟩
    | sto i m =>
      obtain ⟨n, x, y, hop⟩ := hk.sto hkk
      rw [hop, hkk] at hr
      obtain ⟨p, off, cs, cs', h1, h2, h3, h4⟩ := st_run (call := call) hr
      have := m4 i m hkk
      subst this
      subst h3
      exact .inr ⟨p, .cells cs', ⟨hw, by simp [accX, hkk, hop, accP, h1]⟩, rfl, ⟨_, h2⟩, rfl⟩
  · obtain ⟨hw, -, rfl⟩ := h
    refine .inl ⟨?_, .inl rfl⟩
    rintro x ⟨hx, -⟩
    rw [hw] at hx
    cases hx

/-- a write -/
def Wr (ks : List (DK × AO)) (Fs : Nat → Fr) (Ts : Nat → T) (j x : Nat) (o : VObj) : Prop :=
  (∃ h : j < ks.length, gets ks[j] (Fs j) x true) ∧ (Ts (j + 1)).vs = upd2 x o (Ts j).vs ∧ ∃ o0, look2 x (Ts j).vs = some o0
/-- one that writes -/
def Wx (ks : List (DK × AO)) (Fs : Nat → Fr) (j x : Nat) : Prop := ∃ h : j < ks.length, gets ks[j] (Fs j) x true

theorem gets_one {ka : DK × AO} {F : Fr} {x y : Nat} {s s' : Bool} (h : gets ka F x s) (h' : gets ka F y s') : x = y := by
  have := h.2.symm.trans h'.2
  cases this
  rfl

abbrev Steps (call : CallF) (ks : List (DK × AO)) (Fs : Nat → Fr) (Ts : Nat → T) (vs : Nat → AV) : Prop :=
  ∀ i (h : i < ks.length), StepR call ks[i] (Fs i) (Ts i) (vs i) (Fs (i + 1)) (Ts (i + 1))

section
variable {call : CallF} {ks : List (DK × AO)} {Fs : Nat → Fr} {Ts : Nat → T} {vs : Nat → AV}

theorem n_mono (hst : Steps call ks Fs Ts vs) : ∀ i j, i ≤ j → j ≤ ks.length → (Ts i).n ≤ (Ts j).n := by
  intro i j hij
  induction j with
  | zero => intro _; have : i = 0 := by omega
            subst this; exact Nat.le_refl _
  | succ j ih =>
    intro hj
    by_cases h : i = j + 1
    · subst h; exact Nat.le_refl _
    · exact Nat.le_trans (ih (by omega) (by omega)) (step_facts (hst j (by omega))).1

theorem rng_apart (hst : Steps call ks Fs Ts vs) {i j id : Nat} (hi : i < ks.length) (hj : j < ks.length) (h1 : rng Ts i id) (h2 : rng Ts j id) : i = j := by
  rcases Nat.lt_trichotomy i j with h | h | h
  · have := n_mono hst (i + 1) j (by omega) (by omega)
    unfold rng at h1 h2
    omega
  · exact h
  · have := n_mono hst (j + 1) i (by omega) (by omega)
    unfold rng at h1 h2
    omega

theorem wf_vs (hst : Steps call ks Fs Ts vs) (hkd : ∀ i (h : i < ks.length), KindOK ks[i]) (h0 : (Ts 0).WF) : ∀ i, i ≤ ks.length → ((Ts i).vs.flatten.map Prod.fst).Nodup ∧ ∀ p, p ∈ (Ts i).vs.flatten → p.1 < (Ts i).n := by
  intro i
  induction i with
  | zero => intro _; exact ⟨h0.vk, h0.vn⟩
  | succ i ih =>
    intro hi
    obtain ⟨i1, i2⟩ := ih (by omega)
    obtain ⟨h1, -⟩ := step_facts (hst i (by omega))
    rcases step_vs (hkd i (by omega)) (hst i (by omega)) with ⟨-, h2 | ⟨o, h2, h3⟩⟩ | ⟨y, o', -, h2, -, h4⟩
    · rw [h2]; exact ⟨i1, fun p hp => Nat.lt_of_lt_of_le (i2 p hp) h1⟩
    · rw [h2, flatten_push]
      refine ⟨?_, fun p hp => ?_⟩
      · rw [List.map_cons, List.nodup_cons]
        refine ⟨fun hm => ?_, i1⟩
        obtain ⟨p, hp, e⟩ := List.mem_map.mp hm
        have := i2 p hp
        simp only at e
        omega
      · cases hp with
        | head => exact h3
        | tail _ hp => exact Nat.lt_of_lt_of_le (i2 p hp) h1
    · rw [h2, upd2_keys]
      refine ⟨i1, fun p hp => ?_⟩
      have hm : p.1 ∈ (upd2 y o' (Ts i).vs).flatten.map Prod.fst := List.mem_map.mpr ⟨p, hp, rfl⟩
      rw [upd2_keys] at hm
      obtain ⟨q, hq, e⟩ := List.mem_map.mp hm
      rw [h4, ← e]
      exact i2 q hq

theorem wf_lt (hst : Steps call ks Fs Ts vs) (hkd : ∀ i (h : i < ks.length), KindOK ks[i]) (h0 : (Ts 0).WF) (i : Nat) (hi : i ≤ ks.length) (x : Nat) (o : VObj) (h : look2 x (Ts i).vs = some o) : x < (Ts i).n := by
  rw [look2_flatten] at h
  exact (wf_vs hst hkd h0 i hi).2 _ (look_mem h)

theorem look_Ts (hst : Steps call ks Fs Ts vs) (hkd : ∀ i (h : i < ks.length), KindOK ks[i]) (h0 : (Ts 0).WF) : ∀ i, i ≤ ks.length → ∀ x o, look2 x (Ts i).vs = some o →
    (∃ j, j < i ∧ Wr ks Fs Ts j x o ∧ ∀ k, j < k → k < i → ¬ Wx ks Fs k x) ∨
    ((∀ k, k < i → ¬ Wx ks Fs k x) ∧ (look2 x (Ts 0).vs = some o ∨ ∃ j, j < i ∧ New Ts j o ∧ x = (Ts j).n)) := by
  intro i
  induction i with
  | zero => intro _ x o h; exact .inr ⟨fun k h => absurd h (by omega), .inl h⟩
  | succ i ih =>
    intro hi x o h
    have rest : (¬ Wx ks Fs i x) → look2 x (Ts i).vs = some o → (∃ j, j < i + 1 ∧ Wr ks Fs Ts j x o ∧ ∀ k, j < k → k < i + 1 → ¬ Wx ks Fs k x) ∨
        ((∀ k, k < i + 1 → ¬ Wx ks Fs k x) ∧ (look2 x (Ts 0).vs = some o ∨ ∃ j, j < i + 1 ∧ New Ts j o ∧ x = (Ts j).n)) := by
      intro hno h
      have lift : ∀ k, k < i + 1 → k ≠ i → k < i := fun k h1 h2 => by omega
      rcases ih (by omega) x o h with ⟨j, a, b, c⟩ | ⟨a, b⟩
      · refine .inl ⟨j, by omega, b, fun k h1 h2 => ?_⟩
        by_cases e : k = i
        · rw [e]; exact hno
        · exact c k h1 (lift k h2 e)
      · refine .inr ⟨fun k h2 => ?_, b.imp (fun q => q) (fun ⟨j, a, b⟩ => ⟨j, by omega, b⟩)⟩
        by_cases e : k = i
        · rw [e]; exact hno
        · exact a k (lift k h2 e)
    rcases step_vs (hkd i (by omega)) (hst i (by omega)) with ⟨n1, h2⟩ | ⟨y, o', n1, n2, n3, n4⟩
    · have hno : ¬ Wx ks Fs i x := fun ⟨_, q⟩ => n1 x q
      rcases h2 with h2 | ⟨o', h2, h3⟩
      · rw [h2] at h; exact rest hno h
      · rw [h2, look2_push] at h
        by_cases e : (Ts i).n = x
        · rw [if_pos e] at h
          cases h
          refine .inr ⟨fun k hk => ?_, .inr ⟨i, by omega, ⟨h2, h3⟩, e.symm⟩⟩
          rintro ⟨hk', q⟩
          by_cases ek : k = i
          · subst ek; exact n1 x q
          · rcases step_vs (hkd k hk') (hst k hk') with ⟨m1, -⟩ | ⟨y, o2, m1, m2, m3, m4⟩
            · exact m1 x q
            · have := gets_one q m1
              subst this
              obtain ⟨o0, m3⟩ := m3
              have hlt := wf_lt hst hkd h0 k (by omega) x o0 m3
              have := n_mono hst k i (by omega) (by omega)
              omega
        · rw [if_neg e] at h
          exact rest hno h
    · rw [n2, look2_upd2] at h
      by_cases e : x = y
      · subst e
        obtain ⟨o0, n3⟩ := n3
        rw [if_pos rfl, n3] at h
        cases h
        exact .inl ⟨i, by omega, ⟨⟨by omega, n1⟩, n2, o0, n3⟩, fun k h1 h2 => by omega⟩
      · rw [if_neg e] at h
        exact rest (fun ⟨_, q⟩ => e (gets_one q n1)) h

theorem look_orig (hst : Steps call ks Fs Ts vs) (hkd : ∀ i (h : i < ks.length), KindOK ks[i]) : ∀ i, i ≤ ks.length → ∀ x o, look2 x (Ts i).vs = some o →
    (∃ o0, look2 x (Ts 0).vs = some o0) ∨ ∃ j o0, j < i ∧ New Ts j o0 ∧ x = (Ts j).n := by
  intro i
  induction i with
  | zero => intro _ x o h; exact .inl ⟨o, h⟩
  | succ i ih =>
    intro hi x o h
    have rest : ∀ o, look2 x (Ts i).vs = some o → (∃ o0, look2 x (Ts 0).vs = some o0) ∨ ∃ j o0, j < i + 1 ∧ New Ts j o0 ∧ x = (Ts j).n := fun o h =>
      (ih (by omega) x o h).imp (fun q => q) fun ⟨j, o0, a, b⟩ => ⟨j, o0, by omega, b⟩
    rcases step_vs (hkd i (by omega)) (hst i (by omega)) with ⟨-, h2 | ⟨o', h2, h3⟩⟩ | ⟨y, o', -, h2, ⟨o0, h3⟩, h4⟩
    · rw [h2] at h; exact rest o h
    · rw [h2, look2_push] at h
      by_cases e : (Ts i).n = x
      · exact .inr ⟨i, o', by omega, ⟨h2, h3⟩, e.symm⟩
      · rw [if_neg e] at h
        exact rest o h
    · rw [h2, look2_upd2] at h
      by_cases e : x = y
      · subst e; exact rest o0 h3
      · rw [if_neg e] at h; exact rest o h

theorem Fs_get (hst : Steps call ks Fs Ts vs) (p : Bits) : ∀ i, i ≤ ks.length → ((∀ j (h : j < ks.length), j < i → ks[j].2.dst ≠ some p) ∧ (Fs i).get p = (Fs 0).get p) ∨
    ∃ j, ∃ h : j < ks.length, j < i ∧ ks[j].2.dst = some p ∧ (∀ k (hk : k < ks.length), j < k → k < i → ks[k].2.dst ≠ some p) ∧ (Fs i).get p = vs j := by
  intro i
  induction i with
  | zero => intro _; exact .inl ⟨fun j _ h => absurd h (by omega), rfl⟩
  | succ i ih =>
    intro hi
    have hil : i < ks.length := by omega
    have hF := (hst i hil).1
    by_cases hd : ks[i].2.dst = some p
    · refine .inr ⟨i, hil, by omega, hd, fun k _ h1 h2 => by omega, ?_⟩
      rw [hF, hd]
      exact Fr.get_put_same p _ _
    · have hsame : (Fs (i + 1)).get p = (Fs i).get p := by
        rw [hF]
        cases hdd : ks[i].2.dst with
        | none => rfl
        | some q =>
          have : q ≠ p := fun e => hd (by rw [hdd, e])
          exact Fr.get_put_ne q p _ _ this
      rcases ih (by omega) with ⟨h1, h2⟩ | ⟨j, hj, h1, h2, h3, h4⟩
      · refine .inl ⟨fun j h hlt => ?_, hsame.trans h2⟩
        by_cases e : j = i
        · subst e; exact hd
        · exact h1 j h (by omega)
      · refine .inr ⟨j, hj, by omega, h2, fun k hk a b => ?_, hsame.trans h4⟩
        by_cases e : k = i
        · subst e; exact hd
        · exact h3 k hk a (by omega)

end

noncomputable def maskF (F : Fr) (ps : List Bits) : Fr := ps.foldl (fun f p => f.put p (F.get p)) .nil

theorem maskF_get (F : Fr) (ps : List Bits) (q : Bits) : (q ∈ ps → (maskF F ps).get q = F.get q) ∧ (q ∉ ps → (maskF F ps).get q = .und) := by
  have key : ∀ (ps : List Bits) (f0 : Fr), (q ∈ ps → (ps.foldl (fun f p => f.put p (F.get p)) f0).get q = F.get q) ∧ (q ∉ ps → (ps.foldl (fun f p => f.put p (F.get p)) f0).get q = f0.get q) := by
    intro ps
    induction ps with
    | nil => intro f0; simp
    | cons p ps ih =>
      intro f0
      obtain ⟨h1, h2⟩ := ih (f0.put p (F.get p))
      simp only [List.foldl_cons, List.mem_cons]
      by_cases hq : q ∈ ps
      · exact ⟨fun _ => h1 hq, fun h => absurd (.inr hq) h⟩
      · rw [h2 hq, Fr.get_put]
        by_cases e : p = q
        · subst e; simp
        · rw [if_neg e]
          exact ⟨fun h => by rcases h with h | h
                             · exact absurd h.symm e
                             · exact absurd h hq, fun _ => rfl⟩
  obtain ⟨h1, h2⟩ := key ps .nil
  exact ⟨h1, fun h => (h2 h).trans (Fr.get_nil q)⟩

end M2
end
section
namespace M2
open Go
open Classical

def G.sub (g : G) (p : Nat → Prop) : G := { g with ok := fun i => g.ok i ∧ p i }

/-- a part of what is known, all else sealed -/
noncomputable def G.view (g : G) (n : Nat) (p : Nat → Prop) (B : Nat → Prop) : G :=
  { n := n, ok := fun i => g.ok i ∧ p i, ρ := g.ρ, ν := g.ν, μ := fun b => if B b then (g.μ b).frz else g.μ b, w := g.w }

theorem seal_fix (o : Own) (m : Nat) : o.frz.fix m ↔ o.fix m := by cases o <;> exact Iff.rfl
theorem seal_still (o : Own) : o.frz.still = true := by cases o <;> rfl
theorem seal_of_still {o : Own} (h : o.still = true) : o.frz = o := by cases o <;> first | rfl | cases h

theorem G.ext_view (g : G) (n : Nat) (p B : Nat → Prop) : (g.sub p).Ext (g.view n p B) where
  ok _ h := h
  ρ _ _ := rfl
  ν _ _ := rfl
  fixed b m h := by
    refine ⟨h.1, ?_⟩
    show Own.fix m (if B b then (g.μ b).frz else g.μ b)
    split
    · exact (seal_fix _ _).mpr h.2
    · exact h.2
  cell _ _ _ _ _ := rfl

theorem G.ext_sub {g g' : G} {p q : Nat → Prop} (h : g.Ext g') (hpq : ∀ i, p i → q i) : (g.sub p).Ext (g'.sub q) where
  ok i hi := ⟨h.ok i hi.1, hpq i hi.2⟩
  ρ i hi := h.ρ i hi.1
  ν i hi := h.ν i hi.1
  fixed b m hf := h.fixed b m hf
  cell b m off hf ho := h.cell b m off hf ho

theorem G.Ext.refl (g : G) : g.Ext g := ⟨fun _ h => h, fun _ _ => rfl, fun _ _ => rfl, fun _ _ h => h, fun _ _ _ _ _ => rfl⟩

theorem G.sub_ext (g : G) (p : Nat → Prop) : (g.sub p).Ext g := ⟨fun _ h => h.1, fun _ _ => rfl, fun _ _ => rfl, fun _ _ h => h, fun _ _ _ _ _ => rfl⟩

/-- the known part put back -/
noncomputable def G.back (g g' : G) (B : Nat → Prop) : G :=
  { n := g.n, ok := fun i => g.ok i ∨ g'.ok i, ρ := fun i => if g.ok i then g.ρ i else g'.ρ i, ν := fun i => if g.ok i then g.ν i else g'.ν i,
    μ := fun b => if B b then g.μ b else g'.μ b, w := g'.w }

section
variable {g g' : G} {n : Nat} {p B : Nat → Prop}

theorem back_sealed (h : (g.view n p B).Le g') (hB : ∀ b, B b → b < g.w.heap.size) {b : Nat} (hb : B b) : g'.w.heap[b]? = g.w.heap[b]? ∧ g'.μ b = (g.μ b).frz := by
  have hv : (g.view n p B).μ b = (g.μ b).frz := if_pos hb
  have := h.oth b (hB b hb) (by rw [hv]; exact seal_still _)
  exact ⟨this.2, by rw [this.1, hv]⟩

theorem le_back (h : (g.view n p B).Le g') (hB : ∀ b, B b → b < g.w.heap.size) (hn : g.n ≤ n) : g.Le (g.back g' B) where
  n := Nat.le_refl _
  ok i hi := .inl hi
  new i hi := by
    rcases hi with hi | hi
    · exact .inl hi
    · rcases h.new i hi with q | q
      · exact .inl q.1
      · exact .inr (Nat.le_trans hn q)
  ρ i hi := if_pos hi
  ν i hi := if_pos hi
  size := h.size
  lim b k hb hk := by
    by_cases hbb : B b
    · obtain ⟨h1, -⟩ := back_sealed h hB hbb
      exact ⟨k, by show (if B b then g.μ b else g'.μ b) = _; rw [if_pos hbb, hk], Nat.le_refl _, fun off _ => cell?_of_heap h1⟩
    · have hv : (g.view n p B).μ b = .lim k := by show (if B b then _ else _) = _; rw [if_neg hbb, hk]
      obtain ⟨k', h1, h2, h3⟩ := h.lim b k hb hv
      exact ⟨k', by show (if B b then g.μ b else g'.μ b) = _; rw [if_neg hbb, h1], h2, h3⟩
  oth b hb hs := by
    by_cases hbb : B b
    · obtain ⟨h1, -⟩ := back_sealed h hB hbb
      exact ⟨if_pos hbb, h1⟩
    · have hv : (g.view n p B).μ b = g.μ b := if_neg hbb
      obtain ⟨h1, h2⟩ := h.oth b hb (by rw [hv]; exact hs)
      exact ⟨by show (if B b then g.μ b else g'.μ b) = _; rw [if_neg hbb, h1, hv], h2⟩
  os := h.os
  tape := h.tape
  output := h.output

/-- what the operation knows, in the world put back -/
theorem ext_back (h : (g.view n p B).Le g') (hB : ∀ b, B b → b < g.w.heap.size) (hold : ∀ i, g.ok i → g'.ok i → p i) {q : Nat → Prop} (hq : ∀ i, g'.ok i → q i) : g'.Ext ((g.back g' B).sub q) where
  ok i hi := ⟨.inr hi, hq i hi⟩
  ρ i hi := by
    show (if g.ok i then g.ρ i else g'.ρ i) = _
    split
    · rename_i hg
      exact (h.ρ i ⟨hg, hold i hg hi⟩).symm
    · rfl
  ν i hi := by
    show (if g.ok i then g.ν i else g'.ν i) = _
    split
    · rename_i hg
      exact (h.ν i ⟨hg, hold i hg hi⟩).symm
    · rfl
  fixed b m hf := by
    refine ⟨hf.1, ?_⟩
    show Own.fix m (if B b then g.μ b else g'.μ b)
    split
    · rename_i hb
      have := (back_sealed h hB hb).2
      have h2 := hf.2
      rw [this] at h2
      exact (seal_fix _ _).mp h2
    · exact hf.2
  cell _ _ _ _ _ := rfl

end

/-- variables' rows under a richer world -/
theorem ObjR.ext {M : Maps} {g g' : G} (h : g.Ext g') {o : VObj} {b : Nat} (hb : g'.w.heap[b]? = g.w.heap[b]?) (ho : ObjR M g o b) : ObjR M g' o b := by
  cases ho with
  | cells cs b c ty fz hh hz hl hv =>
    refine .cells cs b c ty fz (hb.trans hh) (fun off ho => ?_) hl (fun i hi => (hv i hi).ext h)
    have := hz off ho
    simpa [World.frozen?, hb] using this

/-- what is known of an open row -/
def RowOpen (g : G) (i en e : Nat) : Prop :=
  g.μ (g.ρ i).block = .lim ((g.ρ i).off + en) ∧ ∃ c ty fz, g.w.heap[(g.ρ i).block]? = some (.cells c ty fz) ∧
    (∀ off, off < c.size → g.w.frozen? ⟨(g.ρ i).block, off, none⟩ = false) ∧ (g.ρ i).off + en + (g.ρ i).extra * e ≤ c.size ∧ (fz.1 = fz.2 ∨ c.size ≤ fz.1)

section
variable {P : Program} {M : Maps} {im : FuncId → Option Nat} {d : Nat} {g : G} {F : Fr} {a : Act} {o : Oper} {t t' : T} {v : AV} {call : CallF}

theorem run_st (him : ∀ f x, im f = some x → M.fm x = f) (hF : FR M g d F a.tmps) (hS : SR M g t) {ty : TypeId} {x u : Operand} {y z : Opd} (h : cmpOpd im d x = some y)
    (h' : cmpOpd im d u = some z) {s : Nat} (hs : sizeT P ty = some s) (ho : o.op = .store ty x u) (hr : opSt s y z call F t = .ok v t') : ∃ p off cs cs' ob, y.get F = .ptr p off ∧ look2 p t.vs = some (.cells cs) ∧
    t' = { t with vs := upd2 p (.cells cs') t.vs } ∧ v = undefA ∧ (execOp a.eval o).run P g.w = .ok .skip (setBlock g.w (g.ν p) ob) ∧ ObjR M (g.setVar (g.ν p) ob) (.cells cs') (g.ν p) := by
  have vx := opd_ok him hF h
  have vu := opd_ok him hF h'
  obtain ⟨i, hi, rfl⟩ := sizeT_ok hs
  unfold opSt at hr
  split at hr
  · rename_i p off hp
    rw [hp] at vx
    generalize hxv : a.eval x = xv at vx
    cases vx with
    | ptr p off hpn =>
      split at hr
      · rename_i cs hl
        split at hr
        · rename_i hc
          cases hr
          simp only [Bool.and_eq_true] at hc
          obtain ⟨⟨⟨h1, h2⟩, h3⟩, h4⟩ := hc
          have h3 := Nat.eq_of_beq_eq_true h3
          have h4 := Nat.le_of_ble_eq_true h4
          obtain ⟨k1, k2⟩ := vu.cells h1
          obtain ⟨e1, e2, e3⟩ := hS.var p _ hl
          generalize hbv : g.ν p = b at *
          cases e3 with
          | cells cs b c cty fz hh hz hlen hv =>
            have hone : ∀ w, w ∈ (a.eval u).cells.toList → w.oneCell' = true := by
              intro w hw
              obtain ⟨j, hj, rfl⟩ := List.mem_iff_getElem.mp hw
              have hj' : j < (a.eval u).cells.size := by simpa using hj
              have hj2 : j < (z.get F).cells.length := by omega
              have hvr := k2 j hj2
              have hcell : ((z.get F).cells[j]).isCell = true := List.all_eq_true.mp h2 _ (List.getElem_mem hj2)
              have := hvr.oneCell hcell
              simp only [Array.getD, hj', dite_true] at this
              simp only [Array.getElem_toList]
              cases hq : (a.eval u).cells[j] <;> simp_all [M2.oneCell, Value.oneCell']
            have hsz : off + 0 + (a.eval u).cells.toList.length ≤ c.size := by simp; omega
            have hst := run_storeCells' P b off cty fz (a.eval u).cells.toList 0 c g.w hh hz hsz hone
            simp only [Nat.add_zero] at hst
            have hle := g.le_setVar b (.cells (writeAt c off (a.eval u).cells.toList) cty fz) (hbv ▸ e2)
            have hbb : b < g.w.heap.size := (Array.getElem?_eq_some_iff.mp hh).1
            refine ⟨p, off, cs, putAt cs off (z.get F).cells, .cells (writeAt c off (a.eval u).cells.toList) cty fz, hp, hl, rfl, rfl, ?_, ?_⟩
            · have hsz2 : (a.eval u).cells.size = i.size := by omega
              simp [execOp, ho, Instr.storeAt, Instr.sureAddr, hxv, storeVar, run_sizeOf hi, hsz2, hst, hbv]
            · rw [hbv]
              refine .cells _ _ (writeAt c off (a.eval u).cells.toList) cty fz ?_ (fun q hq => ?_) ?_ (fun q hq => ?_)
              · show (setBlock g.w b _).heap[b]? = _
                rw [setBlock_heap, if_pos ⟨rfl, hbb⟩]
              · have := hz q (by simpa [writeAt_size] using hq)
                simp only [World.frozen?, hh] at this
                show (setBlock g.w b _).frozen? _ = _
                simp only [World.frozen?, setBlock_heap, hbb, and_self, if_true]
                exact this
              · rw [writeAt_size, hlen]; simp [putAt]; omega
              · have hpl : off + (z.get F).cells.length ≤ cs.length := by omega
                have hq' : q < cs.length := by rw [putAt_length _ _ _ hpl] at hq; exact hq
                rw [writeAt_getD _ _ _ _ (by simp; omega)]
                simp only [Array.length_toList]
                by_cases hin : off ≤ q ∧ q < off + (a.eval u).cells.size
                · rw [if_pos hin, putAt_in _ _ _ hpl q hq hin.1 (by omega)]
                  have hk := (k2 (q - off) (by omega)).mono hle
                  have e2 : (a.eval u).cells.toList.getD (q - off) undef = (a.eval u).cells.getD (q - off) undef := by
                    simp [List.getD, Array.getD, show q - off < (a.eval u).cells.size by omega]
                  rw [e2]
                  exact hk
                · rw [if_neg hin, putAt_out _ _ _ hpl q hq (by omega)]
                  exact (hv q hq').mono hle
        · contradiction
      · contradiction
  · contradiction

end

structure Inv (M : Maps) (d ntmps : Nat) (ops : List Oper) (ks : List (DK × AO)) (g0 : G) (a0 : Act) (Fs : Nat → Fr) (Ts : Nat → T) (vs : Nat → AV) (S : Nat → Prop) (g : G) (a : Act) : Prop where
  le : g0.Le g
  n : g.n = g0.n
  okr : ∀ i, g.ok i → g0.ok i ∨ ∃ j, j < ks.length ∧ S j ∧ rng Ts j i
  sz : a.tmps.size = ntmps
  df : a.defers = []
  tm : ∀ t, t < 2 ^ d → (∀ j (h : j < ks.length), S j → ks[j].2.dst ≠ some (pth d t)) → a.tmps.getD t undef = a0.tmps.getD t undef
  tw : ∀ j (h : j < ks.length), S j → ∀ t, t < 2 ^ d → ks[j].2.dst = some (pth d t) → (∀ k (hk : k < ks.length), S k → j < k → ks[k].2.dst ≠ some (pth d t)) →
    VR M (g.sub (ancs ops ks.length g0 Ts j)) (vs j) (a.tmps.getD t undef)
  vo : ∀ x o, look2 x (Ts 0).vs = some o → g.μ (g0.ν x) = .var ∧ ((∀ k, S k → ¬ Wx ks Fs k x) → g.w.heap[g0.ν x]? = g0.w.heap[g0.ν x]?)
  vn : ∀ j, j < ks.length → S j → ∀ o, New Ts j o → g.ok (Ts j).n ∧ g.μ (g.ν (Ts j).n) = .var ∧ g0.w.heap.size ≤ g.ν (Ts j).n ∧ g.ν (Ts j).n < g.w.heap.size ∧
    ((∀ k, S k → ¬ Wx ks Fs k (Ts j).n) → ObjR M (g.sub (ancs ops ks.length g0 Ts j)) o (g.ν (Ts j).n))
  vw : ∀ j x o, S j → Wr ks Fs Ts j x o → (∀ k, S k → j < k → ¬ Wx ks Fs k x) → ObjR M (g.sub (ancs ops ks.length g0 Ts j)) o (g.ν x)
  vi : ∀ j k, j < ks.length → k < ks.length → S j → S k → ∀ o o', New Ts j o → New Ts k o' → g.ν (Ts j).n = g.ν (Ts k).n → j = k
  ids : ∃ m, m ≤ ks.length ∧ (∀ j (h : j < ks.length), ks[j].1 = .iso → (S j ↔ j < m)) ∧ ((Ts m).is.flatten.map Prod.fst).Nodup ∧
    (m = 0 ∨ ∃ j, ∃ h : j < ks.length, m = j + 1 ∧ ks[j].1 = .iso) ∧
    (∀ p, p ∈ (Ts m).is.flatten → p.1 < (Ts m).n) ∧
    (∀ i en e, look2 i (Ts m).is = some (en, e) → g.ok i ∧ (g0.ok i ∨ ∃ j, m = j + 1 ∧ ancs ops ks.length g0 Ts j i) ∧ RowOpen g i en e) ∧
    (∀ i j a b, look2 i (Ts m).is = some a → look2 j (Ts m).is = some b → (g.ρ i).block = (g.ρ j).block → i = j)

end M2
end
section
namespace M2
open Go
open Classical

section
variable {P : Program} {M : Maps} {im : FuncId → Option Nat} {d ntmps : Nat} {call : CallF} {ops : Array Oper} {ks : List (DK × AO)} {g0 g : G} {a0 a : Act} {Fs : Nat → Fr} {Ts : Nat → T} {vs : Nat → AV} {S : Nat → Prop}

structure Setup (P : Program) (M : Maps) (im : FuncId → Option Nat) (d ntmps : Nat) (call : CallF) (ops : Array Oper) (ks : List (DK × AO)) (g0 : G) (a0 : Act) (Fs : Nat → Fr) (Ts : Nat → T) (vs : Nat → AV) : Prop where
  him : ∀ f x, im f = some x → M.fm x = f
  hcall : CallOK P M call
  cmp : ∀ i (h : i < ks.length), ∃ o, ops[i]? = some o ∧ cmpO P im d ntmps ops o = some ks[i].2
  ancLt : ∀ i j, Anc ops.toList i j → j < i
  kind : ∀ i (h : i < ks.length), KindOK ks[i]
  fits : Fits M g0 d ntmps (Fs 0) (Ts 0) a0
  step : ∀ i (h : i < ks.length), StepR call ks[i] (Fs i) (Ts i) (vs i) (Fs (i + 1)) (Ts (i + 1))
  ordI : ∀ i j (hi : i < ks.length) (hj : j < ks.length), j < i → ks[i].1 = .iso → ks[j].1 = .iso → Anc ops.toList i j
  ordL : ∀ i j (hi : i < ks.length) (hj : j < ks.length), j < i → memK ks[i].1 = true → makesVar ks[j].2.op = true → Anc ops.toList i j
  ordT : ∀ i j (hi : i < ks.length) (hj : j < ks.length), i ≠ j → ∀ p, p ∈ aoNames ks[i].2 → ks[j].2.dst = some p → (j < i → Anc ops.toList i j) ∧ (i < j → Anc ops.toList j i)
  ordX : ∀ i j (hi : i < ks.length) (hj : j < ks.length), j < i → ∀ x s s', gets ks[i] (Fs i) x s → gets ks[j] (Fs j) x s' → (s || s') = true → Anc ops.toList i j
  plain : ∀ i j (hi : i < ks.length) (hj : j < ks.length), ks[i].1 = .load → ∀ p q, ks[j].1 ≠ .sto p q

structure Ready (ops : Array Oper) (ks : List (DK × AO)) (S : Nat → Prop) (i : Nat) : Prop where
  lt : i < ks.length
  no : ¬ S i
  down : ∀ j k, S j → Anc ops.toList j k → S k
  anc : ∀ k, Anc ops.toList i k → S k

theorem ancs_sub {i j : Nat} {r : Nat} (h : Anc ops.toList i j) (id : Nat) (hid : ancs ops.toList r g0 Ts j id) : ancp ops.toList r g0 Ts i id := by
  rcases hid with q | ⟨k, h1, h2, h3⟩
  · exact .inl q
  · rcases h1 with rfl | h1
    · exact .inr ⟨k, h, h2, h3⟩
    · exact .inr ⟨k, .trans _ _ _ h h1, h2, h3⟩

theorem ancp_sub {i r : Nat} (id : Nat) (hid : ancp ops.toList r g0 Ts i id) : ancs ops.toList r g0 Ts i id := by
  rcases hid with q | ⟨k, h1, h2, h3⟩
  · exact .inl q
  · exact .inr ⟨k, .inr h1, h2, h3⟩

theorem sub_old (hle : g0.Le g) (p : Nat → Prop) (hp : ∀ i, g0.ok i → p i) : g0.Ext (g.sub p) where
  ok i hi := ⟨hle.ok i hi, hp i hi⟩
  ρ i hi := hle.ρ i hi
  ν i hi := hle.ν i hi
  fixed _ _ hf := hle.fixed hf
  cell _ _ _ hf ho := hle.cell hf ho

/-- what an operation that is ready reads -/
theorem frame_ok (st : Setup P M im d ntmps call ops ks g0 a0 Fs Ts vs) (inv : Inv M d ntmps ops.toList ks g0 a0 Fs Ts vs S g a) {i : Nat} (rd : Ready ops ks S i) (n : Nat) (B : Nat → Prop) :
    FR M (g.view n (ancp ops.toList ks.length g0 Ts i) B) d (maskF (Fs i) (aoNames (ks[i]'rd.lt).2)) a.tmps := by
  refine ⟨by rw [inv.sz, ← st.fits.n]; exact st.fits.f.size, fun t ht => ?_⟩
  obtain ⟨m1, m2⟩ := maskF_get (Fs i) (aoNames (ks[i]'rd.lt).2) (pth d t)
  by_cases hp : pth d t ∈ aoNames (ks[i]'rd.lt).2
  · rw [m1 hp]
    refine VR.ext (g.ext_view n _ B) ?_
    have later : ∀ k (hk : k < ks.length), S k → (ks[k]).2.dst = some (pth d t) → k < i := by
      intro k hk hS hd
      have hne : i ≠ k := fun e => rd.no (e ▸ hS)
      rcases Nat.lt_trichotomy k i with h | h | h
      · exact h
      · exact absurd h.symm hne
      · exact absurd (rd.down k i hS ((st.ordT i k rd.lt hk hne _ hp hd).2 h)) rd.no
    rcases Fs_get st.step (pth d t) i (Nat.le_of_lt rd.lt) with ⟨h1, h2⟩ | ⟨j, hj, h1, h2, h3, h4⟩
    · rw [h2, inv.tm t ht (fun j hj hS hd => h1 j hj (later j hj hS hd) hd)]
      exact (st.fits.f.rel t ht).ext (sub_old inv.le _ (fun _ q => .inl q))
    · rw [h4]
      have hij : i ≠ j := by omega
      have hanc := (st.ordT i j rd.lt hj hij _ hp h2).1 h1
      have hS := rd.anc j hanc
      refine (inv.tw j hj hS t ht h2 (fun k hk hSk hlt hd => h3 k hk hlt (later k hk hSk hd) hd)).ext ?_
      exact G.ext_sub (G.Ext.refl g) (ancs_sub hanc)
  · rw [m2 hp]; exact .und _

/-- the open rows that a call sees -/
theorem iso_is (st : Setup P M im d ntmps call ops ks g0 a0 Fs Ts vs) {i m : Nat} (rd : Ready ops ks S i) (hk : (ks[i]'rd.lt).1 = .iso)
    (hS : ∀ j (h : j < ks.length), ks[j].1 = .iso → (S j ↔ j < m)) (hm0 : m = 0 ∨ ∃ j, ∃ h : j < ks.length, m = j + 1 ∧ ks[j].1 = .iso) : m ≤ i ∧ (Ts i).is = (Ts m).is := by
  have hmi : m ≤ i := by
    rcases hm0 with h | ⟨j, hj, h1, h2⟩
    · omega
    · have hSj : S j := (hS j hj h2).mpr (by omega)
      have hne : j ≠ i := fun e => rd.no (e ▸ hSj)
      rcases Nat.lt_trichotomy j i with h | h | h
      · omega
      · exact absurd h hne
      · exact absurd (rd.down j i hSj (st.ordI j i hj rd.lt h h2 hk)) rd.no
  refine ⟨hmi, ?_⟩
  have key : ∀ q, m ≤ q → q ≤ i → (Ts q).is = (Ts m).is := by
    intro q
    induction q with
    | zero => intro h1 _; have : m = 0 := by omega
              rw [this]
    | succ q ih =>
      intro h1 h2
      by_cases e : m = q + 1
      · rw [e]
      · have hq : q < ks.length := by have := rd.lt; omega
        have hni : ks[q].1 ≠ .iso := by
          intro hiso
          have := rd.anc q (st.ordI i q rd.lt hq (by omega) hk hiso)
          have := (hS q hq hiso).mp this
          omega
        rw [(step_facts (st.step q hq)).2.2.1 hni]
        exact ih (by omega) (by omega)
  exact key i hmi (Nat.le_refl _)

/-- the slots behind an operation -/
theorem put_slots (st : Setup P M im d ntmps call ops ks g0 a0 Fs Ts vs) (inv : Inv M d ntmps ops.toList ks g0 a0 Fs Ts vs S g a) {i : Nat} (rd : Ready ops ks S i) {g' : G} (hle : g.Le g')
    {o : Oper} (hd : cmpDst d ntmps o.dst = some (ks[i]'rd.lt).2.dst) {v' : Value} (hv : VR M (g'.sub (ancs ops.toList ks.length g0 Ts i)) (vs i) v') :
    (a.put o.dst v').tmps.size = ntmps ∧ (a.put o.dst v').defers = [] ∧
    (∀ t, t < 2 ^ d → (∀ j (h : j < ks.length), (S j ∨ j = i) → ks[j].2.dst ≠ some (pth d t)) → (a.put o.dst v').tmps.getD t undef = a0.tmps.getD t undef) ∧
    (∀ j (h : j < ks.length), (S j ∨ j = i) → ∀ t, t < 2 ^ d → ks[j].2.dst = some (pth d t) → (∀ k (hk : k < ks.length), (S k ∨ k = i) → j < k → ks[k].2.dst ≠ some (pth d t)) →
      VR M (g'.sub (ancs ops.toList ks.length g0 Ts j)) (vs j) ((a.put o.dst v').tmps.getD t undef)) := by
  have old : ∀ t, t < 2 ^ d → (ks[i]'rd.lt).2.dst ≠ some (pth d t) → (a.put o.dst v').tmps.getD t undef = a.tmps.getD t undef := by
    intro t ht hne
    cases hod : o.dst with
    | none => rfl
    | some u =>
      rw [hod] at hd
      simp only [cmpDst] at hd
      split at hd
      · rename_i hu
        have hdd : (ks[i]'rd.lt).2.dst = some (pth d u) := (Option.some.inj hd).symm
        have hut : u ≠ t := fun e => hne (by rw [hdd, e])
        show (a.tmps.setIfInBounds u v').getD t undef = _
        by_cases hs : t < a.tmps.size
        · simp [Array.getD, hs, Array.getElem_setIfInBounds_ne, hut]
        · simp [Array.getD, hs]
      · contradiction
  have new : ∀ t, t < 2 ^ d → (ks[i]'rd.lt).2.dst = some (pth d t) → (a.put o.dst v').tmps.getD t undef = v' := by
    intro t ht he
    cases hod : o.dst with
    | none =>
      rw [hod] at hd
      have : (ks[i]'rd.lt).2.dst = none := (Option.some.inj hd).symm
      rw [this] at he
      cases he
    | some u =>
      rw [hod] at hd
      simp only [cmpDst] at hd
      split at hd
      · rename_i hu
        have hdd : (ks[i]'rd.lt).2.dst = some (pth d u) := (Option.some.inj hd).symm
        rw [hdd] at he
        have hut : u = t := pth_inj d u t hu.2 ht (Option.some.inj he)
        subst hut
        have hs : u < a.tmps.size := by rw [inv.sz]; exact hu.1
        show (a.tmps.setIfInBounds u v').getD u undef = _
        simp [Array.getD, hs]
      · contradiction
  refine ⟨?_, ?_, ?_, ?_⟩
  · cases hod : o.dst with
    | none => exact inv.sz
    | some u => simp [Act.put, inv.sz]
  · cases hod : o.dst with
    | none => exact inv.df
    | some u => exact inv.df
  · intro t ht hno
    rw [old t ht (hno i rd.lt (.inr rfl))]
    exact inv.tm t ht (fun j hj hS => hno j hj (.inl hS))
  · intro j hj hS t ht hdj hlast
    by_cases hji : j = i
    · subst hji
      rw [new t ht hdj]
      exact hv
    · have hSj : S j := hS.resolve_right hji
      have hne : (ks[i]'rd.lt).2.dst ≠ some (pth d t) := by
        intro hdi
        have hlt : ¬ j < i := fun h => hlast i rd.lt (.inr rfl) h hdi
        have hmem : pth d t ∈ aoNames (ks[i]'rd.lt).2 := by simp [aoNames, hdi]
        have := (st.ordT i j rd.lt hj (fun e => hji e.symm) _ hmem hdj).2 (by omega)
        exact rd.no (rd.down j i hSj this)
      rw [old t ht hne]
      exact (inv.tw j hj hSj t ht hdj (fun k hk hSk hlt => hlast k hk (.inl hSk) hlt)).ext (G.ext_sub hle.ext (fun _ q => q))

end

end M2
end
section
namespace M2
open Go
open Classical

section
variable {P : Program} {M : Maps} {im : FuncId → Option Nat} {d ntmps : Nat} {call : CallF} {ops : Array Oper} {ks : List (DK × AO)} {g0 g : G} {a0 a : Act} {Fs : Nat → Fr} {Ts : Nat → T} {vs : Nat → AV} {S : Nat → Prop}

theorem of_opt {t t' : T} {v : AV} {r : Option AV} (h : OR.ofOption t r = .ok v t') : t'.vs = t.vs := by
  cases r with
  | none => cases h
  | some w => cases h; rfl

theorem of_bool {t t' : T} {v w : AV} {b : Bool} (h : (Bool.rec .fail (.ok w t) b : OR) = .ok v t') : t'.vs = t.vs := by
  cases b with
  | false => cases h
  | true => cases h; rfl

theorem run_makes (ao : AOp) {F : Fr} {t t' : T} {v : AV} (hk : kindOf ao = some .pure) (hm : makesVar ao = false) (h : ao.run call F t = .ok v t') : t'.vs = t.vs := by
  cases ao with
  | mv x => cases h; rfl
  | pick c x y =>
    change opPick c x y call F t = _ at h
    unfold opPick at h
    split at h
    · rename_i b _
      cases b <;> (cases h; rfl)
    · cases h
  | alloc z => cases hm
  | box x => cases hm
  | build z ps =>
    change opBuild z ps call F t = _ at h
    unfold opBuild at h
    split at h
    · cases h; rfl
    · cases h
  | buildS e l z ps =>
    change opBuildS e l z ps call F t = _ at h
    unfold opBuildS at h
    split at h
    · cases h; rfl
    · cases h
  | ld1 x => cases hk
  | ldA n x => cases hk
  | st n x y => cases hk
  | nilck x => change opNilck x call F t = _ at h; unfold opNilck at h; split at h <;> (cases h; try rfl)
  | bin o x y => change OR.ofOption t (avBin o (x.get F) (y.get F)) = _ at h; exact of_opt h
  | eqk k n x y => change opEqk k n x y call F t = _ at h; unfold opEqk at h; split at h <;> (cases h; try rfl)
  | eqs k n x y => change opEqs k n x y call F t = _ at h; unfold opEqs at h; split at h <;> (cases h; try rfl)
  | un o x => change OR.ofOption t (avUn o (x.get F)) = _ at h; exact of_opt h
  | cv k x => change OR.ofOption t (avCv k (x.get F)) = _ at h; exact of_opt h
  | mkfn f x y => cases h; rfl
  | mkS e b z l c => cases hk
  | slS x lo hi => change opSlS x lo hi call F t = _ at h; unfold opSlS at h; repeat' split at h
                   all_goals (cases h; try rfl)
  | slL e x lo hi mx => change opSlL e x lo hi mx call F t = _ at h; unfold opSlL at h; repeat' split at h
                        all_goals (cases h; try rfl)
  | faddr o x => change opFaddr o x call F t = _ at h; unfold opFaddr at h; repeat' split at h
                 all_goals (cases h; try rfl)
  | iaddr e x i => change opIaddr e x i call F t = _ at h; unfold opIaddr at h; repeat' split at h
                   all_goals (first | (cases h; done) | (cases h; rfl) | exact of_bool h)
  | iaddrA n e x i => change opIaddrA n e x i call F t = _ at h; unfold opIaddrA at h; repeat' split at h
                      all_goals (cases h; try rfl)
  | fld1 o x => change opFld1 o x call F t = _ at h; unfold opFld1 at h; repeat' split at h
                all_goals (first | (cases h; done) | exact of_opt h)
  | fldA o n x => change opFldA o n x call F t = _ at h; unfold opFldA at h; repeat' split at h
                  all_goals (cases h; try rfl)
  | idxS x i => change opIdxS x i call F t = _ at h; unfold opIdxS at h; repeat' split at h
                all_goals (cases h; try rfl)
  | idx1 n x i => change opIdx1 n x i call F t = _ at h; unfold opIdx1 at h; repeat' split at h
                  all_goals (first | (cases h; done) | exact of_opt h)
  | idxA n e x i => change opIdxA n e x i call F t = _ at h; unfold opIdxA at h; repeat' split at h
                    all_goals (cases h; try rfl)
  | ext x i => change opExt x i call F t = _ at h; unfold opExt at h; repeat' split at h
               all_goals (first | (cases h; done) | exact of_opt h)
  | call f xs => cases hk
  | calld f xs => cases hk
  | len s x => change opLen s x call F t = _ at h; unfold opLen at h; repeat' split at h
               all_goals (cases h; try rfl)
  | app e b z x y => cases hk
  | cpx x y => change opCpx x y call F t = _ at h; unfold opCpx at h; repeat' split at h
               all_goals (cases h; try rfl)
  | re x => change opRe x call F t = _ at h; unfold opRe at h; repeat' split at h
            all_goals (cases h; try rfl)
  | im x => change opIm x call F t = _ at h; unfold opIm at h; repeat' split at h
            all_goals (cases h; try rfl)
  | buildSo e l z ps => cases hk
  | mark x => cases hk
  | ixb x y => change opIxb x y call F t = _ at h; unfold opIxb at h; repeat' split at h
               all_goals (first | (cases h; done) | exact of_bool h)
  | mnx m x y => change opMnx m x y call F t = _ at h; unfold opMnx at h; repeat' split at h
                 all_goals (cases h; try rfl)

theorem gets_sto {ka : DK × AO} {F : Fr} {x : Nat} (h : gets ka F x true) : ∃ i m, ka.1 = .sto i m := by
  have hx := h.2
  unfold accX at hx
  split at hx
  · split at hx <;> (first | (unfold accP at hx; split at hx <;> cases hx) | cases hx)
  · rename_i i m e; exact ⟨i, m, e⟩
  · cases hx

theorem not_load_gets {ka : DK × AO} {F : Fr} {x : Nat} (hl : isLd ka.1 = true) : ¬ gets ka F x true := by
  intro h
  obtain ⟨i, m, e⟩ := gets_sto h
  rw [e] at hl
  cases hl

theorem KindOK.pure {ka : DK × AO} (h : KindOK ka) (hk : ka.1 = .pure) : kindOf ka.2.op = some .pure := by
  rcases h with h | ⟨-, _, _, h⟩ | ⟨-, _, _, h⟩
  · rw [hk] at h; exact h
  · rw [hk] at h; cases h
  · rw [hk] at h; cases h

theorem makes_of_new (st : Setup P M im d ntmps call ops ks g0 a0 Fs Ts vs) {j : Nat} (hj : j < ks.length) {o : VObj} (hn : New Ts j o) : makesVar ks[j].2.op = true := by
  have same : (Ts (j + 1)).n = (Ts j).n → False := fun h => by have h2 := hn.2; omega
  obtain ⟨-, h | h⟩ := st.step j hj
  · obtain ⟨-, t', hr, hm⟩ := h
    obtain ⟨m1, m2, m3, m4⟩ := merge_facts hm
    cases hk : ks[j].1 with
    | load => exact (same (by rw [m1 (by rw [hk]; rfl)])).elim
    | loadm p q => exact (same (by rw [m1 (by rw [hk]; rfl)])).elim
    | sto p q => exact (same (by rw [m4 p q hk])).elim
    | iso => exact absurd (hn.1.symm.trans (m2 hk).2.1) (fun h => by
        have := congrArg (fun l => l.flatten.length) h
        simp [flatten_push] at this)
    | pure =>
      cases hmk : makesVar ks[j].2.op with
      | true => rfl
      | false =>
        exfalso
        have hvs := run_makes _ ((st.kind j hj).pure hk) hmk hr
        rw [hk] at hvs
        obtain ⟨-, -, -, -, q⟩ := m3 hk
        rcases q with ⟨-, q⟩ | ⟨o', q, -, -⟩
        · exact absurd (hn.1.symm.trans q) (fun h => by
            have := congrArg (fun l => l.flatten.length) h
            simp [flatten_push] at this)
        · rw [hvs] at q
          simp [viewD] at q
  · exact (same (by rw [h.2.2])).elim

/-- where a variable comes from -/
theorem var_orig (st : Setup P M im d ntmps call ops ks g0 a0 Fs Ts vs) (inv : Inv M d ntmps ops.toList ks g0 a0 Fs Ts vs S g a) {i : Nat} (hi : i ≤ ks.length)
    (hS : ∀ j, j < i → j < ks.length → ∀ o, New Ts j o → S j) {x : Nat} {o : VObj} (hx : look2 x (Ts i).vs = some o) :
    g.ok x ∧ g.μ (g.ν x) = .var ∧ ((∃ o0, look2 x (Ts 0).vs = some o0 ∧ g0.ok x ∧ g.ν x < g0.w.heap.size) ∨
      ∃ j o0, j < i ∧ S j ∧ x = (Ts j).n ∧ New Ts j o0 ∧ g0.w.heap.size ≤ g.ν x) := by
  rcases look_orig st.step st.kind i hi x o hx with ⟨o0, h⟩ | ⟨j, o0, hj, hn, rfl⟩
  · obtain ⟨v1, v2, v3⟩ := st.fits.s.var x o0 h
    obtain ⟨u1, -⟩ := inv.vo x o0 h
    have hν := inv.le.ν x v1
    exact ⟨inv.le.ok x v1, by rw [hν]; exact u1, .inl ⟨o0, h, v1, by rw [hν]; exact v3.lt⟩⟩
  · have hjl : j < ks.length := by omega
    have hSj := hS j hj hjl o0 hn
    obtain ⟨v1, v2, v3, -⟩ := inv.vn j hjl hSj o0 hn
    exact ⟨v1, v2, .inr ⟨j, o0, hj, hSj, rfl, hn, v3⟩⟩

theorem vars_inj (st : Setup P M im d ntmps call ops ks g0 a0 Fs Ts vs) (inv : Inv M d ntmps ops.toList ks g0 a0 Fs Ts vs S g a) {i k : Nat} (hi : i ≤ ks.length) (hk : k ≤ ks.length)
    (hS : ∀ j, j < i → j < ks.length → ∀ o, New Ts j o → S j) (hS2 : ∀ j, j < k → j < ks.length → ∀ o, New Ts j o → S j) {x y : Nat} {o o' : VObj} (hx : look2 x (Ts i).vs = some o) (hy : look2 y (Ts k).vs = some o')
    (he : g.ν x = g.ν y) : x = y := by
  obtain ⟨-, -, hx⟩ := var_orig st inv hi hS hx
  obtain ⟨-, -, hy⟩ := var_orig st inv hk hS2 hy
  rcases hx with ⟨p, a1, a2, a3⟩ | ⟨j, p, a1, a2, rfl, a4, a5⟩ <;> rcases hy with ⟨q, b1, b2, b3⟩ | ⟨k, q, b1, b2, rfl, b4, b5⟩
  · rw [inv.le.ν x a2, inv.le.ν y b2] at he
    exact st.fits.s.inj x y p q a1 b1 he
  · omega
  · omega
  · have := inv.vi j k (by omega) (by omega) a2 b2 p q a4 b4 he
    rw [this]

/-- what stands ahead of a write is there -/
theorem new_before (st : Setup P M im d ntmps call ops ks g0 a0 Fs Ts vs) {S : Nat → Prop} (down : ∀ j k, S j → Anc ops.toList j k → S k) {i : Nat} (hi : i < ks.length) (hS : S i ∨ ∀ k, Anc ops.toList i k → S k) (hm : memK ks[i].1 = true) :
    ∀ j, j < i → j < ks.length → ∀ o, New Ts j o → S j := by
  intro j hj hjl o hn
  have := st.ordL i j hi hjl hj hm (makes_of_new st hjl hn)
  rcases hS with h | h
  · exact down i j h this
  · exact h j this

end

end M2
end
section
namespace M2
open Go
open Classical

section
variable {P : Program} {M : Maps} {im : FuncId → Option Nat} {d ntmps : Nat} {call : CallF} {ops : Array Oper} {ks : List (DK × AO)} {g0 g : G} {a0 a : Act} {Fs : Nat → Fr} {Ts : Nat → T} {vs : Nat → AV} {S : Nat → Prop}

theorem push_ne {p : Nat × VObj} {l : List VScope} (h : push p l = l) : False := by
  have := congrArg (fun l => l.flatten.length) h
  simp [flatten_push] at this

theorem new_unique {j : Nat} {o o' : VObj} (h : New Ts j o) (h' : New Ts j o') : o = o' := by
  have := congrArg List.flatten (h.1.symm.trans h'.1)
  rw [flatten_push, flatten_push] at this
  injection this with h1 h2
  injection h1

/-- an operation that changes nothing that we keep -/
theorem inv_same (st : Setup P M im d ntmps call ops ks g0 a0 Fs Ts vs) (inv : Inv M d ntmps ops.toList ks g0 a0 Fs Ts vs S g a) {i : Nat} (rd : Ready ops ks S i)
    (hT : Ts (i + 1) = Ts i) (hnw : ∀ x, ¬ gets (ks[i]'rd.lt) (Fs i) x true) {o : Oper} (hd : cmpDst d ntmps o.dst = some (ks[i]'rd.lt).2.dst) {v' : Value} (hv : VR M (g.sub (ancs ops.toList ks.length g0 Ts i)) (vs i) v') :
    Inv M d ntmps ops.toList ks g0 a0 Fs Ts vs (fun j => S j ∨ j = i) g (a.put o.dst v') := by
  obtain ⟨p1, p2, p3, p4⟩ := put_slots st inv rd (.refl g) hd hv
  have notNew : ∀ o, ¬ New Ts i o := fun o h => by have := h.2; rw [hT] at this; omega
  refine ⟨inv.le, inv.n, fun id h => (inv.okr id h).imp (fun q => q) (fun ⟨j, a, b, c⟩ => ⟨j, a, .inl b, c⟩), p1, p2, p3, p4,
    fun x o hx => ⟨(inv.vo x o hx).1, fun hno => (inv.vo x o hx).2 (fun k hk => hno k (.inl hk))⟩, ?_, ?_, ?_, ?_⟩
  · intro j hj hS o hn
    rcases hS with hS | rfl
    · obtain ⟨a1, a2, a3, a4, a5⟩ := inv.vn j hj hS o hn
      exact ⟨a1, a2, a3, a4, fun hno => a5 (fun k hk => hno k (.inl hk))⟩
    · exact absurd hn (notNew o)
  · intro j x o hS hw hno
    rcases hS with hS | rfl
    · exact inv.vw j x o hS hw (fun k hk hlt => hno k (.inl hk) hlt)
    · obtain ⟨⟨_, q⟩, -⟩ := hw
      exact absurd q (hnw x)
  · intro j k hj hk hSj hSk o o' hn hn' he
    rcases hSj with hSj | rfl
    · rcases hSk with hSk | rfl
      · exact inv.vi j k hj hk hSj hSk o o' hn hn' he
      · exact absurd hn' (notNew o')
    · exact absurd hn (notNew o)
  · obtain ⟨m, h1, h2, h3, h4, h5, h6, h7⟩ := inv.ids
    by_cases hiso : (ks[i]'rd.lt).1 = .iso
    · obtain ⟨q1, q2⟩ := iso_is st rd hiso h2 h4
      refine ⟨i + 1, rd.lt, ?_, by rw [hT, q2]; exact h3, .inr ⟨i, rd.lt, rfl, hiso⟩, ?_, ?_, by rw [hT, q2]; exact h7⟩
      · intro j hj hj2
        constructor
        · rintro (hS | rfl)
          · have := (h2 j hj hj2).mp hS; omega
          · omega
        · intro hlt
          by_cases e : j = i
          · exact .inr e
          · exact .inl (rd.anc j (st.ordI i j rd.lt hj (by omega) hiso hj2))
      · intro p hp
        rw [hT, q2] at hp
        rw [hT]
        exact Nat.lt_of_lt_of_le (h5 p hp) (n_mono st.step m i q1 (Nat.le_of_lt rd.lt))
      · intro id en e hl
        rw [hT, q2] at hl
        obtain ⟨r1, r2, r3⟩ := h6 id en e hl
        refine ⟨r1, .inr ⟨i, rfl, ?_⟩, r3⟩
        rcases r2 with r2 | ⟨j, hj, r2⟩
        · exact .inl r2
        · rcases h4 with h4 | ⟨j', hj', h8, h9⟩
          · omega
          · have e : j = j' := by omega
            subst e
            exact ancp_sub _ (ancs_sub (st.ordI i j rd.lt hj' (by omega) hiso h9) _ r2)
    · refine ⟨m, h1, fun j hj hj2 => ?_, h3, h4, h5, h6, h7⟩
      rw [← h2 j hj hj2]
      constructor
      · rintro (hS | rfl)
        · exact hS
        · exact absurd hj2 hiso
      · exact .inl

/-- what an operation may not touch -/
def Bset (ks : List (DK × AO)) (g : G) (Ts : Nat → T) (i : Nat) (hi : i < ks.length) (b : Nat) : Prop :=
  b < g.w.heap.size ∧ ¬ (ks[i].1 = .iso ∧ ∃ id x, look2 id (Ts i).is = some x ∧ (g.ρ id).block = b)

theorem view_sr (st : Setup P M im d ntmps call ops ks g0 a0 Fs Ts vs) (inv : Inv M d ntmps ops.toList ks g0 a0 Fs Ts vs S g a) {i : Nat} (rd : Ready ops ks S i) (hk : (ks[i]'rd.lt).1 = .pure ∨ (ks[i]'rd.lt).1 = .iso) :
    SR M (g.view (Ts i).n (ancp ops.toList ks.length g0 Ts i) (Bset ks g Ts i rd.lt)) (viewD (ks[i]'rd.lt).1 (Ts i)) := by
  obtain ⟨m, h1, h2, h3, h4, h5, h6, h7⟩ := inv.ids
  have hokn : ∀ id, ancp ops.toList ks.length g0 Ts i id → id < (Ts i).n := by
    rintro id (q | ⟨k, q1, q2, q3⟩)
    · exact Nat.lt_of_lt_of_le (st.fits.s.okn id q) (n_mono st.step 0 i (by omega) (Nat.le_of_lt rd.lt))
    · exact Nat.lt_of_lt_of_le q3.2 (n_mono st.step (k + 1) i (st.ancLt i k q1) (Nat.le_of_lt rd.lt))
  have hn : ∀ k, (viewD k (Ts i)).n = (Ts i).n := fun k => by cases k <;> rfl
  cases hkk : (ks[i]'rd.lt).1 with
  | load => rw [hkk] at hk; rcases hk with hk | hk <;> cases hk
  | loadm p q => rw [hkk] at hk; rcases hk with hk | hk <;> cases hk
  | sto p q => rw [hkk] at hk; rcases hk with hk | hk <;> cases hk
  | pure =>
    exact { n := rfl, wf := ⟨by simp [viewD], fun p hp => by simp [viewD] at hp, by simp [viewD], fun p hp => by simp [viewD] at hp⟩, okn := fun id hid => hokn id hid.2,
            var := fun x o hx => by simp [viewD, look2_cons, look_nil, look2_nil] at hx, inj := fun x y o o' hx => by simp [viewD, look2_cons, look_nil, look2_nil] at hx,
            ids := fun i en e hx => by simp [viewD, look2_cons, look_nil, look2_nil] at hx, idinj := fun i j a b hx => by simp [viewD, look2_cons, look_nil, look2_nil] at hx }
  | iso =>
    obtain ⟨q1, q2⟩ := iso_is st rd hkk h2 h4
    have hnm := n_mono st.step m i q1 (Nat.le_of_lt rd.lt)
    refine { n := rfl, wf := ⟨by simp [viewD], fun p hp => by simp [viewD] at hp, by simpa [viewD, q2] using h3, fun p hp => ?_⟩, okn := fun id hid => hokn id hid.2,
             var := fun x o hx => by simp [viewD, look2_cons, look_nil, look2_nil] at hx, inj := fun x y o o' hx => by simp [viewD, look2_cons, look_nil, look2_nil] at hx,
             ids := ?_, idinj := ?_ }
    · exact Nat.lt_of_lt_of_le (h5 p (by simpa [viewD, q2] using hp)) hnm
    · intro id en e hx
      have hx' : look2 id (Ts m).is = some (en, e) := by rw [← q2]; exact hx
      obtain ⟨r1, r2, r3, r4⟩ := h6 id en e hx'
      have hanc : ancp ops.toList ks.length g0 Ts i id := by
        rcases r2 with r2 | ⟨j, hj, r2⟩
        · exact .inl r2
        · rcases h4 with h4 | ⟨j', hj', h8, h9⟩
          · omega
          · have e : j = j' := by omega
            subst e
            exact ancs_sub (st.ordI i j rd.lt hj' (by omega) hkk h9) _ r2
      refine ⟨⟨r1, hanc⟩, ?_, r4⟩
      show (if Bset ks g Ts i rd.lt (g.ρ id).block then _ else _) = _
      rw [if_neg (fun hb => hb.2 ⟨hkk, id, (en, e), hx, rfl⟩)]
      exact r3
    · intro x y p q hx hy he
      exact h7 x y p q (by rw [← q2]; exact hx) (by rw [← q2]; exact hy) he

/-- an operation is carried out, out of turn, and put back -/
theorem inv_go (st : Setup P M im d ntmps call ops ks g0 a0 Fs Ts vs) (inv : Inv M d ntmps ops.toList ks g0 a0 Fs Ts vs S g a) {i : Nat} (rd : Ready ops ks S i) (hk : (ks[i]'rd.lt).1 = .pure ∨ (ks[i]'rd.lt).1 = .iso)
    {t' : T} (hm : mergeD (ks[i]'rd.lt).1 (Ts i) t' = some (Ts (i + 1))) {g' : G} (hle' : (g.view (Ts i).n (ancp ops.toList ks.length g0 Ts i) (Bset ks g Ts i rd.lt)).Le g') (hs' : SR M g' t')
    {o : Oper} (hd : cmpDst d ntmps o.dst = some (ks[i]'rd.lt).2.dst) {v' : Value} (hv : VR M g' (vs i) v') :
    ∃ g'', g''.w = g'.w ∧ g.Le g'' ∧ Inv M d ntmps ops.toList ks g0 a0 Fs Ts vs (fun j => S j ∨ j = i) g'' (a.put o.dst v') := by
  obtain ⟨m, h1, h2, h3, h4, h5, h6, h7⟩ := inv.ids
  have hB : ∀ b, Bset ks g Ts i rd.lt b → b < g.w.heap.size := fun b h => h.1
  have hn0 : (Ts 0).n ≤ (Ts i).n := n_mono st.step 0 i (by omega) (Nat.le_of_lt rd.lt)
  have hgn : g.n ≤ (Ts i).n := by rw [inv.n, st.fits.s.n]; exact hn0
  have ht1 : (Ts (i + 1)).n = t'.n := by
    obtain ⟨-, m2, m3, -⟩ := merge_facts hm
    cases hkk : (ks[i]'rd.lt).1 with
    | load => rw [hkk] at hk; rcases hk with hk | hk <;> cases hk
    | loadm p q => rw [hkk] at hk; rcases hk with hk | hk <;> cases hk
    | sto p q => rw [hkk] at hk; rcases hk with hk | hk <;> cases hk
    | iso => exact (m2 hkk).1
    | pure => exact (m3 hkk).1
  have hnew : ∀ id, g'.ok id → (g.ok id ∧ ancp ops.toList ks.length g0 Ts i id) ∨ rng Ts i id := by
    intro id hid
    rcases hle'.new id hid with q | q
    · exact .inl q
    · exact .inr ⟨q, by rw [ht1]; exact hs'.okn id hid⟩
  have hnog : ∀ id, rng Ts i id → ¬ g.ok id := by
    intro id hr hg
    rcases inv.okr id hg with q | ⟨j, q1, q2, q3⟩
    · have := st.fits.s.okn id q
      have := hr.1
      omega
    · have := rng_apart st.step rd.lt q1 hr q3
      subst this
      exact rd.no q2
  have hold : ∀ id, g.ok id → g'.ok id → ancp ops.toList ks.length g0 Ts i id := by
    intro id h1 h2
    rcases hnew id h2 with q | q
    · exact q.2
    · exact absurd h1 (hnog id q)
  have hq : ∀ id, g'.ok id → ancs ops.toList ks.length g0 Ts i id := by
    intro id h
    rcases hnew id h with q | q
    · exact ancp_sub _ q.2
    · exact .inr ⟨i, .inl rfl, rd.lt, q⟩
  have hle := le_back hle' hB hgn
  have hext := ext_back hle' hB hold hq
  refine ⟨g.back g' (Bset ks g Ts i rd.lt), rfl, hle, ?_⟩
  obtain ⟨p1, p2, p3, p4⟩ := put_slots st inv rd hle hd (hv.ext hext)
  have varB : ∀ b, b < g.w.heap.size → g.μ b = .var → Bset ks g Ts i rd.lt b := by
    intro b hb hμ
    refine ⟨hb, ?_⟩
    rintro ⟨hiso, id, x, hx, rfl⟩
    obtain ⟨q1, q2⟩ := iso_is st rd hiso h2 h4
    have := (h6 id x.1 x.2 (by rw [← q2]; exact hx)).2.2.1
    rw [hμ] at this
    cases this
  have μB : ∀ b, Bset ks g Ts i rd.lt b → (g.back g' (Bset ks g Ts i rd.lt)).μ b = g.μ b ∧ (g.back g' (Bset ks g Ts i rd.lt)).w.heap[b]? = g.w.heap[b]? := by
    intro b hb
    exact ⟨if_pos hb, (back_sealed hle' hB hb).1⟩
  have νold : ∀ id, g.ok id → (g.back g' (Bset ks g Ts i rd.lt)).ν id = g.ν id := fun id h => if_pos h
  have ρold : ∀ id, g.ok id → (g.back g' (Bset ks g Ts i rd.lt)).ρ id = g.ρ id := fun id h => if_pos h
  have ownNew : ∀ o, New Ts i o → (ks[i]'rd.lt).1 = .pure ∧ ∃ o', look2 (Ts i).n t'.vs = some o' ∧ o' = o := by
    intro o hnw
    obtain ⟨-, m2, m3, -⟩ := merge_facts hm
    cases hkk : (ks[i]'rd.lt).1 with
    | load => rw [hkk] at hk; rcases hk with hk | hk <;> cases hk
    | loadm p q => rw [hkk] at hk; rcases hk with hk | hk <;> cases hk
    | sto p q => rw [hkk] at hk; rcases hk with hk | hk <;> cases hk
    | iso => exact absurd (hnw.1.symm.trans (m2 hkk).2.1) (fun h => push_ne h)
    | pure =>
      obtain ⟨-, -, -, -, q⟩ := m3 hkk
      rcases q with ⟨-, q⟩ | ⟨o', q1, q2, q3⟩
      · exact absurd (hnw.1.symm.trans q) (fun h => push_ne h)
      · have : New Ts i o' := ⟨q2, by rw [ht1]; exact q3⟩
        refine ⟨rfl, o', ?_, new_unique this hnw⟩
        rw [look2_flatten, q1, look_cons, if_pos rfl]
  have newBlock : ∀ o, New Ts i o → g'.ok (Ts i).n ∧ ¬ g.ok (Ts i).n ∧ g'.μ (g'.ν (Ts i).n) = .var ∧ g.w.heap.size ≤ g'.ν (Ts i).n ∧ ObjR M g' o (g'.ν (Ts i).n) := by
    intro o hnw
    obtain ⟨hp, o', hl, rfl⟩ := ownNew o hnw
    obtain ⟨v1, v2, v3⟩ := hs'.var _ _ hl
    refine ⟨v1, hnog _ ⟨Nat.le_refl _, hnw.2⟩, v2, ?_, v3⟩
    rcases Nat.lt_or_ge (g'.ν (Ts i).n) g.w.heap.size with hlt | hge
    · exfalso
      have hb : Bset ks g Ts i rd.lt (g'.ν (Ts i).n) := ⟨hlt, fun q => by rw [hp] at q; cases q.1⟩
      have hse := (back_sealed hle' hB hb).2
      rw [v2] at hse
      have := seal_still (g.μ (g'.ν (Ts i).n))
      rw [← hse] at this
      cases this
    · exact hge
  have oldBlock : ∀ j, j < ks.length → S j → ∀ o, New Ts j o → g.ν (Ts j).n < g.w.heap.size := fun j hj hS o hnw => (inv.vn j hj hS o hnw).2.2.2.1
  have hnotw : ∀ x, ¬ gets (ks[i]'rd.lt) (Fs i) x true := by
    intro x hx
    obtain ⟨p, q, e⟩ := gets_sto hx
    rw [e] at hk
    rcases hk with hk | hk <;> cases hk
  refine ⟨inv.le.trans hle, inv.n, ?_, p1, p2, p3, p4, ?_, ?_, ?_, ?_, ?_⟩
  · intro id hid
    rcases hid with hid | hid
    · exact (inv.okr id hid).imp (fun q => q) (fun ⟨j, a, b, c⟩ => ⟨j, a, .inl b, c⟩)
    · rcases hnew id hid with q | q
      · exact (inv.okr id q.1).imp (fun q => q) (fun ⟨j, a, b, c⟩ => ⟨j, a, .inl b, c⟩)
      · exact .inr ⟨i, rd.lt, .inr rfl, q⟩
  · intro x o hx
    obtain ⟨v1, v2⟩ := inv.vo x o hx
    have hsz : g0.ν x < g.w.heap.size := Nat.lt_of_lt_of_le (st.fits.s.varLt hx) inv.le.size
    obtain ⟨u1, u2⟩ := μB _ (varB _ hsz v1)
    exact ⟨u1.trans v1, fun hno => u2.trans (v2 (fun k hk => hno k (.inl hk)))⟩
  · intro j hj hS o hnw
    by_cases hji : j = i
    · subst hji
      obtain ⟨b1, b2, b3, b4, b5⟩ := newBlock o hnw
      have hν : (g.back g' (Bset ks g Ts j rd.lt)).ν (Ts j).n = g'.ν (Ts j).n := if_neg b2
      rw [hν]
      refine ⟨.inr b1, ?_, Nat.le_trans inv.le.size b4, b5.lt, fun _ => b5.ext hext rfl⟩
      show (if Bset ks g Ts j rd.lt _ then _ else _) = _
      rw [if_neg (fun hb => absurd hb.1 (by omega))]
      exact b3
    · have hSj := hS.resolve_right hji
      obtain ⟨v1, v2, v3, v4, v5⟩ := inv.vn j hj hSj o hnw
      rw [νold _ v1]
      obtain ⟨u1, u2⟩ := μB _ (varB _ v4 v2)
      exact ⟨.inl v1, u1.trans v2, v3, Nat.lt_of_lt_of_le v4 hle.size, fun hno => (v5 (fun k hk => hno k (.inl hk))).ext (G.ext_sub hle.ext (fun _ q => q)) u2⟩
  · intro j x o hS hw hno
    rcases hS with hS | rfl
    · have hv := inv.vw j x o hS hw (fun k hk hlt => hno k (.inl hk) hlt)
      obtain ⟨⟨hj, hg⟩, -, o0, hx0⟩ := hw
      obtain ⟨p, q, e⟩ := gets_sto hg
      have hnb := new_before st rd.down hj (.inl hS) (by rw [e]; rfl)
      obtain ⟨v1, v2, -⟩ := var_orig st inv (Nat.le_of_lt hj) hnb hx0
      rw [νold _ v1]
      obtain ⟨u1, u2⟩ := μB _ (varB _ hv.lt v2)
      exact hv.ext (G.ext_sub hle.ext (fun _ q => q)) u2
    · obtain ⟨⟨_, q⟩, -⟩ := hw
      exact absurd q (hnotw x)
  · intro j k hj hk2 hSj hSk o o' hnj hnk he
    by_cases hji : j = i <;> by_cases hki : k = i
    · rw [hji, hki]
    · have hSk' := hSk.resolve_right hki
      subst hji
      obtain ⟨b1, b2, b3, b4, b5⟩ := newBlock o hnj
      have hν : (g.back g' (Bset ks g Ts j rd.lt)).ν (Ts j).n = g'.ν (Ts j).n := if_neg b2
      rw [hν, νold _ (inv.vn k hk2 hSk' o' hnk).1] at he
      have := oldBlock k hk2 hSk' o' hnk
      omega
    · have hSj' := hSj.resolve_right hji
      subst hki
      obtain ⟨b1, b2, b3, b4, b5⟩ := newBlock o' hnk
      have hν : (g.back g' (Bset ks g Ts k rd.lt)).ν (Ts k).n = g'.ν (Ts k).n := if_neg b2
      rw [hν, νold _ (inv.vn j hj hSj' o hnj).1] at he
      have := oldBlock j hj hSj' o hnj
      omega
    · have hSj' := hSj.resolve_right hji
      have hSk' := hSk.resolve_right hki
      rw [νold _ (inv.vn j hj hSj' o hnj).1, νold _ (inv.vn k hk2 hSk' o' hnk).1] at he
      exact inv.vi j k hj hk2 hSj' hSk' o o' hnj hnk he
  · by_cases hiso : (ks[i]'rd.lt).1 = .iso
    · obtain ⟨q1, q2⟩ := iso_is st rd hiso h2 h4
      obtain ⟨-, m2, -, -⟩ := merge_facts hm
      obtain ⟨-, -, his, -, -⟩ := m2 hiso
      have ρnew : ∀ id, g'.ok id → (g.back g' (Bset ks g Ts i rd.lt)).ρ id = g'.ρ id := by
        intro id h
        show (if g.ok id then g.ρ id else g'.ρ id) = _
        split
        · rename_i hg
          exact (hle'.ρ id ⟨hg, hold id hg h⟩).symm
        · rfl
      refine ⟨i + 1, rd.lt, ?_, by rw [his]; exact hs'.wf.ik, .inr ⟨i, rd.lt, rfl, hiso⟩, fun p hp => by rw [ht1]; rw [his] at hp; exact hs'.wf.jn p hp, ?_, ?_⟩
      · intro j hj hj2
        constructor
        · rintro (hS | rfl)
          · have := (h2 j hj hj2).mp hS; omega
          · omega
        · intro hlt
          by_cases e : j = i
          · exact .inr e
          · exact .inl (rd.anc j (st.ordI i j rd.lt hj (by omega) hiso hj2))
      · intro id en e hl
        rw [his] at hl
        obtain ⟨r1, r2, c, ty, fz, r3, r4, r5⟩ := hs'.ids id en e hl
        refine ⟨.inr r1, .inr ⟨i, rfl, hq id r1⟩, ?_⟩
        unfold RowOpen
        rw [ρnew id r1]
        refine ⟨?_, c, ty, fz, r3, r4, r5⟩
        show (if Bset ks g Ts i rd.lt _ then _ else _) = _
        rw [if_neg (fun hb => ?_)]
        · exact r2
        · have hse := (back_sealed hle' hB hb).2
          rw [r2] at hse
          have := seal_still (g.μ (g'.ρ id).block)
          rw [← hse] at this
          cases this
      · intro x y p q hx hy he
        rw [his] at hx hy
        rw [ρnew x (hs'.ids x p.1 p.2 hx).1, ρnew y (hs'.ids y q.1 q.2 hy).1] at he
        exact hs'.idinj x y p q hx hy he
    · refine ⟨m, h1, fun j hj hj2 => ?_, h3, h4, h5, ?_, ?_⟩
      · rw [← h2 j hj hj2]
        constructor
        · rintro (hS | rfl)
          · exact hS
          · exact absurd hj2 hiso
        · exact .inl
      · intro id en e hl
        obtain ⟨r1, r2, r3, c, ty, fz, r4, r5, r6⟩ := h6 id en e hl
        refine ⟨.inl r1, r2, ?_⟩
        unfold RowOpen
        rw [ρold id r1]
        have hb : Bset ks g Ts i rd.lt (g.ρ id).block := ⟨(getElem?_some_iff.mp r4).1, fun q => hiso q.1⟩
        obtain ⟨u1, u2⟩ := μB _ hb
        refine ⟨u1.trans r3, c, ty, fz, u2.trans r4, fun off ho => ?_, r6⟩
        rw [← r5 off ho]
        exact frozen_of_heap u2
      · intro x y p q hx hy he
        rw [ρold x (h6 x p.1 p.2 hx).1, ρold y (h6 y q.1 q.2 hy).1] at he
        exact h7 x y p q hx hy he

end

end M2
end
section
namespace M2
open Go
open Classical

section
variable {P : Program} {M : Maps} {im : FuncId → Option Nat} {d ntmps : Nat} {call : CallF} {ops : Array Oper} {ks : List (DK × AO)} {g0 g : G} {a0 a : Act} {Fs : Nat → Fr} {Ts : Nat → T} {vs : Nat → AV} {S : Nat → Prop}

theorem load_inv {o : Op} {ao : AOp} (hc : cmpOp P im d o = some ao) (hk : kindOf ao = some .load) :
    ∃ t x y, o = .load t x ∧ cmpOpd im d x = some y ∧ ((ao = .ld1 y ∧ aggT P t = some false) ∨ ∃ s, ao = .ldA s y ∧ sizeT P t = some s ∧ aggT P t = some true) := by
  unfold cmpOp at hc
  split at hc
  case h_8 =>
    simp only [Option.bind_eq_bind, Option.bind_eq_some_iff] at hc
    obtain ⟨y, hy, s, hs, e⟩ := hc
    split at e
    · rename_i ha
      cases e
      exact ⟨_, _, y, rfl, hy, .inr ⟨s, rfl, hs, ha⟩⟩
    · rename_i ha
      cases e
      exact ⟨_, _, y, rfl, hy, .inl ⟨rfl, ha⟩⟩
    · contradiction
  all_goals exfalso
  all_goals (try unfold cmpBuild at hc)
  all_goals (try unfold cmpBin at hc)
  all_goals (try unfold cmpEq at hc)
  all_goals (try unfold cmpConv at hc)
  all_goals (try unfold cmpCall at hc)
  all_goals (repeat' (first | (simp only [Option.bind_eq_bind, Option.bind_eq_some_iff] at hc) | (simp only [Option.map_eq_some_iff] at hc) | (obtain ⟨y, hy, hc⟩ := hc) | split at hc))
  all_goals (first | (cases hc; simp [kindOf] at hk; done) | (subst hc; simp [kindOf] at hk; done) | (cases hc; done) | (simp [kindOf] at hk; done) | (split at hk <;> simp [kindOf] at hk) | skip)

theorem store_inv {o : Op} {n : Nat} {x y : Opd} (hc : cmpOp P im d o = some (.st n x y)) :
    ∃ t u v, o = .store t u v ∧ cmpOpd im d u = some x ∧ cmpOpd im d v = some y ∧ sizeT P t = some n := by
  unfold cmpOp at hc
  split at hc
  case h_9 =>
    simp only [Option.bind_eq_bind, Option.bind_eq_some_iff] at hc
    obtain ⟨s, hs, y, hy, z, hz, e⟩ := hc
    cases e
    exact ⟨_, _, _, rfl, hy, hz, hs⟩
  all_goals exfalso
  all_goals (try unfold cmpBuild at hc)
  all_goals (try unfold cmpBin at hc)
  all_goals (try unfold cmpEq at hc)
  all_goals (try unfold cmpConv at hc)
  all_goals (try unfold cmpCall at hc)
  all_goals (repeat' (first | (simp only [Option.bind_eq_bind, Option.bind_eq_some_iff] at hc) | (simp only [Option.map_eq_some_iff] at hc) | (obtain ⟨y, hy, hc⟩ := hc) | split at hc))
  all_goals (first | (cases hc; done) | skip)

theorem wanted_fr {g : G} {F : Fr} {a : Act} (hf : FR M g d F a.tmps) (hn : a.tmps.size = ntmps) {ops : Array Oper} {o : Oper} {q : Option (Bits × Bool)} (hq : cmpGuard d ntmps ops o.guard = some q)
    {b : Bool} (hw : wantedA F q = some b) : Region.wanted o (yielded ops a.tmps) = b := by
  unfold Region.wanted
  cases hg : o.guard with
  | none =>
    rw [hg] at hq
    cases hq
    cases hw
    rfl
  | some p =>
    obtain ⟨j, want⟩ := p
    rw [hg] at hq
    simp only [cmpGuard] at hq
    split at hq
    · rename_i u hu
      split at hq
      · rename_i hlt
        cases hq
        have hv := hf.rel u hlt.2
        unfold wantedA at hw
        simp only at hw
        have hsz : u < a.tmps.size := by rw [hn]; exact hlt.1
        have hget : a.tmps[u]? = some (a.tmps.getD u undef) := by simp [Array.getD, hsz]
        split at hw
        · rename_i b' hb'
          cases hw
          rw [hb'] at hv
          generalize a.tmps.getD u undef = x at hv hget
          cases hv
          show (yielded ops a.tmps j == some want) = (b' == want)
          simp [yielded, hu, hget]
        · rename_i l hl
          cases hw
          rw [hl] at hv
          generalize a.tmps.getD u undef = x at hv hget
          cases hv
          show (yielded ops a.tmps j == some want) = false
          simp [yielded, hu, hget]
        · contradiction
      · contradiction
    · contradiction

/-- what stands in a variable, seen from place i -/
theorem var_cont (st : Setup P M im d ntmps call ops ks g0 a0 Fs Ts vs) (inv : Inv M d ntmps ops.toList ks g0 a0 Fs Ts vs S g a) {i : Nat} (hi : i ≤ ks.length)
    (hS : ∀ j, j < i → j < ks.length → ∀ o, New Ts j o → S j) {x : Nat} {o : VObj} (hW1 : ∀ k, k < i → Wx ks Fs k x → S k) (hW2 : ∀ k, S k → Wx ks Fs k x → k < i) (hx : look2 x (Ts i).vs = some o) :
    ∃ p : Nat → Prop, ObjR M (g.sub p) o (g.ν x) ∧ ((∀ id, p id → g0.ok id) ∨ ∃ j, j < i ∧ p = ancs ops.toList ks.length g0 Ts j ∧ (Wx ks Fs j x ∨ ∃ o, New Ts j o)) := by
  rcases look_Ts st.step st.kind st.fits.s.wf i hi x o hx with ⟨j, hj, hwr, hlast⟩ | ⟨hno, h | ⟨j, hj, hn, rfl⟩⟩
  · exact ⟨_, inv.vw j x o (hW1 j hj hwr.1) hwr (fun k hk hlt hw => hlast k hlt (hW2 k hk hw) hw), .inr ⟨j, hj, rfl, .inl hwr.1⟩⟩
  · obtain ⟨v1, v2, v3⟩ := st.fits.s.var x o h
    obtain ⟨u1, u2⟩ := inv.vo x o h
    refine ⟨g0.ok, ?_, .inl fun _ q => q⟩
    rw [inv.le.ν x v1]
    exact v3.ext (sub_old inv.le _ (fun _ q => q)) (u2 (fun k hk hw => hno k (hW2 k hk hw) hw))
  · have hjl : j < ks.length := by omega
    obtain ⟨v1, v2, v3, v4, v5⟩ := inv.vn j hjl (hS j hj hjl o hn) o hn
    exact ⟨_, v5 (fun k hk hw => hno k (hW2 k hk hw) hw), .inr ⟨j, hj, rfl, .inr ⟨o, hn⟩⟩⟩

/-- of a variable that an operation gets at: all writes ahead of it are done, none behind it -/
theorem acc_ok (st : Setup P M im d ntmps call ops ks g0 a0 Fs Ts vs) {i : Nat} (rd : Ready ops ks S i) {y : Nat} {s : Bool} (h : gets (ks[i]'rd.lt) (Fs i) y s ∨ (ks[i]'rd.lt).1 = .load) :
    (∀ k, k < i → Wx ks Fs k y → Anc ops.toList i k) ∧ (∀ k, S k → Wx ks Fs k y → k < i) := by
  constructor
  · rintro k hk ⟨hkl, hw⟩
    rcases h with h | h
    · exact st.ordX i k rd.lt hkl hk y s true h hw (by simp)
    · obtain ⟨p, q, e⟩ := gets_sto hw
      exact absurd e (st.plain i k rd.lt hkl h p q)
  · rintro k hS ⟨hkl, hw⟩
    rcases h with h | h
    · rcases Nat.lt_trichotomy k i with q | q | q
      · exact q
      · exact absurd (q ▸ hS) rd.no
      · exact absurd (rd.down k i hS (st.ordX k i hkl rd.lt q y true s hw h (by simp))) rd.no
    · obtain ⟨p, q, e⟩ := gets_sto hw
      exact absurd e (st.plain i k rd.lt hkl h p q)

theorem okn_ok (st : Setup P M im d ntmps call ops ks g0 a0 Fs Ts vs) {i : Nat} (hi : i ≤ ks.length) {id : Nat} (h : ancp ops.toList ks.length g0 Ts i id) : id < (Ts i).n := by
  rcases h with q | ⟨k, q1, q2, q3⟩
  · exact Nat.lt_of_lt_of_le (st.fits.s.okn id q) (n_mono st.step 0 i (by omega) hi)
  · exact Nat.lt_of_lt_of_le q3.2 (n_mono st.step (k + 1) i (st.ancLt i k q1) hi)

/-- one variable alone -/
theorem one_sr (st : Setup P M im d ntmps call ops ks g0 a0 Fs Ts vs) (inv : Inv M d ntmps ops.toList ks g0 a0 Fs Ts vs S g a) {i : Nat} (rd : Ready ops ks S i) (hk : memK (ks[i]'rd.lt).1 = true)
    {y : Nat} {s : Bool} {o : VObj} (h : gets (ks[i]'rd.lt) (Fs i) y s ∨ (ks[i]'rd.lt).1 = .load) (hx : look2 y (Ts i).vs = some o) :
    SR M (g.view (Ts i).n (ancp ops.toList ks.length g0 Ts i) (fun _ => False)) ⟨(Ts i).n, [[(y, o)]], [[]]⟩ := by
  have hi := Nat.le_of_lt rd.lt
  obtain ⟨hA, hW2⟩ := acc_ok st rd h
  have hS := new_before st rd.down rd.lt (.inr rd.anc) hk
  obtain ⟨o1, o2, o3⟩ := var_orig st inv hi hS hx
  obtain ⟨p, c1, c2⟩ := var_cont st inv hi hS (fun k hk hw => rd.anc k (hA k hk hw)) hW2 hx
  have hlk : ∀ x o', look2 x [[(y, o)]] = some o' → y = x ∧ o = o' := by
    intro x o' h
    rw [look2_cons, look_cons] at h
    by_cases e : y = x
    · rw [if_pos e] at h; simp at h; exact ⟨e, h⟩
    · rw [if_neg e] at h; simp [look_nil, look2_nil] at h
  have hanc : ∀ j, j < i → (Wx ks Fs j y ∨ ∃ o, New Ts j o) → Anc ops.toList i j := by
    intro j hj hw
    rcases hw with hw | ⟨o', hw⟩
    · exact hA j hj hw
    · exact st.ordL i j rd.lt (by omega) hj hk (makes_of_new st (by omega) hw)
  have hyn := wf_lt st.step st.kind st.fits.s.wf i hi y o hx
  refine { n := rfl, wf := ⟨by simp, fun p hp => by simp at hp; rw [hp]; exact hyn, by simp, fun p hp => by simp at hp⟩, okn := fun id hid => okn_ok st hi hid.2, var := ?_, inj := ?_,
           ids := fun i en e hx => by simp [look2_cons, look_nil, look2_nil] at hx, idinj := fun i j a b hx => by simp [look2_cons, look_nil, look2_nil] at hx }
  · intro x o' hx'
    obtain ⟨rfl, rfl⟩ := hlk x o' hx'
    have hμ : (g.view (Ts i).n (ancp ops.toList ks.length g0 Ts i) (fun _ => False)).μ (g.ν y) = .var := (if_neg id).trans o2
    refine ⟨⟨o1, ?_⟩, hμ, ?_⟩
    · rcases o3 with ⟨_, -, q, -⟩ | ⟨j, _, q1, q2, q3, q4, -⟩
      · exact .inl q
      · refine .inr ⟨j, hanc j q1 (.inr ⟨_, q4⟩), by omega, ?_⟩
        rw [q3]
        exact ⟨Nat.le_refl _, q4.2⟩
    · have hp : ∀ id, p id → ancp ops.toList ks.length g0 Ts i id := by
        intro id hid
        rcases c2 with c2 | ⟨j, q1, q2, q3⟩
        · exact .inl (c2 id hid)
        · rw [q2] at hid
          exact ancs_sub (hanc j q1 q3) id hid
      exact ObjR.ext (g.ext_view _ _ _) rfl (c1.ext (G.ext_sub (G.Ext.refl g) hp) rfl)
  · intro x z o1 o2 h1 h2 _
    rw [← (hlk x o1 h1).1, ← (hlk z o2 h2).1]

theorem none_sr (st : Setup P M im d ntmps call ops ks g0 a0 Fs Ts vs) {i : Nat} (rd : Ready ops ks S i) :
    SR M (g.view (Ts i).n (ancp ops.toList ks.length g0 Ts i) (fun _ => False)) ⟨(Ts i).n, [[]], [[]]⟩ :=
  { n := rfl, wf := ⟨by simp, fun p hp => by simp at hp, by simp, fun p hp => by simp at hp⟩, okn := fun id hid => okn_ok st (Nat.le_of_lt rd.lt) hid.2,
    var := fun x o hx => by simp [look2_cons, look_nil, look2_nil] at hx, inj := fun x y o o' hx => by simp [look2_cons, look_nil, look2_nil] at hx,
    ids := fun i en e hx => by simp [look2_cons, look_nil, look2_nil] at hx, idinj := fun i j a b hx => by simp [look2_cons, look_nil, look2_nil] at hx }

theorem read_same {t1 t2 : T} {v : AV} (h : ∀ y off, v = .ptr y off → look2 y t1.vs = look2 y t2.vs) : t1.read v = t2.read v := by
  cases v <;> first | rfl | (unfold T.read; simp only [h _ _ rfl])

theorem look_one (y : Nat) (o : VObj) : look2 y [[(y, o)]] = some o := by
  rw [look2_cons, look_cons, if_pos rfl]
  rfl

theorem ld1_at {y : Opd} {F : Fr} {t1 t2 t' : T} {v : AV} (h : opLd1 y call F t1 = .ok v t') (he : t1.read (y.get F) = t2.read (y.get F)) : opLd1 y call F t2 = .ok v t2 := by
  unfold opLd1 at *
  rw [← he]
  split at h
  · cases h; rfl
  · cases h

theorem ldA_at {n : Nat} {y : Opd} {F : Fr} {t1 t2 t' : T} {v : AV} (h : opLdA n y call F t1 = .ok v t') (he : t1.read (y.get F) = t2.read (y.get F)) : opLdA n y call F t2 = .ok v t2 := by
  unfold opLdA at *
  rw [← he]
  split at h
  · rename_i cs hq
    cases hb : Nat.ble n cs.length with
    | false => rw [hb] at h; cases h
    | true => rw [hb] at h; cases h; rfl
  · cases h

theorem read_ok' {t : T} {v : AV} {cs : List AV} (h : t.read v = some cs) : (∃ y off o, v = .ptr y off ∧ look2 y t.vs = some o) ∨ ∃ cs, v = .eptr cs := by
  unfold T.read at h
  split at h
  · exact .inr ⟨_, rfl⟩
  · split at h
    · rename_i hl; exact .inl ⟨_, _, _, rfl, hl⟩
    · cases h
  · cases h

theorem setVar_back (g : G) (n b : Nat) (ob : Obj) (p q : Nat → Prop) (hpq : ∀ i, p i → q i) : ((g.view n p (fun _ => False)).setVar b ob).Ext ((g.setVar b ob).sub q) where
  ok i hi := ⟨hi.1, hpq i hi.2⟩
  ρ _ _ := rfl
  ν _ _ := rfl
  fixed b m h := by
    refine ⟨h.1, ?_⟩
    have h2 := h.2
    have e : (g.view n p (fun _ => False)).μ b = g.μ b := if_neg id
    change Own.fix m ((g.view n p (fun _ => False)).μ b) at h2
    rw [e] at h2
    exact h2
  cell _ _ _ _ _ := rfl

/-- a write is done, out of turn -/
theorem inv_sto (st : Setup P M im d ntmps call ops ks g0 a0 Fs Ts vs) (inv : Inv M d ntmps ops.toList ks g0 a0 Fs Ts vs S g a) {i : Nat} (rd : Ready ops ks S i) {p q : Nat} (hk : (ks[i]'rd.lt).1 = .sto p q)
    {x : Nat} {o0 o1 : VObj} (hg : gets (ks[i]'rd.lt) (Fs i) x true) (hx : look2 x (Ts i).vs = some o0) (hT : Ts (i + 1) = ⟨(Ts i).n, upd2 x o1 (Ts i).vs, (Ts i).is⟩)
    {ob : Obj} (hob : ObjR M ((g.view (Ts i).n (ancp ops.toList ks.length g0 Ts i) (fun _ => False)).setVar (g.ν x) ob) o1 (g.ν x)) {o : Oper} (hd : cmpDst d ntmps o.dst = some (ks[i]'rd.lt).2.dst)
    (hvu : vs i = undefA) : g.Le (g.setVar (g.ν x) ob) ∧ Inv M d ntmps ops.toList ks g0 a0 Fs Ts vs (fun j => S j ∨ j = i) (g.setVar (g.ν x) ob) (a.put o.dst undef) := by
  have hi := Nat.le_of_lt rd.lt
  have hmem : memK (ks[i]'rd.lt).1 = true := by rw [hk]; rfl
  have hnb := new_before st rd.down rd.lt (.inr rd.anc) hmem
  obtain ⟨x1, x2, x3⟩ := var_orig st inv hi hnb hx
  have hle := g.le_setVar (g.ν x) ob x2
  obtain ⟨p1, p2, p3, p4⟩ := put_slots st inv rd hle hd (v' := undef) (by rw [hvu]; exact undef_ok)
  obtain ⟨hA, hW2⟩ := acc_ok st rd (.inl hg)
  have heap : ∀ b, b ≠ g.ν x → (g.setVar (g.ν x) ob).w.heap[b]? = g.w.heap[b]? := fun b hb => by
    show (setBlock g.w _ ob).heap[b]? = _
    rw [setBlock_heap, if_neg (fun e => hb e.1)]
  have nv : ∀ {b}, g.μ b ≠ .var → b ≠ g.ν x := fun hb e => hb (by rw [e]; exact x2)
  have notNew : ∀ o, ¬ New Ts i o := fun o h => by have := h.2; rw [hT] at this; exact absurd this (Nat.lt_irrefl _)
  have wxi : Wx ks Fs i x := ⟨rd.lt, hg⟩
  have sext : ∀ r : Nat → Prop, (g.sub r).Ext ((g.setVar (g.ν x) ob).sub r) := fun r => G.ext_sub hle.ext (fun _ q => q)
  have hsz : (g.setVar (g.ν x) ob).w.heap.size = g.w.heap.size := setBlock_size _ _ _
  refine ⟨hle, inv.le.trans hle, inv.n, fun id h => (inv.okr id h).imp (fun q => q) (fun ⟨j, a, b, c⟩ => ⟨j, a, .inl b, c⟩), p1, p2, p3, p4, ?_, ?_, ?_, ?_, ?_⟩
  · intro y o' hy
    obtain ⟨u1, u2⟩ := inv.vo y o' hy
    refine ⟨u1, fun hno => ?_⟩
    rw [← u2 (fun k hk => hno k (.inl hk))]
    refine heap _ (fun e => ?_)
    have hyv := st.fits.s.var y o' hy
    have : y = x := vars_inj st inv (i := 0) (k := i) (by omega) hi (fun j h => absurd h (by omega)) hnb hy hx (by rw [inv.le.ν y hyv.1]; exact e)
    exact hno i (.inr rfl) (this ▸ wxi)
  · intro j hj hS o' hn
    rcases hS with hS | rfl
    · obtain ⟨a1, a2, a3, a4, a5⟩ := inv.vn j hj hS o' hn
      refine ⟨a1, a2, a3, by rw [hsz]; exact a4, fun hno => ?_⟩
      refine (a5 (fun k hk => hno k (.inl hk))).ext (sext _) (heap _ (fun e => ?_))
      have e2 : (Ts j).n = x := by
        rcases x3 with ⟨_, -, q2, q3⟩ | ⟨k, o2, q1, q2, q3, q4, q5⟩
        · have e' : g.ν (Ts j).n = g.ν x := e
          omega
        · have := inv.vi j k hj (by omega) hS q2 o' o2 hn q4 (by rw [← q3]; exact e)
          rw [this, q3]
      exact hno i (.inr rfl) (e2 ▸ wxi)
    · exact absurd hn (notNew o')
  · intro j y o' hS hw hno
    rcases hS with hS | rfl
    · have hv := inv.vw j y o' hS hw (fun k hk hlt => hno k (.inl hk) hlt)
      obtain ⟨⟨hj, hgj⟩, hup, oy, hy⟩ := hw
      have hne : y ≠ x := by
        intro e
        subst e
        have := hW2 j hS ⟨hj, hgj⟩
        exact hno i (.inr rfl) this wxi
      obtain ⟨pp, qq, ek⟩ := gets_sto hgj
      have hnj := new_before st rd.down hj (.inl hS) (by rw [ek]; rfl)
      refine hv.ext (sext _) (heap _ (fun e => hne ?_))
      exact vars_inj st inv (Nat.le_of_lt hj) hi hnj hnb hy hx e
    · have e1 := gets_one hw.1.2 hg
      subst e1
      have hup := hw.2.1
      rw [hT] at hup
      have e2 : o1 = o' := by
        have h1 : look2 y (upd2 y o1 (Ts j).vs) = some o1 := by rw [look2_upd2, if_pos rfl, hx]; rfl
        have h2 : look2 y (upd2 y o' (Ts j).vs) = some o' := by rw [look2_upd2, if_pos rfl, hx]; rfl
        change upd2 y o1 (Ts j).vs = upd2 y o' (Ts j).vs at hup
        rw [hup, h2] at h1
        exact (Option.some.inj h1).symm
      subst e2
      exact hob.ext (setVar_back g _ _ _ _ _ (fun id => ancp_sub id)) rfl
  · intro j k hj hk2 hSj hSk o1 o2 hn hn' he
    rcases hSj with hSj | rfl
    · rcases hSk with hSk | rfl
      · exact inv.vi j k hj hk2 hSj hSk o1 o2 hn hn' he
      · exact absurd hn' (notNew o2)
    · exact absurd hn (notNew o1)
  · obtain ⟨m, h1, h2, h3, h4, h5, h6, h7⟩ := inv.ids
    refine ⟨m, h1, fun j hj hj2 => ?_, h3, h4, h5, fun id en e hl => ?_, h7⟩
    · rw [← h2 j hj hj2]
      constructor
      · rintro (hS | rfl)
        · exact hS
        · rw [hk] at hj2; cases hj2
      · exact .inl
    · obtain ⟨r1, r2, r3, c, ty, fz, r4, r5, r6⟩ := h6 id en e hl
      have hb := heap (g.ρ id).block (nv (by rw [r3]; simp))
      refine ⟨r1, r2, r3, c, ty, fz, hb.trans r4, fun off ho => ?_, r6⟩
      rw [← r5 off ho]
      exact frozen_of_heap hb

theorem view_back (g : G) (n : Nat) (p q : Nat → Prop) (hpq : ∀ i, p i → q i) : (g.view n p (fun _ => False)).Ext (g.sub q) where
  ok i hi := ⟨hi.1, hpq i hi.2⟩
  ρ _ _ := rfl
  ν _ _ := rfl
  fixed b m h := by
    refine ⟨h.1, ?_⟩
    have h2 := h.2
    have e : (g.view n p (fun _ => False)).μ b = g.μ b := if_neg id
    rw [e] at h2
    exact h2
  cell _ _ _ _ _ := rfl

/-- an operation that stands ready -/
theorem reg_step (st : Setup P M im d ntmps call ops ks g0 a0 Fs Ts vs) (inv : Inv M d ntmps ops.toList ks g0 a0 Fs Ts vs S g a) {i : Nat} (rd : Ready ops ks S i) (K : Act → World → Prop)
    (Q : Exit → Act → World → Prop) (hK : ∀ g' a', g.Le g' → Inv M d ntmps ops.toList ks g0 a0 Fs Ts vs (fun j => S j ∨ j = i) g' a' → K a' g'.w) : wpOp P ops Q i K a g.w := by
  obtain ⟨o, ho, hc⟩ := st.cmp i rd.lt
  unfold cmpO at hc
  simp only [Option.bind_eq_bind, Option.bind_eq_some_iff] at hc
  obtain ⟨op, hop, r, hr, q, hq, e⟩ := hc
  have e := Option.some.inj e
  have hd : cmpDst d ntmps o.dst = some (ks[i]'rd.lt).2.dst := by rw [← e]; exact hr
  have hgd : cmpGuard d ntmps ops o.guard = some (ks[i]'rd.lt).2.guard := by rw [← e]; exact hq
  have hopp : cmpOp P im d o.op = some (ks[i]'rd.lt).2.op := by rw [← e]; exact hop
  have mget : ∀ p, p ∈ aoNames (ks[i]'rd.lt).2 → (maskF (Fs i) (aoNames (ks[i]'rd.lt).2)).get p = (Fs i).get p := fun p hp => (maskF_get _ _ p).1 hp
  have hwm : wantedA (maskF (Fs i) (aoNames (ks[i]'rd.lt).2)) (ks[i]'rd.lt).2.guard = wantedA (Fs i) (ks[i]'rd.lt).2.guard := by
    unfold wantedA
    cases hgg : (ks[i]'rd.lt).2.guard with
    | none => rfl
    | some pw => simp only; rw [mget pw.1 (by simp [aoNames, hgg])]
  have hf0 := frame_ok st inv rd (Ts i).n (fun _ => False)
  unfold wpOp
  rw [ho]
  simp only
  obtain ⟨hF', hs | hs⟩ := st.step i rd.lt
  · obtain ⟨hw, t', hrun, hm⟩ := hs
    rw [wanted_fr hf0 inv.sz hgd (hwm.trans hw), if_pos rfl]
    refine .inl ?_
    have hrun' : (ks[i]'rd.lt).2.op.run call (maskF (Fs i) (aoNames (ks[i]'rd.lt).2)) (viewD (ks[i]'rd.lt).1 (Ts i)) = .ok (vs i) t' := by
      rw [← hrun]
      exact run_congr _ (fun p hp => mget p (by simp [aoNames, hp]))
    have memo : memK (ks[i]'rd.lt).1 = true → (ks[i]'rd.lt).1 = .load ∨ (∃ p q, (ks[i]'rd.lt).1 = .loadm p q) ∨ ∃ p q, (ks[i]'rd.lt).1 = .sto p q := by
      intro h
      cases hkk : (ks[i]'rd.lt).1 <;> rw [hkk] at h <;> first | exact .inl rfl | exact .inr (.inl ⟨_, _, rfl⟩) | exact .inr (.inr ⟨_, _, rfl⟩) | cases h
    by_cases hl : isLd (ks[i]'rd.lt).1 = true
    · have hkd : kindOf (ks[i]'rd.lt).2.op = some .load := by
        rcases st.kind i rd.lt with h | ⟨h, -⟩ | ⟨h, p, q, e⟩
        · cases hkk : (ks[i]'rd.lt).1 with
          | load => rw [h, hkk]
          | loadm p q =>
            rw [hkk] at h
            cases hop : (ks[i]'rd.lt).2.op <;> rw [hop] at h <;> simp [kindOf] at h
          | sto p q => rw [hkk] at hl; cases hl
          | pure => rw [hkk] at hl; cases hl
          | iso => rw [hkk] at hl; cases hl
        · exact h
        · rw [e] at hl; cases hl
      have hmem : memK (ks[i]'rd.lt).1 = true := by
        cases hkk : (ks[i]'rd.lt).1 <;> rw [hkk] at hl <;> first | rfl | cases hl
      obtain ⟨ty, x, y, h1, h2, h3⟩ := load_inv hopp hkd
      have same : ∀ {v' : Value}, VR M (g.view (Ts i).n (ancp ops.toList ks.length g0 Ts i) (fun _ => False)) (vs i) v' → (execOp a.eval o).run P g.w = .ok (.value v') g.w → o.wp P a g.w K Q := by
        intro v' r2 r1
        unfold Oper.wp
        rw [r1]
        exact hK g _ (.refl g) (inv_same st inv rd ((merge_facts hm).1 hl) (fun x => not_load_gets hl) hd (r2.ext (view_back g _ _ _ (fun id => ancp_sub id))))
      have hvw : (viewD (ks[i]'rd.lt).1 (Ts i)).vs = (Ts i).vs := by
        cases hkk : (ks[i]'rd.lt).1 <;> rw [hkk] at hl <;> first | rfl | cases hl
      have ymask : ∀ F0 : Fr, F0 = Fs i → (∀ p, p ∈ optP y → p ∈ aoNames (ks[i]'rd.lt).2) → y.get (maskF (Fs i) (aoNames (ks[i]'rd.lt).2)) = y.get (Fs i) :=
        fun F0 _ hy => optP_get (fun p hp => mget p (hy p hp))
      have key : (∀ p, p ∈ optP y → p ∈ aoNames (ks[i]'rd.lt).2) → (∀ y' off, y.get (Fs i) = .ptr y' off → (ks[i]'rd.lt).1 ≠ .load → gets (ks[i]'rd.lt) (Fs i) y' false) →
          (∃ cs, (viewD (ks[i]'rd.lt).1 (Ts i)).read (y.get (maskF (Fs i) (aoNames (ks[i]'rd.lt).2))) = some cs) →
          ∃ tv, SR M (g.view (Ts i).n (ancp ops.toList ks.length g0 Ts i) (fun _ => False)) tv ∧
            (viewD (ks[i]'rd.lt).1 (Ts i)).read (y.get (maskF (Fs i) (aoNames (ks[i]'rd.lt).2))) = tv.read (y.get (maskF (Fs i) (aoNames (ks[i]'rd.lt).2))) := by
        rintro hy hg ⟨cs, hcs⟩
        rw [ymask (Fs i) rfl hy] at hcs ⊢
        rcases read_ok' hcs with ⟨y', off, o', e1, e2⟩ | ⟨cs', e1⟩
        · rw [hvw] at e2
          refine ⟨⟨(Ts i).n, [[(y', o')]], [[]]⟩, one_sr st inv rd hmem (s := false) ?_ e2, ?_⟩
          · by_cases hp : (ks[i]'rd.lt).1 = .load
            · exact .inr hp
            · exact .inl (hg y' off e1 hp)
          · rw [e1]
            refine read_same (fun y'' off' e => ?_)
            cases e
            rw [hvw, e2, look_one]
        · refine ⟨_, none_sr st rd, ?_⟩
          rw [e1]
          exact read_same (fun y'' off' e => by cases e)
      have agets : (ks[i]'rd.lt).1 ≠ .load → ∃ p q, (ks[i]'rd.lt).1 = .loadm p q := by
        intro hne
        rcases memo hmem with h | h | ⟨p, q, h⟩
        · exact absurd h hne
        · exact h
        · rw [h] at hl; cases hl
      rcases h3 with ⟨h3, h4⟩ | ⟨s, h3, h4, h5⟩
      · rw [h3] at hrun'
        change opLd1 y call _ _ = _ at hrun'
        obtain ⟨tv, hsr, hrd⟩ := key (fun p hp => by rw [aoNames, h3]; exact List.mem_append_right _ hp) (fun y' off e hne => by
          obtain ⟨p, q, ek⟩ := agets hne
          exact ⟨hw, by simp [accX, ek, h3, accP, e]⟩) (by
          unfold opLd1 at hrun'
          split at hrun'
          · rename_i q; exact ⟨_, q⟩
          · cases hrun')
        obtain ⟨-, v', r1, r2⟩ := run_ld1 (call := call) st.him hf0 hsr h2 h4 h1 (ld1_at hrun' hrd)
        exact same r2 r1
      · rw [h3] at hrun'
        change opLdA s y call _ _ = _ at hrun'
        obtain ⟨tv, hsr, hrd⟩ := key (fun p hp => by rw [aoNames, h3]; exact List.mem_append_right _ hp) (fun y' off e hne => by
          obtain ⟨p, q, ek⟩ := agets hne
          exact ⟨hw, by simp [accX, ek, h3, accP, e]⟩) (by
          unfold opLdA at hrun'
          split at hrun'
          · rename_i q; exact ⟨_, q⟩
          · cases hrun')
        obtain ⟨-, v', r1, r2⟩ := run_ldA (call := call) st.him hf0 hsr h2 h4 h5 h1 (ldA_at hrun' hrd)
        exact same r2 r1
    by_cases hst : ∃ p q, (ks[i]'rd.lt).1 = .sto p q
    · obtain ⟨p, q, hk⟩ := hst
      obtain ⟨n, x, y, hop2⟩ := (st.kind i rd.lt).sto hk
      have hmem : memK (ks[i]'rd.lt).1 = true := by rw [hk]; rfl
      rw [hop2] at hopp
      obtain ⟨ty, x', y', s1, s2, s3, s4⟩ := store_inv hopp
      rw [hop2] at hrun'
      change opSt n x y call _ _ = _ at hrun'
      obtain ⟨px, off, cs, cs', e1, e2, e3, e4⟩ := st_run (call := call) hrun'
      have e2' : look2 px (Ts i).vs = some (.cells cs) := by rw [hk] at e2; exact e2
      have hxg : x.get (maskF (Fs i) (aoNames (ks[i]'rd.lt).2)) = x.get (Fs i) :=
        optP_get (fun p hp => mget p (by rw [aoNames, hop2]; exact List.mem_append_right _ (List.mem_append_left _ hp)))
      have hgets : gets (ks[i]'rd.lt) (Fs i) px true := ⟨hw, by rw [hxg] at e1; simp [accX, hk, hop2, accP, e1]⟩
      have hsr := one_sr st inv rd hmem (s := true) (.inl hgets) e2'
      have hone : opSt n x y call (maskF (Fs i) (aoNames (ks[i]'rd.lt).2)) ⟨(Ts i).n, [[(px, .cells cs)]], [[]]⟩ = .ok (vs i) ⟨(Ts i).n, upd2 px (.cells cs') [[(px, .cells cs)]], [[]]⟩ := by
        unfold opSt at hrun' ⊢
        rw [e1] at hrun' ⊢
        simp only at hrun' ⊢
        rw [e2] at hrun'
        rw [look_one]
        simp only at hrun' ⊢
        split at hrun'
        · injection hrun' with q1 q2
          rw [← q1]
          rw [e3] at q2
          injection q2 with q3 q4 q5
          have w1 : look2 px (upd2 px (.cells (putAt cs off (y.get (maskF (Fs i) (aoNames (ks[i]'rd.lt).2))).cells)) (viewD (ks[i]'rd.lt).1 (Ts i)).vs) = look2 px (upd2 px (.cells cs') (viewD (ks[i]'rd.lt).1 (Ts i)).vs) := by rw [q4]
          rw [look2_upd2, look2_upd2, if_pos rfl, if_pos rfl, e2] at w1
          have w2 : VObj.cells (putAt cs off (y.get (maskF (Fs i) (aoNames (ks[i]'rd.lt).2))).cells) = .cells cs' := Option.some.inj w1
          rw [w2]
        · cases hrun'
      obtain ⟨p2, off2, cs2, cs3, ob, f1, f2, f3, f4, f5, f6⟩ := run_st (call := call) st.him hf0 hsr s2 s3 s4 s1 hone
      have g1 : p2 = px := by rw [e1] at f1; cases f1; rfl
      subst g1
      have g2 : cs3 = cs' := by
        injection f3 with _ w _
        have w1 : look2 p2 (upd2 p2 (VObj.cells cs') [[(p2, VObj.cells cs)]]) = look2 p2 (upd2 p2 (VObj.cells cs3) [[(p2, VObj.cells cs)]]) := by rw [w]
        rw [look2_upd2, look2_upd2, if_pos rfl, if_pos rfl, look_one] at w1
        have w2 := Option.some.inj w1
        injection w2 with w3
        exact w3.symm
      subst g2
      have hT : Ts (i + 1) = ⟨(Ts i).n, upd2 p2 (.cells cs3) (Ts i).vs, (Ts i).is⟩ := by
        rw [(merge_facts hm).2.2.2 p q hk, e3, hk]
        rfl
      obtain ⟨l1, l2⟩ := inv_sto st inv rd hk hgets e2' hT f6 hd f4
      unfold Oper.wp
      rw [show (execOp a.eval o).run P g.w = _ from f5]
      exact hK (g.setVar (g.ν p2) ob) _ l1 l2
    · have hk : (ks[i]'rd.lt).1 = .pure ∨ (ks[i]'rd.lt).1 = .iso := by
        cases hkk : (ks[i]'rd.lt).1 with
        | pure => exact .inl rfl
        | iso => exact .inr rfl
        | load => rw [hkk] at hl; exact absurd rfl hl
        | loadm p q => rw [hkk] at hl; exact absurd rfl hl
        | sto p q => exact absurd ⟨p, q, hkk⟩ hst
      have hsr := view_sr st inv rd hk
      have hf := frame_ok st inv rd (Ts i).n (Bset ks g Ts i rd.lt)
      refine op_sound st.him st.hcall hf hsr hopp hrun' K Q (fun g' v' hle hv hs => ?_)
      obtain ⟨g'', e1, e2, e3⟩ := inv_go st inv rd hk hm hle hs hd hv
      rw [← e1]
      exact hK g'' _ e2 e3
  · obtain ⟨hw, hv, hT⟩ := hs
    rw [wanted_fr hf0 inv.sz hgd (hwm.trans hw), if_neg Bool.false_ne_true]
    exact hK g _ (.refl g) (inv_same st inv rd hT (fun x hx => by have := hx.1; rw [hw] at this; cases this) hd (by rw [hv]; exact undef_ok))

end

end M2
end
section
namespace M2
open Go
open Classical

section
variable {P : Program} {M : Maps} {im : FuncId → Option Nat} {d ntmps : Nat} {call : CallF} {ops : Array Oper} {ks : List (DK × AO)} {g0 g : G} {a0 a : Act} {Fs : Nat → Fr} {Ts : Nat → T} {vs : Nat → AV} {S : Nat → Prop}

theorem inv_start (st : Setup P M im d ntmps call ops ks g0 a0 Fs Ts vs) : Inv M d ntmps ops.toList ks g0 a0 Fs Ts vs (fun _ => False) g0 a0 := by
  refine ⟨.refl g0, rfl, fun i h => .inl h, st.fits.n, st.fits.d, fun _ _ _ => rfl, fun _ _ h => h.elim, fun x o hx => ⟨(st.fits.s.var x o hx).2.1, fun _ => rfl⟩, fun _ _ h => h.elim, fun _ _ _ h => h.elim, fun _ _ _ _ h => h.elim, ?_⟩
  refine ⟨0, by omega, fun j h hk => ⟨fun h => h.elim, fun h => by omega⟩, st.fits.s.wf.ik, .inl rfl, st.fits.s.wf.jn, fun i en e hl => ?_, st.fits.s.idinj⟩
  obtain ⟨h1, h2, h3⟩ := st.fits.s.ids i en e hl
  exact ⟨h1, .inl h1, h2, h3⟩

theorem inv_end (st : Setup P M im d ntmps call ops ks g0 a0 Fs Ts vs) (inv : Inv M d ntmps ops.toList ks g0 a0 Fs Ts vs S g a) (all : ∀ j, j < ks.length → S j) :
    ∃ g', g'.w = g.w ∧ g0.Le g' ∧ Fits M g' d ntmps (Fs ks.length) (Ts ks.length) a := by
  obtain ⟨m, h1, h2, h3, h4, h5, h6, h7⟩ := inv.ids
  have hn : ∀ i, i ≤ ks.length → (Ts i).n ≤ (Ts ks.length).n := fun i hi => n_mono st.step i _ hi (Nat.le_refl _)
  have his : (Ts ks.length).is = (Ts m).is := by
    have key : ∀ q, m ≤ q → q ≤ ks.length → (Ts q).is = (Ts m).is := by
      intro q
      induction q with
      | zero => intro h1 _; have : m = 0 := by omega
                rw [this]
      | succ q ih =>
        intro hq1 hq2
        by_cases e : m = q + 1
        · rw [e]
        · have hq : q < ks.length := by omega
          have hni : ks[q].1 ≠ .iso := by
            intro hiso
            have := (h2 q hq hiso).mp (all q hq)
            omega
          rw [(step_facts (st.step q hq)).2.2.1 hni]
          exact ih (by omega) (by omega)
    exact key _ h1 (Nat.le_refl _)
  obtain ⟨w1, w2⟩ := wf_vs st.step st.kind st.fits.s.wf ks.length (Nat.le_refl _)
  have hS : ∀ j, j < ks.length → j < ks.length → ∀ o, New Ts j o → S j := fun j _ hj _ _ => all j hj
  have hext : ∀ p, (g.sub p).Ext { g with n := (Ts ks.length).n } := fun p => ⟨fun _ h => h.1, fun _ _ => rfl, fun _ _ => rfl, fun _ _ h => h, fun _ _ _ _ _ => rfl⟩
  have hextg : g.Ext { g with n := (Ts ks.length).n } := ⟨fun _ h => h, fun _ _ => rfl, fun _ _ => rfl, fun _ _ h => h, fun _ _ _ _ _ => rfl⟩
  refine ⟨{ g with n := (Ts ks.length).n }, rfl, ?_, ⟨⟨?_, ?_⟩, ?_, inv.sz, inv.df⟩⟩
  · have le := inv.le
    have h0 : g0.n = (Ts 0).n := st.fits.s.n
    exact { n := by rw [h0]; exact hn 0 (by omega), ok := le.ok, new := le.new, ρ := le.ρ, ν := le.ν, size := le.size, lim := le.lim, oth := le.oth, os := le.os, tape := le.tape, output := le.output }
  · rw [inv.sz, ← st.fits.n]; exact st.fits.f.size
  · intro t ht
    rcases Fs_get st.step (pth d t) ks.length (Nat.le_refl _) with ⟨q1, q2⟩ | ⟨j, hj, q1, q2, q3, q4⟩
    · rw [q2, inv.tm t ht (fun j hj _ hd => q1 j hj hj hd)]
      exact ((st.fits.f.rel t ht).ext inv.le.ext).ext hextg
    · rw [q4]
      exact (inv.tw j hj (all j hj) t ht q2 (fun k hk _ hlt hd => q3 k hk hlt hk hd)).ext (hext _)
  · refine { n := rfl, wf := ⟨w1, w2, by rw [his]; exact h3, fun p hp => ?_⟩, okn := ?_, var := ?_, inj := ?_, ids := ?_, idinj := ?_ }
    · rw [his] at hp
      exact Nat.lt_of_lt_of_le (h5 p hp) (hn m h1)
    · intro i hi
      rcases inv.okr i hi with q | ⟨j, q1, -, q3⟩
      · exact Nat.lt_of_lt_of_le (st.fits.s.okn i q) (hn 0 (by omega))
      · exact Nat.lt_of_lt_of_le q3.2 (hn (j + 1) q1)
    · intro x o hx
      obtain ⟨v1, v2, -⟩ := var_orig st inv (Nat.le_refl _) hS hx
      obtain ⟨p, q, -⟩ := var_cont st inv (Nat.le_refl _) hS (fun k hk _ => all k hk) (fun k _ hw => hw.1) hx
      exact ⟨v1, v2, q.ext (hext _) rfl⟩
    · intro x y o o' hx hy he
      exact vars_inj st inv (Nat.le_refl _) (Nat.le_refl _) hS hS hx hy he
    · intro i en e hl
      rw [his] at hl
      obtain ⟨r1, -, r3⟩ := h6 i en e hl
      exact ⟨r1, r3⟩
    · intro x y p q hx hy he
      rw [his] at hx hy
      exact h7 x y p q hx hy he

/-! #### which may go first -/

def unl (l : Array Bool) : Nat := l.toList.countP (fun b => !b)

theorem unl_set {l : Array Bool} {i : Nat} (hi : i < l.size) (h : l.getD i true = false) : unl (l.setIfInBounds i true) + 1 = unl l := by
  unfold unl
  have e : (l.setIfInBounds i true).toList = l.toList.set i true := by simp
  have hg : l.toList[i]'(by simpa using hi) = false := by simpa [Array.getD, hi] using h
  rw [e, List.countP_set (by simpa using hi), hg]
  have : 0 < l.toList.countP (fun b => !b) := by
    rw [List.countP_pos_iff]
    exact ⟨false, by rw [← hg]; exact List.getElem_mem _, rfl⟩
  simp only [Bool.not_false, Bool.not_true, if_true, Bool.false_eq_true, if_false]
  omega

theorem unl_zero {l : Array Bool} (h : unl l = 0) {i : Nat} (hi : i < l.size) : l.getD i false = true := by
  unfold unl at h
  rw [List.countP_eq_zero] at h
  have := h l[i] (by simp)
  simpa [Array.getD, hi] using this

theorem getD_two {l : Array Bool} {i : Nat} (hi : i < l.size) (b : Bool) : l.getD i b = l[i] := by simp [Array.getD, hi]

theorem getD_set_iff {l : Array Bool} {i j : Nat} (hi : i < l.size) : (l.setIfInBounds i true).getD j false = true ↔ l.getD j false = true ∨ j = i := by
  by_cases h : i = j
  · subst h; simp [hi]
  · rw [getD_set_ne false h]
    constructor
    · exact .inl
    · rintro (q | rfl)
      · exact q
      · exact absurd rfl h

/-- an operation that stands ready has all that must come ahead of it behind it -/
theorem ready_facts {ops : Array Oper} {listed : Array Bool} (hsz : listed.size = ops.size) (down : ∀ j k, listed.getD j false = true → Anc ops.toList j k → listed.getD k false = true)
    {i : Nat} (hr : i ∈ Region.ready .any ops listed) : i < ops.size ∧ listed.getD i true = false ∧ listed.getD i false = false ∧ ∀ k, Anc ops.toList i k → listed.getD k false = true := by
  obtain ⟨h0, o, ho, hall⟩ := mem_ready.1 hr
  have hi : i < ops.size := (Array.getElem?_eq_some_iff.1 ho).1
  have hil : i < listed.size := by rw [hsz]; exact hi
  refine ⟨hi, h0, ?_, fun k hk => ?_⟩
  · rw [getD_two hil] at h0 ⊢; exact h0
  · have key : ∀ x k, Anc ops.toList x k → x = i → listed.getD k false = true := by
      intro x k h
      induction h with
      | edge x o' e ho' he hb =>
        intro hx
        subst hx
        have : ops[x]? = some o' := by simpa using ho'
        rw [ho] at this
        cases this
        exact hall e he hb
      | trans x j k h h' ih ih' =>
        intro hx
        exact down j k (ih hx) h'
    exact key i k hk rfl

theorem ready_first {ops : Array Oper} {listed : Array Bool} (hsz : listed.size = ops.size) (ancLt : ∀ i j, Anc ops.toList i j → j < i)
    (hr : Region.ready .any ops listed = []) : ∀ i, i < ops.size → listed.getD i false = true := by
  intro i
  induction i using Nat.strongRecOn with
  | _ i ih =>
    intro hi
    have hil : i < listed.size := by rw [hsz]; exact hi
    cases hg : listed.getD i false with
    | true => rfl
    | false =>
      exfalso
      have : i ∈ Region.ready .any ops listed := by
        rw [mem_ready]
        refine ⟨by rw [getD_two hil] at hg ⊢; exact hg, ops[i], by simp [hi], fun e he hb => ?_⟩
        have hlt : e.on < i := ancLt i e.on (.edge i ops[i] e (by simp [hi]) he hb)
        exact ih e.on hlt (by omega)
      rw [hr] at this
      cases this

end

end M2
end
section
namespace M2
open Go
open Classical

section
variable {P : Program} {M : Maps} {im : FuncId → Option Nat} {d ntmps : Nat} {call : CallF} {ops : Array Oper} {ks : List (DK × AO)} {g0 g : G} {a0 a : Act} {Fs : Nat → Fr} {Ts : Nat → T} {vs : Nat → AV} {S : Nat → Prop}

theorem drawW (him : ∀ f x, im f = some x → M.fm x = f) (hcall : CallOK P M call) {al : List AO} (hal : ops.toList.mapM (cmpO P im d ntmps ops) = some al)
    (ancLt : ∀ i j, Anc ops.toList i j → j < i) {r : Nat} (hW : ∀ w, r ≤ w → w < ops.size → ∀ j, j < w → Anc ops.toList w j) (Q : Exit → Act → World → Prop) :
    ∀ (fuel k : Nat) (listed : Array Bool) (g : G) (F : Fr) (t : T) (a : Act), r ≤ k → k ≤ ops.size → listed.size = ops.size → unl listed ≤ fuel →
      (∀ j, j < ops.size → (listed.getD j false = true ↔ j < k)) → Fits M g d ntmps F t a → Post M g d ntmps Q (runOps (al.drop k) call F t) → wpAny P .any ops Q fuel listed a g.w := by
  obtain ⟨hlen, hget⟩ := mapM_get _ _ _ hal
  have hlen' : al.length = ops.size := by simpa using hlen
  intro fuel
  induction fuel with
  | zero =>
    intro k listed g F t a hk hks hsz hu hl hf hp
    have hall : ∀ i, i < ops.size → listed.getD i false = true := fun i hi => unl_zero (by omega) (by omega)
    have hkk : k = ops.size := by
      rcases Nat.lt_or_ge k ops.size with h | h
      · have := (hl k h).mp (hall k h); omega
      · omega
    rw [hkk, List.drop_of_length_le (by omega)] at hp
    refine ⟨?_, hp g a (.refl g) hf⟩
    rw [List.eq_nil_iff_forall_not_mem]
    intro i hi
    obtain ⟨h0, o, ho, -⟩ := mem_ready.1 hi
    have hil : i < ops.size := (Array.getElem?_eq_some_iff.1 ho).1
    have := hall i hil
    rw [getD_two (by omega)] at h0 this
    rw [h0] at this
    cases this
  | succ fuel ih =>
    intro k listed g F t a hk hks hsz hu hl hf hp
    have down : ∀ j k', listed.getD j false = true → Anc ops.toList j k' → listed.getD k' false = true := by
      intro j k' hj hA
      have hlt := ancLt j k' hA
      have hjs : j < ops.size := by
        rcases Nat.lt_or_ge j ops.size with h | h
        · exact h
        · rw [show listed.getD j false = false by simp [Array.getD, show ¬ j < listed.size by omega]] at hj; cases hj
      have := (hl j hjs).mp hj
      exact (hl k' (by omega)).mpr (by omega)
    constructor
    · intro hr
      have hall := ready_first hsz ancLt hr
      have hkk : k = ops.size := by
        rcases Nat.lt_or_ge k ops.size with h | h
        · have := (hl k h).mp (hall k h); omega
        · omega
      rw [hkk, List.drop_of_length_le (by omega)] at hp
      exact hp g a (.refl g) hf
    · intro i hi
      obtain ⟨hil, h0, hnot, hanc⟩ := ready_facts hsz down hi
      have hge : ¬ i < k := fun h => by rw [(hl i hil).mpr h] at hnot; cases hnot
      have hik : i = k := by
        rcases Nat.lt_trichotomy i k with h | h | h
        · exact absurd h hge
        · exact h
        · have := hanc k (hW i (by omega) hil k h)
          have := (hl k (by omega)).mp this
          omega
      subst hik
      have hia : i < al.length := by omega
      have hx := hget i (by simpa using hil) hia
      rw [List.drop_eq_getElem_cons hia] at hp
      have hrun : runOps (al[i] :: al.drop (i + 1)) call F t = opsCons al[i] (al.drop (i + 1)) (fun call F t => runOps (al.drop (i + 1)) call F t) call F t := rfl
      rw [hrun] at hp
      have ho : ops[i]? = some ops[i] := by simp [hil]
      have hx' : cmpO P im d ntmps ops ops[i] = some al[i] := by simpa using hx
      unfold cmpO at hx'
      simp only [Option.bind_eq_bind, Option.bind_eq_some_iff] at hx'
      obtain ⟨op, hop, rr, hr, q, hq, e⟩ := hx'
      have e := Option.some.inj e
      rw [← e] at hp
      have again : ∀ g' F' t' a', g.Le g' → Fits M g' d ntmps F' t' a' → Post M g' d ntmps Q (runOps (al.drop (i + 1)) call F' t') → wpAny P .any ops Q fuel (listed.setIfInBounds i true) a' g'.w := by
        intro g' F' t' a' hle hf' hp'
        refine ih (i + 1) _ g' F' t' a' (by omega) (by omega) (by simpa using hsz) ?_ ?_ hf' hp'
        · have := unl_set (l := listed) (i := i) (by omega) h0
          omega
        · intro j hj
          rw [getD_set_iff (by omega), hl j hj]
          omega
      unfold wpOp
      rw [ho]
      simp only
      unfold opsCons at hp
      simp only at hp
      cases hw : wantedA F q with
      | none => rw [hw] at hp; exact hp.elim
      | some b =>
        rw [hw] at hp
        rw [wanted_ok hf hq hw]
        cases b with
        | true =>
          simp only [if_true]
          cases hres : op.run call F t with
          | fail => rw [hres] at hp; exact hp.elim
          | ok v t1 =>
            simp only [hres] at hp
            refine .inl (op_sound him hcall hf.f hf.s hop hres _ _ (fun g' v' hle hv hs => ?_))
            exact again g' _ t1 _ hle (put_fits ⟨hf.f.mono hle, hs, hf.n, hf.d⟩ hr hv) (hp.later hle)
        | false =>
          simp only [Bool.false_eq_true, if_false]
          exact again g _ t _ (.refl g) (put_fits hf hr undef_ok) hp

theorem drawR (st : Setup P M im d ntmps call ops ks g0 a0 Fs Ts vs) {al : List AO} (hal : ops.toList.mapM (cmpO P im d ntmps ops) = some al) (hks : ks.length ≤ ops.size)
    (hW : ∀ w, ks.length ≤ w → w < ops.size → ∀ j, j < w → Anc ops.toList w j) (Q : Exit → Act → World → Prop)
    (hp : Post M g0 d ntmps Q (runOps (al.drop ks.length) call (Fs ks.length) (Ts ks.length))) :
    ∀ (fuel : Nat) (listed : Array Bool) (g : G) (a : Act), listed.size = ops.size → unl listed ≤ fuel →
      (∀ j k, listed.getD j false = true → Anc ops.toList j k → listed.getD k false = true) → (∀ j, ks.length ≤ j → listed.getD j false = false) →
      Inv M d ntmps ops.toList ks g0 a0 Fs Ts vs (fun j => listed.getD j false = true) g a → wpAny P .any ops Q fuel listed a g.w := by
  intro fuel
  induction fuel with
  | zero =>
    intro listed g a hsz hu down hhi inv
    obtain ⟨g', e1, e2, e3⟩ := inv_end st inv (fun j hj => unl_zero (by omega) (by omega))
    rw [← e1]
    refine drawW st.him st.hcall hal st.ancLt hW Q 0 ks.length listed g' _ _ a (Nat.le_refl _) hks hsz hu (fun j hj => ?_) e3 (hp.later e2)
    constructor
    · intro h
      rcases Nat.lt_or_ge j ks.length with q | q
      · exact q
      · rw [hhi j q] at h; cases h
    · intro h
      exact unl_zero (by omega) (by omega)
  | succ fuel ih =>
    intro listed g a hsz hu down hhi inv
    by_cases hall : ∀ j, j < ks.length → listed.getD j false = true
    · obtain ⟨g', e1, e2, e3⟩ := inv_end st inv hall
      rw [← e1]
      refine drawW st.him st.hcall hal st.ancLt hW Q _ ks.length listed g' _ _ a (Nat.le_refl _) hks hsz hu (fun j hj => ?_) e3 (hp.later e2)
      constructor
      · intro h
        rcases Nat.lt_or_ge j ks.length with q | q
        · exact q
        · rw [hhi j q] at h; cases h
      · exact hall j
    · have hex : ∃ j, j < ks.length ∧ listed.getD j false ≠ true := by
        refine Classical.byContradiction fun hno => hall fun j hj => Classical.byContradiction fun hj2 => hno ⟨j, hj, hj2⟩
      obtain ⟨j0, hj0, hj1⟩ := hex
      constructor
      · intro hr
        exact absurd (ready_first hsz st.ancLt hr j0 (by omega)) hj1
      · intro i hi
        obtain ⟨hil, h0, hnot, hanc⟩ := ready_facts hsz down hi
        have hik : i < ks.length := by
          rcases Nat.lt_or_ge i ks.length with q | q
          · exact q
          · exact absurd (hanc j0 (hW i q hil j0 (by omega))) hj1
        have rd : Ready ops ks (fun j => listed.getD j false = true) i := ⟨hik, by simp only [hnot]; exact Bool.false_ne_true, down, hanc⟩
        refine reg_step st inv rd _ Q (fun g' a' hle inv' => ?_)
        have hil' : i < listed.size := by omega
        refine ih _ g' a' (by simpa using hsz) ?_ ?_ ?_ ?_
        · have := unl_set hil' h0
          omega
        · intro j k hj hA
          rw [getD_set_iff hil'] at hj ⊢
          rcases hj with hj | rfl
          · exact .inl (down j k hj hA)
          · exact .inl (hanc k hA)
        · intro j hj
          rw [getD_set_ne false (by omega)]
          exact hhi j hj
        · have : (fun j => (listed.setIfInBounds i true).getD j false = true) = fun j => listed.getD j false = true ∨ j = i := by
            funext j
            exact propext (getD_set_iff hil')
          rw [this]
          exact inv'

theorem all_zip {α : Type} {l : List α} {p : α × Nat → Bool} (h : l.zipIdx.all p = true) (i : Nat) (hi : i < l.length) : p (l[i], i) = true := by
  rw [List.all_eq_true] at h
  exact h (l[i], i) (by rw [List.mem_zipIdx_iff_getElem?]; simp [hi])

theorem kindAt_ok {ms : List Nat} {st : Bool} {i : Nat} {o : AOp} {k : DK} {q : AO} (hq : q.op = o) (h : kindAt ms st i o = some k) :
    KindOK (k, q) ∧ (∀ a b, (k = .loadm a b ∨ k = .sto a b) → a = i ∧ b = ms.getD i 0) ∧ (k = .load → st = false) ∧ (∀ a b, k = .sto a b → isSt o = true) := by
  subst hq
  unfold kindAt at h
  split at h
  · rename_i hop
    cases h
    exact ⟨.inr (.inr ⟨by simp [hop, isSt], _, _, rfl⟩), by simp, by simp, fun _ _ _ => by rw [hop]; rfl⟩
  · rename_i hop
    cases st <;> cases h
    · exact ⟨.inl (by simp [hop, kindOf]), by simp, by simp, by simp⟩
    · exact ⟨.inr (.inl ⟨by simp [hop, kindOf], _, _, rfl⟩), by simp, by simp, by simp⟩
  · rename_i hop
    cases st <;> cases h
    · exact ⟨.inl (by simp [hop, kindOf]), by simp, by simp, by simp⟩
    · exact ⟨.inr (.inl ⟨by simp [hop, kindOf], _, _, rfl⟩), by simp, by simp, by simp⟩
  · rename_i n1 n2 n3
    have : k = .pure ∨ k = .iso := by
      cases hop : q.op <;> rw [hop] at h <;> simp [kindOf] at h <;> first | exact .inl h.symm | exact .inr h.symm | exact absurd hop (n2 _) | exact absurd hop (n3 _ _)
    refine ⟨.inl h, ?_, ?_, ?_⟩ <;> rcases this with rfl | rfl <;> simp

theorem gets_place {ka : DK × AO} {F : Fr} {x : Nat} {s : Bool} (h : gets ka F x s) : ∃ a b, ka.1 = .loadm a b ∨ ka.1 = .sto a b := by
  have hx := h.2
  unfold accX at hx
  split at hx
  · rename_i i m e; exact ⟨i, m, .inl e⟩
  · rename_i i m e; exact ⟨i, m, .inr e⟩
  · cases hx

theorem cmpD_facts {ops : Array Oper} {ac : Cd} (hc : cmpD P im d ntmps ops = some ac) : ∃ al ks, ops.toList.mapM (cmpO P im d ntmps ops) = some al ∧ ac = .regd ks (al.drop ks.length) ∧ ks.length ≤ ops.size ∧
    (∀ i j, Anc ops.toList i j → j < i) ∧ (∀ w, ks.length ≤ w → w < ops.size → ∀ j, j < w → Anc ops.toList w j) ∧
    (∀ i (h : i < ks.length), ∃ o, ops[i]? = some o ∧ cmpO P im d ntmps ops o = some ks[i].2) ∧ (∀ i (h : i < ks.length), KindOK ks[i]) ∧
    (∀ i j (hi : i < ks.length) (hj : j < ks.length), j < i → ks[i].1 = .iso → ks[j].1 = .iso → Anc ops.toList i j) ∧
    (∀ i j (hi : i < ks.length) (hj : j < ks.length), j < i → memK ks[i].1 = true → makesVar ks[j].2.op = true → Anc ops.toList i j) ∧
    (∀ i j (hi : i < ks.length) (hj : j < ks.length), i ≠ j → ∀ p, p ∈ aoNames ks[i].2 → ks[j].2.dst = some p → (j < i → Anc ops.toList i j) ∧ (i < j → Anc ops.toList j i)) ∧
    (∀ Fs, LogOK ks Fs → ∀ i j (hi : i < ks.length) (hj : j < ks.length), j < i → ∀ x s s', gets ks[i] (Fs i) x s → gets ks[j] (Fs j) x s' → (s || s') = true → Anc ops.toList i j) ∧
    (∀ i j (hi : i < ks.length) (hj : j < ks.length), ks[i].1 = .load → ∀ p q, ks[j].1 ≠ .sto p q) := by
  unfold cmpD at hc
  simp only [Option.bind_eq_bind, Option.bind_eq_some_iff] at hc
  obtain ⟨al, hal, r, hr, ks, hks, e⟩ := hc
  split at e
  · rename_i hok
    simp only [Bool.and_eq_true, beq_iff_eq] at hok
    obtain ⟨hok, hlen⟩ := hok
    subst hlen
    have e := Option.some.inj e
    obtain ⟨l1, g1⟩ := mapM_get _ _ _ hal
    obtain ⟨l2, g2⟩ := mapM_get _ _ _ hks
    have l1' : al.length = ops.size := by simpa using l1
    have hle : ks.length ≤ ops.size := by
      rw [List.length_zipIdx, List.length_take] at l2
      omega
    unfold drawOK at hok
    simp only [Bool.and_eq_true] at hok
    obtain ⟨⟨o1, o2⟩, o3⟩ := hok
    have hk : ∀ i (h : i < ks.length), kindAt (masks ops.toList) ((al.take ks.length).any fun a => isSt a.op) i ks[i].2.op = some ks[i].1 ∧ ∃ h' : i < al.length, ks[i].2 = al[i] := by
      intro i h
      have h' : i < al.length := by omega
      have hh : i < ((al.take ks.length).zipIdx).length := by rw [List.length_zipIdx, List.length_take]; omega
      have := g2 i hh h
      rw [Option.map_eq_some_iff] at this
      obtain ⟨k, hk1, hk2⟩ := this
      rw [List.getElem_zipIdx] at hk1 hk2
      simp only [Nat.zero_add, List.getElem_take] at hk1 hk2
      rw [← hk2]
      exact ⟨hk1, h', rfl⟩
    have hko := fun i h => kindAt_ok (q := ks[i].2) rfl (hk i h).1
    have bits : ∀ i j (hi : i < ks.length) (hj : j < ks.length),
        (!(decide (j < i)) || (!(ks[i].1 == .iso && ks[j].1 == .iso) || bit (masks ops.toList) i j) && (!(memK ks[i].1 && makesVar ks[j].2.op) || bit (masks ops.toList) i j)) = true ∧
        (i == j || !((aoNames ks[i].2).any fun p => ks[j].2.dst == some p) || (!(decide (j < i)) || bit (masks ops.toList) i j) && (!(decide (i < j)) || bit (masks ops.toList) j i)) = true := by
      intro i j hi hj
      have h1 := all_zip o3 i hi
      have h2 := all_zip h1 j hj
      simp only [Bool.and_eq_true] at h2 ⊢
      exact h2
    refine ⟨al, ks, hal, e.symm, hle, ?_, ?_, ?_, fun i h => (hko i h).1, ?_, ?_, ?_, ?_, ?_⟩
    · intro i j h
      induction h with
      | edge i o e ho he hb =>
        have hi : i < ops.toList.length := (List.getElem?_eq_some_iff.1 ho).1
        have hoe : ops.toList[i] = o := (List.getElem?_eq_some_iff.1 ho).2
        have := all_zip o1 i hi
        simp only [hoe, List.all_eq_true] at this
        have := this e (by simpa using he)
        simpa [hb] using this
      | trans i j k h h' ih ih' => omega
    · intro w hw hws j hj
      rw [List.all_eq_true] at o2
      have := o2 w (by simpa using hws)
      simp only [Bool.or_eq_true, decide_eq_true_eq, List.all_eq_true] at this
      rcases this with h | h
      · omega
      · exact masks_spec _ _ _ (h j (by simpa using hj))
    · intro i h
      obtain ⟨-, h', he⟩ := hk i h
      have hi : i < ops.size := by omega
      refine ⟨ops[i], by simp [hi], ?_⟩
      rw [he]
      have := g1 i (by simpa using hi) h'
      simpa using this
    · intro i j hi hj hlt h1 h2
      have := (bits i j hi hj).1
      simp [hlt, h1, h2] at this
      exact masks_spec _ _ _ this.1
    · intro i j hi hj hlt h1 h2
      have := (bits i j hi hj).1
      simp [hlt, h1, h2] at this
      exact masks_spec _ _ _ this.2
    · intro i j hi hj hne p hp hd
      have := (bits i j hi hj).2
      have hany : ((aoNames ks[i].2).any fun p => ks[j].2.dst == some p) = true := by
        rw [List.any_eq_true]
        exact ⟨p, hp, by simp [hd]⟩
      rw [hany] at this
      simp only [Bool.or_eq_true, Bool.and_eq_true, beq_iff_eq, hne, Bool.not_true, Bool.false_eq_true, or_self, false_or, Bool.not_eq_true', decide_eq_false_iff_not] at this
      exact ⟨fun h => masks_spec _ _ _ (this.1.resolve_left (fun q => q h)), fun h => masks_spec _ _ _ (this.2.resolve_left (fun q => q h))⟩
    · intro Fs hlog i j hi hj hlt x s s' hgi hgj hss
      have hb := hlog i j hi hj hlt x s s' hgi hgj hss
      obtain ⟨a, b, ha⟩ := gets_place hgi
      obtain ⟨c, d, hc⟩ := gets_place hgj
      obtain ⟨e1, e2⟩ := (hko i hi).2.1 a b ha
      obtain ⟨e3, -⟩ := (hko j hj).2.1 c d hc
      have p1 : ks[i].1.place.2 = (masks ops.toList).getD i 0 := by rcases ha with ha | ha <;> rw [ha] <;> exact e2
      have p2 : ks[j].1.place.1 = j := by rcases hc with hc | hc <;> rw [hc] <;> exact e3
      rw [p1, p2] at hb
      exact masks_spec _ _ _ hb
    · intro i j hi hj hl p q hs
      have h1 := (hko i hi).2.2.1 hl
      have h2 := (hko j hj).2.2.2 p q hs
      have h3 : ((al.take ks.length).any fun a => isSt a.op) = true := by
        rw [List.any_eq_true]
        obtain ⟨-, hj', e⟩ := hk j hj
        refine ⟨al[j], ?_, by rw [← e]; exact h2⟩
        rw [List.mem_iff_getElem]
        exact ⟨j, by rw [List.length_take]; omega, by rw [List.getElem_take]⟩
      rw [h1] at h3
      cases h3
  · contradiction

theorem draw_sound (hmix : P.follows .mixedOrders = true) (him : ∀ f x, im f = some x → M.fm x = f) (hcall : CallOK P M call) (ops : Array Oper) (ac : Cd) (hc : cmpD P im d ntmps ops = some ac)
    (g : G) (F : Fr) (t : T) (a : Act) (Q : Exit → Act → World → Prop) (id : Nat) (hf : Fits M g d ntmps F t a)
    (hp : ∀ ks ws, ac = .regd ks ws → Post M g d ntmps Q (runD ks ws call F t [])) : (Code.region id ops true).wp P Q a g.w := by
  obtain ⟨al, ks, hal, rfl, hle, ancLt, hW, hcmp, hkind, oI, oL, oT, oX, oP⟩ := cmpD_facts hc
  have hp := hp ks _ rfl
  have hne : runD ks (al.drop ks.length) call F t [] ≠ .fail := fun h => by rw [h] at hp; exact hp
  obtain ⟨Fs, Ts, vs, h1, h2, h3, h4, h5, -⟩ := runD_trace _ call ks F t [] hne
  rw [h4] at hp
  have st : Setup P M im d ntmps call ops ks g.drew a Fs Ts vs :=
    ⟨him, hcall, hcmp, ancLt, hkind, by rw [h1, h2]; exact ⟨hf.f.mono g.le_drew, hf.s.drew, hf.n, hf.d⟩, h3, oI, oL, oT, oX Fs h5, oP⟩
  refine wp_region_any hmix ?_
  have hz : ∀ j, (Array.replicate ops.size false).getD j false = false := by
    intro j
    by_cases h : j < ops.size <;> simp [Array.getD, h]
  refine drawR st hal hle hW Q (hp.later g.le_drew) ops.size (Array.replicate ops.size false) g.drew a (by simp) ?_ ?_ ?_ ?_
  · unfold unl
    refine Nat.le_trans List.countP_le_length ?_
    simp
  · intro j k h
    rw [hz j] at h
    cases h
  · intro j _
    exact hz j
  · have : (fun j => (Array.replicate ops.size false).getD j false = true) = fun _ => False := by
      funext j
      rw [hz j]
      simp
    rw [this]
    exact inv_start st

end

end M2
end
section
namespace M2
open Go

section
variable {P : Program} {M : Maps} {im : FuncId → Option Nat} {d ntmps : Nat} {call : CallF}

theorem ev_succ (tbl : Nat → Option AFunc) (n : Nat) : ev tbl (n + 1) = evS tbl n (ev tbl n) := rfl

theorem code_sound (hmix : P.follows .mixedOrders = true) (him : ∀ f x, im f = some x → M.fm x = f) (tbl : Nat → Option AFunc) : ∀ n, (∀ m, m < n → CallOK P M (callA tbl (ev tbl m))) → CodeOK P M im (ev tbl n) := by
  intro n
  induction n using Nat.strongRecOn with
  | _ n ih =>
  cases n with
  | zero => intro _ d ntmps c ac hc g F t a Q hf hp; exact hp.elim
  | succ n =>
    intro hcall d ntmps c ac hc g F t a Q hf hp
    have ihs : ∀ m, m < n + 1 → CodeOK P M im (ev tbl m) := fun m hm => ih m hm (fun k hk => hcall k (by omega))
    have ihn := ihs n (by omega)
    have hcn := hcall n (by omega)
    cases c with
    | skip =>
      cases hc
      exact wp_skip (hp g a (.refl g) hf)
    | region id ops draw =>
      simp only [cmpC] at hc
      split at hc
      · rename_i hd
        subst hd
        exact draw_sound hmix him hcn ops ac hc g F t a Q id hf (fun ks ws e => by subst e; exact hp)
      · rename_i hd
        rw [Option.map_eq_some_iff] at hc
        obtain ⟨al, hal, rfl⟩ := hc
        have : draw = false := by simpa using hd
        subst this
        exact wp_region_list (ops_sound him hcn ops Q ops.toList al hal g F t a hf hp)
    | seq x y =>
      simp only [cmpC, Option.bind_eq_bind, Option.bind_eq_some_iff] at hc
      obtain ⟨x', hx, y', hy, e⟩ := hc
      cases e
      have hp' : Post M g d ntmps Q (RR.rec (motive := fun _ => RR) .fail (ev tbl n y') RR.exit RR.ret (ev tbl n x' F t)) := hp
      refine wp_seq (ihn d ntmps x x' hx g F t a _ hf ?_)
      cases hr : ev tbl n x' F t with
      | fail => rw [hr] at hp'; exact hp'
      | norm F1 t1 =>
        rw [hr] at hp'
        intro g' a' hle hf'
        exact ihn d ntmps y y' hy g' F1 t1 a' Q hf' (hp'.later hle)
      | exit id F1 t1 => rw [hr] at hp'; exact hp'
      | ret F1 t1 => rw [hr] at hp'; exact hp'
    | cond c x y =>
      simp only [cmpC, Option.bind_eq_bind, Option.bind_eq_some_iff] at hc
      obtain ⟨c', hc', x', hx, y', hy, e⟩ := hc
      cases e
      have vc := opd_ok him hf.f hc'
      have hp' : Post M g d ntmps Q (cCond c' x' y' (fun _ _ _ _ => .fail) (fun _ _ _ _ => .fail) tbl (ev tbl n) F t) := hp
      unfold cCond at hp'
      split at hp'
      · rename_i b hb
        rw [hb] at vc
        generalize hcv : a.eval c = cv at vc
        cases vc
        cases b with
        | true => exact wp_cond_true hcv (ihn d ntmps x x' hx g F t a Q hf hp')
        | false => exact wp_cond_false hcv (ihn d ntmps y y' hy g F t a Q hf hp')
      · exact hp'.elim
    | block id b =>
      simp only [cmpC, Option.bind_eq_bind, Option.bind_eq_some_iff] at hc
      obtain ⟨b', hb, e⟩ := hc
      cases e
      have hp' : Post M g d ntmps Q (RR.rec (motive := fun _ => RR) .fail RR.norm (fun i f t => Bool.rec (motive := fun _ => RR) (.exit i f t) (.norm f t) (Nat.beq i id)) RR.ret (ev tbl n b' F t)) := hp
      refine wp_block (ihn d ntmps b b' hb g F t a _ hf ?_)
      cases hr : ev tbl n b' F t with
      | fail => rw [hr] at hp'; exact hp'
      | norm F1 t1 => rw [hr] at hp'; exact hp'
      | exit i F1 t1 =>
        rw [hr] at hp'
        change Post M g d ntmps Q (Bool.rec (motive := fun _ => RR) (.exit i F1 t1) (.norm F1 t1) (Nat.beq i id)) at hp'
        intro g' a' hle hf'
        unfold Exit.inBlock
        by_cases hi : i = id
        · simp only [hi, if_true]
          rw [show Nat.beq i id = true from beq_true hi] at hp'
          exact hp' g' a' hle hf'
        · simp only [hi, if_false]
          rw [show Nat.beq i id = false from beq_false hi] at hp'
          exact hp' g' a' hle hf'
      | ret F1 t1 => rw [hr] at hp'; exact hp'
    | loop b =>
      simp only [cmpC, Option.bind_eq_bind, Option.bind_eq_some_iff] at hc
      obtain ⟨b', hb, e⟩ := hc
      cases e
      refine wp_loop_n (fun m a w => m ≤ n + 1 ∧ ∃ g' F' t', g'.w = w ∧ Fits M g' d ntmps F' t' a ∧ Post M g' d ntmps Q (ev tbl m (.loop b') F' t')) ?_ (n + 1) a g.w
        ⟨Nat.le_refl _, g, F, t, rfl, hf, hp⟩
      rintro m a1 w1 ⟨hm, g1, F1, t1, rfl, hf1, hp1⟩
      cases m with
      | zero => exact hp1.elim
      | succ m =>
        have hp1' : Post M g1 d ntmps Q (RR.rec (motive := fun _ => RR) .fail (ev tbl m (.loop b')) RR.exit RR.ret (ev tbl m b' F1 t1)) := hp1
        refine ihs m (by omega) d ntmps b b' hb g1 F1 t1 a1 _ hf1 ?_
        cases hr : ev tbl m b' F1 t1 with
        | fail => rw [hr] at hp1'; exact hp1'
        | norm F2 t2 =>
          rw [hr] at hp1'
          intro g' a' hle hf'
          exact ⟨m, by omega, by omega, g', F2, t2, rfl, hf', hp1'.later hle⟩
        | exit id F2 t2 => rw [hr] at hp1'; exact hp1'
        | ret F2 t2 => rw [hr] at hp1'; exact hp1'
    | exit id =>
      cases hc
      exact wp_exit (hp g a (.refl g) hf)
    | ret =>
      cases hc
      exact wp_ret (hp g a (.refl g) hf)
    | rangeFunc f ps as b => simp [cmpC] at hc
    | scope b => simp [cmpC] at hc
    | label l => simp [cmpC] at hc
    | goto l => simp [cmpC] at hc
    | refuse w => simp [cmpC] at hc

end

end M2
end
section
namespace M2
open Go

/-- our functions stand for the program's -/
def Table (P : Program) (M : Maps) (im : FuncId → Option Nat) (tbl : Nat → Option AFunc) : Prop :=
  ∀ f fn, tbl f = some fn → ∃ gf, P.funcs[M.fm f]? = some gf ∧ cmpF P im fn.depth fn.keep gf = some fn

section
variable {P : Program} {M : Maps} {im : FuncId → Option Nat} {d ntmps : Nat}

theorem argsIn_ok : ∀ (ps : List Bits) (vs : List AV) (f0 f : Fr), argsIn ps vs f0 = some f → ps.Nodup → ps.length = vs.length ∧
    ∀ q, f.get q = match ps.idxOf? q with | some i => vs.getD i .und | none => f0.get q := by
  intro ps
  induction ps with
  | nil =>
    intro vs f0 f h _
    cases vs with
    | nil => cases h; exact ⟨rfl, fun q => rfl⟩
    | cons v vs => simp [argsIn] at h
  | cons p ps ih =>
    intro vs f0 f h hn
    cases vs with
    | nil => simp [argsIn] at h
    | cons v vs =>
      rw [List.nodup_cons] at hn
      obtain ⟨h1, h2⟩ := ih vs _ f h hn.2
      refine ⟨by simp [h1], fun q => ?_⟩
      rw [h2 q]
      by_cases hpq : p = q
      · subst hpq
        have : ps.idxOf? p = none := List.idxOf?_eq_none_iff.mpr hn.1
        rw [this]
        simp [List.idxOf?_cons, Fr.get_put]
      · rw [List.idxOf?_cons, if_neg (by simpa using hpq)]
        cases hq : ps.idxOf? q with
        | none => simp [Fr.get_put, hpq]
        | some i => simp

theorem idx_pth {d n t : Nat} (hn : n ≤ 2 ^ d) (ht : t < 2 ^ d) : ((List.range n).map (pth d)).idxOf? (pth d t) = if t < n then some t else none := by
  by_cases h : t < n
  · rw [if_pos h]
    rw [List.idxOf?_eq_some_iff]
    refine ⟨by simpa using h, by simp, fun j hj => ?_⟩
    simp only [List.getElem_map, List.getElem_range]
    intro e
    have := pth_inj d j t (by omega) ht (by simpa using e)
    omega
  · rw [if_neg h, List.idxOf?_eq_none_iff]
    intro hm
    obtain ⟨j, hj, e⟩ := List.mem_map.mp hm
    have hj' : j < n := by simpa using hj
    have := pth_inj d j t (by omega) ht e
    omega

theorem enter_flat {α : Type} (l : List (List (Nat × α))) : (([] : List (Nat × α)) :: l).flatten = l.flatten := rfl

theorem SR.enter {g : G} {t : T} (h : SR M g t) : SR M g t.enter := h.fewer rfl (List.Sublist.refl _) (List.Sublist.refl _)

theorem leaveVs_sub (keep : Bool) (l : List VScope) : (leaveVs keep l).flatten.Sublist l.flatten := by
  unfold leaveVs
  split
  · cases keep
    · simp
    · simp
  · exact List.Sublist.refl _

theorem leaveIs_sub (r : AV) (l : List IScope) : (leaveIs r l).flatten.Sublist l.flatten := by
  unfold leaveIs
  split
  · simp only [List.flatten_cons, List.append_assoc]
    exact List.Sublist.append List.filter_sublist (List.Sublist.refl _)
  · exact List.Sublist.refl _

theorem SR.leave {g : G} {t : T} (h : SR M g t) (keep : Bool) (r : AV) : SR M g (t.leave keep r) := h.fewer rfl (leaveVs_sub _ _) (leaveIs_sub _ _)

/-- what a function hands back in one place -/
def resV (tmps : Array Value) (rv : ResultVar) : Sem Value :=
  match rv with
  | .tmp t => pure (tmps.getD t undef)
  | .cell a t => do loadVar t (← asAddr (tmps.getD a undef))

theorem results_eq (fn : Func) (tmps : Array Value) : results fn tmps = (do
    let vs ← fn.results.mapM (resV tmps)
    pure (if h : vs.size = 1 then vs[0] else .tuple vs)) := by
  unfold results
  congr 1

theorem result_ok {g : G} {F : Fr} {t : T} {a : Act} (hf : Fits M g d ntmps F t a) {rv : ResultVar} {r : Bits × Option (Nat × Bool)} (hc : cmpRes P d rv = some r) {v : AV} (hr : resultOf F t r = some v) :
    ∃ v', (resV a.tmps rv).run P g.w = .ok v' g.w ∧ VR M g v v' := by
  cases rv with
  | tmp u =>
    simp only [cmpRes] at hc
    split at hc
    · rename_i h
      cases hc
      cases hr
      exact ⟨_, rfl, hf.f.rel u h⟩
    · contradiction
  | cell u ty =>
    simp only [cmpRes] at hc
    split at hc
    · rename_i h
      simp only [Option.bind_eq_bind, Option.bind_eq_some_iff] at hc
      obtain ⟨s, hs, ag, ha, e⟩ := hc
      cases e
      obtain ⟨i, hi, rfl⟩ := sizeT_ok hs
      have hv := hf.f.rel u h
      unfold resultOf at hr
      simp only at hr
      split at hr
      · rename_i cs hread
        cases ag with
        | true =>
          simp only at hr
          cases hb : Nat.ble i.size cs.length with
          | false => rw [hb] at hr; cases hr
          | true =>
            rw [hb] at hr
            cases hr
            have hle := Nat.le_of_ble_eq_true hb
            by_cases hne : cs = []
            · subst hne
              have h0 : i.size = 0 := by simpa using hle
              have : ∃ b off, a.tmps.getD u undef = .pointer (some ⟨b, off, none⟩) := by
                unfold T.read at hread
                split at hread
                · rename_i hy; rw [hy] at hv; generalize a.tmps.getD u undef = cv at hv; cases hv; exact ⟨_, _, rfl⟩
                · rename_i hy; rw [hy] at hv; generalize a.tmps.getD u undef = cv at hv; cases hv; exact ⟨_, _, rfl⟩
                · contradiction
              obtain ⟨b, off, hp⟩ := this
              refine ⟨.agg #[], ?_, by rw [List.take_nil]; exact .agg [] #[] rfl (fun i h => absurd h (by simp))⟩
              simp [resV, hp, asAddr, loadVar, run_isAgg ha, run_sizeOf hi, h0, loadCells, loadCellsFrom]
            · obtain ⟨b, off, hp, f, hff⟩ := read_ok hf.s hread hv hne
              refine ⟨.agg ((List.range i.size).map f).toArray, ?_, ?_⟩
              · have := run_loadCells (P := P) g.w ⟨b, off, none⟩ i.size f (fun j hj => by rw [addr_add]; exact (hff j (by omega)).1)
                simp [resV, hp, asAddr, loadVar, run_isAgg ha, run_sizeOf hi, this]
              · refine .agg _ _ (by simp; omega) (fun j hj => ?_)
                have hj' : j < i.size := by simp at hj; omega
                have := (hff j (by omega)).2
                simpa [Array.getD, hj'] using this
        | false =>
          simp only at hr
          cases cs with
          | nil => cases hr
          | cons c cs =>
            cases hr
            obtain ⟨b, off, hp, f, hff⟩ := read_ok hf.s hread hv (by simp)
            obtain ⟨h1, h2⟩ := hff 0 (by simp)
            simp only [Nat.add_zero] at h1
            exact ⟨f 0, by simp [resV, hp, asAddr, loadVar, run_isAgg ha, h1], h2⟩
      · contradiction
    · contradiction

theorem results_ok {g : G} {F : Fr} {t : T} {a : Act} (hf : Fits M g d ntmps F t a) : ∀ (rvs : List ResultVar) (rs : List (Bits × Option (Nat × Bool))), rvs.mapM (cmpRes P d) = some rs →
    ∀ vs, resultsOf F t rs = some vs → ∃ ws : List Value, (rvs.mapM (resV a.tmps)).run P g.w = .ok ws g.w ∧ ws.length = vs.length ∧ ∀ i (h : i < vs.length), VR M g vs[i] (ws.getD i undef) := by
  intro rvs
  induction rvs with
  | nil =>
    intro rs h vs hv
    simp at h
    subst h
    cases hv
    exact ⟨[], rfl, rfl, fun i h => absurd h (by simp)⟩
  | cons rv rvs ih =>
    intro rs h vs hv
    simp only [List.mapM_cons, Option.bind_eq_bind, Option.bind_eq_some_iff, Option.pure_def] at h
    obtain ⟨r, hr, rs', hrs, e⟩ := h
    cases e
    unfold resultsOf at hv
    split at hv
    · rename_i v1 h1
      split at hv
      · rename_i vs1 h2
        cases hv
        obtain ⟨w1, q1, q2⟩ := result_ok hf hr h1
        obtain ⟨ws, p1, p2, p3⟩ := ih rs' hrs vs1 h2
        refine ⟨w1 :: ws, ?_, by simp [p2], fun i hi => ?_⟩
        · rw [List.mapM_cons]
          simp only [Sem.run_bind, Sem.run_pure]
          simp only [q1, Result.andThen_ok, p1]
        · cases i with
          | zero => simpa using q2
          | succ i => simpa using p3 i (by simpa using hi)
      · contradiction
    · contradiction

theorem packed_ok {g : G} {vs : List AV} {ws : List Value} (hl : ws.length = vs.length) (hv : ∀ i (h : i < vs.length), VR M g vs[i] (ws.getD i undef)) :
    VR M g (packed vs) (if h : ws.toArray.size = 1 then ws.toArray[0] else .tuple ws.toArray) := by
  have tup : ws.length ≠ 1 → VR M g (.tup vs) (if h : ws.toArray.size = 1 then ws.toArray[0] else .tuple ws.toArray) := by
    intro hne
    rw [dif_neg (by simpa using hne)]
    refine .tup vs ws.toArray (by simpa using hl) (fun i hi => ?_)
    have := hv i hi
    have hi2 : i < ws.length := by omega
    simpa [Array.getD, List.getD, hi2] using this
  cases vs with
  | nil => exact tup (by rw [hl]; simp)
  | cons v vs =>
    cases vs with
    | nil =>
      cases ws with
      | nil => simp at hl
      | cons w ws =>
        cases ws with
        | nil => simpa [packed] using hv 0 (by simp)
        | cons _ _ => simp at hl
    | cons v2 vs => exact tup (by rw [hl]; simp)

theorem pth_nodup {d n : Nat} (h : n ≤ 2 ^ d) : ((List.range n).map (pth d)).Nodup := by
  unfold List.Nodup
  rw [List.pairwise_map]
  refine List.Pairwise.imp_of_mem (fun {a b} ha hb hne e => ?_) (List.nodup_range (n := n))
  have ha' : a < n := by simpa using ha
  have hb' : b < n := by simpa using hb
  exact hne (pth_inj d a b (by omega) (by omega) e)

theorem call_sound (hmix : P.follows .mixedOrders = true) (him : ∀ f x, im f = some x → M.fm x = f) {tbl : Nat → Option AFunc} (ht : Table P M im tbl) : ∀ n, CallOK P M (callA tbl (ev tbl n)) := by
  intro n
  induction n using Nat.strongRecOn with
  | _ n ih =>
    have hcode := code_sound (P := P) hmix him tbl n ih
    intro f args t r t' hr
    unfold callA at hr
    cases hfn : tbl f with
    | none => rw [hfn] at hr; cases hr
    | some fn =>
      rw [hfn] at hr
      simp only at hr
      obtain ⟨gf, hgf, hcf⟩ := ht f fn hfn
      unfold cmpF at hcf
      split at hcf
      · rename_i hcond
        obtain ⟨c1, c2, c3⟩ := hcond
        simp only [Option.bind_eq_bind, Option.bind_eq_some_iff] at hcf
        obtain ⟨c, hbody, b, hb, rs, hrs, e⟩ := hcf
        have hgood : Good P (M.fm f) := ⟨gf, hgf, by simpa using c3, by simp [hbody]⟩
        refine ⟨hgood, ?_⟩
        intro g cargs hS hsz hv
        have efn : fn = { depth := fn.depth, params := (List.range (gf.params.size + gf.nfree)).map (pth fn.depth), results := rs, keep := fn.keep, body := b } := by simpa using e.symm
        have eparams : fn.params = (List.range (gf.params.size + gf.nfree)).map (pth fn.depth) := by rw [efn]
        have ebody : fn.body = b := by rw [efn]
        have eres : fn.results = rs := by rw [efn]
        cases ha : argsIn fn.params args .nil with
        | none => rw [ha] at hr; cases hr
        | some F =>
          rw [ha] at hr
          simp only at hr
          have hnd : fn.params.Nodup := by
            rw [eparams]
            exact pth_nodup (by omega)
          obtain ⟨a1, a2⟩ := argsIn_ok _ _ _ _ ha hnd
          have hnp : gf.params.size + gf.nfree = args.length := by rw [← a1, eparams]; simp
          refine calls_of_wp hgf hbody ?_
          have hfits : Fits M g fn.depth gf.ntmps F t.enter { tmps := cargs ++ Array.replicate (gf.ntmps - cargs.size) undef, defers := [] } := by
            refine ⟨⟨by simp; omega, fun u hu => ?_⟩, hS.enter, by simp; omega, rfl⟩
            rw [a2, eparams, idx_pth (by omega) hu]
            by_cases hlt : u < gf.params.size + gf.nfree
            · rw [if_pos hlt]
              simp only
              have h1 := hv u (by omega)
              have e1 : args.getD u .und = args[u]'(by omega) := by simp [List.getD, show u < args.length by omega]
              rw [e1]
              have e2 : (cargs ++ Array.replicate (gf.ntmps - cargs.size) undef).getD u undef = cargs.getD u undef := by
                simp only [Array.getD_eq_getD_getElem?]
                rw [Array.getElem?_append_left (by omega)]
              show VR M g _ ((cargs ++ Array.replicate (gf.ntmps - cargs.size) undef).getD u undef)
              rw [e2]
              exact h1
            · rw [if_neg hlt]
              simp only [Fr.get_nil]
              exact .und _
          have hpost : ∀ R, (∀ F1 t1, (ev tbl n fn.body F t.enter = .norm F1 t1 ∨ ev tbl n fn.body F t.enter = .ret F1 t1) → ∀ g' a', g.Le g' → Fits M g' fn.depth gf.ntmps F1 t1 a' →
              bodyPost P gf R .normal a' g'.w) → c.wp P (bodyPost P gf R) { tmps := cargs ++ Array.replicate (gf.ntmps - cargs.size) undef, defers := [] } g.w := by
            intro R hR
            refine hcode fn.depth gf.ntmps c b hb g F t.enter _ _ hfits ?_
            rw [ebody] at hR hr
            cases hev : ev tbl n b F t.enter with
            | fail => rw [hev] at hr; cases hr
            | norm F1 t1 => exact fun g' a' hle hf' => hR F1 t1 (.inl hev) g' a' hle hf'
            | exit id F1 t1 => rw [hev] at hr; cases hr
            | ret F1 t1 => exact fun g' a' hle hf' => hR F1 t1 (.inr hev) g' a' hle hf'
          refine hpost _ (fun F1 t1 hev g' a' hle hf' => ?_)
          have hafter : afterBody fn F1 t1 = .ok r t' := by
            rcases hev with hev | hev <;> (rw [hev] at hr; exact hr)
          unfold afterBody at hafter
          rw [eres] at hafter
          cases hrv : resultsOf F1 t1 rs with
          | none => rw [hrv] at hafter; cases hafter
          | some vs =>
            rw [hrv] at hafter
            cases hafter
            obtain ⟨ws, w1, w2, w3⟩ := results_ok hf' gf.results.toList rs hrs vs hrv
            refine ⟨hf'.d, if h : ws.toArray.size = 1 then ws.toArray[0] else .tuple ws.toArray, ?_, ?_⟩
            · show (results gf a'.tmps).run P g'.w = _
              rw [results_eq, Array.mapM_eq_mapM_toList]
              simp only [Sem.run_bind, Sem.run_map, w1, Result.andThen_ok, Sem.run_pure]
            · exact ⟨_, g', rfl, rfl, hle, packed_ok w2 w3, hf'.s.leave _ _⟩
      · contradiction

end

end M2
end
section
namespace M2
open Go

/-! ### Expressions over variables: compact code, from which the slots' code is made -/

abbrev Heap := List (Nat × VObj)
abbrev Rows := List (Nat × Nat × Nat)

/-- a place for an operand -/
abbrev hh : Opd := .c .und

def fillP3 : List (Nat × Nat × Opd) → List Opd → List (Nat × Nat × Opd)
  | (a, b, _) :: ps, x :: xs => (a, b, x) :: fillP3 ps xs
  | _, _ => []
def fillP2 : List (Nat × Opd) → List Opd → List (Nat × Opd)
  | (a, _) :: ps, x :: xs => (a, x) :: fillP2 ps xs
  | _, _ => []
def fillO : Option Opd → List Opd → Option Opd × List Opd
  | none, xs => (none, xs)
  | some _, x :: xs => (some x, xs)
  | some y, [] => (some y, [])

/-- an operation with its operands -/
def AOp.fill (o : AOp) (xs : List Opd) : AOp :=
  match o with
  | .mv _ => .mv (xs.getD 0 hh)
  | .pick _ _ _ => .pick (xs.getD 0 hh) (xs.getD 1 hh) (xs.getD 2 hh)
  | .alloc z => .alloc z
  | .box _ => .box (xs.getD 0 hh)
  | .build z ps => .build z (fillP3 ps xs)
  | .buildS e n z ps => .buildS e n z (fillP2 ps xs)
  | .ld1 _ => .ld1 (xs.getD 0 hh)
  | .ldA n _ => .ldA n (xs.getD 0 hh)
  | .st n _ _ => .st n (xs.getD 0 hh) (xs.getD 1 hh)
  | .nilck _ => .nilck (xs.getD 0 hh)
  | .bin op _ _ => .bin op (xs.getD 0 hh) (xs.getD 1 hh)
  | .eqk k n _ _ => .eqk k n (xs.getD 0 hh) (xs.getD 1 hh)
  | .eqs t n _ _ => .eqs t n (xs.getD 0 hh) (xs.getD 1 hh)
  | .un op _ => .un op (xs.getD 0 hh)
  | .cv k _ => .cv k (xs.getD 0 hh)
  | .mkfn f first _ => .mkfn f (xs.take first.length) (xs.drop first.length)
  | .mkS e b z _ _ => .mkS e b z (xs.getD 0 hh) (xs.getD 1 hh)
  | .slS _ l h => .slS (xs.getD 0 hh) (fillO l xs.tail).1 (fillO h (fillO l xs.tail).2).1
  | .slL e _ l h m => .slL e (xs.getD 0 hh) (fillO l xs.tail).1 (fillO h (fillO l xs.tail).2).1 (fillO m (fillO h (fillO l xs.tail).2).2).1
  | .faddr off _ => .faddr off (xs.getD 0 hh)
  | .iaddr e _ _ => .iaddr e (xs.getD 0 hh) (xs.getD 1 hh)
  | .iaddrA n e _ _ => .iaddrA n e (xs.getD 0 hh) (xs.getD 1 hh)
  | .fld1 off _ => .fld1 off (xs.getD 0 hh)
  | .fldA off n _ => .fldA off n (xs.getD 0 hh)
  | .idxS _ _ => .idxS (xs.getD 0 hh) (xs.getD 1 hh)
  | .idx1 n _ _ => .idx1 n (xs.getD 0 hh) (xs.getD 1 hh)
  | .idxA n e _ _ => .idxA n e (xs.getD 0 hh) (xs.getD 1 hh)
  | .ext _ i => .ext (xs.getD 0 hh) i
  | .call f _ => .call f xs
  | .calld _ _ => .calld (xs.getD 0 hh) xs.tail
  | .len s _ => .len s (xs.getD 0 hh)
  | .app e b z _ _ => .app e b z (xs.getD 0 hh) (xs.getD 1 hh)
  | .cpx _ _ => .cpx (xs.getD 0 hh) (xs.getD 1 hh)
  | .re _ => .re (xs.getD 0 hh)
  | .im _ => .im (xs.getD 0 hh)
  | .mnx m _ _ => .mnx m (xs.getD 0 hh) (xs.getD 1 hh)
  | .buildSo e n z ps => .buildSo e n z (fillP2 ps xs)
  | .mark _ => .mark (xs.getD 0 hh)
  | .ixb _ _ => .ixb (xs.getD 0 hh) (xs.getD 1 hh)

inductive X where
  | nil
  | cons (x xs : X)
  | v (j : Nat)            -- a variable, as it stands
  | m (j : Nat)            -- a variable, taken first
  | c (a : AV)
  | cm (a : AV)
  | op (o : AOp) (xs : X)
  | mr (x : X)             -- a value, taken into a place that was laid by ahead of it
  | tup (is : List Nat) (x : X)
  | or (a b : X)
  | and (a b : X)
  | adr (j : Nat)          -- the address of a variable in memory of its own
  | lv (o : AOp) (x : X)   -- what stands at such an address
  | at (n : Nat) (x : X)   -- from this place on

inductive W where
  | wo (j : Nat) (o : AOp) (ks : List Nat)
  | wx (o : AOp) (ks : List Nat)
  | ba (j : Nat) (z : List AV)
  | bb (j : Nat) (k : Nat)
  | bs (n j k : Nat)
  | bt (n ka k : Nat)
  | bl (j : Nat) (o : AOp) (ka : Nat)
  | br (j : Nat) (o : AOp) (b : Nat)

structure Grp where
  n : Nat
  xs : X
  ws : List W

inductive XC where
  | skip | ret
  | exit (id : Nat)
  | reg (gs : List Grp)
  | regd (r : Nat) (ms : List Nat) (gs : List Grp)
  | ife (gs : List Grp) (n : Nat) (x : X) (a b : XC)
  | ifd (r : Nat) (ms : List Nat) (gs : List Grp) (n : Nat) (x : X) (a b : XC)
  | cnd (j : Nat) (a b : XC)
  | seq (a b : XC)
  | block (id : Nat) (b : XC)
  | loop (b : XC)

/-- a function: its slots' variables, which of them lie in memory of their own -/
structure XF where
  depth : Nat
  ms : List Nat
  bx : List Bool
  np : Nat
  res : List (Nat × Option (Nat × Bool))
  keep : Bool
  body : XC

/-! ### The slots' code -/

abbrev Acc := Option (Option Nat)
abbrev Guard := Option (Nat × Bool)

section
variable (d : Nat) (ms : List Nat)

def slot (j : Nat) : Bits := pth d (ms.getD j 0)

/-- for each value: is it the address of a variable of its own? -/
def clsX : X → List (Option Nat)
  | .nil => []
  | .cons x xs => clsX x ++ clsX xs
  | .v _ | .m _ | .c _ | .cm _ => [none]
  | .op o xs => match o with
    | .faddr _ _ => [(clsX xs).headD none]
    | .iaddrA _ _ _ _ => [(clsX xs).headD none]
    | _ => [none]
  | .mr x => clsX x
  | .tup is _ => is.map fun _ => none
  | .or _ _ | .and _ _ => [none]
  | .adr j => [some j]
  | .lv _ _ => [none]
  | .at _ x => clsX x

def accO (o : AOp) : Acc :=
  match o with
  | .ld1 _ | .ldA _ _ | .st _ _ _ => some none
  | _ => none

structure FX where
  ops : List (AO × Acc)
  os : List Opd
  c : Nat

def gd (g : Guard) : Option (Bits × Bool) := g.map fun p => (pth d p.1, p.2)
def exts (p : Nat) (g : Guard) : List Nat → Nat → List (AO × Acc)
  | [], _ => []
  | i :: is, c => (⟨some (pth d c), gd d g, .ext (.t (pth d p)) i⟩, none) :: exts p g is (c + 1)
def extOs : List Nat → Nat → List Opd
  | [], _ => []
  | _ :: is, c => .t (pth d c) :: extOs is (c + 1)

def flatX : X → Guard → Nat → FX
  | .nil, _, c => ⟨[], [], c⟩
  | .cons x xs, g, c =>
    let a := flatX x g c
    let b := flatX xs g a.c
    ⟨a.ops ++ b.ops, a.os ++ b.os, b.c⟩
  | .v j, _, c => ⟨[], [.t (slot d ms j)], c⟩
  | .m j, g, c => ⟨[(⟨some (pth d c), gd d g, .mv (.t (slot d ms j))⟩, none)], [.t (pth d c)], c + 1⟩
  | .c a, _, c => ⟨[], [.c a], c⟩
  | .cm a, g, c => ⟨[(⟨some (pth d c), gd d g, .mv (.c a)⟩, none)], [.t (pth d c)], c + 1⟩
  | .op o xs, g, c =>
    let a := flatX xs g c
    ⟨a.ops ++ [(⟨some (pth d a.c), gd d g, o.fill a.os⟩, accO o)], [.t (pth d a.c)], a.c + 1⟩
  | .mr x, g, c =>
    let a := flatX x g (c + 1)
    ⟨a.ops ++ [(⟨some (pth d c), gd d g, .mv (a.os.headD hh)⟩, none)], [.t (pth d c)], a.c⟩
  | .tup is x, g, c =>
    let a := flatX x g (c + 1)
    ⟨a.ops ++ (⟨some (pth d c), gd d g, .mv (a.os.headD hh)⟩, none) :: exts d c g is a.c, extOs d is a.c, a.c + is.length⟩
  | .or x y, g, c =>
    let a := flatX x g c
    let b := flatX y (some (a.c, false)) (a.c + 1)
    ⟨a.ops ++ (⟨some (pth d a.c), gd d g, .mv (a.os.headD hh)⟩, none) :: (b.ops ++ [(⟨some (pth d b.c), gd d g, .pick (.t (pth d a.c)) (.c (.bool true)) (b.os.headD hh)⟩, none)]), [.t (pth d b.c)], b.c + 1⟩
  | .and x y, g, c =>
    let a := flatX x g c
    let b := flatX y (some (a.c, true)) (a.c + 1)
    ⟨a.ops ++ (⟨some (pth d a.c), gd d g, .mv (a.os.headD hh)⟩, none) :: (b.ops ++ [(⟨some (pth d b.c), gd d g, .pick (.t (pth d a.c)) (b.os.headD hh) (.c (.bool false))⟩, none)]), [.t (pth d b.c)], b.c + 1⟩
  | .adr j, _, c => ⟨[], [.t (slot d ms j)], c⟩
  | .lv o x, g, c =>
    let a := flatX x g c
    ⟨a.ops ++ [(⟨some (pth d a.c), gd d g, o.fill a.os⟩, some ((clsX x).headD none))], [.t (pth d a.c)], a.c + 1⟩
  | .at n x, g, _ => flatX x g n

def flatW (os : List Opd) (cs : List (Option Nat)) : W → AO × Acc
  | .wo j o ks => (⟨some (slot d ms j), none, o.fill (ks.map fun k => os.getD k hh)⟩, accO o)
  | .wx o ks => (⟨none, none, o.fill (ks.map fun k => os.getD k hh)⟩, accO o)
  | .ba j z => (⟨some (slot d ms j), none, .alloc z⟩, none)
  | .bb j k => (⟨some (slot d ms j), none, .box (os.getD k hh)⟩, none)
  | .bs n j k => (⟨none, none, .st n (.t (slot d ms j)) (os.getD k hh)⟩, some (some j))
  | .bt n ka k => (⟨none, none, .st n (os.getD ka hh) (os.getD k hh)⟩, some (cs.getD ka none))
  | .bl j o ka => (⟨some (slot d ms j), none, o.fill [os.getD ka hh]⟩, some (cs.getD ka none))
  | .br j o b => (⟨some (slot d ms j), none, o.fill [.t (slot d ms b)]⟩, some (some b))

def flatG : List Grp → List (AO × Acc)
  | [] => []
  | g :: gs =>
    let a := flatX d ms g.xs none g.n
    a.ops ++ (g.ws.map (flatW d ms a.os (clsX g.xs)) ++ flatG gs)

def kindsOf (ms : List Nat) (st : Bool) : List AO → Nat → List (DK × AO)
  | [], _ => []
  | o :: l, i => ((kindAt ms st i o.op).getD .pure, o) :: kindsOf ms st l (i + 1)

def drawn (r : Nat) (mk : List Nat) (l : List AO) : Cd := .regd (kindsOf mk ((l.take r).any fun a => isSt a.op) (l.take r) 0) (l.drop r)

def flatC : XC → Cd
  | .skip => .skip
  | .ret => .ret
  | .exit id => .exit id
  | .reg gs => .reg ((flatG d ms gs).map Prod.fst)
  | .regd r mk gs => drawn r mk ((flatG d ms gs).map Prod.fst)
  | .ife gs n x a b =>
    let e := flatX d ms x none n
    .seq (.reg ((flatG d ms gs ++ e.ops).map Prod.fst)) (.cond (e.os.headD hh) (flatC a) (flatC b))
  | .ifd r mk gs n x a b =>
    let e := flatX d ms x none n
    .seq (drawn r mk ((flatG d ms gs ++ e.ops).map Prod.fst)) (.cond (e.os.headD hh) (flatC a) (flatC b))
  | .cnd j a b => .cond (.t (slot d ms j)) (flatC a) (flatC b)
  | .seq a b => .seq (flatC a) (flatC b)
  | .block id b => .block id (flatC b)
  | .loop b => .loop (flatC b)

end

def flatF (x : XF) : AFunc :=
  { depth := x.depth, params := (List.range x.np).map (pth x.depth), results := x.res.map fun r => (slot x.depth x.ms r.1, r.2), keep := x.keep, body := flatC x.depth x.ms x.body }

end M2
end
section
namespace M2
open Go
noncomputable section

/-! ### What a function does, by what is seen of the memory -/

def ids {α : Type} (l : List (Nat × α)) : List Nat := l.map Prod.fst

def addTop {α : Type} (a : List α) : List (List α) → List (List α)
  | [] => []
  | s :: l => (a ++ s) :: l

structure Sees (H : Heap) (O : Rows) (t : T) : Prop where
  hk : (ids H).Nodup
  hv : ∀ x o, (x, o) ∈ H → look2 x t.vs = some o
  ok : (ids O).Nodup
  ov : ∀ x r, (x, r) ∈ O → look2 x t.is = some r

structure Ch (D E : List Nat) (t t' : T) (nv : VScope) (ni : IScope) (φ : Nat × VObj → Nat × VObj) (ψ : Nat → Bool) : Prop where
  n : t.n ≤ t'.n
  vs : t'.vs = addTop nv (t.vs.map (List.map φ))
  is : t'.is = addTop ni (t.is.map (List.filter fun p => ψ p.1))
  fk : ∀ p, (φ p).1 = p.1
  fo : ∀ p, p.1 < t.n → p.1 ∉ D → φ p = p
  go : ∀ x, x < t.n → x ∉ E → ψ x = true
  nvn : ∀ p ∈ nv, t.n ≤ p.1
  nin : ∀ p ∈ ni, t.n ≤ p.1

/-- lk: new variables may be left behind -/
def Keeps (lk : Bool) (D E : List Nat) (t t' : T) : Prop := ∃ nv ni φ ψ, Ch D E t t' nv ni φ ψ ∧ (lk = false → nv = [])

structure Gd (lk : Bool) (H : Heap) (O : Rows) (t : T) (H' : Heap) (O' : Rows) (t' : T) : Prop where
  wf : t'.WF
  see : Sees H' O' t'
  keep : Keeps lk (ids H) (ids O) t t'
  hn : ∀ p ∈ H', p.1 ∈ ids H ∨ t.n ≤ p.1
  on : ∀ p ∈ O', p.1 ∈ ids O ∨ t.n ≤ p.1

structure Pre (H : Heap) (O : Rows) (t : T) : Prop where
  wf : t.WF
  see : Sees H O t
  v0 : t.vs ≠ []
  i0 : t.is ≠ []

/-- called so, it comes to a result for which Q holds -/
def Fn (tbl : Nat → Option AFunc) (lk : Bool) (f : Nat) (vs : List AV) (H : Heap) (O : Rows) (Q : AV → Heap → Rows → Prop) : Prop :=
  ∀ t : T, Pre H O t → ∃ v t' H' O' N, (∀ n, N ≤ n → callA tbl (ev tbl n) f vs t = .ok v t') ∧ Gd lk H O t H' O' t' ∧ Q v H' O'

def opt {α : Type} (x : Option α) (Q : α → Prop) : Prop :=
  match x with
  | some a => Q a
  | none => False

def noCall : CallF := fun _ _ _ => .fail
def OR.val (r : OR) : Option AV :=
  match r with
  | .ok v _ => some v
  | .fail => none
def pureV (o : AOp) (vs : List AV) : Option AV := ((o.fill (vs.map .c)).run noCall .nil ⟨0, [], []⟩).val

def hread (H : Heap) (a : AV) : Option (List AV) :=
  match a with
  | .eptr cs => some cs
  | .ptr x off =>
    match look x H with
    | some (.cells cs) => some (cs.drop off)
    | _ => none
  | _ => none

def wNew (z : List AV) (H : Heap) (O : Rows) (Q : AV → Heap → Rows → Prop) : Prop := ∀ x, x ∉ ids H → Q (.ptr x 0) ((x, .cells z) :: H) O

def wSt (n : Nat) (a v : AV) (H : Heap) (O : Rows) (Q : AV → Heap → Rows → Prop) : Prop :=
  match a with
  | .ptr x off =>
    match look x H with
    | some (.cells cs) => (v.known && v.cells.all AV.isCell && Nat.beq v.cells.length n && Nat.ble (off + n) cs.length) = true ∧ Q undefA (upd x (.cells (putAt cs off v.cells)) H) O
    | _ => False
  | _ => False

def wMkS (e b : Nat) (z l c : AV) (H : Heap) (O : Rows) (Q : AV → Heap → Rows → Prop) : Prop :=
  match l, c with
  | .int .i64 l, .int .i64 c => (0 ≤ l ∧ l ≤ c ∧ b * c ≤ 2 ^ 48 ∧ c ≤ 2 ^ 48) ∧ ∀ id, id ∉ ids O → Q (.sl id e 0 l.toNat true 0 (List.replicate l.toNat z)) H ((id, l.toNat * e, e) :: O)
  | _, _ => False

def wMark (a : AV) (H : Heap) (O : Rows) (Q : AV → Heap → Rows → Prop) : Prop :=
  match a with
  | .sl id e pos cap fl alt es => opt (look id O) fun _ => Q (.sl id e pos cap fl alt es) H O
  | _ => False

def wApp1 (e b : Nat) (z : AV) (ys : List AV) (x : AV) (H : Heap) (O : Rows) (Q : AV → Heap → Rows → Prop) : Prop :=
  match x with
  | .nils | .sl0 => (Nat.ble (2 * ys.length * b) (2 ^ 48) && Nat.ble e z.cells.length) = true ∧
      ∀ id, id ∉ ids O → Q (.sl id e 0 ys.length true 0 ys) H ((id, ys.length * e, e) :: O)
  | .sl id e' pos cap fl _ es =>
    (Nat.ble (2 * (es.length + ys.length) * b) (2 ^ 48) && Nat.ble e z.cells.length && Nat.beq e' e && Nat.blt cap (es.length + ys.length)) = true ∧
    match fl with
    | false => ∀ id', id' ∉ ids O → Q (.sl id' e 0 (es.length + ys.length) true 0 (es ++ ys)) H ((id', (es.length + ys.length) * e, e) :: O)
    | true => opt (look id O) fun r => (Nat.beq r.1 (pos + es.length * e) && Nat.beq r.2 e && Nat.beq cap es.length && ys.all fun v => v.cells.all AV.isCell) = true ∧
        ∀ id', id' ∉ ids O → Q (.sl id' e 0 (es.length + ys.length) true 0 (es ++ ys)) H ((id', (es.length + ys.length) * e, e) :: del id O)
  | _ => False
def isSlice (x : AV) : Bool :=
  match x with
  | .nils | .sl0 | .sl .. => true
  | _ => false
def wApp (e b : Nat) (z x y : AV) (H : Heap) (O : Rows) (Q : AV → Heap → Rows → Prop) : Prop :=
  opt (appended e y) fun ys =>
    match ys with
    | [] => isSlice x = true ∧ Q x H O
    | y :: ys => wApp1 e b z (y :: ys) x H O Q

def wCall (tbl : Nat → Option AFunc) (d : Bool) (f : Nat) (vs : List AV) (H : Heap) (O : Rows) (Q : AV → Heap → Rows → Prop) : Prop :=
  match d with
  | true => Fn tbl false f vs [] O fun v _ O' => Q v H O'
  | false => Fn tbl true f vs H O Q
def wCalld (tbl : Nat → Option AFunc) (d : Bool) (a : AV) (vs : List AV) (H : Heap) (O : Rows) (Q : AV → Heap → Rows → Prop) : Prop :=
  match a with
  | .fn g first cap => wCall tbl d g (first ++ vs ++ cap) H O Q
  | _ => False

def wpo (tbl : Nat → Option AFunc) (d : Bool) (o : AOp) (vs : List AV) (H : Heap) (O : Rows) (Q : AV → Heap → Rows → Prop) : Prop :=
  match o with
  | .alloc z => wNew z H O Q
  | .box _ => (vs.getD 0 .und).known = true ∧ wNew (vs.getD 0 .und).cells H O Q
  | .ld1 _ => opt (hread H (vs.getD 0 .und)) fun cs => opt cs.head? fun v => Q v H O
  | .ldA n _ => opt (hread H (vs.getD 0 .und)) fun cs => n ≤ cs.length ∧ Q (.agg (cs.take n)) H O
  | .st n _ _ => wSt n (vs.getD 0 .und) (vs.getD 1 .und) H O Q
  | .buildS e n z ps => opt (fillS .nil e (List.replicate n z) (fillP2 ps (vs.map .c))) fun l => ∀ id, Q (.sl id e 0 n false 0 l) H O
  | .buildSo e n z ps => opt (fillS .nil e (List.replicate n z) (fillP2 ps (vs.map .c))) fun l => ∀ id, id ∉ ids O → Q (.sl id e 0 n false 0 l) H ((id, n * e, e) :: O)
  | .mkS e b z _ _ => wMkS e b z (vs.getD 0 .und) (vs.getD 1 .und) H O Q
  | .mark _ => wMark (vs.getD 0 .und) H O Q
  | .app e b z _ _ => wApp e b z (vs.getD 0 .und) (vs.getD 1 .und) H O Q
  | .call f _ => wCall tbl d f vs H O Q
  | .calld _ _ => wCalld tbl d (vs.getD 0 .und) vs.tail H O Q
  | o => opt (pureV o vs) fun v => Q v H O

/-- neither memory nor calls -/
def tfree (o : AOp) : Bool :=
  match o with
  | .alloc _ | .box _ | .ld1 _ | .ldA _ _ | .st .. | .buildS .. | .buildSo .. | .mkS .. | .mark _ | .app .. | .call _ _ | .calld _ _ => false
  | _ => true

theorem wpo_pure {tbl : Nat → Option AFunc} {d : Bool} {o : AOp} (h : tfree o = true) (vs : List AV) (H : Heap) (O : Rows) (Q : AV → Heap → Rows → Prop) : wpo tbl d o vs H O Q = opt (pureV o vs) fun v => Q v H O := by
  cases o <;> first | rfl | (cases h)

/-! ### Facts on these -/

theorem look_map {x : Nat} {φ : Nat × VObj → Nat × VObj} (hk : ∀ p, (φ p).1 = p.1) : ∀ (s : VScope), (∀ p ∈ s, p.1 = x → φ p = p) → look x (s.map φ) = look x s
  | [], _ => rfl
  | p :: s, h => by
    rw [List.map_cons, look_cons, look_cons, hk, look_map hk s fun q hq => h q (List.mem_cons_of_mem _ hq)]
    split
    · rename_i e; rw [h p List.mem_cons_self e]
    · rfl

theorem look_filter {x : Nat} {ψ : Nat → Bool} (h : ψ x = true) : ∀ (s : IScope), look x (s.filter fun p => ψ p.1) = look x s
  | [] => rfl
  | p :: s => by
    rw [List.filter_cons]
    split
    · rw [look_cons, look_cons, look_filter h s]
    · rename_i hp
      rw [look_cons, look_filter h s, if_neg]
      intro e; rw [e] at hp; exact hp h

theorem look_new {α : Type} {x n : Nat} (hx : x < n) : ∀ (s : List (Nat × α)), (∀ p ∈ s, n ≤ p.1) → look x s = none
  | [], _ => rfl
  | p :: s, h => by
    rw [look_cons, if_neg, look_new hx s fun q hq => h q (List.mem_cons_of_mem _ hq)]
    have := h p List.mem_cons_self
    omega

theorem look2_addTop {α : Type} (x : Nat) (a : List (Nat × α)) (ha : look x a = none) : ∀ (l : List (List (Nat × α))), look2 x (addTop a l) = look2 x l
  | [] => rfl
  | s :: l => by rw [addTop, look2_cons, look2_cons, look_append, ha]; rfl

theorem look2_map {x : Nat} {φ : Nat × VObj → Nat × VObj} (hk : ∀ p, (φ p).1 = p.1) (h : ∀ p, p.1 = x → φ p = p) : ∀ (l : List VScope), look2 x (l.map (List.map φ)) = look2 x l
  | [] => rfl
  | s :: l => by rw [List.map_cons, look2_cons, look2_cons, look_map hk s fun p _ => h p, look2_map hk h l]

theorem look2_filter {x : Nat} {ψ : Nat → Bool} (h : ψ x = true) : ∀ (l : List IScope), look2 x (l.map (List.filter fun p => ψ p.1)) = look2 x l
  | [] => rfl
  | s :: l => by rw [List.map_cons, look2_cons, look2_cons, look_filter h, look2_filter h l]

theorem Ch.lookv {D E : List Nat} {t t' : T} {nv : VScope} {ni : IScope} {φ : Nat × VObj → Nat × VObj} {ψ : Nat → Bool} (h : Ch D E t t' nv ni φ ψ) {x : Nat} (hx : x < t.n) (hd : x ∉ D) : look2 x t'.vs = look2 x t.vs := by
  rw [h.vs, look2_addTop x nv (look_new hx nv h.nvn), look2_map h.fk]
  intro p e; exact h.fo p (by rw [e]; exact hx) (by rw [e]; exact hd)

theorem Ch.looki {D E : List Nat} {t t' : T} {nv : VScope} {ni : IScope} {φ : Nat × VObj → Nat × VObj} {ψ : Nat → Bool} (h : Ch D E t t' nv ni φ ψ) {x : Nat} (hx : x < t.n) (hd : x ∉ E) : look2 x t'.is = look2 x t.is := by
  rw [h.is, look2_addTop x ni (look_new hx ni h.nin), look2_filter (h.go x hx hd)]

theorem Keeps.lookv {lk : Bool} {D E : List Nat} {t t' : T} (h : Keeps lk D E t t') {x : Nat} (hx : x < t.n) (hd : x ∉ D) : look2 x t'.vs = look2 x t.vs := by
  obtain ⟨_, _, _, _, h, _⟩ := h; exact h.lookv hx hd
theorem Keeps.looki {lk : Bool} {D E : List Nat} {t t' : T} (h : Keeps lk D E t t') {x : Nat} (hx : x < t.n) (hd : x ∉ E) : look2 x t'.is = look2 x t.is := by
  obtain ⟨_, _, _, _, h, _⟩ := h; exact h.looki hx hd
theorem Keeps.n {lk : Bool} {D E : List Nat} {t t' : T} (h : Keeps lk D E t t') : t.n ≤ t'.n := by
  obtain ⟨_, _, _, _, h, _⟩ := h; exact h.n

theorem T.WF.lookv {t : T} (h : t.WF) {x : Nat} {o : VObj} (hx : look2 x t.vs = some o) : x < t.n := by
  rw [look2_flatten] at hx
  exact h.vn _ (look_mem hx)
theorem T.WF.looki {t : T} (h : t.WF) {x : Nat} {o : Nat × Nat} (hx : look2 x t.is = some o) : x < t.n := by
  rw [look2_flatten] at hx
  exact h.jn _ (look_mem hx)

theorem Sees.ltv {H : Heap} {O : Rows} {t : T} (h : Sees H O t) (w : t.WF) {x : Nat} (hx : x ∈ ids H) : x < t.n := by
  obtain ⟨p, hp, rfl⟩ := List.mem_map.mp hx
  exact w.lookv (h.hv p.1 p.2 hp)
theorem Sees.lti {H : Heap} {O : Rows} {t : T} (h : Sees H O t) (w : t.WF) {x : Nat} (hx : x ∈ ids O) : x < t.n := by
  obtain ⟨p, hp, rfl⟩ := List.mem_map.mp hx
  exact w.looki (h.ov p.1 p.2 hp)

theorem look_ids {α : Type} {x : Nat} {l : List (Nat × α)} {a : α} (h : look x l = some a) : x ∈ ids l := List.mem_map.mpr ⟨_, look_mem h, rfl⟩

theorem map_map_id {l : List VScope} : l.map (List.map fun p => p) = l := by
  induction l with
  | nil => rfl
  | cons s l ih => rw [List.map_cons, ih]; simp
theorem map_filter_id {l : List IScope} : l.map (List.filter fun _ => true) = l := by
  induction l with
  | nil => rfl
  | cons s l ih => rw [List.map_cons, ih]; simp
theorem addTop_nil {α : Type} (l : List (List α)) : addTop [] l = l := by cases l <;> rfl
theorem addTop_push {α : Type} {l : List (List (Nat × α))} (h : l ≠ []) (p : Nat × α) : push p l = addTop [p] l := by cases l <;> first | rfl | exact absurd rfl h

theorem Ch.refl (D E : List Nat) (t : T) : Ch D E t t [] [] (fun p => p) (fun _ => true) :=
  ⟨Nat.le_refl _, by rw [map_map_id, addTop_nil], by rw [map_filter_id, addTop_nil], fun _ => rfl, fun _ _ _ => rfl, fun _ _ _ => rfl, (fun p h => nomatch h), (fun p h => nomatch h)⟩
theorem Keeps.refl (lk : Bool) (D E : List Nat) (t : T) : Keeps lk D E t t := ⟨_, _, _, _, Ch.refl D E t, fun _ => rfl⟩

theorem Gd.refl {lk : Bool} {H : Heap} {O : Rows} {t : T} (h : Pre H O t) : Gd lk H O t H O t :=
  ⟨h.wf, h.see, Keeps.refl _ _ _ _, fun p hp => .inl (List.mem_map.mpr ⟨p, hp, rfl⟩), fun p hp => .inl (List.mem_map.mpr ⟨p, hp, rfl⟩)⟩

theorem Pre.newx {H : Heap} {O : Rows} {t : T} (h : Pre H O t) : t.n ∉ ids H := fun hm => Nat.lt_irrefl _ (h.see.ltv h.wf hm)
theorem Pre.newi {H : Heap} {O : Rows} {t : T} (h : Pre H O t) : t.n ∉ ids O := fun hm => Nat.lt_irrefl _ (h.see.lti h.wf hm)

theorem Gd.newV {H : Heap} {O : Rows} {t : T} (h : Pre H O t) (o : VObj) : Gd true H O t ((t.n, o) :: H) O (t.newV o) := by
  refine ⟨h.wf.newV o, ⟨?_, ?_, h.see.ok, h.see.ov⟩, ⟨[(t.n, o)], [], fun p => p, fun _ => true, ⟨Nat.le_succ _, ?_, by rw [map_filter_id, addTop_nil]; rfl, fun _ => rfl, fun _ _ _ => rfl, fun _ _ _ => rfl, ?_, (fun p h => nomatch h)⟩, fun h => by cases h⟩, ?_, ?_⟩
  · show (t.n :: ids H).Nodup
    exact List.nodup_cons.mpr ⟨h.newx, h.see.hk⟩
  · intro x o' hm
    show look2 x (push (t.n, o) t.vs) = some o'
    rw [look2_push]
    cases hm with
    | head => rw [if_pos rfl]
    | tail _ hm =>
      have := h.see.hv x o' hm
      have hx := h.wf.lookv this
      rw [if_neg (by simp only; omega), this]
  · rw [map_map_id]; exact addTop_push h.v0 _
  · intro p hp; rw [List.mem_singleton.mp hp]; exact Nat.le_refl _
  · intro p hp
    cases hp with
    | head => exact .inr (Nat.le_refl _)
    | tail _ hp => exact .inl (List.mem_map.mpr ⟨p, hp, rfl⟩)
  · exact fun p hp => .inl (List.mem_map.mpr ⟨p, hp, rfl⟩)

theorem ids_upd (x : Nat) (o : VObj) (H : Heap) : ids (upd x o H) = ids H := upd_keys x o H

theorem upd_map (x : Nat) (o : VObj) (l : List VScope) : upd2 x o l = l.map (List.map fun p => Bool.rec p (p.1, o) (Nat.beq p.1 x)) := rfl

theorem Gd.upd {lk : Bool} {H : Heap} {O : Rows} {t : T} (h : Pre H O t) {x : Nat} (hx : x ∈ ids H) (o : VObj) : Gd lk H O t (upd x o H) O ⟨t.n, upd2 x o t.vs, t.is⟩ := by
  refine ⟨h.wf.upd x o, ⟨by rw [ids_upd]; exact h.see.hk, ?_, h.see.ok, h.see.ov⟩, ⟨[], [], fun p => Bool.rec p (p.1, o) (Nat.beq p.1 x), fun _ => true, ⟨Nat.le_refl _, by rw [addTop_nil]; rfl, by rw [map_filter_id, addTop_nil], ?_, ?_, fun _ _ _ => rfl, (fun p h => nomatch h), (fun p h => nomatch h)⟩, fun _ => rfl⟩, ?_, fun p hp => .inl (List.mem_map.mpr ⟨p, hp, rfl⟩)⟩
  · intro y o' hm
    have h1 : look y (M2.upd x o H) = some o' := mem_look (by rw [show (M2.upd x o H).map Prod.fst = _ from ids_upd x o H]; exact h.see.hk) hm
    rw [look_upd] at h1
    show look2 y (upd2 x o t.vs) = some o'
    rw [look2_upd2]
    by_cases e : y = x
    · rw [if_pos e] at h1 ⊢
      cases hy : look y H with
      | none => rw [hy] at h1; cases h1
      | some c => rw [hy] at h1; rw [h.see.hv y c (look_mem hy)]; exact h1
    · rw [if_neg e] at h1 ⊢
      exact h.see.hv y o' (look_mem h1)
  · intro p; cases Nat.beq p.1 x <;> rfl
  · intro p _ hp
    rw [beq_false fun e => hp (by rw [e]; exact hx)]
  · intro p hp
    have : p.1 ∈ ids (M2.upd x o H) := List.mem_map.mpr ⟨p, hp, rfl⟩
    rw [ids_upd] at this
    exact .inl this

theorem Gd.bump {lk : Bool} {H : Heap} {O : Rows} {t : T} (h : Pre H O t) : Gd lk H O t H O t.bump :=
  ⟨h.wf.bump, ⟨h.see.hk, h.see.hv, h.see.ok, h.see.ov⟩, ⟨[], [], fun p => p, fun _ => true, ⟨Nat.le_succ _, by rw [map_map_id, addTop_nil]; rfl, by rw [map_filter_id, addTop_nil]; rfl, fun _ => rfl, fun _ _ _ => rfl, fun _ _ _ => rfl, (fun p h => nomatch h), (fun p h => nomatch h)⟩, fun _ => rfl⟩,
    fun p hp => .inl (List.mem_map.mpr ⟨p, hp, rfl⟩), fun p hp => .inl (List.mem_map.mpr ⟨p, hp, rfl⟩)⟩

theorem Gd.newI {lk : Bool} {H : Heap} {O : Rows} {t : T} (h : Pre H O t) (en e : Nat) : Gd lk H O t H ((t.n, en, e) :: O) (t.newI en e) := by
  refine ⟨h.wf.newI en e, ⟨h.see.hk, h.see.hv, List.nodup_cons.mpr ⟨h.newi, h.see.ok⟩, ?_⟩, ⟨[], [(t.n, en, e)], fun p => p, fun _ => true, ⟨Nat.le_succ _, by rw [map_map_id, addTop_nil]; rfl, by rw [map_filter_id]; exact addTop_push h.i0 _, fun _ => rfl, fun _ _ _ => rfl, fun _ _ _ => rfl, ((fun p h => nomatch h)), ?_⟩, fun _ => rfl⟩, ?_, ?_⟩
  · intro x r hm
    show look2 x (push (t.n, en, e) t.is) = some r
    rw [look2_push]
    cases hm with
    | head => rw [if_pos rfl]
    | tail _ hm =>
      have := h.see.ov x r hm
      have hx := h.wf.looki this
      rw [if_neg (by simp only; omega), this]
  · intro p hp; rw [List.mem_singleton.mp hp]; exact Nat.le_refl _
  · exact fun p hp => .inl (List.mem_map.mpr ⟨p, hp, rfl⟩)
  · intro p hp
    cases hp with
    | head => exact .inr (Nat.le_refl _)
    | tail _ hp => exact .inl (List.mem_map.mpr ⟨p, hp, rfl⟩)

theorem ids_del_sub (x : Nat) (O : Rows) : (ids (del x O)).Sublist (ids O) := List.Sublist.map _ List.filter_sublist

theorem Gd.newD {lk : Bool} {H : Heap} {O : Rows} {t : T} (h : Pre H O t) {x : Nat} (hx : x ∈ ids O) (en e : Nat) : Gd lk H O t H ((t.n, en, e) :: del x O) (T.newI { t with is := del2 x t.is } en e) := by
  have hne : del2 x t.is ≠ [] := by
    intro e0
    apply h.i0
    cases ht : t.is with
    | nil => rfl
    | cons s l => rw [ht] at e0; cases e0
  refine ⟨T.WF.newI (h.wf.sub (t' := { t with is := del2 x t.is }) rfl (List.Sublist.refl _) (del2_sub _ _)) en e, ⟨h.see.hk, h.see.hv, List.nodup_cons.mpr ⟨fun hm => h.newi ((ids_del_sub x O).subset hm), List.Nodup.sublist (ids_del_sub x O) h.see.ok⟩, ?_⟩,
    ⟨[], [(t.n, en, e)], fun p => p, fun y => !Nat.beq y x, ⟨Nat.le_succ _, by rw [map_map_id, addTop_nil]; rfl, ?_, fun _ => rfl, fun _ _ _ => rfl, ?_, ((fun p h => nomatch h)), ?_⟩, fun _ => rfl⟩, ?_, ?_⟩
  · intro y r hm
    show look2 y (push (t.n, en, e) (del2 x t.is)) = some r
    rw [look2_push]
    cases hm with
    | head => rw [if_pos rfl]
    | tail _ hm =>
      have hm' := List.mem_filter.mp (show (y, r) ∈ O.filter fun p => !Nat.beq p.1 x from hm)
      have := h.see.ov y r hm'.1
      have hy := h.wf.looki this
      rw [if_neg (by simp only; omega), look2_del2, if_neg, this]
      intro e; subst e; have := hm'.2; rw [beq_true rfl] at this; exact absurd this (by decide)
  · exact addTop_push hne _
  · intro y _ hy
    rw [beq_false fun e => hy (by rw [e]; exact hx)]; rfl
  · intro p hp; rw [List.mem_singleton.mp hp]; exact Nat.le_refl _
  · exact fun p hp => .inl (List.mem_map.mpr ⟨p, hp, rfl⟩)
  · intro p hp
    cases hp with
    | head => exact .inr (Nat.le_refl _)
    | tail _ hp => exact .inl ((ids_del_sub x O).subset (List.mem_map.mpr ⟨p, hp, rfl⟩))

end

end M2
end
section
namespace M2
open Go
noncomputable section

/-! ### A region's operations, of both kinds, one by one -/

def OR.opt (r : OR) : Option (AV × T) :=
  match r with
  | .ok v t => some (v, t)
  | .fail => none

def opKV (k : Option DK) (o : AOp) (call : CallF) (F : Fr) (t : T) : Option (AV × T) :=
  match k with
  | none => (o.run call F t).opt
  | some k => match o.run call F (viewD k t) with
    | .ok v t' => (mergeD k t t').map fun t1 => (v, t1)
    | .fail => none
def lgK (k : Option DK) (o : AOp) (F : Fr) (l : Log) : Option Log :=
  match k with
  | none => some l
  | some k => logD k o F l

def runL : List (Option DK × AO) → CallF → Fr → T → Log → RR
  | [], _, F, t, _ => .norm F t
  | (k, o) :: l, call, F, t, lg =>
    match wantedA F o.guard with
    | some true =>
      match lgK k o.op F lg with
      | some lg1 =>
        match opKV k o.op call F t with
        | some (v, t1) => runL l call (F.putO? o.dst v) t1 lg1
        | none => .fail
      | none => .fail
    | some false => runL l call (F.putO? o.dst undefA) t lg
    | none => .fail

theorem runOps_L (call : CallF) : ∀ (l : List AO) (F : Fr) (t : T) (lg : Log), runOps l call F t = runL (l.map fun o => (none, o)) call F t lg
  | [], _, _, _ => rfl
  | o :: l, F, t, lg => by
    show opsCons o l (fun call F t => runOps l call F t) call F t = _
    unfold opsCons
    rw [List.map_cons, runL]
    cases wantedA F o.guard with
    | none => rfl
    | some b =>
      cases b with
      | false => exact runOps_L call l _ _ _
      | true =>
        simp only [lgK, opKV]
        cases h : o.op.run call F t with
        | fail => rfl
        | ok v t1 => exact runOps_L call l _ _ _

theorem runD_L (call : CallF) (ws : List AO) : ∀ (l : List (DK × AO)) (F : Fr) (t : T) (lg : Log), runD l ws call F t lg = runL (l.map (fun o => (some o.1, o.2)) ++ ws.map fun o => (none, o)) call F t lg
  | [], F, t, lg => runOps_L call ws F t lg
  | o :: l, F, t, lg => by
    show dCons o l (fun call F t lg => runD l ws call F t lg) call F t lg = _
    unfold dCons
    rw [List.map_cons, List.cons_append, runL]
    cases wantedA F o.2.guard with
    | none => rfl
    | some b =>
      cases b with
      | false => exact runD_L call ws l _ _ _
      | true =>
        simp only [lgK, opKV]
        cases logD o.1 o.2.op F lg with
        | none => rfl
        | some l1 =>
          simp only
          cases h : o.2.op.run call F (viewD o.1 t) with
          | fail => rfl
          | ok v t1 =>
            simp only
            cases mergeD o.1 t t1 with
            | none => rfl
            | some t2 => exact runD_L call ws l _ _ _

/-! ### What the kinds' views change: nothing -/

/-- the kinds that an operation may have -/
def kok (k : Option DK) (o : AOp) : Prop := k = none ∨ ∃ ms st i, k = some ((kindAt ms st i o).getD .pure)

theorem merge_self (k : DK) (t : T) (hk : k = .pure ∨ k = .load ∨ (∃ i m, k = .loadm i m) ∨ k = .iso) : mergeD k t (viewD k t) = some t := by
  have hb : Nat.ble t.n t.n = true := by simp
  rcases hk with rfl | rfl | ⟨i, m, rfl⟩ | rfl
  · show (Bool.rec none (some ⟨t.n, t.vs, t.is⟩) (Nat.ble t.n t.n) : Option T) = some t
    rw [hb]
  · rfl
  · rfl
  · show (match ([] : VScope), Nat.ble t.n t.n with | [], true => some (⟨t.n, t.vs, t.is⟩ : T) | _, _ => none) = some t
    rw [hb]

theorem kv_same {o : AOp} {call : CallF} {F : Fr} {v : AV} (h : ∀ t, o.run call F t = .ok v t) (k : DK) (hk : k = .pure ∨ k = .load ∨ (∃ i m, k = .loadm i m) ∨ k = .iso) (t : T) : opKV (some k) o call F t = some (v, t) := by
  simp only [opKV, h, merge_self k t hk, Option.map_some]

theorem kind_free {o : AOp} (h : tfree o = true) (ms : List Nat) (st : Bool) (i : Nat) : (kindAt ms st i o).getD .pure = .pure := by
  cases o <;> first | rfl | (cases h)

section
variable {F : Fr} {os : List Opd}

def vals (F : Fr) (os : List Opd) : List Opd := (os.map (·.get F)).map Opd.c

theorem get_vals (i : Nat) : ((vals F os).getD i hh).get .nil = (os.getD i hh).get F := by
  simp only [vals, List.getD_eq_getElem?_getD, List.getElem?_map]
  cases os[i]? <;> rfl

theorem vals_tail : vals F os.tail = (vals F os).tail := by cases os <;> rfl

theorem fillA_vals : ∀ (ps : List (Nat × Nat × Opd)) (os : List Opd) (cs : List AV), fillA .nil cs (fillP3 ps (vals F os)) = fillA F cs (fillP3 ps os)
  | [], os, cs => by cases os <;> rfl
  | (a, b, _) :: ps, [], cs => rfl
  | (a, b, _) :: ps, x :: xs, cs => by
    show fillA .nil cs ((a, b, Opd.c (x.get F)) :: fillP3 ps (vals F xs)) = fillA F cs ((a, b, x) :: fillP3 ps xs)
    unfold fillA
    show (match (x.get F).known && Nat.beq (x.get F).cells.length b && Nat.ble (a + b) cs.length with
      | true => fillA .nil (putAt cs a (x.get F).cells) (fillP3 ps (vals F xs)) | false => none) = _
    simp only [fillA_vals ps xs]; rfl

theorem fillS_vals (e : Nat) : ∀ (ps : List (Nat × Opd)) (os : List Opd) (cs : List AV), fillS .nil e cs (fillP2 ps (vals F os)) = fillS F e cs (fillP2 ps os)
  | [], os, cs => by cases os <;> rfl
  | (a, _) :: ps, [], cs => rfl
  | (a, _) :: ps, x :: xs, cs => by
    show fillS .nil e cs ((a, Opd.c (x.get F)) :: fillP2 ps (vals F xs)) = fillS F e cs ((a, x) :: fillP2 ps xs)
    unfold fillS
    show (match (x.get F).known && Nat.beq (x.get F).cells.length e && Nat.blt a cs.length with
      | true => fillS .nil e (cs.set a (x.get F)) (fillP2 ps (vals F xs)) | false => none) = _
    simp only [fillS_vals e ps xs]; rfl

theorem fillO_vals (o : Option Opd) (os : List Opd) : (fillO o (vals F os)).2 = vals F (fillO o os).2 := by
  cases o <;> cases os <;> rfl

def isC (o : Option Opd) : Bool := match o with | some (.t _) => false | _ => true

theorem bnd_vals (o : Option Opd) (ho : isC o = true) (os : List Opd) (a b : Nat) : bnd (fillO o (vals F os)).1 .nil a b = bnd (fillO o os).1 F a b := by
  cases o with
  | none => rfl
  | some y =>
    cases os with
    | nil => cases y with
      | c v => rfl
      | t p => cases ho
    | cons x xs => rfl

theorem some_vals (o : Option Opd) (os : List Opd) : (fillO o (vals F os)).1.isNone = (fillO o os).1.isNone := by
  cases o with
  | none => rfl
  | some y => cases os <;> rfl
end

/-- slicing's places bear no slots -/
def placeOK (o : AOp) : Bool :=
  match o with
  | .slS _ l h => isC l && isC h
  | .slL _ _ l h m => isC l && isC h && isC m
  | _ => true

theorem of_val {r : OR} (t : T) (h : r = .ofOption t r.val) (u : T) {r' : OR} (h' : r' = .ofOption u r.val) : r' = match r.val with | some v => .ok v u | none => .fail := by
  rw [h']; cases r.val <;> rfl

/-- free operations do not look at the memory -/
theorem run_free {o : AOp} (h : tfree o = true) (hp : placeOK o = true) {os : List Opd} {F : Fr} (call : CallF) (t : T) :
    (o.fill os).run call F t = match pureV o (os.map (·.get F)) with | some v => .ok v t | none => .fail := by
  unfold pureV
  rw [show (os.map (·.get F)).map Opd.c = vals F os from rfl]
  have g := fun i => get_vals (F := F) (os := os) i
  cases o with
  | alloc | box | ld1 | ldA | st | buildS | buildSo | mkS | mark | app | call | calld => cases h
  | mv x => show opMv _ call F t = match (opMv ((vals F os).getD 0 hh) noCall .nil ⟨0, [], []⟩).val with | some v => .ok v t | none => .fail
            simp only [opMv, OR.val, g]
  | pick x y z =>
    show opPick _ _ _ call F t = match (opPick ((vals F os).getD 0 hh) ((vals F os).getD 1 hh) ((vals F os).getD 2 hh) noCall .nil ⟨0, [], []⟩).val with | some v => .ok v t | none => .fail
    simp only [opPick, g]
    split
    · rename_i b _; cases b <;> rfl
    · rfl
  | build z ps =>
    show opBuild z _ call F t = match (opBuild z (fillP3 ps (vals F os)) noCall .nil ⟨0, [], []⟩).val with | some v => .ok v t | none => .fail
    simp only [opBuild, fillA_vals]
    split <;> rfl
  | nilck x =>
    show opNilck _ call F t = match (opNilck ((vals F os).getD 0 hh) noCall .nil ⟨0, [], []⟩).val with | some v => .ok v t | none => .fail
    simp only [opNilck, g]
    split <;> rfl
  | bin op x y =>
    show opBin op _ _ call F t = match (opBin op ((vals F os).getD 0 hh) ((vals F os).getD 1 hh) noCall .nil ⟨0, [], []⟩).val with | some v => .ok v t | none => .fail
    simp only [opBin, g]
    cases avBin op ((os.getD 0 hh).get F) ((os.getD 1 hh).get F) <;> rfl
  | eqk k n x y =>
    show opEqk k n _ _ call F t = match (opEqk k n ((vals F os).getD 0 hh) ((vals F os).getD 1 hh) noCall .nil ⟨0, [], []⟩).val with | some v => .ok v t | none => .fail
    simp only [opEqk, g]
    split <;> rfl
  | eqs k n x y =>
    show opEqs k n _ _ call F t = match (opEqs k n ((vals F os).getD 0 hh) ((vals F os).getD 1 hh) noCall .nil ⟨0, [], []⟩).val with | some v => .ok v t | none => .fail
    simp only [opEqs, g]
    split <;> rfl
  | un op x =>
    show opUn op _ call F t = match (opUn op ((vals F os).getD 0 hh) noCall .nil ⟨0, [], []⟩).val with | some v => .ok v t | none => .fail
    simp only [opUn, g]
    cases avUn op ((os.getD 0 hh).get F) <;> rfl
  | cv k x =>
    show opCv k _ call F t = match (opCv k ((vals F os).getD 0 hh) noCall .nil ⟨0, [], []⟩).val with | some v => .ok v t | none => .fail
    simp only [opCv, g]
    cases avCv k ((os.getD 0 hh).get F) <;> rfl
  | mkfn f first cap =>
    show opMkfn f _ _ call F t = match (opMkfn f ((vals F os).take first.length) ((vals F os).drop first.length) noCall .nil ⟨0, [], []⟩).val with | some v => .ok v t | none => .fail
    simp only [opMkfn, OR.val, vals, List.map_take, List.map_drop, List.map_map]
    rfl
  | slS x l u =>
    simp only [placeOK, Bool.and_eq_true] at hp
    show opSlS _ _ _ call F t = match (opSlS ((vals F os).getD 0 hh) (fillO l (vals F os).tail).1 (fillO u (fillO l (vals F os).tail).2).1 noCall .nil ⟨0, [], []⟩).val with | some v => .ok v t | none => .fail
    rw [← vals_tail, fillO_vals]
    simp only [opSlS, g, bnd_vals _ hp.1, bnd_vals _ hp.2]
    split
    · split
      · split <;> rfl
      · rfl
    · rfl
  | slL e x l u m =>
    simp only [placeOK, Bool.and_eq_true] at hp
    show opSlL e _ _ _ _ call F t = match (opSlL e ((vals F os).getD 0 hh) (fillO l (vals F os).tail).1 (fillO u (fillO l (vals F os).tail).2).1 (fillO m (fillO u (fillO l (vals F os).tail).2).2).1 noCall .nil ⟨0, [], []⟩).val with | some v => .ok v t | none => .fail
    rw [← vals_tail, fillO_vals, fillO_vals]
    simp only [opSlL, g, bnd_vals _ hp.1.1, bnd_vals _ hp.1.2, bnd_vals _ hp.2, some_vals]
    split
    · split
      · split
        · split <;> rfl
        · rfl
      · rfl
    · split
      · split
        · split <;> rfl
        · rfl
      · rfl
    · split
      · split
        · split
          · split
            · split
              · rfl
              · split <;> rfl
            · rfl
          · rfl
        · rfl
      · rfl
    · rfl
  | faddr off x =>
    show opFaddr off _ call F t = match (opFaddr off ((vals F os).getD 0 hh) noCall .nil ⟨0, [], []⟩).val with | some v => .ok v t | none => .fail
    simp only [opFaddr, g]
    split
    · rfl
    · split <;> rfl
    · rfl
  | iaddr e x y =>
    show opIaddr e _ _ call F t = match (opIaddr e ((vals F os).getD 0 hh) ((vals F os).getD 1 hh) noCall .nil ⟨0, [], []⟩).val with | some v => .ok v t | none => .fail
    simp only [opIaddr, g]
    split
    · split
      · split
        · split
          · rfl
          · rename_i v _ _; cases v.known <;> rfl
        · rfl
      · split <;> rfl
      · rfl
    · rfl
  | iaddrA n e x y =>
    show opIaddrA n e _ _ call F t = match (opIaddrA n e ((vals F os).getD 0 hh) ((vals F os).getD 1 hh) noCall .nil ⟨0, [], []⟩).val with | some v => .ok v t | none => .fail
    simp only [opIaddrA, g]
    split
    · split
      · split
        · rfl
        · split <;> rfl
        · rfl
      · rfl
    · rfl
  | fld1 off x =>
    show opFld1 off _ call F t = match (opFld1 off ((vals F os).getD 0 hh) noCall .nil ⟨0, [], []⟩).val with | some v => .ok v t | none => .fail
    simp only [opFld1, g]
    split
    · rename_i cs _; cases cs[off]? <;> rfl
    · rfl
  | fldA off n x =>
    show opFldA off n _ call F t = match (opFldA off n ((vals F os).getD 0 hh) noCall .nil ⟨0, [], []⟩).val with | some v => .ok v t | none => .fail
    simp only [opFldA, g]
    split
    · split <;> rfl
    · rfl
  | idxS x y =>
    show opIdxS _ _ call F t = match (opIdxS ((vals F os).getD 0 hh) ((vals F os).getD 1 hh) noCall .nil ⟨0, [], []⟩).val with | some v => .ok v t | none => .fail
    simp only [opIdxS, g]
    split
    · split
      · split
        · split <;> rfl
        · rfl
      · rfl
    · rfl
  | idx1 n x y =>
    show opIdx1 n _ _ call F t = match (opIdx1 n ((vals F os).getD 0 hh) ((vals F os).getD 1 hh) noCall .nil ⟨0, [], []⟩).val with | some v => .ok v t | none => .fail
    simp only [opIdx1, g]
    split
    · rename_i i _
      split
      · split
        · rename_i cs _ _; cases cs[i.toNat]? <;> rfl
        · rfl
      · rfl
    · rfl
  | idxA n e x y =>
    show opIdxA n e _ _ call F t = match (opIdxA n e ((vals F os).getD 0 hh) ((vals F os).getD 1 hh) noCall .nil ⟨0, [], []⟩).val with | some v => .ok v t | none => .fail
    simp only [opIdxA, g]
    split
    · split
      · split <;> rfl
      · rfl
    · rfl
  | ext x i =>
    show opExt _ i call F t = match (opExt ((vals F os).getD 0 hh) i noCall .nil ⟨0, [], []⟩).val with | some v => .ok v t | none => .fail
    simp only [opExt, g]
    split
    · rename_i vs _; cases vs[i]? <;> rfl
    · rfl
  | len s x =>
    show opLen s _ call F t = match (opLen s ((vals F os).getD 0 hh) noCall .nil ⟨0, [], []⟩).val with | some v => .ok v t | none => .fail
    simp only [opLen, g]
    split <;> rfl
  | cpx x y =>
    show opCpx _ _ call F t = match (opCpx ((vals F os).getD 0 hh) ((vals F os).getD 1 hh) noCall .nil ⟨0, [], []⟩).val with | some v => .ok v t | none => .fail
    simp only [opCpx, g]
    split <;> rfl
  | re x =>
    show opRe _ call F t = match (opRe ((vals F os).getD 0 hh) noCall .nil ⟨0, [], []⟩).val with | some v => .ok v t | none => .fail
    simp only [opRe, g]
    split <;> rfl
  | im x =>
    show opIm _ call F t = match (opIm ((vals F os).getD 0 hh) noCall .nil ⟨0, [], []⟩).val with | some v => .ok v t | none => .fail
    simp only [opIm, g]
    split <;> rfl
  | mnx m x y =>
    show opMnx m _ _ call F t = match (opMnx m ((vals F os).getD 0 hh) ((vals F os).getD 1 hh) noCall .nil ⟨0, [], []⟩).val with | some v => .ok v t | none => .fail
    simp only [opMnx, g]
    split <;> rfl
  | ixb x y =>
    show opIxb _ _ call F t = match (opIxb ((vals F os).getD 0 hh) ((vals F os).getD 1 hh) noCall .nil ⟨0, [], []⟩).val with | some v => .ok v t | none => .fail
    simp only [opIxb, g]
    split
    · rename_i n _ _; cases Nat.blt n 256 <;> rfl
    · rfl

end

end M2
end
section
namespace M2
open Go
noncomputable section

/-! ### One operation -/

theorem Keeps.lk {lk : Bool} {D E : List Nat} {t t' : T} (h : Keeps lk D E t t') : Keeps true D E t t' := by
  obtain ⟨a, b, c, d, h, _⟩ := h; exact ⟨a, b, c, d, h, nofun⟩
theorem Gd.lk {lk : Bool} {H H' : Heap} {O O' : Rows} {t t' : T} (h : Gd lk H O t H' O' t') : Gd true H O t H' O' t' := ⟨h.wf, h.see, h.keep.lk, h.hn, h.on⟩

/-- what an operation comes to -/
def Goes (H : Heap) (O : Rows) (t : T) (Q : AV → Heap → Rows → Prop) (run : Nat → Option (AV × T)) : Prop :=
  ∃ v t' H' O' N, (∀ n, N ≤ n → run n = some (v, t')) ∧ Gd true H O t H' O' t' ∧ Q v H' O'

theorem Goes.of {H H' : Heap} {O O' : Rows} {t t' : T} {Q : AV → Heap → Rows → Prop} {run : Nat → Option (AV × T)} {v : AV} (hr : ∀ n, run n = some (v, t')) (hg : Gd true H O t H' O' t') (hq : Q v H' O') : Goes H O t Q run :=
  ⟨v, t', H', O', 0, fun n _ => hr n, hg, hq⟩

theorem Goes.congr {H : Heap} {O : Rows} {t : T} {Q : AV → Heap → Rows → Prop} {run run' : Nat → Option (AV × T)} (h : ∀ n, run n = run' n) (hg : Goes H O t Q run') : Goes H O t Q run := by
  obtain ⟨v, t', H', O', N, a, b, c⟩ := hg
  exact ⟨v, t', H', O', N, fun n hn => (h n).trans (a n hn), b, c⟩

/-- an operation that grows rows looks at no variables -/
def RowOp (o : AOp) (F : Fr) : Prop := ∀ call, ∃ g : Nat → List IScope → Option (AV × Nat × List IScope), (∀ n is r, g n is = some r → n ≤ r.2.1) ∧
  ∀ t : T, o.run call F t = match g t.n t.is with | some (v, n, is) => .ok v ⟨n, t.vs, is⟩ | none => .fail

theorem kv_row {o : AOp} {F : Fr} (h : RowOp o F) (call : CallF) (t : T) : opKV (some .iso) o call F t = opKV none o call F t := by
  obtain ⟨g, hn, hg⟩ := h call
  simp only [opKV, hg]
  show (match (match g t.n t.is with | some (v, n, is) => OR.ok v ⟨n, [[]], is⟩ | none => .fail) with
    | .ok v t' => (mergeD .iso t t').map fun t1 => (v, t1) | .fail => none) = _
  cases hr : g t.n t.is with
  | none => rfl
  | some r =>
    obtain ⟨v, n, is⟩ := r
    have hb : Nat.ble t.n n = true := Nat.ble_eq_true_of_le (hn _ _ _ hr)
    show ((match ([] : VScope), Nat.ble t.n n with | [], true => some (⟨n, t.vs, is⟩ : T) | _, _ => none).map fun t1 => (v, t1)) = some (v, ⟨n, t.vs, is⟩)
    rw [hb]; rfl

theorem rowOp_app (e b : Nat) (z : AV) (x y : Opd) (F : Fr) : RowOp (.app e b z x y) F := by
  intro call
  refine ⟨fun n is => match opApp e b z x y call F ⟨n, [], is⟩ with | .ok v t => some (v, t.n, t.is) | .fail => none, ?_, ?_⟩
  · intro n is r hr
    simp only at hr
    cases h : opApp e b z x y call F ⟨n, [], is⟩ with
    | fail => rw [h] at hr; cases hr
    | ok v t1 =>
    rw [h] at hr
    cases hr
    show n ≤ t1.n
    unfold opApp at h
    revert h
    split
    · split <;> intro hr <;> first | (cases hr; exact Nat.le_refl _) | cases hr
    · split
      · split <;> intro hr <;> first | (cases hr; exact Nat.le_succ _) | cases hr
      · split <;> intro hr <;> first | (cases hr; exact Nat.le_succ _) | cases hr
      · split
        · split
          · intro hr; cases hr; exact Nat.le_succ _
          · split
            · split <;> intro hr <;> first | (cases hr; exact Nat.le_succ _) | cases hr
            · intro hr; cases hr
        · intro hr; cases hr
      · intro hr; cases hr
    · intro hr; cases hr
  · intro t
    show opApp e b z x y call F t = _
    unfold opApp
    simp only
    split
    · split <;> rfl
    · split
      · split <;> rfl
      · split <;> rfl
      · split
        · split
          · rfl
          · split
            · split <;> rfl
            · rfl
        · rfl
      · rfl
    · rfl

theorem rowOp_mkS (e b : Nat) (z : AV) (x y : Opd) (F : Fr) : RowOp (.mkS e b z x y) F := by
  intro call
  refine ⟨fun n is => match opMkS e b z x y call F ⟨n, [], is⟩ with | .ok v t => some (v, t.n, t.is) | .fail => none, ?_, ?_⟩
  · intro n is r hr
    simp only at hr
    cases h : opMkS e b z x y call F ⟨n, [], is⟩ with
    | fail => rw [h] at hr; cases hr
    | ok v t1 =>
    rw [h] at hr
    cases hr
    show n ≤ t1.n
    unfold opMkS at h
    revert h
    split
    · split <;> intro hr <;> first | (cases hr; exact Nat.le_succ _) | cases hr
    · intro hr; cases hr
  · intro t
    show opMkS e b z x y call F t = _
    unfold opMkS
    simp only
    split
    · split <;> rfl
    · rfl

theorem rowOp_so (e n : Nat) (z : AV) (ps : List (Nat × Opd)) (F : Fr) : RowOp (.buildSo e n z ps) F := by
  intro call
  refine ⟨fun m is => match opBuildSo e n z ps call F ⟨m, [], is⟩ with | .ok v t => some (v, t.n, t.is) | .fail => none, ?_, ?_⟩
  · intro m is r hr
    simp only at hr
    cases h : opBuildSo e n z ps call F ⟨m, [], is⟩ with
    | fail => rw [h] at hr; cases hr
    | ok v t1 =>
    rw [h] at hr
    cases hr
    show m ≤ t1.n
    unfold opBuildSo at h
    revert h
    split <;> intro hr <;> first | (cases hr; exact Nat.le_succ _) | cases hr
  · intro t
    show opBuildSo e n z ps call F t = _
    unfold opBuildSo
    simp only
    split <;> rfl

theorem rowOp_mark (x : Opd) (F : Fr) : RowOp (.mark x) F := by
  intro call
  refine ⟨fun m is => match opMark x call F ⟨m, [], is⟩ with | .ok v t => some (v, t.n, t.is) | .fail => none, ?_, ?_⟩
  · intro m is r hr
    simp only at hr
    cases h : opMark x call F ⟨m, [], is⟩ with
    | fail => rw [h] at hr; cases hr
    | ok v t1 =>
    rw [h] at hr
    cases hr
    show m ≤ t1.n
    unfold opMark at h
    revert h
    split
    · split <;> intro hr <;> first | (cases hr; exact Nat.le_refl _) | cases hr
    · intro hr; cases hr
  · intro t
    show opMark x call F t = _
    unfold opMark
    simp only
    split
    · split <;> rfl
    · rfl

section
variable {H : Heap} {O : Rows} {t : T}

theorem Pre.hread (h : Pre H O t) {a : AV} {cs : List AV} (hr : hread H a = some cs) : t.read a = some cs := by
  unfold M2.hread at hr
  split at hr
  · exact hr
  · split at hr
    · rename_i x off _ c hx
      unfold T.read
      simp only
      rw [h.see.hv x _ (look_mem hx)]
      exact hr
    · cases hr
  · cases hr

theorem kv_ld {o : AOp} {F : Fr} {v : AV} (ho : ∀ call (t : T), o.run call F ⟨t.n, t.vs, [[]]⟩ = match (o.run call F t) with | .ok v _ => .ok v ⟨t.n, t.vs, [[]]⟩ | .fail => .fail) {call : CallF} (h : o.run call F t = .ok v t)
    (k : Option DK) (hk : k = none ∨ k = some .load ∨ ∃ i m, k = some (.loadm i m)) : opKV k o call F t = some (v, t) := by
  rcases hk with rfl | rfl | ⟨i, m, rfl⟩
  · simp only [opKV, h, OR.opt]
  · simp only [opKV, viewD, ho, h]; rfl
  · simp only [opKV, viewD, ho, h]; rfl

theorem ld1_view (x : Opd) (F : Fr) (call : CallF) (t : T) : (AOp.ld1 x).run call F ⟨t.n, t.vs, [[]]⟩ = match ((AOp.ld1 x).run call F t) with | .ok v _ => .ok v ⟨t.n, t.vs, [[]]⟩ | .fail => .fail := by
  show opLd1 x call F _ = match opLd1 x call F t with | .ok v _ => .ok v _ | .fail => .fail
  unfold opLd1
  rw [show (T.mk t.n t.vs [[]]).read (x.get F) = t.read (x.get F) from rfl]
  split <;> rfl
theorem ldA_view (n : Nat) (x : Opd) (F : Fr) (call : CallF) (t : T) : (AOp.ldA n x).run call F ⟨t.n, t.vs, [[]]⟩ = match ((AOp.ldA n x).run call F t) with | .ok v _ => .ok v ⟨t.n, t.vs, [[]]⟩ | .fail => .fail := by
  show opLdA n x call F _ = match opLdA n x call F t with | .ok v _ => .ok v _ | .fail => .fail
  unfold opLdA
  rw [show (T.mk t.n t.vs [[]]).read (x.get F) = t.read (x.get F) from rfl]
  split
  · rename_i cs _; cases Nat.ble n cs.length <;> rfl
  · rfl

theorem kv_newV {o : AOp} {F : Fr} {call : CallF} {ob : VObj} (ho : ∀ t : T, o.run call F t = .ok (.ptr t.n 0) (t.newV ob)) (k : Option DK) (hk : k = none ∨ k = some .pure) : opKV k o call F t = some (.ptr t.n 0, t.newV ob) := by
  rcases hk with rfl | rfl
  · simp only [opKV, ho, OR.opt]
  · simp only [opKV, ho, viewD]
    show ((Bool.rec none (some ⟨t.n + 1, push (t.n, ob) t.vs, t.is⟩) (Nat.beq t.n t.n && Nat.blt t.n (t.n + 1)) : Option T).map fun t1 => (AV.ptr t.n 0, t1)) = _
    rw [beq_true rfl, show Nat.blt t.n (t.n + 1) = true from Nat.ble_eq_true_of_le (Nat.le_refl _)]
    rfl

theorem kv_bump {o : AOp} {F : Fr} {call : CallF} {g : Nat → AV} (ho : ∀ t : T, o.run call F t = .ok (g t.n) t.bump) (k : Option DK) (hk : k = none ∨ k = some .pure) : opKV k o call F t = some (g t.n, t.bump) := by
  rcases hk with rfl | rfl
  · simp only [opKV, ho, OR.opt]
  · simp only [opKV, ho, viewD]
    show ((Bool.rec none (some ⟨t.n + 1, t.vs, t.is⟩) (Nat.ble t.n (t.n + 1)) : Option T).map fun t1 => (g t.n, t1)) = _
    rw [show Nat.ble t.n (t.n + 1) = true from Nat.ble_eq_true_of_le (Nat.le_succ _)]
    rfl

theorem Sees.nilH (h : Sees H O t) : Sees [] O t := ⟨List.nodup_nil, nofun, h.ok, h.ov⟩
theorem Pre.nilH (h : Pre H O t) : Pre [] O t := ⟨h.wf, h.see.nilH, h.v0, h.i0⟩

/-- a call that sees no variables, where they stand -/
theorem Gd.nilH (hp : Pre H O t) {H1 : Heap} {O' : Rows} {t' : T} (h : Gd true [] O t H1 O' t') : Gd true H O t H O' t' := by
  refine ⟨h.wf, ⟨hp.see.hk, fun x o hm => ?_, h.see.ok, h.see.ov⟩, ?_, fun p hp => .inl (List.mem_map.mpr ⟨p, hp, rfl⟩), h.on⟩
  · have h1 := hp.see.hv x o hm
    rw [h.keep.lookv (hp.wf.lookv h1) (fun h => by cases h)]
    exact h1
  · obtain ⟨nv, ni, φ, ψ, hc, hl⟩ := h.keep
    exact ⟨nv, ni, φ, ψ, ⟨hc.n, hc.vs, hc.is, hc.fk, fun p h1 _ => hc.fo p h1 (fun h => by cases h), hc.go, hc.nvn, hc.nin⟩, hl⟩

theorem call_goes {tbl : Nat → Option AFunc} {d : Bool} {f : Nat} {vs : List AV} {Q : AV → Heap → Rows → Prop} (hp : Pre H O t) (hw : wCall tbl d f vs H O Q) {o : AOp} {F : Fr}
    (ho : ∀ call t, o.run call F t = call f vs t) (k : Option DK) (hk : k = none ∨ k = some .iso) (hd : d = false → k = none) : Goes H O t Q fun n => opKV k o (callA tbl (ev tbl n)) F t := by
  cases d with
  | false =>
    rw [hd rfl]
    obtain ⟨v, t', H', O', N, h1, h2, h3⟩ := hw t hp
    exact ⟨v, t', H', O', N, fun n hn => by simp only [opKV, ho, h1 n hn, OR.opt], h2, h3⟩
  | true =>
    rcases hk with rfl | rfl
    · obtain ⟨v, t', H', O', N, h1, h2, h3⟩ := hw t hp.nilH
      exact ⟨v, t', H, O', N, fun n hn => by simp only [opKV, ho, h1 n hn, OR.opt], h2.lk.nilH hp, h3⟩
    · have hpv : Pre [] O ⟨t.n, [[]], t.is⟩ := ⟨⟨List.nodup_nil, nofun, hp.wf.ik, hp.wf.jn⟩, ⟨List.nodup_nil, nofun, hp.see.ok, hp.see.ov⟩, by simp, hp.i0⟩
      obtain ⟨v, t', H', O', N, h1, h2, h3⟩ := hw _ hpv
      obtain ⟨nv, ni, φ, ψ, hc, hl⟩ := h2.keep
      have hnv := hl rfl
      subst hnv
      have hvs : t'.vs = [[]] := hc.vs
      refine ⟨v, ⟨t'.n, t.vs, t'.is⟩, H, O', N, fun n hn => ?_, Gd.nilH (H1 := []) hp ⟨⟨hp.wf.vk, fun p h => Nat.lt_of_lt_of_le (hp.wf.vn p h) hc.n, h2.wf.ik, h2.wf.jn⟩, ⟨List.nodup_nil, nofun, h2.see.ok, h2.see.ov⟩,
        ⟨[], ni, fun p => p, ψ, ⟨hc.n, by rw [map_map_id, addTop_nil], hc.is, fun _ => rfl, fun _ _ _ => rfl, hc.go, (fun p h => nomatch h), hc.nin⟩, fun _ => rfl⟩, nofun, h2.on⟩, h3⟩
      simp only [opKV, ho, viewD, h1 n hn, mergeD, hvs]
      rw [show Nat.ble t.n t'.n = true from Nat.ble_eq_true_of_le hc.n]
      rfl

end

/-- the kinds of an operation -/
def koks (k : Option DK) (o : AOp) : Prop :=
  k = none ∨
  match o with
  | .ld1 _ | .ldA _ _ => k = some .load ∨ ∃ i m, k = some (.loadm i m)
  | .st _ _ _ => ∃ i m, k = some (.sto i m)
  | .call _ _ | .calld _ _ | .app .. | .mkS .. | .buildSo .. | .mark _ => k = some .iso
  | _ => k = some .pure

theorem koks_of (ms : List Nat) (st : Bool) (i : Nat) (o : AOp) : koks (some ((kindAt ms st i o).getD .pure)) o := by
  right
  cases o with
  | ld1 x => cases st <;> first | exact .inl rfl | exact .inr ⟨_, _, rfl⟩
  | ldA n x => cases st <;> first | exact .inl rfl | exact .inr ⟨_, _, rfl⟩
  | st n a b => exact ⟨_, _, rfl⟩
  | _ => exact rfl

theorem op_step {tbl : Nat → Option AFunc} {d : Bool} {o : AOp} (hpl : placeOK o = true) {os : List Opd} {F : Fr} {H : Heap} {O : Rows} {t : T} {Q : AV → Heap → Rows → Prop} (k : Option DK) (hk : koks k (o.fill os)) (hd : d = false → k = none)
    (hp : Pre H O t) (hw : wpo tbl d o (os.map (·.get F)) H O Q) : Goes H O t Q fun n => opKV k (o.fill os) (callA tbl (ev tbl n)) F t := by
  have g := fun i => get_vals (F := F) (os := os) i
  have g' : ∀ i, (os.map (·.get F)).getD i .und = (os.getD i hh).get F := by
    intro i
    simp only [List.getD_eq_getElem?_getD, List.getElem?_map]
    cases os[i]? <;> rfl
  cases ht : tfree o with
  | true =>
    rw [wpo_pure ht] at hw
    cases hv : pureV o (os.map (·.get F)) with
    | none => rw [hv] at hw; exact hw.elim
    | some v =>
      rw [hv] at hw
      have hr : ∀ call t, (o.fill os).run call F t = .ok v t := fun call t => by rw [run_free ht hpl, hv]
      refine .of (fun n => ?_) (.refl hp) hw
      rcases hk with rfl | hk
      · simp only [opKV, hr, OR.opt]
      · have hk' : k = some .pure := by cases o <;> first | exact hk | (cases ht)
        rw [hk']
        exact kv_same (fun t => hr _ t) _ (.inl rfl) t
  | false =>
    cases o with
    | alloc z =>
      refine .of (fun n => kv_newV (fun t => rfl) k hk) (.newV hp _) (hw t.n hp.newx)
    | box x =>
      simp only [wpo, g'] at hw
      refine .of (fun n => kv_newV (ob := .cells ((os.getD 0 hh).get F).cells) (fun t => ?_) k hk) (.newV hp _) (hw.2 t.n hp.newx)
      show opBox (os.getD 0 hh) (callA tbl (ev tbl n)) F t = _
      unfold opBox
      rw [hw.1]
    | ld1 x =>
      simp only [wpo, g'] at hw
      cases hc : hread H ((os.getD 0 hh).get F) with
      | none => rw [hc] at hw; exact hw.elim
      | some cs =>
        rw [hc] at hw
        cases hs : cs with
        | nil => subst hs; exact hw.elim
        | cons v cs' =>
          subst hs
          refine .of (v := v) (t' := t) (fun n => kv_ld (fun c t => ld1_view _ F c t) ?_ k hk) (.refl hp) hw
          show opLd1 (os.getD 0 hh) (callA tbl (ev tbl n)) F t = _
          unfold opLd1
          rw [hp.hread hc]
    | ldA m x =>
      simp only [wpo, g'] at hw
      cases hc : hread H ((os.getD 0 hh).get F) with
      | none => rw [hc] at hw; exact hw.elim
      | some cs =>
        rw [hc] at hw
        refine .of (v := .agg (cs.take m)) (t' := t) (fun n => kv_ld (fun c t => ldA_view _ _ F c t) ?_ k hk) (.refl hp) hw.2
        show opLdA m (os.getD 0 hh) (callA tbl (ev tbl n)) F t = _
        unfold opLdA
        rw [hp.hread hc]
        simp only
        rw [show Nat.ble m cs.length = true from Nat.ble_eq_true_of_le hw.1]
    | st m a v =>
      simp only [wpo, g'] at hw
      unfold wSt at hw
      split at hw
      · rename_i x off hx
        split at hw
        · rename_i cs hcs
          have hrun : ∀ call (u : T), u.vs = t.vs → ((AOp.st m a v).fill os).run call F u = .ok undefA ⟨u.n, upd2 x (.cells (putAt cs off ((os.getD 1 hh).get F).cells)) u.vs, u.is⟩ := by
            intro call u hu
            show opSt m (os.getD 0 hh) (os.getD 1 hh) call F u = _
            unfold opSt
            rw [hx]
            simp only
            rw [hu, hp.see.hv x _ (look_mem hcs)]
            simp only
            rw [hw.1]
          refine .of (v := undefA) (t' := ⟨t.n, upd2 x (.cells (putAt cs off ((os.getD 1 hh).get F).cells)) t.vs, t.is⟩) (fun n => ?_) (.upd hp (look_ids hcs) _) hw.2
          rcases hk with rfl | ⟨i, mm, rfl⟩
          · simp only [opKV, hrun _ t rfl, OR.opt]
          · simp only [opKV]
            rw [hrun _ (viewD (.sto i mm) t) rfl]
            rfl
        · exact hw.elim
      · exact hw.elim
    | buildS e m z ps =>
      simp only [wpo] at hw
      cases hf : fillS F e (List.replicate m z) (fillP2 ps os) with
      | none => rw [show fillS .nil e (List.replicate m z) (fillP2 ps ((os.map (·.get F)).map Opd.c)) = _ from fillS_vals e ps os _, hf] at hw; exact hw.elim
      | some l =>
        rw [show fillS .nil e (List.replicate m z) (fillP2 ps ((os.map (·.get F)).map Opd.c)) = _ from fillS_vals e ps os _, hf] at hw
        refine .of (fun n => kv_bump (g := fun n => .sl n e 0 m false 0 l) (fun t => ?_) k hk) (.bump hp) (hw _)
        show opBuildS e m z (fillP2 ps os) (callA tbl (ev tbl n)) F t = _
        unfold opBuildS
        rw [hf]
    | buildSo e m z ps =>
      simp only [wpo] at hw
      cases hf : fillS F e (List.replicate m z) (fillP2 ps os) with
      | none => rw [show fillS .nil e (List.replicate m z) (fillP2 ps ((os.map (·.get F)).map Opd.c)) = _ from fillS_vals e ps os _, hf] at hw; exact hw.elim
      | some l =>
        rw [show fillS .nil e (List.replicate m z) (fillP2 ps ((os.map (·.get F)).map Opd.c)) = _ from fillS_vals e ps os _, hf] at hw
        refine .of (v := .sl t.n e 0 m false 0 l) (t' := t.newI (m * e) e) (fun n => ?_) (.newI hp _ _) (hw _ hp.newi)
        have h1 : opKV none ((AOp.buildSo e m z ps).fill os) (callA tbl (ev tbl n)) F t = some (.sl t.n e 0 m false 0 l, t.newI (m * e) e) := by
          show (opBuildSo e m z (fillP2 ps os) (callA tbl (ev tbl n)) F t).opt = _
          unfold opBuildSo
          rw [hf]; rfl
        rcases hk with rfl | hk
        · exact h1
        · rw [show k = some .iso from hk]; exact (kv_row (show RowOp ((AOp.buildSo e m z ps).fill os) F from rowOp_so _ _ _ _ F) _ t).trans h1
    | mkS e b z x y =>
      simp only [wpo, g'] at hw
      unfold wMkS at hw
      split at hw
      · rename_i l c hl hc
        refine .of (v := .sl t.n e 0 l.toNat true 0 (List.replicate l.toNat z)) (t' := t.newI (l.toNat * e) e) (fun n => ?_) (.newI hp _ _) (hw.2 _ hp.newi)
        have h1 : opKV none ((AOp.mkS e b z x y).fill os) (callA tbl (ev tbl n)) F t = some (.sl t.n e 0 l.toNat true 0 (List.replicate l.toNat z), t.newI (l.toNat * e) e) := by
          show (opMkS e b z (os.getD 0 hh) (os.getD 1 hh) (callA tbl (ev tbl n)) F t).opt = _
          unfold opMkS
          rw [hl, hc]
          simp only
          rw [if_pos hw.1]; rfl
        rcases hk with rfl | hk
        · exact h1
        · rw [show k = some .iso from hk]; exact (kv_row (show RowOp ((AOp.mkS e b z x y).fill os) F from rowOp_mkS _ _ _ _ _ F) _ t).trans h1
      · exact hw.elim
    | mark x =>
      simp only [wpo, g'] at hw
      unfold wMark at hw
      split at hw
      · rename_i id e pos cap fl alt es hx
        cases ho : look id O with
        | none => rw [ho] at hw; exact hw.elim
        | some r =>
          rw [ho] at hw
          refine .of (v := .sl id e pos cap fl alt es) (t' := t) (fun n => ?_) (.refl hp) hw
          have h1 : opKV none ((AOp.mark x).fill os) (callA tbl (ev tbl n)) F t = some (.sl id e pos cap fl alt es, t) := by
            show (opMark (os.getD 0 hh) (callA tbl (ev tbl n)) F t).opt = _
            unfold opMark
            rw [hx]
            simp only
            rw [hp.see.ov id r (look_mem ho)]; rfl
          rcases hk with rfl | hk
          · exact h1
          · rw [show k = some .iso from hk]; exact (kv_row (show RowOp ((AOp.mark x).fill os) F from rowOp_mark _ F) _ t).trans h1
      · exact hw.elim
    | app e b z x y =>
      simp only [wpo, g'] at hw
      suffices h1 : ∃ v t' H' O', (∀ call, opApp e b z (os.getD 0 hh) (os.getD 1 hh) call F t = .ok v t') ∧ Gd true H O t H' O' t' ∧ Q v H' O' by
        obtain ⟨v, t', H', O', h1, h2, h3⟩ := h1
        refine .of (v := v) (t' := t') (fun n => ?_) h2 h3
        have h1' : opKV none ((AOp.app e b z x y).fill os) (callA tbl (ev tbl n)) F t = some (v, t') := by
          show (opApp e b z (os.getD 0 hh) (os.getD 1 hh) (callA tbl (ev tbl n)) F t).opt = _
          rw [h1]; rfl
        rcases hk with rfl | hk
        · exact h1'
        · rw [show k = some .iso from hk]; exact (kv_row (show RowOp ((AOp.app e b z x y).fill os) F from rowOp_app _ _ _ _ _ F) _ t).trans h1'
      unfold wApp at hw
      unfold opApp
      cases ha : appended e ((os.getD 1 hh).get F) with
      | none => rw [ha] at hw; exact hw.elim
      | some ys =>
        rw [ha] at hw
        cases ys with
        | nil =>
          refine ⟨_, t, H, O, fun call => ?_, .refl hp, hw.2⟩
          have := hw.1
          revert this
          cases (os.getD 0 hh).get F <;> intro h <;> first | rfl | cases h
        | cons y1 ys =>
          simp only [opt] at hw
          unfold wApp1 at hw
          simp only
          split at hw
          · rename_i hx
            rw [hx]
            simp only [List.length_cons] at hw ⊢
            rw [hw.1]
            exact ⟨_, _, H, _, fun _ => rfl, .newI hp _ _, hw.2 _ hp.newi⟩
          · rename_i hx
            rw [hx]
            simp only [List.length_cons] at hw ⊢
            rw [hw.1]
            exact ⟨_, _, H, _, fun _ => rfl, .newI hp _ _, hw.2 _ hp.newi⟩
          · rename_i id e' pos cap fl alt es hx
            rw [hx]
            simp only [List.length_cons] at hw ⊢
            rw [hw.1]
            cases fl with
            | false => exact ⟨_, _, H, _, fun _ => rfl, .newI hp _ _, hw.2 _ hp.newi⟩
            | true =>
              have hw2 := hw.2
              simp only at hw2
              cases ho : look id O with
              | none => rw [ho] at hw2; exact hw2.elim
              | some r =>
                rw [ho] at hw2
                rw [hp.see.ov id r (look_mem ho)]
                simp only
                obtain ⟨h3, h4⟩ := hw2
                refine ⟨_, _, H, _, fun _ => by rw [h3], .newD hp (look_ids ho) _ _, h4 _ hp.newi⟩
          · exact hw.elim
    | call f xs =>
      refine call_goes hp hw (fun call t => rfl) k hk hd
    | calld f xs =>
      simp only [wpo, g'] at hw
      unfold wCalld at hw
      split at hw
      · rename_i f' first cap hx
        refine call_goes hp hw (fun call t => ?_) k hk hd
        show opCalld (os.getD 0 hh) os.tail call F t = _
        unfold opCalld
        rw [hx]
        simp only [List.map_tail]
      · exact hw.elim
    | _ => cases ht

end

end M2
end
section
namespace M2
open Go
noncomputable section

/-! ### Expressions: what they come to -/

def nth (env : List AV) (j : Nat) : AV := env.getD j .und

def extL (l : List AV) : List Nat → Option (List AV)
  | [] => some []
  | i :: is =>
    match l[i]? with
    | some v =>
      match extL l is with
      | some vs => some (v :: vs)
      | none => none
    | none => none

def tupL (v : AV) (is : List Nat) : Option (List AV) :=
  match v with
  | .tup l => extL l is
  | _ => none

def lva (env : List AV) (a : AV) : Option (List AV) :=
  match a with
  | .ptr j off =>
    match nth env j with
    | .agg cs => some (cs.drop off)
    | _ => none
  | _ => none
def lvV (o : AOp) (cs : List AV) : Option AV :=
  match o with
  | .ld1 _ => cs.head?
  | .ldA n _ => if n ≤ cs.length then some (.agg (cs.take n)) else none
  | _ => none

def isAgg (a : AV) : Bool :=
  match a with
  | .agg _ => true
  | _ => false

/-- by a truth value -/
def bcase (a : AV) (P R : Prop) : Prop :=
  match a with
  | .bool b => match b with
    | true => P
    | false => R
  | _ => False

section
variable (tbl : Nat → Option AFunc) (dr : Bool) (env : List AV)

def wpx : X → Heap → Rows → (List AV → Heap → Rows → Prop) → Prop
  | .nil, H, O, Q => Q [] H O
  | .cons x xs, H, O, Q => wpx x H O fun vs H O => wpx xs H O fun ws H O => Q (vs ++ ws) H O
  | .v j, H, O, Q => Q [nth env j] H O
  | .m j, H, O, Q => Q [nth env j] H O
  | .c a, H, O, Q => Q [a] H O
  | .cm a, H, O, Q => Q [a] H O
  | .op o xs, H, O, Q => wpx xs H O fun vs H O => wpo tbl dr o vs H O fun v H O => Q [v] H O
  | .mr x, H, O, Q => wpx x H O fun vs H O => Q [vs.headD .und] H O
  | .tup is x, H, O, Q => wpx x H O fun vs H O => opt (tupL (vs.headD .und) is) fun ws => Q ws H O
  | .or x y, H, O, Q => wpx x H O fun vs H O => bcase (vs.headD .und) (Q [.bool true] H O) (wpx y H O fun ws H O => Q [ws.headD .und] H O)
  | .and x y, H, O, Q => wpx x H O fun vs H O => bcase (vs.headD .und) (wpx y H O fun ws H O => Q [ws.headD .und] H O) (Q [.bool false] H O)
  | .adr j, H, O, Q => isAgg (nth env j) = true ∧ Q [.ptr j 0] H O
  | .lv o x, H, O, Q => wpx x H O fun vs H O => opt (lva env (vs.headD .und)) fun cs => opt (lvV o cs) fun v => Q [v] H O
  | .at _ x, H, O, Q => wpx x H O Q

end

/-! ### Which are well made -/

def cX : X → Nat → Nat
  | .nil, c => c
  | .cons x xs, c => cX xs (cX x c)
  | .v _, c => c
  | .m _, c => c + 1
  | .c _, c => c
  | .cm _, c => c + 1
  | .op _ xs, c => cX xs c + 1
  | .mr x, c => cX x (c + 1)
  | .tup is x, c => cX x (c + 1) + is.length
  | .or x y, c => cX y (cX x c + 1) + 1
  | .and x y, c => cX y (cX x c + 1) + 1
  | .adr _, c => c
  | .lv _ x, c => cX x c + 1
  | .at n x, _ => cX x n

def clsOK (o : AOp) (cl : List (Option Nat)) : Bool :=
  match o with
  | .faddr _ _ => cl.length == 1
  | .iaddrA _ _ _ _ => cl.length == 2 && cl.tail.all Option.isNone
  | _ => cl.all Option.isNone
def ldO (o : AOp) : Bool :=
  match o with
  | .ld1 _ | .ldA _ _ => true
  | _ => false

section
variable (d : Nat) (ms : List Nat) (bx : List Bool)

def nm (k : Nat) : Bool := decide (k < 2 ^ d) && !ms.contains k
def vOK (j : Nat) : Bool := decide (j < ms.length) && !bx.getD j false
def bOK (j : Nat) : Bool := decide (j < ms.length) && bx.getD j false

def wfX : X → Nat → Bool
  | .nil, _ => true
  | .cons x xs, c => wfX x c && wfX xs (cX x c)
  | .v j, _ => vOK ms bx j
  | .m j, c => vOK ms bx j && nm d ms c
  | .c _, _ => true
  | .cm _, c => nm d ms c
  | .op o xs, c => wfX xs c && nm d ms (cX xs c) && placeOK o && clsOK o (clsX xs)
  | .mr x, c => wfX x (c + 1) && nm d ms c && clsX x == [none]
  | .tup is x, c => wfX x (c + 1) && nm d ms c && clsX x == [none] && (List.range is.length).all fun i => nm d ms (cX x (c + 1) + i)
  | .or x y, c => wfX x c && clsX x == [none] && nm d ms (cX x c) && wfX y (cX x c + 1) && clsX y == [none] && nm d ms (cX y (cX x c + 1))
  | .and x y, c => wfX x c && clsX x == [none] && nm d ms (cX x c) && wfX y (cX x c + 1) && clsX y == [none] && nm d ms (cX y (cX x c + 1))
  | .adr j, _ => bOK ms bx j
  | .lv o x, c => wfX x c && nm d ms (cX x c) && ldO o && match clsX x with | [some _] => true | _ => false
  | .at n x, c => decide (c ≤ n) && wfX x n

end

theorem cX_le (d : Nat) (ms : List Nat) (bx : List Bool) : ∀ (x : X) (c : Nat), wfX d ms bx x c = true → c ≤ cX x c := by
  intro x
  induction x with
  | nil | v | c | adr => intro c _; exact Nat.le_refl _
  | m | cm => intro c _; exact Nat.le_succ _
  | cons x xs h1 h2 =>
    intro c h
    simp only [wfX, Bool.and_eq_true] at h
    exact Nat.le_trans (h1 c h.1) (h2 _ h.2)
  | op o xs ih => intro c h; simp only [wfX, Bool.and_eq_true] at h; exact Nat.le_succ_of_le (ih c h.1.1.1)
  | mr x ih => intro c h; simp only [wfX, Bool.and_eq_true] at h; exact Nat.le_trans (Nat.le_succ _) (ih _ h.1.1)
  | tup is x ih => intro c h; simp only [wfX, Bool.and_eq_true] at h; have := ih _ h.1.1.1; simp only [cX]; omega
  | or x y h1 h2 => intro c h; simp only [wfX, Bool.and_eq_true] at h; have a := h1 _ h.1.1.1.1.1; have b := h2 _ h.1.1.2; simp only [cX]; omega
  | and x y h1 h2 => intro c h; simp only [wfX, Bool.and_eq_true] at h; have a := h1 _ h.1.1.1.1.1; have b := h2 _ h.1.1.2; simp only [cX]; omega
  | lv o x ih => intro c h; simp only [wfX, Bool.and_eq_true] at h; exact Nat.le_succ_of_le (ih c h.1.1.1)
  | «at» n x ih => intro c h; simp only [wfX, Bool.and_eq_true, decide_eq_true_eq] at h; exact Nat.le_trans h.1 (ih n h.2)

theorem flat_c (d : Nat) (ms : List Nat) : ∀ (x : X) (g : Guard) (c : Nat), (flatX d ms x g c).c = cX x c := by
  intro x
  induction x with
  | nil | v | c | adr | m | cm => intro g c; rfl
  | cons x xs h1 h2 => intro g c; simp only [flatX, cX, h1, h2]
  | op o xs ih => intro g c; simp only [flatX, cX, ih]
  | mr x ih => intro g c; simp only [flatX, cX, ih]
  | tup is x ih => intro g c; simp only [flatX, cX, ih]
  | or x y h1 h2 => intro g c; simp only [flatX, cX, h1, h2]
  | and x y h1 h2 => intro g c; simp only [flatX, cX, h1, h2]
  | lv o x ih => intro g c; simp only [flatX, cX, ih]
  | «at» n x ih => intro g c; simp only [flatX, cX, ih]

/-! ### The logs of drawn regions, by what is known of them beforehand -/

abbrev SLog := List (Nat × Option Nat × Bool)
def okS (m : Nat) (a : Option Nat) (s : Bool) (sl : SLog) : Bool := sl.all fun e => !(e.2.1 == a && (s || e.2.2)) || Nat.testBit m e.1
def slog1 (k : Option DK) (acc : Acc) (sl : SLog) : Option SLog :=
  match k with
  | some (.loadm i m) =>
    match acc with
    | some a => if okS m a false sl then some ((i, a, false) :: sl) else none
    | none => none
  | some (.sto i m) =>
    match acc with
    | some a => if okS m a true sl then some ((i, a, true) :: sl) else none
    | none => none
  | _ => some sl
abbrev Itm := Option DK × (AO × Acc)
def slogL : List Itm → SLog → Option SLog
  | [], sl => some sl
  | e :: l, sl =>
    match slog1 e.1 e.2.2 sl with
    | some sl1 => slogL l sl1
    | none => none

theorem slogL_append : ∀ (a b : List Itm) (sl r : SLog), slogL (a ++ b) sl = some r → ∃ m, slogL a sl = some m ∧ slogL b m = some r
  | [], b, sl, r, h => ⟨sl, rfl, h⟩
  | e :: a, b, sl, r, h => by
    simp only [List.cons_append, slogL] at h ⊢
    cases hs : slog1 e.1 e.2.2 sl with
    | none => rw [hs] at h; cases h
    | some s1 => rw [hs] at h; exact slogL_append a b s1 r h

theorem slog1_sub {k : Option DK} {acc : Acc} {sl sl' : SLog} (h : slog1 k acc sl = some sl') : ∀ e ∈ sl, e ∈ sl' := by
  unfold slog1 at h
  split at h
  · split at h
    · split at h
      · cases h; exact fun e he => List.mem_cons_of_mem _ he
      · cases h
    · cases h
  · split at h
    · split at h
      · cases h; exact fun e he => List.mem_cons_of_mem _ he
      · cases h
    · cases h
  · cases h; exact fun e he => he
theorem slogL_sub : ∀ {l : List Itm} {sl sl' : SLog}, slogL l sl = some sl' → ∀ e ∈ sl, e ∈ sl'
  | [], _, _, h => by cases h; exact fun e he => he
  | e :: l, sl, sl', h => by
    simp only [slogL] at h
    cases hs : slog1 e.1 e.2.2 sl with
    | none => rw [hs] at h; cases h
    | some s1 => rw [hs] at h; exact fun x hx => slogL_sub h x (slog1_sub hs x hx)

def kd (l : List Itm) : List (Option DK × AO) := l.map fun e => (e.1, e.2.1)
theorem kd_append (a b : List Itm) : kd (a ++ b) = kd a ++ kd b := List.map_append

def Run1 (tbl : Nat → Option AFunc) (l : List Itm) (F : Fr) (t : T) (lg : Log) (F' : Fr) (t' : T) (lg' : Log) : Prop :=
  ∃ N, ∀ n, N ≤ n → ∀ rest, runL (kd l ++ rest) (callA tbl (ev tbl n)) F t lg = runL rest (callA tbl (ev tbl n)) F' t' lg'

theorem Run1.refl {tbl : Nat → Option AFunc} (F : Fr) (t : T) (lg : Log) : Run1 tbl [] F t lg F t lg := ⟨0, fun _ _ _ => rfl⟩
theorem Run1.trans {tbl : Nat → Option AFunc} {a b : List Itm} {F F1 F2 : Fr} {t t1 t2 : T} {lg lg1 lg2 : Log} (h : Run1 tbl a F t lg F1 t1 lg1) (k : Run1 tbl b F1 t1 lg1 F2 t2 lg2) : Run1 tbl (a ++ b) F t lg F2 t2 lg2 := by
  obtain ⟨N, h⟩ := h
  obtain ⟨M, k⟩ := k
  refine ⟨max N M, fun n hn rest => ?_⟩
  rw [kd_append, List.append_assoc, h n (by omega), k n (by omega)]

/-- the guard that stands in front lets it by -/
def lets (d : Nat) (F : Fr) (g : Guard) (b : Bool) : Prop := wantedA F (gd d g) = some b

theorem run_skip {tbl : Nat → Option AFunc} {k : Option DK} {o : AO} {acc : Acc} {F : Fr} (t : T) (lg : Log) (h : wantedA F o.guard = some false) : Run1 tbl [(k, o, acc)] F t lg (F.putO? o.dst undefA) t lg := by
  refine ⟨0, fun n _ rest => ?_⟩
  show runL ((k, o) :: rest) _ F t lg = _
  rw [runL, h]

theorem run_one {tbl : Nat → Option AFunc} {k : Option DK} {o : AO} {acc : Acc} {F : Fr} {H : Heap} {O : Rows} {t : T} {lg lg1 : Log} {Q : AV → Heap → Rows → Prop} (h : wantedA F o.guard = some true) (hl : lgK k o.op F lg = some lg1)
    (hg : Goes H O t Q fun n => opKV k o.op (callA tbl (ev tbl n)) F t) : ∃ v t' H' O', Run1 tbl [(k, o, acc)] F t lg (F.putO? o.dst v) t' lg1 ∧ Gd true H O t H' O' t' ∧ Q v H' O' := by
  obtain ⟨v, t', H', O', N, h1, h2, h3⟩ := hg
  refine ⟨v, t', H', O', ⟨N, fun n hn rest => ?_⟩, h2, h3⟩
  show runL ((k, o) :: rest) _ F t lg = _
  rw [runL, h]
  simp only
  rw [hl]
  simp only
  have h4 := h1 n hn
  simp only at h4
  rw [h4]

end

end M2
end
