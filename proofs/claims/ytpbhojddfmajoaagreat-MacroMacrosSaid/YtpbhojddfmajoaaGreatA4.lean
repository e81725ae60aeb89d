/- General ground for the statement: an abstract machine that the program's code is shown to follow, and the contracts of the functions that the law reaches. Part 4. -/
import Derived.Test.YtpbhojddfmajoaaGreatA3
import Derived.KernelRfl
set_option linter.unusedVariables false
set_option linter.unusedSimpArgs false
section
namespace M2
open Go
open Classical

/-! ### A loop over a row of texts, round by round: each round run by itself, in an empty state -/

noncomputable def G.low (g : G) : G := g.view 3 (fun i => i < 3) (allB g)

/-- a value that no world matters to -/
def Free (M : Maps) (a : AV) : Prop := ∀ g g' v, VR M g a v → VR M g' a v
theorem free_str (M : Maps) (s : List UInt8) : Free M (.str s) := by
  intro g g' v h
  cases h
  exact .str s

theorem sl_move {M : Maps} {g g' : G} {id e pos cap alt : Nat} {fl : Bool} {es : List AV} {v : Value} (hpl : ∀ x ∈ es, Free M x) (hok : g'.ok id) (hρ : g'.ρ id = g.ρ id)
    (hfx : ∀ m, g.fixed (g.ρ id).block m → g'.fixed (g.ρ id).block m) (hw : g'.w = g.w) (h : VR M g (.sl id e pos cap fl alt es) v) : VR M g' (.sl id e pos cap fl alt es) v := by
  cases h with
  | sl id e pos cap fl alt es b o ccap vs hid hcc hb ho hlen hv hs hc hf =>
    subst hb
    exact .sl id e pos cap fl alt es _ o ccap vs hok (by rw [hρ]; exact hcc) (by rw [hρ]) (by rw [hρ]; exact ho) hlen (fun i hi => hpl _ (List.getElem_mem hi) g g' _ (hv i hi)) hs
      (fun i j hi hj => by rw [hw]; exact hc i j hi hj) (hfx _ hf)

theorem sl_known {M : Maps} {g : G} {id e pos cap alt : Nat} {fl : Bool} {es : List AV} {v : Value} (h : VR M g (.sl id e pos cap fl alt es) v) : g.ok id ∧ (g.ρ id).block < g.w.heap.size := by
  cases h with
  | sl id e pos cap fl alt es b o ccap vs hid hcc hb ho hlen hv hs hc hf => exact ⟨hid, hb ▸ hf.1⟩

theorem sl_low {M : Maps} {g : G} {id e pos cap alt : Nat} {fl : Bool} {es : List AV} {v : Value} (hpl : ∀ x ∈ es, Free M x) (hid : id < 3) (h : VR M g (.sl id e pos cap fl alt es) v) :
    VR M g.low (.sl id e pos cap fl alt es) v := by
  refine sl_move (g := g) (g' := g.low) hpl ⟨(sl_known h).1, hid⟩ rfl (fun m hf => ⟨hf.1, ?_⟩) rfl h
  show Own.fix m (if allB g (g.ρ id).block then (g.μ (g.ρ id).block).frz else g.μ (g.ρ id).block)
  rw [if_pos (show allB g (g.ρ id).block from hf.1)]
  exact (seal_fix _ _).mpr hf.2

theorem sl_upd {M : Maps} {g g' : G} {id e pos cap alt : Nat} {fl : Bool} {es : List AV} {v v0 : Value} (hpl : ∀ x ∈ es, Free M x) (hid : id < 3) (h0 : VR M g (.sl id e pos cap fl alt es) v0) (hle : g.low.Le g')
    (h : VR M g' (.sl id e pos cap fl alt es) v) : VR M (g.upd g') (.sl id e pos cap fl alt es) v := by
  obtain ⟨k1, k2⟩ := sl_known h0
  have hρ : g'.ρ id = g.ρ id := hle.ρ id ⟨k1, hid⟩
  refine sl_move hpl k1 hρ.symm (fun m hf => ⟨?_, ?_⟩) rfl h
  · exact hf.1
  · rw [hρ] at hf ⊢
    have := (back_sealed (g := g) hle (fun _ hb => hb) k2).2
    have h2 := hf.2
    rw [this] at h2
    show Own.fix m (if (g.ρ id).block < g.w.heap.size then g.μ (g.ρ id).block else .oth)
    rw [if_pos k2]
    exact (seal_fix _ _).mp h2

theorem low_sr {M : Maps} {g : G} {t : T} (_ : SR M g t) : SR M g.low ⟨3, [[]], [[]]⟩ :=
  SR.enter (t := ⟨3, [], []⟩)
    { n := rfl, wf := ⟨by simp, fun p hp => by simp at hp, by simp, fun p hp => by simp at hp⟩, okn := fun i hi => hi.2,
      var := fun x o hx => by simp [look2_nil] at hx, inj := fun x y o o' hx => by simp [look2_nil] at hx,
      ids := fun i en e hx => by simp [look2_nil] at hx, idinj := fun i j a b hx => by simp [look2_nil] at hx }

noncomputable def isRow (d : Nat) (row : AV) (r : RR) : Bool := match r with | .norm F _ => avE 60 (F.get (pth d 0)) row | _ => false
noncomputable def isRowI (d q : Nat) (row : AV) (i : Nat) (r : RR) : Bool := match r with | .norm F _ => avE 60 (F.get (pth d 0)) row && avE 2 (F.get (pth d q)) (.int .i64 (.ofNat i)) | _ => false
def isOut (id : Nat) (r : RR) : Bool := match r with | .exit j _ _ => Nat.beq j id | _ => false

noncomputable def frI (d q : Nat) (row : AV) (i : Nat) : Fr := (Fr.nil.put (pth d 0) row).put (pth d q) (.int .i64 (.ofNat i))

section
variable {P : Program} {M : Maps} {im : FuncId → Option Nat} {d ntmps : Nat}

theorem cmpR_kind {ops : Array Oper} {ac : Cd} (h : cmpR P im d ntmps ops = some ac) : (∃ ks ws, ac = .regd ks ws) ∨ ∃ f os, ac = .regx f os := by
  have hd0 : ∀ h c, cmpD0 P im d ntmps h ops = some c → ∃ ks ws, c = .regd ks ws := by
    intro h c hc
    unfold cmpD0 at hc
    simp only [Option.bind_eq_bind, Option.bind_eq_some_iff] at hc
    obtain ⟨_, _, _, _, _, _, e⟩ := hc
    split at e
    · cases e; exact ⟨_, _, rfl⟩
    · cases e
  have hd : ∀ c, cmpD P im d ntmps ops = some c → ∃ ks ws, c = .regd ks ws := by
    intro c hc
    unfold cmpD at hc
    split at hc
    · split at hc
      · rename_i c' hcc; cases hc; exact hd0 _ _ hcc
      · exact hd0 _ _ hc
    · split at hc
      · rename_i c' hcc; cases hc; exact hd0 _ _ hcc
      · exact hd0 _ _ hc
  have hx : ∀ c, cmpX P im d ntmps ops = some c → ∃ f os, c = .regx f os := by
    intro c hc
    unfold cmpX at hc
    simp only [Option.bind_eq_bind, Option.bind_eq_some_iff] at hc
    obtain ⟨_, _, e⟩ := hc
    split at e
    · cases e; exact ⟨_, _, rfl⟩
    · cases e
  unfold cmpR at h
  split at h
  · split at h
    · rename_i c hcc; cases h; exact .inr (hx _ hcc)
    · exact .inl (hd _ h)
  · split at h
    · rename_i c hcc; cases h; exact .inl (hd _ hcc)
    · exact .inr (hx _ h)

theorem inv_seq {c : Code} {A B : Cd} (h : cmpC P im d ntmps c = some (.seq A B)) : ∃ x y, c = .seq x y ∧ cmpC P im d ntmps x = some A ∧ cmpC P im d ntmps y = some B := by
  cases c with
  | seq x y =>
    simp only [cmpC, Option.bind_eq_bind, Option.bind_eq_some_iff] at h
    obtain ⟨x', hx, y', hy, e⟩ := h
    cases e
    exact ⟨x, y, rfl, hx, hy⟩
  | region id ops draw =>
    simp only [cmpC] at h
    split at h
    · rcases cmpR_kind h with ⟨_, _, e⟩ | ⟨_, _, e⟩ <;> cases e
    · rw [Option.map_eq_some_iff] at h
      obtain ⟨_, _, e⟩ := h
      cases e
  | _ => simp [cmpC, Option.bind_eq_some_iff] at h

theorem inv_block {c : Code} {id : Nat} {B : Cd} (h : cmpC P im d ntmps c = some (.block id B)) : ∃ x, c = .block id x ∧ cmpC P im d ntmps x = some B := by
  cases c with
  | block i x =>
    simp only [cmpC, Option.bind_eq_bind, Option.bind_eq_some_iff] at h
    obtain ⟨x', hx, e⟩ := h
    cases e
    exact ⟨x, rfl, hx⟩
  | region id ops draw =>
    simp only [cmpC] at h
    split at h
    · rcases cmpR_kind h with ⟨_, _, e⟩ | ⟨_, _, e⟩ <;> cases e
    · rw [Option.map_eq_some_iff] at h
      obtain ⟨_, _, e⟩ := h
      cases e
  | _ => simp [cmpC, Option.bind_eq_some_iff] at h

theorem inv_loop {c : Code} {B : Cd} (h : cmpC P im d ntmps c = some (.loop B)) : ∃ x, c = .loop x ∧ cmpC P im d ntmps x = some B := by
  cases c with
  | loop x =>
    simp only [cmpC, Option.bind_eq_bind, Option.bind_eq_some_iff] at h
    obtain ⟨x', hx, e⟩ := h
    cases e
    exact ⟨x, rfl, hx⟩
  | region id ops draw =>
    simp only [cmpC] at h
    split at h
    · rcases cmpR_kind h with ⟨_, _, e⟩ | ⟨_, _, e⟩ <;> cases e
    · rw [Option.map_eq_some_iff] at h
      obtain ⟨_, _, e⟩ := h
      cases e
  | _ => simp [cmpC, Option.bind_eq_some_iff] at h

/-- what is known between two pieces -/
structure Mid (M : Maps) (ntmps : Nat) (t : T) (g0 g : G) (a : Act) : Prop where
  le : g0.Le g
  s : SR M g t
  n : a.tmps.size = ntmps
  d : a.defers = []

theorem fr_nil {g : G} {tmps : Array Value} (h : tmps.size ≤ 2 ^ d) : FR M g d .nil tmps := ⟨h, fun t _ => by rw [Fr.get_nil]; exact .und _⟩
theorem fr_row {g : G} {tmps : Array Value} {F : Fr} (hF : FR M g d F tmps) {q : Nat} (hq : q < 2 ^ d) {a : AV} (hv : VR M g a (tmps.getD q undef)) : FR M g d (F.put (pth d q) a) tmps := by
  refine ⟨hF.size, fun u hu => ?_⟩
  rw [Fr.get_put]
  by_cases h : q = u
  · subst h; rw [if_pos rfl]; exact hv
  · rw [if_neg (fun e => h (pth_inj d q u hq hu e))]; exact hF.rel u hu

theorem isRow_ok {q : Nat} {row : AV} {r : RR} (h : isRow q row r = true) : ∃ F t, r = .norm F t ∧ F.get (pth q 0) = row := by
  unfold isRow at h
  split at h
  · exact ⟨_, _, rfl, avE_ok _ _ _ h⟩
  · cases h
theorem isRowI_ok {d q : Nat} {row : AV} {i : Nat} {r : RR} (h : isRowI d q row i r = true) : ∃ F t, r = .norm F t ∧ F.get (pth d 0) = row ∧ F.get (pth d q) = .int .i64 (.ofNat i) := by
  unfold isRowI at h
  split at h
  · simp only [Bool.and_eq_true] at h
    exact ⟨_, _, rfl, avE_ok _ _ _ h.1, avE_ok _ _ _ h.2⟩
  · cases h
theorem isOut_ok {id : Nat} {r : RR} (h : isOut id r = true) : ∃ F t, r = .exit id F t := by
  unfold isOut at h
  split at h
  · rw [Nat.eq_of_beq_eq_true h]; exact ⟨_, _, rfl⟩
  · cases h

theorem loop_orc {tbl : Nat → Option AFunc} (hmix : P.follows .mixedOrders = true) (him : ∀ f x, im f = some x → M.fm x = f) (ht : Table P M im tbl) {sid : Nat} {fn : AFunc} (hfn : tbl sid = some fn)
    {a1 a2 b c : Cd} {lb : Nat} (hshape : fn.body = .seq a1 (.seq (.seq a2 (.block lb (.loop b))) c)) {q : Nat} (hq : q < 2 ^ fn.depth) (hpar : fn.params = [pth fn.depth 0])
    {id e pos cap alt : Nat} {es : List AV} (hid : id < 3) (hes : ∀ M x, x ∈ es → Free M x) {k N : Nat}
    (h1 : isRow fn.depth (.sl id e pos cap false alt es) (ev tbl N a1 (Fr.nil.put (pth fn.depth 0) (.sl id e pos cap false alt es)) ⟨3, [[]], [[]]⟩) = true)
    (h2 : isRowI fn.depth q (.sl id e pos cap false alt es) 0 (ev tbl N a2 (Fr.nil.put (pth fn.depth 0) (.sl id e pos cap false alt es)) ⟨3, [[]], [[]]⟩) = true)
    (h3 : ∀ i, i < k → isRowI fn.depth q (.sl id e pos cap false alt es) (i + 1) (ev tbl N b (frI fn.depth q (.sl id e pos cap false alt es) i) ⟨3, [[]], [[]]⟩) = true)
    (h4 : isOut lb (ev tbl N b (frI fn.depth q (.sl id e pos cap false alt es) k) ⟨3, [[]], [[]]⟩) = true)
    (h5 : okR (outC fn (ev tbl N c .nil ⟨3, [[]], [[]]⟩)) = true) : CallOK P M (orc sid [.sl id e pos cap false alt es] 3) := by
  generalize hrow : AV.sl id e pos cap false alt es = row at *
  have rlow : ∀ {g : G} {v : Value}, VR M g row v → VR M g.low row v := fun h => by subst hrow; exact sl_low (hes M) hid h
  have rupd : ∀ {g g' : G} {v v0 : Value}, VR M g row v0 → g.low.Le g' → VR M g' row v → VR M (g.upd g') row v := fun h0 hle h => by subst hrow; exact sl_upd (hes M) hid h0 hle h
  have hcode := code_sound (P := P) hmix him tbl N (fun m _ => call_sound hmix him ht m)
  intro f' args t r t1 hr
  unfold orc at hr
  split at hr
  · rename_i hc
    obtain ⟨rfl, rfl, hn⟩ := hc
    cases hr
    obtain ⟨gf, hgf, hcf⟩ := ht f' fn hfn
    unfold cmpF at hcf
    split at hcf
    · rename_i hcond
      obtain ⟨c1, c2, c3⟩ := hcond
      simp only [Option.bind_eq_bind, Option.bind_eq_some_iff] at hcf
      obtain ⟨cc, hbody, bb, hb, rs, hrs, ee⟩ := hcf
      refine ⟨⟨gf, hgf, by simpa using c3, by simp [hbody]⟩, ?_⟩
      intro g cargs hS hsz hv
      have efn : fn = { depth := fn.depth, params := (List.range (gf.params.size + gf.nfree)).map (pth fn.depth), results := rs, keep := fn.keep, body := bb } := by simpa using ee.symm
      have eparams : fn.params = (List.range (gf.params.size + gf.nfree)).map (pth fn.depth) := by rw [efn]
      have ebody : fn.body = bb := by rw [efn]
      have eres : fn.results = rs := by rw [efn]
      have hsz1 : cargs.size = 1 := by simpa using hsz
      have hv0 : VR M g row (cargs.getD 0 undef) := hv 0 (by simp)
      have hnp : gf.params.size + gf.nfree = 1 := by
        rw [hpar] at eparams
        have := congrArg List.length eparams
        simpa using this.symm
      rw [← ebody, hshape] at hb
      obtain ⟨x, y0, rfl, hx, hy0⟩ := inv_seq hb
      obtain ⟨y1, u, rfl, hy1, hu⟩ := inv_seq hy0
      obtain ⟨y, z0, rfl, hy, hz0⟩ := inv_seq hy1
      obtain ⟨z1, rfl, hz1⟩ := inv_block hz0
      obtain ⟨z, rfl, hz⟩ := inv_loop hz1
      refine calls_of_wp hgf hbody ?_
      generalize hQ : bodyPost P gf (fun e w' => ∃ v g', e = .returned v ∧ g'.w = w' ∧ g.Le g' ∧ VR M g' (.bool true) v ∧ SR M g' t) = Q
      have hpw : gf.ntmps ≤ 2 ^ fn.depth := c1
      generalize ha0 : ({ tmps := cargs ++ Array.replicate (gf.ntmps - cargs.size) undef, defers := [] } : Act) = a0
      have m0 : Mid M gf.ntmps t g g a0 := ⟨.refl g, hS, by subst ha0; simp; omega, by subst ha0; rfl⟩
      have r0 : VR M g row (a0.tmps.getD 0 undef) := by
        subst ha0
        have e2 : (cargs ++ Array.replicate (gf.ntmps - cargs.size) undef).getD 0 undef = cargs.getD 0 undef := by
          simp only [Array.getD_eq_getD_getElem?]
          rw [Array.getElem?_append_left (by omega)]
        show VR M g row ((cargs ++ Array.replicate (gf.ntmps - cargs.size) undef).getD 0 undef)
        rw [e2]
        exact hv0
      have p0 : 0 < 2 ^ fn.depth := Nat.two_pow_pos _
      have fits : ∀ {g1 : G} {a : Act} {F : Fr}, Mid M gf.ntmps t g g1 a → FR M g1.low fn.depth F a.tmps → Fits M g1.low fn.depth gf.ntmps F ⟨3, [[]], [[]]⟩ a := fun hm hF => ⟨hF, low_sr hm.s, hm.n, hm.d⟩
      have next : ∀ {g1 g' : G} {a a' : Act} {F' : Fr} {t' : T}, Mid M gf.ntmps t g g1 a → g1.low.Le g' → Fits M g' fn.depth gf.ntmps F' t' a' → Mid M gf.ntmps t g (g1.upd g') a' :=
        fun hm hle hf => ⟨hm.le.trans (le_upd hle), sr_upd hm.s hle, hf.n, hf.d⟩
      have hsize : ∀ {g1 : G} {a : Act}, Mid M gf.ntmps t g g1 a → a.tmps.size ≤ 2 ^ fn.depth := fun hm => by rw [hm.n]; exact hpw
      have frow : ∀ {g1 : G} {a : Act}, Mid M gf.ntmps t g g1 a → VR M g1 row (a.tmps.getD 0 undef) → FR M g1.low fn.depth (Fr.nil.put (pth fn.depth 0) row) a.tmps :=
        fun hm hr => fr_row (fr_nil (hsize hm)) p0 (rlow hr)
      -- the end
      have hend : ∀ g1 a, Mid M gf.ntmps t g g1 a → u.wp P Q a g1.w := by
        intro g1 a hm
        have hp := hcode fn.depth gf.ntmps u c hu g1.low .nil ⟨3, [[]], [[]]⟩ a Q (fits hm (fr_nil (hsize hm)))
        refine hp ?_
        have hfin : ∀ F1 t1, afterBody fn F1 t1 = outC fn (ev tbl N c .nil ⟨3, [[]], [[]]⟩) → ∀ g' a', g1.low.Le g' → Fits M g' fn.depth gf.ntmps F1 t1 a' → bodyPost P gf (fun e w' => ∃ v g', e = .returned v ∧ g'.w = w' ∧ g.Le g' ∧ VR M g' (.bool true) v ∧ SR M g' t) .normal a' g'.w := by
          intro F1 t1 hE g' a' hle hf'
          obtain ⟨t2, ho⟩ := okR_ok h5
          rw [← hE] at ho
          unfold afterBody at ho
          rw [eres] at ho
          cases hrv : resultsOf F1 t1 rs with
          | none => rw [hrv] at ho; cases ho
          | some vs =>
            rw [hrv] at ho
            simp only [OR.ok.injEq] at ho
            obtain ⟨ws, w1, w2, w3⟩ := results_ok hf' gf.results.toList rs hrs vs hrv
            refine ⟨hf'.d, if h : ws.toArray.size = 1 then ws.toArray[0] else .tuple ws.toArray, ?_, ?_⟩
            · show (results gf a'.tmps).run P g'.w = _
              rw [results_eq, Array.mapM_eq_mapM_toList]
              simp only [Sem.run_bind, Sem.run_map, w1, Result.andThen_ok, Sem.run_pure]
            · have hvr := packed_ok w2 w3
              rw [ho.1] at hvr
              refine ⟨_, g1.upd g', rfl, rfl, hm.le.trans (le_upd hle), ?_, sr_upd hm.s hle⟩
              generalize (if h : ws.toArray.size = 1 then ws.toArray[0] else Value.tuple ws.toArray) = vv at hvr
              cases hvr
              exact .bool true
        subst hQ
        cases hev : ev tbl N c .nil ⟨3, [[]], [[]]⟩ with
        | fail => rw [hev] at h5; cases h5
        | norm F1 t1 => exact fun g' a' hle hf' => hfin F1 t1 (by rw [hev]; rfl) g' a' hle hf'
        | exit id F1 t1 => rw [hev] at h5; cases h5
        | ret F1 t1 => exact fun g' a' hle hf' => hfin F1 t1 (by rw [hev]; rfl) g' a' hle hf'
      refine wp_seq ?_
      obtain ⟨F1, t1, e1, v1⟩ := isRow_ok h1
      refine hcode fn.depth gf.ntmps x a1 hx g.low _ _ a0 _ (fits m0 (frow m0 r0)) ?_
      rw [e1]
      intro g1 a' hle hf'
      have m1 := next m0 hle hf'
      have r1 : VR M (g.upd g1) row (a'.tmps.getD 0 undef) := rupd r0 hle (by have := hf'.f.rel 0 p0; rwa [v1] at this)
      show Code.wp P _ Q a' (g.upd g1).w
      refine wp_seq (wp_seq ?_)
      obtain ⟨F2, t2, e2, v2, i2⟩ := isRowI_ok h2
      refine hcode fn.depth gf.ntmps y a2 hy (g.upd g1).low _ _ a' _ (fits m1 (frow m1 r1)) ?_
      rw [e2]
      intro g2 a2' hle2 hf2
      have m2 := next m1 hle2 hf2
      have r2 : VR M ((g.upd g1).upd g2) row (a2'.tmps.getD 0 undef) := rupd r1 hle2 (by have := hf2.f.rel 0 p0; rwa [v2] at this)
      have n2 : a2'.tmps.getD q undef = .int .i64 (.ofNat 0) := by
        have := hf2.f.rel q hq
        rw [i2] at this
        generalize a2'.tmps.getD q undef = vv at this
        cases this
        rfl
      show Code.wp P _ _ a2' ((g.upd g1).upd g2).w
      refine wp_block ?_
      refine wp_loop_n (fun m a w => ∃ i g3, i ≤ k ∧ m = k - i ∧ g3.w = w ∧ Mid M gf.ntmps t g g3 a ∧ VR M g3 row (a.tmps.getD 0 undef) ∧ a.tmps.getD q undef = .int .i64 (.ofNat i)) ?_ k a2' _
        ⟨0, _, Nat.zero_le _, rfl, rfl, m2, r2, n2⟩
      rintro m a3 w3 ⟨i, g3, hik, rfl, rfl, m3, r3, n3⟩
      have hF3 : FR M g3.low fn.depth (frI fn.depth q row i) a3.tmps := fr_row (frow m3 r3) hq (by rw [n3]; exact .int _ _)
      refine hcode fn.depth gf.ntmps z b hz g3.low _ _ a3 _ (fits m3 hF3) ?_
      by_cases hlt : i < k
      · obtain ⟨F4, t4, e4, v4, i4⟩ := isRowI_ok (h3 i hlt)
        rw [e4]
        intro g4 a4 hle4 hf4
        refine ⟨k - (i + 1), by omega, i + 1, g3.upd g4, hlt, rfl, rfl, next m3 hle4 hf4, rupd r3 hle4 (by have := hf4.f.rel 0 p0; rwa [v4] at this), ?_⟩
        have := hf4.f.rel q hq
        rw [i4] at this
        generalize a4.tmps.getD q undef = vv at this ⊢
        cases this
        rfl
      · have hk : i = k := by omega
        subst hk
        obtain ⟨F4, t4, e4⟩ := isOut_ok h4
        rw [e4]
        intro g4 a4 hle4 hf4
        simp only [Exit.then, Exit.inBlock, if_true]
        exact hend (g3.upd g4) a4 (next m3 hle4 hf4)
    · contradiction
  · cases hr

end

end M2
end
section
/- The function that runs the texts, cut at its loop. -/
namespace M2
open Go

noncomputable def s137a1 : Cd := (.reg [⟨(some p8n2), none, (.mv (.c (.bool false)))⟩])
noncomputable def s137a2 : Cd := (.reg [⟨(some p8n3), none, (.mv (.c (.int .i64 (.ofNat 0))))⟩])
noncomputable def s137b : Cd := (.seq (.seq (.reg [⟨(some p8n15), none, (.mv (.t p8n3))⟩, ⟨(some p8n16), none, (.mv (.t p8n0))⟩, ⟨(some p8n17), none, (.len false (.t p8n16))⟩, ⟨(some p8n18), none, (.bin .lss (.t p8n15) (.t p8n17))⟩]) (.cond (.t p8n18) .skip (.exit 0))) (.seq (.block 1 (.seq (.reg [⟨(some p8n22), none, (.mv (.t p8n0))⟩, ⟨(some p8n23), none, (.mv (.t p8n3))⟩, ⟨(some p8n24), none, (.iaddr 1 (.t p8n22) (.t p8n23))⟩, ⟨(some p8n25), none, (.ld1 (.t p8n24))⟩, ⟨(some p8n26), none, (.call 139 [(.t p8n25)])⟩, ⟨(some p8n21), none, (.mv (.t p8n26))⟩, ⟨(some p8n27), none, (.ext (.t p8n21) 0)⟩, ⟨(some p8n28), none, (.ext (.t p8n21) 1)⟩, ⟨(some p8n29), none, (.ext (.t p8n21) 2)⟩, ⟨(some p8n4), none, (.mv (.t p8n27))⟩, ⟨(some p8n5), none, (.mv (.t p8n28))⟩, ⟨(some p8n6), none, (.mv (.t p8n29))⟩]) (.seq (.seq (.reg [⟨(some p8n30), none, (.mv (.t p8n6))⟩, ⟨(some p8n31), none, (.bin .neq (.t p8n30) (.c (.int .i64 (.ofNat 0))))⟩]) (.cond (.t p8n31) (.seq (.reg [⟨(some p8n2), none, (.mv (.c (.bool false)))⟩]) .ret) .skip)) (.seq (.reg [⟨(some p8n33), none, (.mv (.t p8n4))⟩, ⟨(some p8n34), none, (.call 130 [(.t p8n33)])⟩, ⟨(some p8n32), none, (.mv (.t p8n34))⟩, ⟨(some p8n35), none, (.ext (.t p8n32) 0)⟩, ⟨(some p8n36), none, (.ext (.t p8n32) 1)⟩, ⟨(some p8n37), none, (.ext (.t p8n32) 2)⟩, ⟨(some p8n38), none, (.ext (.t p8n32) 3)⟩, ⟨(some p8n7), none, (.mv (.t p8n35))⟩, ⟨(some p8n8), none, (.mv (.t p8n36))⟩, ⟨(some p8n9), none, (.mv (.t p8n37))⟩, ⟨(some p8n10), none, (.mv (.t p8n38))⟩]) (.seq (.reg [⟨(some p8n40), none, (.mv (.t p8n4))⟩, ⟨(some p8n41), none, (.call 132 [(.t p8n40)])⟩, ⟨(some p8n39), none, (.mv (.t p8n41))⟩, ⟨(some p8n42), none, (.ext (.t p8n39) 0)⟩, ⟨(some p8n43), none, (.ext (.t p8n39) 1)⟩, ⟨(some p8n44), none, (.ext (.t p8n39) 2)⟩, ⟨(some p8n45), none, (.ext (.t p8n39) 3)⟩, ⟨(some p8n11), none, (.mv (.t p8n42))⟩, ⟨(some p8n12), none, (.mv (.t p8n43))⟩, ⟨(some p8n13), none, (.mv (.t p8n44))⟩, ⟨(some p8n14), none, (.mv (.t p8n45))⟩]) (.seq (.reg [⟨(some p8n46), none, (.mv (.t p8n10))⟩, ⟨(some p8n47), none, (.call 133 [(.t p8n46)])⟩, ⟨(some p8n48), none, (.mv (.t p8n14))⟩, ⟨(some p8n49), none, (.bin .neq (.t p8n47) (.t p8n48))⟩, ⟨(some p8n50), none, (.mv (.t p8n49))⟩, ⟨(some p8n51), (some (p8n50, false)), (.mv (.t p8n9))⟩, ⟨(some p8n52), (some (p8n50, false)), (.mv (.t p8n13))⟩, ⟨(some p8n53), (some (p8n50, false)), (.bin .neq (.t p8n51) (.t p8n52))⟩, ⟨(some p8n54), none, (.pick (.t p8n50) (.c (.bool true)) (.t p8n53))⟩, ⟨(some p8n55), none, (.mv (.t p8n54))⟩, ⟨(some p8n56), (some (p8n55, false)), (.mv (.t p8n7))⟩, ⟨(some p8n57), (some (p8n55, false)), (.mv (.t p8n11))⟩, ⟨(some p8n58), (some (p8n55, false)), (.call 134 [(.t p8n56), (.t p8n57)])⟩, ⟨(some p8n59), (some (p8n55, false)), (.un .not (.t p8n58))⟩, ⟨(some p8n60), none, (.pick (.t p8n55) (.c (.bool true)) (.t p8n59))⟩, ⟨(some p8n61), none, (.mv (.t p8n60))⟩, ⟨(some p8n62), (some (p8n61, false)), (.mv (.t p8n8))⟩, ⟨(some p8n63), (some (p8n61, false)), (.mv (.t p8n12))⟩, ⟨(some p8n64), (some (p8n61, false)), (.call 39 [(.t p8n62), (.t p8n63)])⟩, ⟨(some p8n65), (some (p8n61, false)), (.un .not (.t p8n64))⟩, ⟨(some p8n66), none, (.pick (.t p8n61) (.c (.bool true)) (.t p8n65))⟩]) (.cond (.t p8n66) (.seq (.reg [⟨(some p8n2), none, (.mv (.c (.bool false)))⟩]) .ret) .skip))))))) (.reg [⟨(some p8n19), none, (.mv (.t p8n3))⟩, ⟨(some p8n20), none, (.bin .add (.t p8n19) (.c (.int .i64 (.ofNat 1))))⟩, ⟨(some p8n3), none, (.mv (.t p8n20))⟩])))
noncomputable def s137c : Cd := (.seq (.reg [⟨(some p8n67), none, (.call 136 [])⟩, ⟨(some p8n2), none, (.mv (.t p8n67))⟩]) .ret)
theorem s137_shape : a137.body = .seq s137a1 (.seq (.seq s137a2 (.block 0 (.loop s137b))) s137c) := by kernel_rfl
theorem s137_end : okR (outC a137 (ev tab.get 1000000 s137c .nil ⟨3, [[]], [[]]⟩)) = true := by kernel_rfl

end M2
end
section
/- The law MacroMacros: all its texts, run one by one. -/
namespace M2
open Go Go.Proofs Go.Proofs.YtpbhojddfmajoaaGreat

def macroMacrosTexts : List AV := [.str [46, 109, 97, 99, 114, 111, 32, 109, 10, 97, 10, 46, 101, 110, 100, 109, 10, 109], .str [46, 109, 97, 99, 114, 111, 32, 109, 10, 97, 10, 98, 58, 32, 99, 10, 46, 101, 110, 100, 109, 10, 120, 58, 32, 109, 10, 121], .str [109, 10, 46, 109, 97, 99, 114, 111, 32, 109, 10, 97, 10, 46, 101, 110, 100, 109], .str [46, 109, 97, 99, 114, 111, 32, 109, 10, 46, 101, 110, 100, 109, 10, 109, 10, 108, 58, 32, 109], .str [46, 109, 97, 99, 114, 111, 32, 109, 10, 97, 10, 46, 101, 110, 100, 109, 10, 46, 109, 97, 99, 114, 111, 32, 109, 10, 46, 101, 110, 100, 109], .str [46, 109, 97, 99, 114, 111, 32, 109, 10, 110, 10, 46, 101, 110, 100, 109, 10, 46, 109, 97, 99, 114, 111, 32, 110, 10, 97, 10, 46, 101, 110, 100, 109, 10, 109], .str [46, 109, 97, 99, 114, 111, 32, 109, 10, 109, 10, 46, 101, 110, 100, 109, 10, 109], .str [46, 109, 97, 99, 114, 111, 10, 46, 101, 110, 100, 109], .str [46, 109, 97, 99, 114, 111, 32, 109, 32, 110, 10, 46, 101, 110, 100, 109], .str [46, 109, 97, 99, 114, 111, 32, 46, 109, 10, 46, 101, 110, 100, 109], .str [46, 109, 97, 99, 114, 111, 32, 109], .str [46, 101, 110, 100, 109], .str [46, 109, 97, 99, 114, 111, 32, 109, 10, 46, 109, 97, 99, 114, 111, 32, 110, 10, 46, 101, 110, 100, 109, 10, 46, 101, 110, 100, 109], .str [46, 109, 97, 99, 114, 111, 32, 109, 10, 46, 101, 110, 100, 109, 32, 53], .str [46, 109, 97, 99, 114, 111, 32, 109, 10, 97, 58, 32, 46, 101, 110, 100, 109], .str [97, 58, 32, 46, 109, 97, 99, 114, 111, 32, 109, 10, 46, 101, 110, 100, 109], .str [46, 109, 97, 99, 114, 111, 32, 109, 10, 46, 105, 102, 32, 49, 10, 46, 101, 110, 100, 109, 10, 109, 10, 46, 101, 110, 100, 105, 102], .str [46, 109, 97, 99, 114, 111, 32, 97, 100, 100, 10, 120, 10, 46, 101, 110, 100, 109, 10, 97, 100, 100, 32, 114, 49, 44, 32, 114, 50], .str [46, 109, 97, 99, 114, 111, 32, 109, 10, 46, 101, 113, 117, 32, 107, 44, 32, 53, 10, 46, 101, 110, 100, 109, 10, 109, 10, 46, 105, 102, 32, 107, 10, 97, 10, 46, 101, 110, 100, 105, 102, 10, 109], .str [46, 109, 97, 99, 114, 111, 32, 109, 10, 46, 109, 97, 99, 114, 111, 10, 46, 101, 110, 100, 109]]
def macroMacrosArg : AV := .sl 2 1 0 20 false 0 macroMacrosTexts
def macroMacrosCells (a : AV) : List AV := (List.replicate 3 AV.und).set 2 a
def macroMacrosSt (a : AV) : T := ⟨3, [[(1, .cells (macroMacrosCells a))]], [[]]⟩

theorem macroMacros_r0 : isRowI 8 3 macroMacrosArg 1 (ev tab.get 1000000 s137b (frI 8 3 macroMacrosArg 0) ⟨3, [[]], [[]]⟩) = true := by kernel_rfl
theorem macroMacros_r1 : isRowI 8 3 macroMacrosArg 2 (ev tab.get 1000000 s137b (frI 8 3 macroMacrosArg 1) ⟨3, [[]], [[]]⟩) = true := by kernel_rfl
theorem macroMacros_r2 : isRowI 8 3 macroMacrosArg 3 (ev tab.get 1000000 s137b (frI 8 3 macroMacrosArg 2) ⟨3, [[]], [[]]⟩) = true := by kernel_rfl
theorem macroMacros_r3 : isRowI 8 3 macroMacrosArg 4 (ev tab.get 1000000 s137b (frI 8 3 macroMacrosArg 3) ⟨3, [[]], [[]]⟩) = true := by kernel_rfl
theorem macroMacros_r4 : isRowI 8 3 macroMacrosArg 5 (ev tab.get 1000000 s137b (frI 8 3 macroMacrosArg 4) ⟨3, [[]], [[]]⟩) = true := by kernel_rfl
theorem macroMacros_r5 : isRowI 8 3 macroMacrosArg 6 (ev tab.get 1000000 s137b (frI 8 3 macroMacrosArg 5) ⟨3, [[]], [[]]⟩) = true := by kernel_rfl
theorem macroMacros_r6 : isRowI 8 3 macroMacrosArg 7 (ev tab.get 1000000 s137b (frI 8 3 macroMacrosArg 6) ⟨3, [[]], [[]]⟩) = true := by kernel_rfl
theorem macroMacros_r7 : isRowI 8 3 macroMacrosArg 8 (ev tab.get 1000000 s137b (frI 8 3 macroMacrosArg 7) ⟨3, [[]], [[]]⟩) = true := by kernel_rfl
theorem macroMacros_r8 : isRowI 8 3 macroMacrosArg 9 (ev tab.get 1000000 s137b (frI 8 3 macroMacrosArg 8) ⟨3, [[]], [[]]⟩) = true := by kernel_rfl
theorem macroMacros_r9 : isRowI 8 3 macroMacrosArg 10 (ev tab.get 1000000 s137b (frI 8 3 macroMacrosArg 9) ⟨3, [[]], [[]]⟩) = true := by kernel_rfl
theorem macroMacros_r10 : isRowI 8 3 macroMacrosArg 11 (ev tab.get 1000000 s137b (frI 8 3 macroMacrosArg 10) ⟨3, [[]], [[]]⟩) = true := by kernel_rfl
theorem macroMacros_r11 : isRowI 8 3 macroMacrosArg 12 (ev tab.get 1000000 s137b (frI 8 3 macroMacrosArg 11) ⟨3, [[]], [[]]⟩) = true := by kernel_rfl
theorem macroMacros_r12 : isRowI 8 3 macroMacrosArg 13 (ev tab.get 1000000 s137b (frI 8 3 macroMacrosArg 12) ⟨3, [[]], [[]]⟩) = true := by kernel_rfl
theorem macroMacros_r13 : isRowI 8 3 macroMacrosArg 14 (ev tab.get 1000000 s137b (frI 8 3 macroMacrosArg 13) ⟨3, [[]], [[]]⟩) = true := by kernel_rfl
theorem macroMacros_r14 : isRowI 8 3 macroMacrosArg 15 (ev tab.get 1000000 s137b (frI 8 3 macroMacrosArg 14) ⟨3, [[]], [[]]⟩) = true := by kernel_rfl
theorem macroMacros_r15 : isRowI 8 3 macroMacrosArg 16 (ev tab.get 1000000 s137b (frI 8 3 macroMacrosArg 15) ⟨3, [[]], [[]]⟩) = true := by kernel_rfl
theorem macroMacros_r16 : isRowI 8 3 macroMacrosArg 17 (ev tab.get 1000000 s137b (frI 8 3 macroMacrosArg 16) ⟨3, [[]], [[]]⟩) = true := by kernel_rfl
theorem macroMacros_r17 : isRowI 8 3 macroMacrosArg 18 (ev tab.get 1000000 s137b (frI 8 3 macroMacrosArg 17) ⟨3, [[]], [[]]⟩) = true := by kernel_rfl
theorem macroMacros_r18 : isRowI 8 3 macroMacrosArg 19 (ev tab.get 1000000 s137b (frI 8 3 macroMacrosArg 18) ⟨3, [[]], [[]]⟩) = true := by kernel_rfl
theorem macroMacros_r19 : isRowI 8 3 macroMacrosArg 20 (ev tab.get 1000000 s137b (frI 8 3 macroMacrosArg 19) ⟨3, [[]], [[]]⟩) = true := by kernel_rfl
theorem macroMacros_out : isOut 0 (ev tab.get 1000000 s137b (frI 8 3 macroMacrosArg 20) ⟨3, [[]], [[]]⟩) = true := by kernel_rfl
theorem macroMacros_free : ∀ M x, x ∈ macroMacrosTexts → Free M x := by
  intro M x h
  have : macroMacrosTexts.all (fun y => match y with | .str _ => true | _ => false) = true := by kernel_rfl
  have h2 := List.all_eq_true.mp this x h
  cases x <;> first | exact free_str M _ | cases h2
theorem macroMacros_orc : CallOK Tryz.prog (maps ims) (orc 137 [macroMacrosArg] 3) :=
  loop_orc mix him table (show tab.get 137 = some a137 by kernel_rfl) s137_shape (q := 3) (by decide +kernel) (by kernel_rfl) (by decide) macroMacros_free (k := 20) (N := 1000000)
    (show isRow 8 macroMacrosArg (ev tab.get 1000000 s137a1 (Fr.nil.put (pth 8 0) macroMacrosArg) ⟨3, [[]], [[]]⟩) = true by kernel_rfl)
    (show isRowI 8 3 macroMacrosArg 0 (ev tab.get 1000000 s137a2 (Fr.nil.put (pth 8 0) macroMacrosArg) ⟨3, [[]], [[]]⟩) = true by kernel_rfl)
    (fun i hi => match i, hi with
    | 0, _ => macroMacros_r0
    | 1, _ => macroMacros_r1
    | 2, _ => macroMacros_r2
    | 3, _ => macroMacros_r3
    | 4, _ => macroMacros_r4
    | 5, _ => macroMacros_r5
    | 6, _ => macroMacros_r6
    | 7, _ => macroMacros_r7
    | 8, _ => macroMacros_r8
    | 9, _ => macroMacros_r9
    | 10, _ => macroMacros_r10
    | 11, _ => macroMacros_r11
    | 12, _ => macroMacros_r12
    | 13, _ => macroMacros_r13
    | 14, _ => macroMacros_r14
    | 15, _ => macroMacros_r15
    | 16, _ => macroMacros_r16
    | 17, _ => macroMacros_r17
    | 18, _ => macroMacros_r18
    | 19, _ => macroMacros_r19
    | i + 20, h => absurd h (by omega)) macroMacros_out s137_end

theorem macroMacros_key (a : AV) (ha : OneSl a) (c : CallF) (hc : c 137 [macroMacrosArg] (macroMacrosSt a) = .ok (.bool true) (macroMacrosSt a)) : ∃ t2, callC c a123 [.agg ((List.replicate 3 AV.und).set 2 a)] ⟨1, [], []⟩ = .ok (.bool true) t2 := by
  have e : callC c a123 [.agg ((List.replicate 3 AV.und).set 2 a)] ⟨1, [], []⟩ = callC (fun _ _ _ => c 137 [macroMacrosArg] (macroMacrosSt a)) a123 [.agg ((List.replicate 3 AV.und).set 2 a)] ⟨1, [], []⟩ := by
    rcases ha with rfl | rfl | ⟨e, pos, cap, alt, n, rfl⟩ <;> kernel_rfl
  rw [e, hc]
  rcases ha with rfl | rfl | ⟨e, pos, cap, alt, n, rfl⟩
  · exact okR_ok (by kernel_rfl)
  · exact okR_ok (by kernel_rfl)
  · exact okR_ok (by kernel_rfl)

theorem macroMacros_run (a : AV) (ha : OneSl a) : ∃ t2, callC (orc 137 [macroMacrosArg] 3) a123 [.agg ((List.replicate 3 AV.und).set 2 a)] ⟨1, [], []⟩ = .ok (.bool true) t2 :=
  macroMacros_key a ha _ (orc_eq rfl)

end M2
end
