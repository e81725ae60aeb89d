/- General ground for the statement: an abstract machine that the program's code is shown to follow, and the contracts of the functions that the law reaches. Part 5. -/
import Derived.Test.YtoljmdhhhkbolaaGreatDoorA4
import Derived.KernelRfl
set_option linter.unusedVariables false
set_option linter.unusedSimpArgs false
section
namespace M2
open Go
open Classical

/-! ### A loop over a row of texts, round by round: each round run by itself, in an empty state -/

noncomputable def G.low (g : G) : G := g.view 3 (fun i => i < 3) (allB g)

/-- a value that no world matters to -/
def Free (M : Maps) (a : AV) : Prop := ∀ g g' v, VR M g a v → VR M g' a v
theorem free_str (M : Maps) (s : List UInt8) : Free M (.str s) := by
  intro g g' v h
  cases h
  exact .str s

theorem sl_move {M : Maps} {g g' : G} {id e pos cap alt : Nat} {fl : Bool} {es : List AV} {v : Value} (hpl : ∀ x ∈ es, Free M x) (hok : g'.ok id) (hρ : g'.ρ id = g.ρ id)
    (hfx : ∀ m, g.fixed (g.ρ id).block m → g'.fixed (g.ρ id).block m) (hw : g'.w = g.w) (h : VR M g (.sl id e pos cap fl alt es) v) : VR M g' (.sl id e pos cap fl alt es) v := by
  cases h with
  | sl id e pos cap fl alt es b o ccap vs hid hcc hb ho hlen hv hs hc hf =>
    subst hb
    exact .sl id e pos cap fl alt es _ o ccap vs hok (by rw [hρ]; exact hcc) (by rw [hρ]) (by rw [hρ]; exact ho) hlen (fun i hi => hpl _ (List.getElem_mem hi) g g' _ (hv i hi)) hs
      (fun i j hi hj => by rw [hw]; exact hc i j hi hj) (hfx _ hf)

theorem sl_known {M : Maps} {g : G} {id e pos cap alt : Nat} {fl : Bool} {es : List AV} {v : Value} (h : VR M g (.sl id e pos cap fl alt es) v) : g.ok id ∧ (g.ρ id).block < g.w.heap.size := by
  cases h with
  | sl id e pos cap fl alt es b o ccap vs hid hcc hb ho hlen hv hs hc hf => exact ⟨hid, hb ▸ hf.1⟩

theorem sl_low {M : Maps} {g : G} {id e pos cap alt : Nat} {fl : Bool} {es : List AV} {v : Value} (hpl : ∀ x ∈ es, Free M x) (hid : id < 3) (h : VR M g (.sl id e pos cap fl alt es) v) :
    VR M g.low (.sl id e pos cap fl alt es) v := by
  refine sl_move (g := g) (g' := g.low) hpl ⟨(sl_known h).1, hid⟩ rfl (fun m hf => ⟨hf.1, ?_⟩) rfl h
  show Own.fix m (if allB g (g.ρ id).block then (g.μ (g.ρ id).block).frz else g.μ (g.ρ id).block)
  rw [if_pos (show allB g (g.ρ id).block from hf.1)]
  exact (seal_fix _ _).mpr hf.2

theorem sl_upd {M : Maps} {g g' : G} {id e pos cap alt : Nat} {fl : Bool} {es : List AV} {v v0 : Value} (hpl : ∀ x ∈ es, Free M x) (hid : id < 3) (h0 : VR M g (.sl id e pos cap fl alt es) v0) (hle : g.low.Le g')
    (h : VR M g' (.sl id e pos cap fl alt es) v) : VR M (g.upd g') (.sl id e pos cap fl alt es) v := by
  obtain ⟨k1, k2⟩ := sl_known h0
  have hρ : g'.ρ id = g.ρ id := hle.ρ id ⟨k1, hid⟩
  refine sl_move hpl k1 hρ.symm (fun m hf => ⟨?_, ?_⟩) rfl h
  · exact hf.1
  · rw [hρ] at hf ⊢
    have := (back_sealed (g := g) hle (fun _ hb => hb) k2).2
    have h2 := hf.2
    rw [this] at h2
    show Own.fix m (if (g.ρ id).block < g.w.heap.size then g.μ (g.ρ id).block else .oth)
    rw [if_pos k2]
    exact (seal_fix _ _).mp h2

theorem low_sr {M : Maps} {g : G} {t : T} (_ : SR M g t) : SR M g.low ⟨3, [[]], [[]]⟩ :=
  SR.enter (t := ⟨3, [], []⟩)
    { n := rfl, wf := ⟨by simp, fun p hp => by simp at hp, by simp, fun p hp => by simp at hp⟩, okn := fun i hi => hi.2,
      var := fun x o hx => by simp [look2_nil] at hx, inj := fun x y o o' hx => by simp [look2_nil] at hx,
      ids := fun i en e hx => by simp [look2_nil] at hx, idinj := fun i j a b hx => by simp [look2_nil] at hx }

noncomputable def isRow (d : Nat) (row : AV) (r : RR) : Bool := match r with | .norm F _ => avE 60 (F.get (pth d 0)) row | _ => false
noncomputable def isRowI (d q : Nat) (row : AV) (i : Nat) (r : RR) : Bool := match r with | .norm F _ => avE 60 (F.get (pth d 0)) row && avE 2 (F.get (pth d q)) (.int .i64 (.ofNat i)) | _ => false
def isOut (id : Nat) (r : RR) : Bool := match r with | .exit j _ _ => Nat.beq j id | _ => false

noncomputable def frI (d q : Nat) (row : AV) (i : Nat) : Fr := (Fr.nil.put (pth d 0) row).put (pth d q) (.int .i64 (.ofNat i))

section
variable {P : Program} {M : Maps} {im : FuncId → Option Nat} {d ntmps : Nat}

theorem cmpR_kind {ops : Array Oper} {ac : Cd} (h : cmpR P im d ntmps ops = some ac) : (∃ ks ws, ac = .regd ks ws) ∨ ∃ f os, ac = .regx f os := by
  have hd0 : ∀ h c, cmpD0 P im d ntmps h ops = some c → ∃ ks ws, c = .regd ks ws := by
    intro h c hc
    unfold cmpD0 at hc
    simp only [Option.bind_eq_bind, Option.bind_eq_some_iff] at hc
    obtain ⟨_, _, _, _, _, _, e⟩ := hc
    split at e
    · cases e; exact ⟨_, _, rfl⟩
    · cases e
  have hd : ∀ c, cmpD P im d ntmps ops = some c → ∃ ks ws, c = .regd ks ws := by
    intro c hc
    unfold cmpD at hc
    split at hc
    · split at hc
      · rename_i c' hcc; cases hc; exact hd0 _ _ hcc
      · exact hd0 _ _ hc
    · split at hc
      · rename_i c' hcc; cases hc; exact hd0 _ _ hcc
      · exact hd0 _ _ hc
  have hx : ∀ c, cmpX P im d ntmps ops = some c → ∃ f os, c = .regx f os := by
    intro c hc
    unfold cmpX at hc
    simp only [Option.bind_eq_bind, Option.bind_eq_some_iff] at hc
    obtain ⟨_, _, e⟩ := hc
    split at e
    · cases e; exact ⟨_, _, rfl⟩
    · cases e
  unfold cmpR at h
  split at h
  · split at h
    · rename_i c hcc; cases h; exact .inr (hx _ hcc)
    · exact .inl (hd _ h)
  · split at h
    · rename_i c hcc; cases h; exact .inl (hd _ hcc)
    · exact .inr (hx _ h)

theorem inv_seq {c : Code} {A B : Cd} (h : cmpC P im d ntmps c = some (.seq A B)) : ∃ x y, c = .seq x y ∧ cmpC P im d ntmps x = some A ∧ cmpC P im d ntmps y = some B := by
  cases c with
  | seq x y =>
    simp only [cmpC, Option.bind_eq_bind, Option.bind_eq_some_iff] at h
    obtain ⟨x', hx, y', hy, e⟩ := h
    cases e
    exact ⟨x, y, rfl, hx, hy⟩
  | region id ops draw =>
    simp only [cmpC] at h
    split at h
    · rcases cmpR_kind h with ⟨_, _, e⟩ | ⟨_, _, e⟩ <;> cases e
    · rw [Option.map_eq_some_iff] at h
      obtain ⟨_, _, e⟩ := h
      cases e
  | _ => simp [cmpC, Option.bind_eq_some_iff] at h

theorem inv_block {c : Code} {id : Nat} {B : Cd} (h : cmpC P im d ntmps c = some (.block id B)) : ∃ x, c = .block id x ∧ cmpC P im d ntmps x = some B := by
  cases c with
  | block i x =>
    simp only [cmpC, Option.bind_eq_bind, Option.bind_eq_some_iff] at h
    obtain ⟨x', hx, e⟩ := h
    cases e
    exact ⟨x, rfl, hx⟩
  | region id ops draw =>
    simp only [cmpC] at h
    split at h
    · rcases cmpR_kind h with ⟨_, _, e⟩ | ⟨_, _, e⟩ <;> cases e
    · rw [Option.map_eq_some_iff] at h
      obtain ⟨_, _, e⟩ := h
      cases e
  | _ => simp [cmpC, Option.bind_eq_some_iff] at h

theorem inv_loop {c : Code} {B : Cd} (h : cmpC P im d ntmps c = some (.loop B)) : ∃ x, c = .loop x ∧ cmpC P im d ntmps x = some B := by
  cases c with
  | loop x =>
    simp only [cmpC, Option.bind_eq_bind, Option.bind_eq_some_iff] at h
    obtain ⟨x', hx, e⟩ := h
    cases e
    exact ⟨x, rfl, hx⟩
  | region id ops draw =>
    simp only [cmpC] at h
    split at h
    · rcases cmpR_kind h with ⟨_, _, e⟩ | ⟨_, _, e⟩ <;> cases e
    · rw [Option.map_eq_some_iff] at h
      obtain ⟨_, _, e⟩ := h
      cases e
  | _ => simp [cmpC, Option.bind_eq_some_iff] at h

/-- what is known between two pieces -/
structure Mid (M : Maps) (ntmps : Nat) (t : T) (g0 g : G) (a : Act) : Prop where
  le : g0.Le g
  s : SR M g t
  n : a.tmps.size = ntmps
  d : a.defers = []

theorem fr_nil {g : G} {tmps : Array Value} (h : tmps.size ≤ 2 ^ d) : FR M g d .nil tmps := ⟨h, fun t _ => by rw [Fr.get_nil]; exact .und _⟩
theorem fr_row {g : G} {tmps : Array Value} {F : Fr} (hF : FR M g d F tmps) {q : Nat} (hq : q < 2 ^ d) {a : AV} (hv : VR M g a (tmps.getD q undef)) : FR M g d (F.put (pth d q) a) tmps := by
  refine ⟨hF.size, fun u hu => ?_⟩
  rw [Fr.get_put]
  by_cases h : q = u
  · subst h; rw [if_pos rfl]; exact hv
  · rw [if_neg (fun e => h (pth_inj d q u hq hu e))]; exact hF.rel u hu

theorem isRow_ok {q : Nat} {row : AV} {r : RR} (h : isRow q row r = true) : ∃ F t, r = .norm F t ∧ F.get (pth q 0) = row := by
  unfold isRow at h
  split at h
  · exact ⟨_, _, rfl, avE_ok _ _ _ h⟩
  · cases h
theorem isRowI_ok {d q : Nat} {row : AV} {i : Nat} {r : RR} (h : isRowI d q row i r = true) : ∃ F t, r = .norm F t ∧ F.get (pth d 0) = row ∧ F.get (pth d q) = .int .i64 (.ofNat i) := by
  unfold isRowI at h
  split at h
  · simp only [Bool.and_eq_true] at h
    exact ⟨_, _, rfl, avE_ok _ _ _ h.1, avE_ok _ _ _ h.2⟩
  · cases h
theorem isOut_ok {id : Nat} {r : RR} (h : isOut id r = true) : ∃ F t, r = .exit id F t := by
  unfold isOut at h
  split at h
  · rw [Nat.eq_of_beq_eq_true h]; exact ⟨_, _, rfl⟩
  · cases h

theorem loop_orc {tbl : Nat → Option AFunc} (hmix : P.follows .mixedOrders = true) (him : ∀ f x, im f = some x → M.fm x = f) (ht : Table P M im tbl) {sid : Nat} {fn : AFunc} (hfn : tbl sid = some fn) (hdp : fn.depth ≠ 77 := by decide)
    {a1 a2 b c : Cd} {lb : Nat} (hshape : fn.body = .seq a1 (.seq (.seq a2 (.block lb (.loop b))) c)) {q : Nat} (hq : q < 2 ^ fn.depth) (hpar : fn.params = [pth fn.depth 0])
    {id e pos cap alt : Nat} {es : List AV} (hid : id < 3) (hes : ∀ M x, x ∈ es → Free M x) {k N : Nat}
    (h1 : isRow fn.depth (.sl id e pos cap false alt es) (ev tbl N a1 (Fr.nil.put (pth fn.depth 0) (.sl id e pos cap false alt es)) ⟨3, [[]], [[]]⟩) = true)
    (h2 : isRowI fn.depth q (.sl id e pos cap false alt es) 0 (ev tbl N a2 (Fr.nil.put (pth fn.depth 0) (.sl id e pos cap false alt es)) ⟨3, [[]], [[]]⟩) = true)
    (h3 : ∀ i, i < k → isRowI fn.depth q (.sl id e pos cap false alt es) (i + 1) (ev tbl N b (frI fn.depth q (.sl id e pos cap false alt es) i) ⟨3, [[]], [[]]⟩) = true)
    (h4 : isOut lb (ev tbl N b (frI fn.depth q (.sl id e pos cap false alt es) k) ⟨3, [[]], [[]]⟩) = true)
    (h5 : okR (outC fn (ev tbl N c .nil ⟨3, [[]], [[]]⟩)) = true) : CallOK P M (orc sid [.sl id e pos cap false alt es] 3) := by
  generalize hrow : AV.sl id e pos cap false alt es = row at *
  have rlow : ∀ {g : G} {v : Value}, VR M g row v → VR M g.low row v := fun h => by subst hrow; exact sl_low (hes M) hid h
  have rupd : ∀ {g g' : G} {v v0 : Value}, VR M g row v0 → g.low.Le g' → VR M g' row v → VR M (g.upd g') row v := fun h0 hle h => by subst hrow; exact sl_upd (hes M) hid h0 hle h
  have hcode := code_sound (P := P) hmix him tbl N (fun m _ => call_sound hmix him ht m)
  intro f' args t r t1 hr
  unfold orc at hr
  split at hr
  · rename_i hc
    obtain ⟨rfl, rfl, hn⟩ := hc
    cases hr
    obtain ⟨gf, hgf, hcf⟩ := ht.cmp hfn hdp
    unfold cmpF at hcf
    split at hcf
    · rename_i hcond
      obtain ⟨c1, c2, c3⟩ := hcond
      simp only [Option.bind_eq_bind, Option.bind_eq_some_iff] at hcf
      obtain ⟨cc, hbody, bb, hb, rs, hrs, ee⟩ := hcf
      refine ⟨⟨gf, hgf, by simpa using c3, by simp [hbody]⟩, ?_⟩
      intro g cargs hS hsz hv
      have efn : fn = { depth := fn.depth, params := (List.range (gf.params.size + gf.nfree)).map (pth fn.depth), results := rs, keep := fn.keep, body := bb } := by simpa using ee.symm
      have eparams : fn.params = (List.range (gf.params.size + gf.nfree)).map (pth fn.depth) := by rw [efn]
      have ebody : fn.body = bb := by rw [efn]
      have eres : fn.results = rs := by rw [efn]
      have hsz1 : cargs.size = 1 := by simpa using hsz
      have hv0 : VR M g row (cargs.getD 0 undef) := hv 0 (by simp)
      have hnp : gf.params.size + gf.nfree = 1 := by
        rw [hpar] at eparams
        have := congrArg List.length eparams
        simpa using this.symm
      rw [← ebody, hshape] at hb
      obtain ⟨x, y0, rfl, hx, hy0⟩ := inv_seq hb
      obtain ⟨y1, u, rfl, hy1, hu⟩ := inv_seq hy0
      obtain ⟨y, z0, rfl, hy, hz0⟩ := inv_seq hy1
      obtain ⟨z1, rfl, hz1⟩ := inv_block hz0
      obtain ⟨z, rfl, hz⟩ := inv_loop hz1
      refine calls_of_wp hgf hbody ?_
      generalize hQ : bodyPost P gf (fun e w' => ∃ v g', e = .returned v ∧ g'.w = w' ∧ g.Le g' ∧ VR M g' (.bool true) v ∧ SR M g' t) = Q
      have hpw : gf.ntmps ≤ 2 ^ fn.depth := c1
      generalize ha0 : ({ tmps := cargs ++ Array.replicate (gf.ntmps - cargs.size) undef, defers := [] } : Act) = a0
      have m0 : Mid M gf.ntmps t g g a0 := ⟨.refl g, hS, by subst ha0; simp; omega, by subst ha0; rfl⟩
      have r0 : VR M g row (a0.tmps.getD 0 undef) := by
        subst ha0
        have e2 : (cargs ++ Array.replicate (gf.ntmps - cargs.size) undef).getD 0 undef = cargs.getD 0 undef := by
          simp only [Array.getD_eq_getD_getElem?]
          rw [Array.getElem?_append_left (by omega)]
        show VR M g row ((cargs ++ Array.replicate (gf.ntmps - cargs.size) undef).getD 0 undef)
        rw [e2]
        exact hv0
      have p0 : 0 < 2 ^ fn.depth := Nat.two_pow_pos _
      have fits : ∀ {g1 : G} {a : Act} {F : Fr}, Mid M gf.ntmps t g g1 a → FR M g1.low fn.depth F a.tmps → Fits M g1.low fn.depth gf.ntmps F ⟨3, [[]], [[]]⟩ a := fun hm hF => ⟨hF, low_sr hm.s, hm.n, hm.d⟩
      have next : ∀ {g1 g' : G} {a a' : Act} {F' : Fr} {t' : T}, Mid M gf.ntmps t g g1 a → g1.low.Le g' → Fits M g' fn.depth gf.ntmps F' t' a' → Mid M gf.ntmps t g (g1.upd g') a' :=
        fun hm hle hf => ⟨hm.le.trans (le_upd hle), sr_upd hm.s hle, hf.n, hf.d⟩
      have hsize : ∀ {g1 : G} {a : Act}, Mid M gf.ntmps t g g1 a → a.tmps.size ≤ 2 ^ fn.depth := fun hm => by rw [hm.n]; exact hpw
      have frow : ∀ {g1 : G} {a : Act}, Mid M gf.ntmps t g g1 a → VR M g1 row (a.tmps.getD 0 undef) → FR M g1.low fn.depth (Fr.nil.put (pth fn.depth 0) row) a.tmps :=
        fun hm hr => fr_row (fr_nil (hsize hm)) p0 (rlow hr)
      -- the end
      have hend : ∀ g1 a, Mid M gf.ntmps t g g1 a → u.wp P Q a g1.w := by
        intro g1 a hm
        have hp := hcode fn.depth gf.ntmps u c hu g1.low .nil ⟨3, [[]], [[]]⟩ a Q (fits hm (fr_nil (hsize hm)))
        refine hp ?_
        have hfin : ∀ F1 t1, afterBody fn F1 t1 = outC fn (ev tbl N c .nil ⟨3, [[]], [[]]⟩) → ∀ g' a', g1.low.Le g' → Fits M g' fn.depth gf.ntmps F1 t1 a' → bodyPost P gf (fun e w' => ∃ v g', e = .returned v ∧ g'.w = w' ∧ g.Le g' ∧ VR M g' (.bool true) v ∧ SR M g' t) .normal a' g'.w := by
          intro F1 t1 hE g' a' hle hf'
          obtain ⟨t2, ho⟩ := okR_ok h5
          rw [← hE] at ho
          unfold afterBody at ho
          rw [eres] at ho
          cases hrv : resultsOf F1 t1 rs with
          | none => rw [hrv] at ho; cases ho
          | some vs =>
            rw [hrv] at ho
            simp only [OR.ok.injEq] at ho
            obtain ⟨ws, w1, w2, w3⟩ := results_ok hf' gf.results.toList rs hrs vs hrv
            refine ⟨hf'.d, if h : ws.toArray.size = 1 then ws.toArray[0] else .tuple ws.toArray, ?_, ?_⟩
            · show (results gf a'.tmps).run P g'.w = _
              rw [results_eq, Array.mapM_eq_mapM_toList]
              simp only [Sem.run_bind, Sem.run_map, w1, Result.andThen_ok, Sem.run_pure]
            · have hvr := packed_ok w2 w3
              rw [ho.1] at hvr
              refine ⟨_, g1.upd g', rfl, rfl, hm.le.trans (le_upd hle), ?_, sr_upd hm.s hle⟩
              generalize (if h : ws.toArray.size = 1 then ws.toArray[0] else Value.tuple ws.toArray) = vv at hvr
              cases hvr
              exact .bool true
        subst hQ
        cases hev : ev tbl N c .nil ⟨3, [[]], [[]]⟩ with
        | fail => rw [hev] at h5; cases h5
        | norm F1 t1 => exact fun g' a' hle hf' => hfin F1 t1 (by rw [hev]; rfl) g' a' hle hf'
        | exit id F1 t1 => rw [hev] at h5; cases h5
        | ret F1 t1 => exact fun g' a' hle hf' => hfin F1 t1 (by rw [hev]; rfl) g' a' hle hf'
      refine wp_seq ?_
      obtain ⟨F1, t1, e1, v1⟩ := isRow_ok h1
      refine hcode fn.depth gf.ntmps x a1 hx g.low _ _ a0 _ (fits m0 (frow m0 r0)) ?_
      rw [e1]
      intro g1 a' hle hf'
      have m1 := next m0 hle hf'
      have r1 : VR M (g.upd g1) row (a'.tmps.getD 0 undef) := rupd r0 hle (by have := hf'.f.rel 0 p0; rwa [v1] at this)
      show Code.wp P _ Q a' (g.upd g1).w
      refine wp_seq (wp_seq ?_)
      obtain ⟨F2, t2, e2, v2, i2⟩ := isRowI_ok h2
      refine hcode fn.depth gf.ntmps y a2 hy (g.upd g1).low _ _ a' _ (fits m1 (frow m1 r1)) ?_
      rw [e2]
      intro g2 a2' hle2 hf2
      have m2 := next m1 hle2 hf2
      have r2 : VR M ((g.upd g1).upd g2) row (a2'.tmps.getD 0 undef) := rupd r1 hle2 (by have := hf2.f.rel 0 p0; rwa [v2] at this)
      have n2 : a2'.tmps.getD q undef = .int .i64 (.ofNat 0) := by
        have := hf2.f.rel q hq
        rw [i2] at this
        generalize a2'.tmps.getD q undef = vv at this
        cases this
        rfl
      show Code.wp P _ _ a2' ((g.upd g1).upd g2).w
      refine wp_block ?_
      refine wp_loop_n (fun m a w => ∃ i g3, i ≤ k ∧ m = k - i ∧ g3.w = w ∧ Mid M gf.ntmps t g g3 a ∧ VR M g3 row (a.tmps.getD 0 undef) ∧ a.tmps.getD q undef = .int .i64 (.ofNat i)) ?_ k a2' _
        ⟨0, _, Nat.zero_le _, rfl, rfl, m2, r2, n2⟩
      rintro m a3 w3 ⟨i, g3, hik, rfl, rfl, m3, r3, n3⟩
      have hF3 : FR M g3.low fn.depth (frI fn.depth q row i) a3.tmps := fr_row (frow m3 r3) hq (by rw [n3]; exact .int _ _)
      refine hcode fn.depth gf.ntmps z b hz g3.low _ _ a3 _ (fits m3 hF3) ?_
      by_cases hlt : i < k
      · obtain ⟨F4, t4, e4, v4, i4⟩ := isRowI_ok (h3 i hlt)
        rw [e4]
        intro g4 a4 hle4 hf4
        refine ⟨k - (i + 1), by omega, i + 1, g3.upd g4, hlt, rfl, rfl, next m3 hle4 hf4, rupd r3 hle4 (by have := hf4.f.rel 0 p0; rwa [v4] at this), ?_⟩
        have := hf4.f.rel q hq
        rw [i4] at this
        generalize a4.tmps.getD q undef = vv at this ⊢
        cases this
        rfl
      · have hk : i = k := by omega
        subst hk
        obtain ⟨F4, t4, e4⟩ := isOut_ok h4
        rw [e4]
        intro g4 a4 hle4 hf4
        simp only [Exit.then, Exit.inBlock, if_true]
        exact hend (g3.upd g4) a4 (next m3 hle4 hf4)
    · contradiction
  · cases hr

end

end M2
end
section
namespace M2
open Go
open Classical

/-! ### Code in pieces: each may be run by itself, from what it needs -/

section
variable (P : Program) (M : Maps) (im : FuncId → Option Nat) (d : Nat)

/-- code that compiles to c, from what F and t tell, ends as r tells -/
def Ex (c : Cd) (F : Fr) (t : T) (r : RR) : Prop :=
  ∀ ntmps z, cmpC P im d ntmps z = some c → ∀ g a Q, Fits M g d ntmps F t a → Post M g d ntmps Q r → z.wp P Q a g.w

end

section
variable {P : Program} {M : Maps} {im : FuncId → Option Nat} {d : Nat}

theorem Ex.run {tbl : Nat → Option AFunc} (hmix : P.follows .mixedOrders = true) (him : ∀ f x, im f = some x → M.fm x = f) (ht : Table P M im tbl) {N : Nat} {c : Cd} {F : Fr} {t : T} {r : RR}
    (h : ev tbl N c F t = r) : Ex P M im d c F t r := by
  intro ntmps z hz g a Q hf hp
  exact code_sound hmix him tbl N (fun m _ => call_sound hmix him ht m) d ntmps z c hz g F t a Q hf (by rw [h]; exact hp)

theorem Ex.seq {x y : Cd} {F F1 : Fr} {t t1 : T} {r : RR} (h1 : Ex P M im d x F t (.norm F1 t1)) (h2 : Ex P M im d y F1 t1 r) : Ex P M im d (.seq x y) F t r := by
  intro ntmps z hz g a Q hf hp
  obtain ⟨u, v, rfl, hu, hv⟩ := inv_seq hz
  refine wp_seq (h1 ntmps u hu g a _ hf ?_)
  intro g' a' hle hf'
  exact h2 ntmps v hv g' a' Q hf' (hp.later hle)

def RR.norm? : RR → Bool
  | .norm _ _ => true
  | _ => false

theorem Ex.seqx {x y : Cd} {F : Fr} {t : T} {r : RR} (h1 : Ex P M im d x F t r) (hr : r.norm? = false) : Ex P M im d (.seq x y) F t r := by
  intro ntmps z hz g a Q hf hp
  obtain ⟨u, v, rfl, hu, hv⟩ := inv_seq hz
  refine wp_seq (h1 ntmps u hu g a _ hf ?_)
  cases r with
  | fail => exact hp
  | norm F1 t1 => cases hr
  | exit id F1 t1 => exact hp
  | ret F1 t1 => exact hp

theorem Ex.loopx {b : Cd} {F : Fr} {t : T} {r : RR} (h1 : Ex P M im d b F t r) (hr : r.norm? = false) : Ex P M im d (.loop b) F t r := by
  intro ntmps z hz g a Q hf hp
  obtain ⟨u, rfl, hu⟩ := inv_loop hz
  refine wp_loop_n (fun m a' w => m = 0 ∧ a' = a ∧ w = g.w) ?_ 0 a g.w ⟨rfl, rfl, rfl⟩
  rintro m a' w ⟨-, rfl, rfl⟩
  refine h1 ntmps u hu g a' _ hf ?_
  cases r with
  | fail => exact hp
  | norm F1 t1 => cases hr
  | exit id F1 t1 => exact hp
  | ret F1 t1 => exact hp

/-- k rounds of a loop, and then what ends it -/
theorem Ex.loops {b : Cd} {F : Nat → Fr} {t : Nat → T} {k : Nat} {r : RR} (h1 : ∀ i, i < k → Ex P M im d b (F i) (t i) (.norm (F (i + 1)) (t (i + 1)))) (h2 : Ex P M im d b (F k) (t k) r) (hr : r.norm? = false) :
    Ex P M im d (.loop b) (F 0) (t 0) r := by
  intro ntmps z hz g a Q hf hp
  obtain ⟨u, rfl, hu⟩ := inv_loop hz
  refine wp_loop_n (fun m a' w => ∃ i g1, i ≤ k ∧ m = k - i ∧ g1.w = w ∧ g.Le g1 ∧ Fits M g1 d ntmps (F i) (t i) a') ?_ k a g.w ⟨0, g, Nat.zero_le _, rfl, rfl, .refl g, hf⟩
  rintro m a' w ⟨i, g1, hik, rfl, rfl, hle, hf1⟩
  by_cases hlt : i < k
  · refine h1 i hlt ntmps u hu g1 a' _ hf1 ?_
    intro g2 a2 hle2 hf2
    exact ⟨k - (i + 1), by omega, i + 1, g2, hlt, rfl, rfl, hle.trans hle2, hf2⟩
  · have hk : i = k := by omega
    subst hk
    refine h2 ntmps u hu g1 a' _ hf1 ?_
    have hp1 := hp.later hle
    cases r with
    | fail => exact hp1
    | norm F1 t1 => cases hr
    | exit id F1 t1 => exact hp1
    | ret F1 t1 => exact hp1

def inB (id : Nat) : RR → RR
  | .exit i F t => if i = id then .norm F t else .exit i F t
  | r => r

theorem Ex.block {b : Cd} {id : Nat} {F : Fr} {t : T} {r : RR} (h1 : Ex P M im d b F t r) : Ex P M im d (.block id b) F t (inB id r) := by
  intro ntmps z hz g a Q hf hp
  obtain ⟨u, rfl, hu⟩ := inv_block hz
  refine wp_block (h1 ntmps u hu g a _ hf ?_)
  cases r with
  | fail => exact hp
  | norm F1 t1 => exact hp
  | exit i F1 t1 =>
    intro g' a' hle hf'
    unfold Exit.inBlock
    by_cases hi : i = id
    · simp only [inB, hi, if_true] at hp
      simp only [hi, if_true]
      exact hp g' a' hle hf'
    · simp only [inB, hi, if_false] at hp
      simp only [hi, if_false]
      exact hp g' a' hle hf'
  | ret F1 t1 => exact hp

/-- to know less -/
def Fr.under (F0 F : Fr) : Prop := ∀ p, F0.get p = .und ∨ F0.get p = F.get p

theorem FR.under {g : G} {F0 F : Fr} {tmps : Array Value} (h : F0.under F) (hF : FR M g d F tmps) : FR M g d F0 tmps :=
  ⟨hF.size, fun u hu => by
    rcases h (pth d u) with e | e
    · rw [e]; exact .und _
    · rw [e]; exact hF.rel u hu⟩

theorem Ex.weak {c : Cd} {F0 F : Fr} {t : T} {r : RR} (hu : F0.under F) (h : Ex P M im d c F0 t r) : Ex P M im d c F t r := by
  intro ntmps z hz g a Q hf hp
  exact h ntmps z hz g a Q ⟨hf.f.under hu, hf.s, hf.n, hf.d⟩ hp

def underR (F0 : Fr) : RR → RR
  | .fail => .fail
  | .norm _ t => .norm F0 t
  | .exit i _ t => .exit i F0 t
  | .ret _ t => .ret F0 t
def frOf : RR → Fr
  | .fail => .nil
  | .norm F _ => F
  | .exit _ F _ => F
  | .ret F _ => F

/-- to forget -/
theorem Ex.less {c : Cd} {F F0 : Fr} {t : T} {r : RR} (h : Ex P M im d c F t r) (hu : F0.under (frOf r)) : Ex P M im d c F t (underR F0 r) := by
  intro ntmps z hz g a Q hf hp
  refine h ntmps z hz g a Q hf ?_
  cases r with
  | fail => exact hp
  | norm F1 t1 => exact fun g' a' hle hf' => hp g' a' hle ⟨hf'.f.under hu, hf'.s, hf'.n, hf'.d⟩
  | exit i F1 t1 => exact fun g' a' hle hf' => hp g' a' hle ⟨hf'.f.under hu, hf'.s, hf'.n, hf'.d⟩
  | ret F1 t1 => exact fun g' a' hle hf' => hp g' a' hle ⟨hf'.f.under hu, hf'.s, hf'.n, hf'.d⟩

/-- operations whose calls are answered by others -/
theorem Ex.reg (him : ∀ f x, im f = some x → M.fm x = f) {call : CallF} (hcall : CallOK P M call) {l : List AO} {F : Fr} {t : T} : Ex P M im d (.reg l) F t (runOps l call F t) := by
  intro ntmps z hz g a Q hf hp
  exact evC_sound him hcall d ntmps z (.reg l) hz g F t a Q hf hp

/-! ### In an empty state -/

noncomputable def G.lowN (g : G) (n : Nat) : G := g.view n (fun i => i < n) (allB g)

theorem lowN_sr {g : G} {n : Nat} : SR M (g.lowN n) ⟨n, [[]], [[]]⟩ :=
  SR.enter (t := ⟨n, [], []⟩)
    { n := rfl, wf := ⟨by simp, fun p hp => by simp at hp, by simp, fun p hp => by simp at hp⟩, okn := fun i hi => hi.2,
      var := fun x o hx => by simp [look2_nil] at hx, inj := fun x y o o' hx => by simp [look2_nil] at hx,
      ids := fun i en e hx => by simp [look2_nil] at hx, idinj := fun i j a b hx => by simp [look2_nil] at hx }

/-- a value that may be carried into an empty state, and back -/
def Down (M : Maps) (n : Nat) (a : AV) : Prop := ∀ g v, VR M g a v → VR M (g.lowN n) a v
def Back (M : Maps) (n : Nat) (a : AV) : Prop := ∀ g g' v v0, VR M g a v0 → (g.lowN n).Le g' → VR M g' a v → VR M (g.upd g') a v

theorem Free.down {n : Nat} {a : AV} (h : Free M a) : Down M n a := fun _ _ hv => h _ _ _ hv
theorem Free.back {n : Nat} {a : AV} (h : Free M a) : Back M n a := fun _ _ _ _ _ _ hv => h _ _ _ hv

theorem down_ptr {n x off : Nat} (h : x < n) : Down M n (.ptr x off) := by
  intro g v hv
  cases hv with
  | ptr x off hx => exact VR.ptr (g := g.lowN n) x off ⟨hx, h⟩
theorem back_ptr {n x off : Nat} (h : x < n) : Back M n (.ptr x off) := by
  intro g g' v v0 h0 hle hv
  cases h0 with
  | ptr x off hx0 =>
    cases hv with
    | ptr x off hx =>
      have : g'.ν x = g.ν x := hle.ν x ⟨hx0, h⟩
      rw [this]
      exact VR.ptr (g := g.upd g') x off hx0

theorem Ex.low {c : Cd} {F : Fr} {t : T} {n : Nat} {r : RR} (h : Ex P M im d c F ⟨n, [[]], [[]]⟩ r) (hd : ∀ p, Down M n (F.get p)) {F1 : Fr}
    (hu : F1.under (frOf r)) (hb : ∀ p, Free M (F1.get p) ∨ (F1.get p = F.get p ∧ Back M n (F1.get p))) (he : r ≠ .fail) {r' : RR}
    (hr' : r' = match r with | .fail => .fail | .norm _ _ => .norm F1 t | .exit i _ _ => .exit i F1 t | .ret _ _ => .ret F1 t) : Ex P M im d c F t r' := by
  intro ntmps z hz g a Q hf hp
  have hfl : Fits M (g.lowN n) d ntmps F ⟨n, [[]], [[]]⟩ a := ⟨⟨hf.f.size, fun u hu => hd _ g _ (hf.f.rel u hu)⟩, lowN_sr, hf.n, hf.d⟩
  have key : ∀ g' F2 t2 a', (g.lowN n).Le g' → Fits M g' d ntmps F2 t2 a' → F2 = frOf r → Fits M (g.upd g') d ntmps F1 t a' := by
    intro g' F2 t2 a' hle hf' e
    subst e
    refine ⟨⟨hf'.f.size, fun u hu1 => ?_⟩, sr_upd hf.s hle, hf'.n, hf'.d⟩
    have h1 := (hf'.f.under hu).rel u hu1
    rcases hb (pth d u) with hfree | ⟨e, hback⟩
    · exact hfree _ _ _ h1
    · have h0 := hf.f.rel u hu1
      rw [← e] at h0
      exact hback g g' _ _ h0 hle h1
  refine h ntmps z hz (g.lowN n) a Q hfl ?_
  cases r with
  | fail => exact absurd rfl he
  | norm F2 t2 => subst hr'; exact fun g' a' hle hf' => hp (g.upd g') a' (le_upd hle) (key g' F2 t2 a' hle hf' rfl)
  | exit i F2 t2 => subst hr'; exact fun g' a' hle hf' => hp (g.upd g') a' (le_upd hle) (key g' F2 t2 a' hle hf' rfl)
  | ret F2 t2 => subst hr'; exact fun g' a' hle hf' => hp (g.upd g') a' (le_upd hle) (key g' F2 t2 a' hle hf' rfl)

/-! ### Functions, by their pieces -/

/-- a call of our function f from these arguments and this state comes to v and leaves t' -/
def Rt (P : Program) (M : Maps) (f : Nat) (args : List AV) (t : T) (v : AV) (t' : T) : Prop :=
  Good P (M.fm f) ∧ ∀ g cargs, SR M g t → cargs.size = args.length → (∀ i (h : i < args.length), VR M g args[i] (cargs.getD i undef)) →
    Calls P (M.fm f) cargs g.w fun e w' => ∃ x g', e = .returned x ∧ g'.w = w' ∧ g.Le g' ∧ VR M g' v x ∧ SR M g' t'

theorem Rt.of {tbl : Nat → Option AFunc} (ht : Table P M im tbl) {f : Nat} {fn : AFunc} (hfn : tbl f = some fn) (hdp : fn.depth ≠ 77 := by decide) {args : List AV} {t t' : T} {F : Fr} {v : AV} {r : RR} (ha : argsIn fn.params args .nil = some F)
    (h : Ex P M im fn.depth fn.body F t.enter r) (hr : outC fn r = .ok v t') : Rt P M f args t v t' := by
  obtain ⟨gf, hgf, hcf⟩ := ht.cmp hfn hdp
  unfold cmpF at hcf
  split at hcf
  · rename_i hcond
    obtain ⟨c1, c2, c3⟩ := hcond
    simp only [Option.bind_eq_bind, Option.bind_eq_some_iff] at hcf
    obtain ⟨c, hbody, b, hb, rs, hrs, e⟩ := hcf
    refine ⟨⟨gf, hgf, by simpa using c3, by simp [hbody]⟩, ?_⟩
    intro g cargs hS hsz hv
    have efn : fn = { depth := fn.depth, params := (List.range (gf.params.size + gf.nfree)).map (pth fn.depth), results := rs, keep := fn.keep, body := b } := by simpa using e.symm
    have eparams : fn.params = (List.range (gf.params.size + gf.nfree)).map (pth fn.depth) := by rw [efn]
    have ebody : fn.body = b := by rw [efn]
    have eres : fn.results = rs := by rw [efn]
    have hnd : fn.params.Nodup := by
      rw [eparams]
      exact pth_nodup (by omega)
    obtain ⟨a1, a2⟩ := argsIn_ok _ _ _ _ ha hnd
    have hnp : gf.params.size + gf.nfree = args.length := by rw [← a1, eparams]; simp
    refine calls_of_wp hgf hbody ?_
    have hfits : Fits M g fn.depth gf.ntmps F t.enter { tmps := cargs ++ Array.replicate (gf.ntmps - cargs.size) undef, defers := [] } := by
      refine ⟨⟨by simp; omega, fun u hu => ?_⟩, hS.enter, by simp; omega, rfl⟩
      rw [a2, eparams, idx_pth (by omega) hu]
      by_cases hlt : u < gf.params.size + gf.nfree
      · rw [if_pos hlt]
        simp only
        have h1 := hv u (by omega)
        have e1 : args.getD u .und = args[u]'(by omega) := by simp [List.getD, show u < args.length by omega]
        rw [e1]
        have e2 : (cargs ++ Array.replicate (gf.ntmps - cargs.size) undef).getD u undef = cargs.getD u undef := by
          simp only [Array.getD_eq_getD_getElem?]
          rw [Array.getElem?_append_left (by omega)]
        show VR M g _ ((cargs ++ Array.replicate (gf.ntmps - cargs.size) undef).getD u undef)
        rw [e2]
        exact h1
      · rw [if_neg hlt]
        simp only [Fr.get_nil]
        exact .und _
    rw [ebody] at h
    refine h gf.ntmps c hb g _ _ hfits ?_
    have hfin : ∀ F1 t1, outC fn r = afterBody fn F1 t1 → ∀ g' a', g.Le g' → Fits M g' fn.depth gf.ntmps F1 t1 a' → bodyPost P gf (fun e w' => ∃ x g', e = .returned x ∧ g'.w = w' ∧ g.Le g' ∧ VR M g' v x ∧ SR M g' t') .normal a' g'.w := by
      intro F1 t1 hE g' a' hle hf'
      have ho := hr
      rw [hE] at ho
      unfold afterBody at ho
      rw [eres] at ho
      cases hrv : resultsOf F1 t1 rs with
      | none => rw [hrv] at ho; cases ho
      | some vs =>
        rw [hrv] at ho
        cases ho
        obtain ⟨ws, w1, w2, w3⟩ := results_ok hf' gf.results.toList rs hrs vs hrv
        refine ⟨hf'.d, if h : ws.toArray.size = 1 then ws.toArray[0] else .tuple ws.toArray, ?_, ?_⟩
        · show (results gf a'.tmps).run P g'.w = _
          rw [results_eq, Array.mapM_eq_mapM_toList]
          simp only [Sem.run_bind, Sem.run_map, w1, Result.andThen_ok, Sem.run_pure]
        · exact ⟨_, g', rfl, rfl, hle, packed_ok w2 w3, hf'.s.leave _ _⟩
    cases r with
    | fail => cases hr
    | norm F1 t1 => exact fun g' a' hle hf' => hfin F1 t1 rfl g' a' hle hf'
    | exit id F1 t1 => cases hr
    | ret F1 t1 => exact fun g' a' hle hf' => hfin F1 t1 rfl g' a' hle hf'
  · contradiction

end

end M2
end
section
namespace M2
open Go Go.ChangeShapes Go.WideShapes Go.ChangeAt Go.RowKit

/-! ### A law's call, by pieces -/

theorem link2 {P : Program} {M : Maps} {id : Nat} {avs : List AV} {args : Array Value} {t t' : T} {g : G} (hoth : ∀ b, b < g.w.heap.size → g.μ b = .oth) (hS : SR M g t) (hsz : args.size = avs.length)
    (hv : ∀ i (h : i < avs.length), VR M g avs[i] (args.getD i undef)) (hrun : Rt P M id avs t (.bool true) t') :
    Calls P (M.fm id) args g.w fun e w' => e = .returned (.bool true) ∧ Below g.w.heap.size g.w w' := by
  obtain ⟨-, h⟩ := hrun
  refine (h g args hS hsz hv).mono ?_
  rintro e w' ⟨v, g', rfl, rfl, hle, hvr, -⟩
  cases hvr
  exact ⟨rfl, hle.os, hle.tape, hle.output, hle.size, fun k hk => (hle.oth k hk (by rw [hoth k hk]; rfl)).2⟩

theorem law_run2 {P : Program} {M : Maps}
    {H : Type} {enc : TypeId × Value → H} {W : World} {base id tf : Nat} {t : TypeId} {fs : Array Field} (hu : P.underlying t = some (.struct fs)) (ha : argT P (tf + 1) t = true) {v : Value} {d : DataW H} {p : List MemPlace}
    (hval : Value.okWide P W .any base t v) (htr : DataW.Trod enc P W 0 (fun _ => true) true t v d p)
    {w j i : Nat} {fl : Field} {e : TypeId} (hw : P.cellsOf t = w) (hfl : fs[i]? = some fl) (hoff : fl.offset = j) (hjw : j < w) (hsl : P.underlying fl.type = some (.slice e)) (hc1 : P.cellsOf fl.type = 1) (htf : tf ≠ 0)
    (hrun : ∀ a, OneSl a → ∃ t', Rt P M id [.agg ((List.replicate w AV.und).set j a)] ⟨1, [], []⟩ (.bool true) t') :
    Calls P (M.fm id) #[v] W fun e W' => e = .returned (.bool true) ∧ Below W.heap.size W W' := by
  obtain ⟨K, hK0, hK⟩ := size_bound W
  obtain ⟨fuel, htr⟩ := htr
  unfold Value.okWide at hval
  rw [hu] at hval
  obtain ⟨cs, rfl, hcs, -⟩ := hval
  obtain ⟨ascs, h1, h2, h3, -⟩ := trod_vr (M := M) hK0 hK fuel (tf + 1) t _ _ ha htr
  have hl : ascs.length = cs.size := by simpa [Value.cells] using h2
  unfold DA at h1
  rw [hu] at h1
  obtain ⟨ps, -, hps, hasl, hf⟩ := h1
  obtain ⟨hi, hfi⟩ := Array.getElem?_eq_some_iff.mp hfl
  have h4 := hf i hi (by omega)
  rw [hfi, hoff, hc1] at h4
  have hjl : j < ascs.length := by rw [hasl, hw]; exact hjw
  have hone : (ascs.drop j).take 1 = [ascs[j]] := by rw [List.drop_eq_getElem_cons hjl]; rfl
  rw [hone] at h4
  have hkind : ascs[j] = .nils ∨ ascs[j] = .sl0 ∨ ∃ id e pos cap alt es, ascs[j] = .sl id e pos cap false alt es := by
    cases tf with
    | zero => exact absurd rfl htf
    | succ tf =>
      unfold DA at h4
      rw [hsl] at h4
      rcases h4 with ⟨-, h⟩ | ⟨elems, spare, es, -, -, -, -, ⟨-, h⟩ | ⟨id, pos, h⟩⟩
      · injection h with h; exact .inl h
      · injection h with h; exact .inr (.inl h)
      · injection h with h; exact .inr (.inr ⟨_, _, _, _, _, _, h⟩)
  have h5 := h3 j (by simpa using hjl)
  obtain ⟨a', pl, ho, hv'⟩ := oneSl_of h5 hkind
  obtain ⟨t', hr⟩ := hrun a' ho
  refine link2 (g := oneG W pl) (fun _ _ => rfl) (oneG_sr M W pl) rfl (fun q hq => ?_) hr
  have hq0 : q = 0 := by simpa using hq
  subst hq0
  simp only [List.getElem_cons_zero]
  refine .agg _ cs (by simp [← hl, hasl, hw]) (fun q hq => ?_)
  by_cases e : j = q
  · subst e
    simp only [List.getElem_set_self]
    simpa [Value.cells, Array.getD_eq_getD_getElem?, List.getD_eq_getElem?_getD] using hv'
  · rw [List.getElem_set_ne e, List.getElem_replicate]
    exact .und _

end M2
end
section
namespace M2
open Go
open Classical

/-! ### Several pieces of code, one after the other -/

def wpL (P : Program) (Q : Exit → Act → World → Prop) : List Code → Act → World → Prop
  | [], a, w => Q .normal a w
  | z :: zs, a, w => z.wp P (Exit.then (wpL P Q zs) Q) a w

def cmpL (P : Program) (im : FuncId → Option Nat) (d ntmps : Nat) : List Code → List Cd → Prop
  | [], [] => True
  | z :: zs, c :: cs => cmpC P im d ntmps z = some c ∧ cmpL P im d ntmps zs cs
  | _, _ => False

/-- our run of several pieces -/
noncomputable def evL (e : Ev) : List Cd → Fr → T → RR
  | [], F, t => .norm F t
  | c :: cs, F, t => RR.rec (motive := fun _ => RR) .fail (evL e cs) RR.exit RR.ret (e c F t)

section
variable (P : Program) (M : Maps) (im : FuncId → Option Nat) (d : Nat)

def ExL (cs : List Cd) (F : Fr) (t : T) (r : RR) : Prop :=
  ∀ ntmps zs, cmpL P im d ntmps zs cs → ∀ g a Q, Fits M g d ntmps F t a → Post M g d ntmps Q r → wpL P Q zs a g.w

end

/-- pieces ahead of a rest -/
def seqs : List Cd → Cd → Cd
  | [], c => c
  | x :: xs, c => .seq x (seqs xs c)

section
variable {P : Program} {M : Maps} {im : FuncId → Option Nat} {d : Nat}

theorem ExL.run {tbl : Nat → Option AFunc} (hmix : P.follows .mixedOrders = true) (him : ∀ f x, im f = some x → M.fm x = f) (ht : Table P M im tbl) {N : Nat} : ∀ {cs : List Cd} {F : Fr} {t : T} {r : RR},
    evL (ev tbl N) cs F t = r → ExL P M im d cs F t r := by
  intro cs
  induction cs with
  | nil =>
    intro F t r h ntmps zs hz g a Q hf hp
    subst h
    cases zs with
    | nil => exact hp g a (.refl g) hf
    | cons _ _ => exact hz.elim
  | cons c cs ih =>
    intro F t r h ntmps zs hz g a Q hf hp
    cases zs with
    | nil => exact hz.elim
    | cons z zs =>
      obtain ⟨h1, h2⟩ := hz
      have hh : RR.rec (motive := fun _ => RR) .fail (evL (ev tbl N) cs) RR.exit RR.ret (ev tbl N c F t) = r := h
      show z.wp P (Exit.then (wpL P Q zs) Q) a g.w
      refine code_sound hmix him tbl N (fun m _ => call_sound hmix him ht m) d ntmps z c h1 g F t a _ hf ?_
      cases hr : ev tbl N c F t with
      | fail => rw [hr] at hh; subst hh; exact hp.elim
      | norm F1 t1 =>
        rw [hr] at hh
        intro g' a' hle hf'
        exact ih hh ntmps zs h2 g' a' Q hf' (hp.later hle)
      | exit id F1 t1 => rw [hr] at hh; subst hh; exact hp
      | ret F1 t1 => rw [hr] at hh; subst hh; exact hp

theorem ExL.low {cs : List Cd} {F : Fr} {t : T} {n : Nat} {r : RR} (h : ExL P M im d cs F ⟨n, [[]], [[]]⟩ r) (hd : ∀ p, Down M n (F.get p)) {F1 : Fr}
    (hu : F1.under (frOf r)) (hb : ∀ p, Free M (F1.get p) ∨ (F1.get p = F.get p ∧ Back M n (F1.get p))) (he : r.norm? = true) : ExL P M im d cs F t (.norm F1 t) := by
  intro ntmps zs hz g a Q hf hp
  have hfl : Fits M (g.lowN n) d ntmps F ⟨n, [[]], [[]]⟩ a := ⟨⟨hf.f.size, fun u hu => hd _ g _ (hf.f.rel u hu)⟩, lowN_sr, hf.n, hf.d⟩
  refine h ntmps zs hz (g.lowN n) a Q hfl ?_
  cases r with
  | fail => cases he
  | exit i F2 t2 => cases he
  | ret F2 t2 => cases he
  | norm F2 t2 =>
    intro g' a' hle hf'
    refine hp (g.upd g') a' (le_upd hle) ⟨⟨hf'.f.size, fun u hu1 => ?_⟩, sr_upd hf.s hle, hf'.n, hf'.d⟩
    have h1 := (hf'.f.under hu).rel u hu1
    rcases hb (pth d u) with hfree | ⟨e, hback⟩
    · exact hfree _ _ _ h1
    · have h0 := hf.f.rel u hu1
      rw [← e] at h0
      exact hback g g' _ _ h0 hle h1

theorem Ex.seqs {F1 : Fr} {t1 : T} {r : RR} {c : Cd} : ∀ {cs : List Cd} {F : Fr} {t : T}, ExL P M im d cs F t (.norm F1 t1) → Ex P M im d c F1 t1 r → Ex P M im d (M2.seqs cs c) F t r := by
  intro cs F t h1 h2 ntmps z hz g a Q hf hp
  -- the code's pieces
  have split : ∀ (cs : List Cd) (z : Code), cmpC P im d ntmps z = some (M2.seqs cs c) → ∃ zs u, cmpL P im d ntmps zs cs ∧ cmpC P im d ntmps u = some c ∧
      ∀ Q a w, wpL P (fun e a w => match e with | .normal => u.wp P Q a w | e => Q e a w) zs a w → z.wp P Q a w := by
    intro cs
    induction cs with
    | nil => intro z hz; exact ⟨[], z, trivial, hz, fun Q a w h => h⟩
    | cons x xs ih =>
      intro z hz
      obtain ⟨y, u, rfl, hy, hu⟩ := inv_seq hz
      obtain ⟨zs, v, k1, k2, k3⟩ := ih u hu
      refine ⟨y :: zs, v, ⟨hy, k1⟩, k2, fun Q a w h => ?_⟩
      refine wp_seq (Code.wp_mono (fun e a w h => ?_) h)
      cases e <;> first | exact k3 Q _ _ h | exact h
  obtain ⟨zs, u, k1, k2, k3⟩ := split cs z hz
  refine k3 Q a g.w (h1 ntmps zs k1 g a _ hf ?_)
  intro g' a' hle hf'
  exact h2 ntmps u k2 g' a' Q hf' (hp.later hle)

end

end M2
end
section
namespace M2
open Go
open Classical

/-! ### Rows of rows: carried into an empty state, and back -/

def lowK (n : Nat) : Nat → AV → Bool
  | 0, _ => false
  | k + 1, a =>
    match a with
    | .und | .bool _ | .int _ _ | .str _ | .nilp | .nils | .sl0 | .nilf | .nilm | .nili => true
    | .sl id _ _ _ _ _ es => Nat.blt id n && es.all (lowK n k)
    | .agg cs => cs.all (lowK n k)
    | _ => false

theorem lowK_down {M : Maps} {g : G} {n : Nat} : ∀ (k : Nat) (a : AV) (v : Value), lowK n k a = true → VR M g a v → VR M (g.lowN n) a v := by
  intro k
  induction k with
  | zero => intro a v h; cases h
  | succ k ih =>
    intro a v h hv
    cases hv with
    | und v => exact .und v
    | bool b => exact .bool b
    | int kk i => exact .int kk i
    | str s => exact .str s
    | nilp => exact .nilp
    | nils => exact .nils
    | sl0 b o sp => exact .sl0 b o sp
    | nilf => exact .nilf
    | nilm => exact .nilm
    | nili => exact .nili
    | sl id e pos cap fl alt es b o ccap vs hid hcc hb ho hlen hv hs hc hf =>
      simp only [lowK, Bool.and_eq_true, List.all_eq_true] at h
      subst hb
      refine .sl id e pos cap fl alt es _ o ccap vs ⟨hid, by simpa [Nat.blt_eq] using h.1⟩ hcc rfl ho hlen (fun i hi => ih _ _ (h.2 _ (List.getElem_mem hi)) (hv i hi)) hs hc ⟨hf.1, ?_⟩
      show Own.fix _ (if allB g (g.ρ id).block then (g.μ (g.ρ id).block).frz else g.μ (g.ρ id).block)
      rw [if_pos (show allB g (g.ρ id).block from hf.1)]
      exact (seal_fix _ _).mpr hf.2
    | agg cs vs h1 hv =>
      simp only [lowK, List.all_eq_true] at h
      exact .agg cs vs h1 fun i hi => ih _ _ (h _ (List.getElem_mem hi)) (hv i hi)
    | _ => simp [lowK] at h

theorem lowK_back {M : Maps} {g g' : G} {n : Nat} (hle : (g.lowN n).Le g') : ∀ (k : Nat) (a : AV) (v v0 : Value), lowK n k a = true → VR M g a v0 → VR M g' a v → VR M (g.upd g') a v := by
  intro k
  induction k with
  | zero => intro a v v0 h; cases h
  | succ k ih =>
    intro a v v0 h h0 hv
    cases hv with
    | und v => exact .und v
    | bool b => exact .bool b
    | int kk i => exact .int kk i
    | str s => exact .str s
    | nilp => exact .nilp
    | nils => exact .nils
    | sl0 b o sp => exact .sl0 b o sp
    | nilf => exact .nilf
    | nilm => exact .nilm
    | nili => exact .nili
    | sl id e pos cap fl alt es b o ccap vs hid hcc hb ho hlen hv hs hc hf =>
      simp only [lowK, Bool.and_eq_true, List.all_eq_true] at h
      have hlt : id < n := by simpa [Nat.blt_eq] using h.1
      cases h0 with
      | sl _ _ _ _ _ _ _ b0 o0 ccap0 vs0 hid0 hcc0 hb0 ho0 hlen0 hv0 hs0 hc0 hf0 =>
        have hρ : g'.ρ id = g.ρ id := hle.ρ id ⟨hid0, hlt⟩
        subst hb
        have k2 : (g.ρ id).block < g.w.heap.size := hb0 ▸ hf0.1
        refine .sl id e pos cap fl alt es _ o ccap vs hid0 (by rw [hcc, hρ]; rfl) (by rw [hρ]; rfl) (by rw [ho, hρ]; rfl) hlen (fun i hi => ih _ _ _ (h.2 _ (List.getElem_mem hi)) (hv0 i hi) (hv i hi)) hs hc ⟨hf.1, ?_⟩
        have h2 := hf.2
        rw [hρ] at h2 ⊢
        have := (back_sealed (g := g) hle (fun _ hb => hb) k2).2
        rw [this] at h2
        show Own.fix _ (if (g.ρ id).block < g.w.heap.size then g.μ (g.ρ id).block else .oth)
        rw [if_pos k2]
        exact (seal_fix _ _).mp h2
    | agg cs vs h1 hv =>
      simp only [lowK, List.all_eq_true] at h
      cases h0 with
      | agg _ vs0 h10 hv0 => exact .agg cs vs h1 fun i hi => ih _ _ _ (h _ (List.getElem_mem hi)) (hv0 i hi) (hv i hi)
    | _ => simp [lowK] at h

theorem down_low {M : Maps} {n k : Nat} {a : AV} (h : lowK n k a = true) : Down M n a := fun _ v hv => lowK_down k a v h hv
theorem back_low {M : Maps} {n k : Nat} {a : AV} (h : lowK n k a = true) : Back M n a := fun _ _ v v0 h0 hle hv => lowK_back hle k a v v0 h h0 hv

/-! ### A frame that knows three slots -/

noncomputable def fr3 (d : Nat) (p q r : Nat) (a b c : AV) : Fr := ((Fr.nil.put (pth d p) a).put (pth d q) b).put (pth d r) c

theorem fr3_get {d p q r : Nat} {a b c : AV} (x : Bits) : (fr3 d p q r a b c).get x = if pth d r = x then c else if pth d q = x then b else if pth d p = x then a else .und := by
  unfold fr3
  rw [Fr.get_put, Fr.get_put, Fr.get_put, Fr.get_nil]

noncomputable def is3 (d p q r : Nat) (a b c : AV) (F : Fr) : Bool := avE 60 (F.get (pth d p)) a && (avE 60 (F.get (pth d q)) b && avE 60 (F.get (pth d r)) c)
noncomputable def isN3 (d p q r : Nat) (a b c : AV) (x : RR) : Bool := match x with | .norm F _ => is3 d p q r a b c F | _ => false
noncomputable def isX3 (id d p q r : Nat) (a b c : AV) (x : RR) : Bool := match x with | .exit j F _ => Nat.beq j id && is3 d p q r a b c F | _ => false

theorem is3_under {d p q r : Nat} {a b c : AV} {F : Fr} (h : is3 d p q r a b c F = true) : (fr3 d p q r a b c).under F := by
  unfold is3 at h
  simp only [Bool.and_eq_true] at h
  intro x
  rw [fr3_get]
  by_cases h1 : pth d r = x
  · subst h1; rw [if_pos rfl]; exact .inr (avE_ok _ _ _ h.2.2).symm
  · rw [if_neg h1]
    by_cases h2 : pth d q = x
    · subst h2; rw [if_pos rfl]; exact .inr (avE_ok _ _ _ h.2.1).symm
    · rw [if_neg h2]
      by_cases h3 : pth d p = x
      · subst h3; rw [if_pos rfl]; exact .inr (avE_ok _ _ _ h.1).symm
      · rw [if_neg h3]; exact .inl rfl

theorem free_und (M : Maps) : Free M .und := fun _ _ v _ => .und v
theorem free_int (M : Maps) (k : IntKind) (i : Int) : Free M (.int k i) := by
  intro g g' v h
  cases h
  exact .int k i

def stOf : RR → T
  | .fail => ⟨0, [], []⟩
  | .norm _ t => t
  | .exit _ _ t => t
  | .ret _ t => t
theorem norm_eq {r : RR} (h : r.norm? = true) : r = .norm (frOf r) (stOf r) := by
  cases r <;> first | rfl | cases h
theorem isN3_ok {d p q r : Nat} {a b c : AV} {x : RR} (h : isN3 d p q r a b c x = true) : ∃ F t, x = .norm F t ∧ (fr3 d p q r a b c).under F := by
  cases x with
  | norm F t => exact ⟨F, t, rfl, is3_under h⟩
  | fail => cases h
  | exit j F t => cases h
  | ret F t => cases h
def retOf : RR → RR
  | .norm F t => .ret F t
  | _ => .fail

section
variable {P : Program} {M : Maps} {im : FuncId → Option Nat} {d : Nat}

theorem Ex.fin {tbl : Nat → Option AFunc} (hmix : P.follows .mixedOrders = true) (him : ∀ f x, im f = some x → M.fm x = f) (ht : Table P M im tbl) {c : Cd} {F : Fr} {t : T} {r : RR} (h : Ex P M im d c F t r) :
    Ex P M im d (.seq c .ret) F t (retOf r) := by
  cases r with
  | norm F1 t1 => exact Ex.seq h (Ex.run hmix him ht (N := 1) rfl)
  | fail => exact fun _ _ _ _ _ _ _ hp => hp.elim
  | exit j F1 t1 => exact fun _ _ _ _ _ _ _ hp => hp.elim
  | ret F1 t1 => exact fun _ _ _ _ _ _ _ hp => hp.elim

/-- a loop over a row: each round by itself, from what it needs: one value, the row, the count -/
theorem Ex.roundsE {tbl : Nat → Option AFunc} (hmix : P.follows .mixedOrders = true) (him : ∀ f x, im f = some x → M.fm x = f) (ht : Table P M im tbl) {N lb p q r n k : Nat} {b : Cd} {A L : AV} {kk : Nat}
    (hA : Down M n A) (hA2 : Back M n A) (hL : lowK n kk L = true)
    (h1 : ∀ i, i < k → ∃ F1 t1, Ex P M im d b (fr3 d p q r A L (.int .i64 (.ofNat i))) ⟨n, [[]], [[]]⟩ (.norm F1 t1) ∧ (fr3 d p q r A L (.int .i64 (.ofNat (i + 1)))).under F1)
    (h2 : isX3 lb d p q r A L (.int .i64 (.ofNat k)) (ev tbl N b (fr3 d p q r A L (.int .i64 (.ofNat k))) ⟨n, [[]], [[]]⟩) = true) (t : T) :
    Ex P M im d (.block lb (.loop b)) (fr3 d p q r A L (.int .i64 (.ofNat 0))) t (.norm (fr3 d p q r A L (.int .i64 (.ofNat k))) t) := by
  have down : ∀ i y, Down M n ((fr3 d p q r A L (.int .i64 (.ofNat i))).get y) := by
    intro i y
    rw [fr3_get]
    split
    · exact (free_int M _ _).down
    · split
      · exact down_low hL
      · split
        · exact hA
        · exact (free_und M).down
  have back : ∀ i j y, Free M ((fr3 d p q r A L (.int .i64 (.ofNat j))).get y) ∨
      ((fr3 d p q r A L (.int .i64 (.ofNat j))).get y = (fr3 d p q r A L (.int .i64 (.ofNat i))).get y ∧ Back M n ((fr3 d p q r A L (.int .i64 (.ofNat j))).get y)) := by
    intro i j y
    rw [fr3_get, fr3_get]
    split
    · exact .inl (free_int M _ _)
    · split
      · exact .inr ⟨rfl, back_low hL⟩
      · split
        · exact .inr ⟨rfl, hA2⟩
        · exact .inl (free_und M)
  have round : ∀ i, i < k → Ex P M im d b (fr3 d p q r A L (.int .i64 (.ofNat i))) t (.norm (fr3 d p q r A L (.int .i64 (.ofNat (i + 1)))) t) := by
    intro i hi
    obtain ⟨F1, t1, h, hu⟩ := h1 i hi
    exact Ex.low h (down i) (F1 := fr3 d p q r A L (.int .i64 (.ofNat (i + 1)))) hu (back i (i + 1)) (fun e => by cases e) rfl
  have out : Ex P M im d b (fr3 d p q r A L (.int .i64 (.ofNat k))) t (.exit lb (fr3 d p q r A L (.int .i64 (.ofNat k))) t) := by
    cases hr : ev tbl N b (fr3 d p q r A L (.int .i64 (.ofNat k))) ⟨n, [[]], [[]]⟩ with
    | exit j F1 t1 =>
      rw [hr] at h2
      unfold isX3 at h2
      simp only [Bool.and_eq_true] at h2
      have e := Nat.eq_of_beq_eq_true h2.1
      subst e
      exact Ex.low (Ex.run hmix him ht hr) (down k) (F1 := fr3 d p q r A L (.int .i64 (.ofNat k))) (is3_under h2.2) (back k k) (fun e => by cases e) rfl
    | fail => rw [hr] at h2; cases h2
    | norm F1 t1 => rw [hr] at h2; cases h2
    | ret F1 t1 => rw [hr] at h2; cases h2
  have hl := Ex.loops (F := fun i => fr3 d p q r A L (.int .i64 (.ofNat i))) (t := fun _ => t) (k := k) round out rfl
  have hb := Ex.block (id := lb) hl
  have e : inB lb (RR.exit lb (fr3 d p q r A L (.int .i64 (.ofNat k))) t) = .norm (fr3 d p q r A L (.int .i64 (.ofNat k))) t := by simp [inB]
  rw [e] at hb
  exact hb

theorem Ex.rounds {tbl : Nat → Option AFunc} (hmix : P.follows .mixedOrders = true) (him : ∀ f x, im f = some x → M.fm x = f) (ht : Table P M im tbl) {N lb p q r n k : Nat} {b : Cd} {A L : AV} {kk : Nat}
    (hA : Down M n A) (hA2 : Back M n A) (hL : lowK n kk L = true)
    (h1 : ∀ i, i < k → isN3 d p q r A L (.int .i64 (.ofNat (i + 1))) (ev tbl N b (fr3 d p q r A L (.int .i64 (.ofNat i))) ⟨n, [[]], [[]]⟩) = true)
    (h2 : isX3 lb d p q r A L (.int .i64 (.ofNat k)) (ev tbl N b (fr3 d p q r A L (.int .i64 (.ofNat k))) ⟨n, [[]], [[]]⟩) = true) (t : T) :
    Ex P M im d (.block lb (.loop b)) (fr3 d p q r A L (.int .i64 (.ofNat 0))) t (.norm (fr3 d p q r A L (.int .i64 (.ofNat k))) t) := by
  refine Ex.roundsE hmix him ht hA hA2 hL (fun i hi => ?_) h2 t
  obtain ⟨F1, t1, e, hu⟩ := isN3_ok (h1 i hi)
  exact ⟨F1, t1, Ex.run hmix him ht e, hu⟩

/-! ### A round in pieces: each run by itself from what it needs -/

noncomputable def frL (d : Nat) : List (Nat × AV) → Fr
  | [] => .nil
  | p :: l => (frL d l).put (pth d p.1) p.2
noncomputable def isL (d : Nat) (l : List (Nat × AV)) (F : Fr) : Bool := l.all fun p => avE 60 (F.get (pth d p.1)) p.2
theorem isL_under {d : Nat} {F : Fr} : ∀ {l : List (Nat × AV)}, isL d l F = true → (frL d l).under F := by
  intro l
  induction l with
  | nil => intro _ x; exact .inl (Fr.get_nil x)
  | cons p l ih =>
    intro h x
    unfold isL at h
    simp only [List.all_cons, Bool.and_eq_true] at h
    show ((frL d l).put (pth d p.1) p.2).get x = .und ∨ ((frL d l).put (pth d p.1) p.2).get x = F.get x
    rw [Fr.get_put]
    by_cases e : pth d p.1 = x
    · subst e; rw [if_pos rfl]; exact .inr (avE_ok _ _ _ h.1).symm
    · rw [if_neg e]; exact ih h.2 x
noncomputable def runN (d : Nat) (l : List (Nat × AV)) (n : Nat) (r : RR) : Bool := match r with | .norm F t => isL d l F && Nat.beq t.n n | _ => false

theorem runN_ok {d n : Nat} {l : List (Nat × AV)} {r : RR} (h : runN d l n r = true) : ∃ F t, r = .norm F t ∧ (frL d l).under F ∧ t.n = n := by
  cases r with
  | norm F t =>
    unfold runN at h
    simp only [Bool.and_eq_true] at h
    exact ⟨F, t, rfl, isL_under h.1, Nat.eq_of_beq_eq_true h.2⟩
  | fail => cases h
  | exit j F t => cases h
  | ret F t => cases h

/-- to know less of the state -/
theorem Ex.thin {c : Cd} {F : Fr} {t t2 : T} {r : RR} (h : Ex P M im d c F t2 r) (hn : t2.n = t.n) (hv : t2.vs.flatten.Sublist t.vs.flatten) (hi : t2.is.flatten.Sublist t.is.flatten) : Ex P M im d c F t r := by
  intro ntmps z hz g a Q hf hp
  exact h ntmps z hz g a Q ⟨hf.f, hf.s.fewer hn hv hi, hf.n, hf.d⟩ hp

theorem Ex.step {tbl : Nat → Option AFunc} (hmix : P.follows .mixedOrders = true) (him : ∀ f x, im f = some x → M.fm x = f) (ht : Table P M im tbl) {N n1 n2 : Nat} {c rest : Cd} {l1 l2 : List (Nat × AV)} {r : RR}
    (h : runN d l2 n2 (ev tbl N c (frL d l1) ⟨n1, [[]], [[]]⟩) = true) (hr : Ex P M im d rest (frL d l2) ⟨n2, [[]], [[]]⟩ r) : Ex P M im d (.seq c rest) (frL d l1) ⟨n1, [[]], [[]]⟩ r := by
  obtain ⟨F, t, e, hu, hn⟩ := runN_ok h
  exact Ex.seq (Ex.run hmix him ht e) (Ex.weak hu (Ex.thin hr hn.symm (List.nil_sublist _) (List.nil_sublist _)))

theorem round_cut {tbl : Nat → Option AFunc} (hmix : P.follows .mixedOrders = true) (him : ∀ f x, im f = some x → M.fm x = f) (ht : Table P M im tbl) {N n n2 n3 n4 lb : Nat} {b bc r1 r2 inc : Cd} {la l2 lc : List (Nat × AV)}
    (hb : b = .seq bc (.seq (.block lb (.seq r1 r2)) inc)) (h0 : runN d la n (ev tbl N bc (frL d la) ⟨n, [[]], [[]]⟩) = true) (h1 : runN d l2 n2 (ev tbl N r1 (frL d la) ⟨n, [[]], [[]]⟩) = true)
    (h2 : runN d la n3 (ev tbl N r2 (frL d l2) ⟨n2, [[]], [[]]⟩) = true) (h3 : runN d lc n4 (ev tbl N inc (frL d la) ⟨n3, [[]], [[]]⟩) = true) :
    ∃ F t, Ex P M im d b (frL d la) ⟨n, [[]], [[]]⟩ (.norm F t) ∧ (frL d lc).under F := by
  obtain ⟨F2, t2, e2, u2, m2⟩ := runN_ok h2
  obtain ⟨F3, t3, e3, u3, m3⟩ := runN_ok h3
  refine ⟨F3, t3, ?_, u3⟩
  rw [hb]
  refine Ex.step hmix him ht h0 ?_
  have hx := Ex.block (id := lb) (Ex.step hmix him ht h1 (Ex.run hmix him ht e2))
  exact Ex.seq hx (Ex.weak u2 (Ex.thin (Ex.run hmix him ht e3) m2.symm (List.nil_sublist _) (List.nil_sublist _)))

end

end M2
end
section
namespace M2
open Go
open Classical

/-! ### A law that makes its texts, and asks of all of them at once -/

def allN (f : Nat → Bool) : Nat → Nat → Bool
  | 0, _ => true
  | k + 1, i => f i && allN f k (i + 1)
theorem allN_ok {f : Nat → Bool} : ∀ (k i : Nat), allN f k i = true → ∀ j, i ≤ j → j < i + k → f j = true := by
  intro k
  induction k with
  | zero => intro i _ j h1 h2; omega
  | succ k ih =>
    intro i h j h1 h2
    simp only [allN, Bool.and_eq_true] at h
    rcases Nat.eq_or_lt_of_le h1 with e | e
    · subst e; exact h.1
    · exact ih (i + 1) h.2 j e (by omega)

theorem free_bool (M : Maps) (b : Bool) : Free M (.bool b) := by
  intro g g' v h
  cases h
  exact .bool b

noncomputable def isR3 (d z : Nat) (x : RR) : Bool := match x with | .ret F _ => is3 d z z z (.bool true) (.bool true) (.bool true) F | _ => false

section
variable {P : Program} {M : Maps} {im : FuncId → Option Nat}

/-- a function that goes through a row, from any state -/
theorem same_rt {tbl : Nat → Option AFunc} (hmix : P.follows .mixedOrders = true) (him : ∀ f x, im f = some x → M.fm x = f) (ht : Table P M im tbl) {sid : Nat} {fn : AFunc} (hfn : tbl sid = some fn) {d : Nat} (hd : fn.depth = d) (hd77 : d ≠ 77)
    {a1 a2 b c : Cd} {lb q z n N k kk : Nat} {L : AV} (hshape : fn.body = .seq a1 (.seq (.seq a2 (.block lb (.loop b))) c)) (hpar : fn.params = [pth d 0]) (hres : fn.results = [(pth d z, none)])
    (hL : lowK n kk L = true)
    (h1 : isN3 d 0 0 0 L L L (ev tbl N a1 (fr3 d 0 0 0 L L L) ⟨n, [[]], [[]]⟩) = true)
    (h2 : isN3 d 0 0 q L L (.int .i64 (.ofNat 0)) (ev tbl N a2 (fr3 d 0 0 0 L L L) ⟨n, [[]], [[]]⟩) = true)
    (h3 : ∀ i, i < k → isN3 d 0 0 q L L (.int .i64 (.ofNat (i + 1))) (ev tbl N b (fr3 d 0 0 q L L (.int .i64 (.ofNat i))) ⟨n, [[]], [[]]⟩) = true)
    (h4 : isX3 lb d 0 0 q L L (.int .i64 (.ofNat k)) (ev tbl N b (fr3 d 0 0 q L L (.int .i64 (.ofNat k))) ⟨n, [[]], [[]]⟩) = true)
    (h5 : isR3 d z (ev tbl N c .nil ⟨n, [[]], [[]]⟩) = true) (t : T) : ∃ t', Rt P M sid [L] t (.bool true) t' := by
  have dn : ∀ x, Down M n ((fr3 d 0 0 0 L L L).get x) := by
    intro x
    rw [fr3_get]
    split
    · exact down_low hL
    · exact (free_und M).down
  have toL : ∀ (F : Fr) (t1 : T) (u : T) (c0 : Cd), is3 d 0 0 0 L L L F = true → ev tbl N c0 (fr3 d 0 0 0 L L L) ⟨n, [[]], [[]]⟩ = .norm F t1 → Ex P M im d c0 (fr3 d 0 0 0 L L L) u (.norm (fr3 d 0 0 0 L L L) u) := by
    intro F t1 u c0 h hr
    refine Ex.low (Ex.run hmix him ht hr) dn (F1 := fr3 d 0 0 0 L L L) (is3_under h) (fun x => ?_) (fun e => by cases e) rfl
    rw [fr3_get]
    split
    · exact .inr ⟨rfl, back_low hL⟩
    · exact .inl (free_und M)
  have toI : ∀ (F : Fr) (t1 : T) (u : T) (c0 : Cd), is3 d 0 0 q L L (.int .i64 (.ofNat 0)) F = true → ev tbl N c0 (fr3 d 0 0 0 L L L) ⟨n, [[]], [[]]⟩ = .norm F t1 →
      Ex P M im d c0 (fr3 d 0 0 0 L L L) u (.norm (fr3 d 0 0 q L L (.int .i64 (.ofNat 0))) u) := by
    intro F t1 u c0 h hr
    refine Ex.low (Ex.run hmix him ht hr) dn (F1 := fr3 d 0 0 q L L (.int .i64 (.ofNat 0))) (is3_under h) (fun x => ?_) (fun e => by cases e) rfl
    rw [fr3_get, fr3_get]
    by_cases e1 : pth d q = x
    · rw [if_pos e1]; exact .inl (free_int M _ _)
    · rw [if_neg e1]
      by_cases e2 : pth d 0 = x
      · simp only [e2, if_true]
        exact .inr ⟨trivial, back_low hL⟩
      · simp only [e2, if_false]
        exact .inl (free_und M)
  have fin : ∀ (F : Fr) (t1 u : T), is3 d z z z (.bool true) (.bool true) (.bool true) F = true → ev tbl N c .nil ⟨n, [[]], [[]]⟩ = .ret F t1 → Ex P M im d c .nil u (.ret (fr3 d z z z (.bool true) (.bool true) (.bool true)) u) := by
    intro F t1 u h hr
    refine Ex.low (Ex.run hmix him ht hr) (fun x => by rw [Fr.get_nil]; exact (free_und M).down) (F1 := fr3 d z z z (.bool true) (.bool true) (.bool true)) (is3_under h) (fun x => .inl ?_) (fun e => by cases e) rfl
    rw [fr3_get]
    split
    · exact free_bool M _
    · exact free_und M
  obtain ⟨F1, t1, e1, -⟩ := isN3_ok h1
  have k1 : is3 d 0 0 0 L L L F1 = true := by rw [e1] at h1; exact h1
  obtain ⟨F2, t2, e2, -⟩ := isN3_ok h2
  have k2 : is3 d 0 0 q L L (.int .i64 (.ofNat 0)) F2 = true := by rw [e2] at h2; exact h2
  have key : Ex P M im d fn.body (fr3 d 0 0 0 L L L) t.enter (.ret (fr3 d z z z (.bool true) (.bool true) (.bool true)) t.enter) := by
    rw [hshape]
    refine Ex.seq (toL F1 t1 t.enter a1 k1 e1) ?_
    refine Ex.seq (Ex.seq (toI F2 t2 t.enter a2 k2 e2) (Ex.rounds hmix him ht (down_low hL) (back_low hL) hL h3 h4 t.enter)) ?_
    refine Ex.weak (F0 := .nil) (fun x => .inl (Fr.get_nil x)) ?_
    cases hr : ev tbl N c .nil ⟨n, [[]], [[]]⟩ with
    | ret F t1 => rw [hr] at h5; exact fin F t1 t.enter h5 hr
    | fail => rw [hr] at h5; cases h5
    | exit j F t1 => rw [hr] at h5; cases h5
    | norm F t1 => rw [hr] at h5; cases h5
  have harg : argsIn fn.params [L] .nil = some (Fr.nil.put (pth d 0) L) := by rw [hpar]; rfl
  refine ⟨t.enter.leave fn.keep (.bool true), Rt.of ht hfn (by rw [hd]; exact hd77) harg (r := .ret (fr3 d z z z (.bool true) (.bool true) (.bool true)) t.enter) ?_ ?_⟩
  · rw [hd]
    refine Ex.weak (F0 := fr3 d 0 0 0 L L L) (fun x => ?_) key
    rw [fr3_get, Fr.get_put, Fr.get_nil]
    by_cases e : pth d 0 = x
    · simp only [e, if_true]; exact .inr trivial
    · simp only [e, if_false]; exact .inl trivial
  · show afterBody fn _ _ = _
    unfold afterBody
    rw [hres]
    simp only [resultsOf, resultOf, fr3_get, if_true, packed]

/-- a call that is known from one state -/
noncomputable def orcR (f : Nat) (avs : List AV) (t t' : T) : CallF := fun f' args u => if f' = f ∧ args = avs ∧ u = t then .ok (.bool true) t' else .fail
theorem orcR_eq {f : Nat} {avs : List AV} {t t' : T} : orcR f avs t t' f avs t = .ok (.bool true) t' := if_pos ⟨rfl, rfl, rfl⟩
theorem orcR_ok {f : Nat} {avs : List AV} {t t' : T} (h : Rt P M f avs t (.bool true) t') : CallOK P M (orcR f avs t t') := by
  intro f' args u r u' hr
  unfold orcR at hr
  split at hr
  · rename_i hc
    obtain ⟨rfl, rfl, rfl⟩ := hc
    cases hr
    obtain ⟨hg, hs⟩ := h
    refine ⟨hg, fun g cargs hS hsz hv => (hs g cargs hS hsz hv).mono ?_⟩
    rintro e w' ⟨x, g', h1, h2, h3, h4, h5⟩
    exact ⟨x, g', h1, h2, h3, h4, h5⟩
  · cases hr

end

end M2
end
section
/- The law BlockCuts: its code in pieces. -/
namespace M2
open Go

noncomputable def blockCutsC0 : Cd := (.reg [⟨(some p6n1), none, (.box (.t p6n0))⟩, ⟨(some p6n2), none, (.mv (.c (.bool false)))⟩])
noncomputable def blockCutsC1 : Cd := (.reg [⟨(some p6n10), none, (.buildS 1 11 (.str []) [(0, (.c (.str []))), (1, (.c (.str [110, 111, 112]))), (2, (.c (.str [97, 58]))), (3, (.c (.str [97, 58, 10, 98, 58, 10, 104, 97, 108, 116]))), (4, (.c (.str [104, 97, 108, 116, 10, 104, 97, 108, 116]))), (5, (.c (.str [97, 58, 32, 110, 111, 112, 10, 98, 58, 32, 110, 111, 112, 10, 104, 97, 108, 116]))), (6, (.c (.str [110, 111, 112, 10, 97, 58, 32, 97, 100, 100, 32, 114, 49, 44, 114, 49, 44, 114, 49, 10, 98, 58]))), (7, (.c (.str [106, 109, 112, 32, 97, 10, 97, 58, 10, 106, 109, 112, 32, 98, 10, 110, 111, 112, 10, 98, 58]))), (8, (.c (.str [97, 100, 100, 32, 114, 49, 44, 114, 49, 44, 114, 49, 10, 110, 111, 112, 10, 97, 100, 100, 32, 114, 50, 44, 114, 50, 44, 114, 50, 10, 114, 101, 116, 10, 110, 111, 112, 10, 110, 111, 112]))), (9, (.c (.str [97, 58, 32, 98, 122, 32, 114, 49, 44, 97, 10, 98, 110, 122, 32, 114, 49, 44, 97, 10, 99, 97, 108, 108, 32, 97, 10, 114, 101, 116]))), (10, (.c (.str [97, 58, 10, 110, 111, 112, 10, 98, 58, 10, 110, 111, 112, 10, 99, 58])))])⟩, ⟨(some p6n3), none, (.mv (.t p6n10))⟩])
noncomputable def blockCutsA : Cd := (.reg [⟨(some p6n4), none, (.mv (.c (.int .i64 (.ofNat 0))))⟩])
noncomputable def blockCutsB : Cd := (.seq (.seq (.reg [⟨(some p6n11), none, (.mv (.t p6n4))⟩, ⟨(some p6n12), none, (.mv (.t p6n3))⟩, ⟨(some p6n13), none, (.len false (.t p6n12))⟩, ⟨(some p6n14), none, (.bin .lss (.t p6n11) (.t p6n13))⟩]) (.cond (.t p6n14) .skip (.exit 0))) (.seq (.block 1 (.seq (.reg [⟨(some p6n18), none, (.mv (.t p6n3))⟩, ⟨(some p6n19), none, (.mv (.t p6n4))⟩, ⟨(some p6n20), none, (.iaddr 1 (.t p6n18) (.t p6n19))⟩, ⟨(some p6n21), none, (.ld1 (.t p6n20))⟩, ⟨(some p6n22), none, (.call 353 [(.t p6n21)])⟩, ⟨(some p6n17), none, (.mv (.t p6n22))⟩, ⟨(some p6n23), none, (.ext (.t p6n17) 0)⟩, ⟨(some p6n24), none, (.ext (.t p6n17) 1)⟩, ⟨(some p6n25), none, (.ext (.t p6n17) 2)⟩, ⟨(some p6n5), none, (.alloc [.nils, .nils, .nils, .nils])⟩, ⟨none, none, (.st 4 (.t p6n5) (.t p6n23))⟩, ⟨(some p6n6), none, (.mv (.t p6n24))⟩, ⟨(some p6n7), none, (.mv (.t p6n25))⟩]) (.seq (.seq (.reg [⟨(some p6n26), none, (.mv (.t p6n7))⟩, ⟨(some p6n27), none, (.bin .neq (.t p6n26) (.c (.int .i64 (.ofNat 0))))⟩]) (.cond (.t p6n27) (.seq (.reg [⟨(some p6n2), none, (.mv (.c (.bool false)))⟩]) .ret) .skip)) (.seq (.reg [⟨(some p6n29), none, (.ldA 4 (.t p6n5))⟩, ⟨(some p6n30), none, (.call 442 [(.t p6n29)])⟩, ⟨(some p6n28), none, (.mv (.t p6n30))⟩, ⟨(some p6n31), none, (.ext (.t p6n28) 0)⟩, ⟨(some p6n32), none, (.ext (.t p6n28) 1)⟩, ⟨(some p6n8), none, (.mv (.t p6n31))⟩, ⟨(some p6n9), none, (.mv (.t p6n32))⟩]) (.seq (.reg [⟨(some p6n33), none, (.mv (.t p6n9))⟩, ⟨(some p6n34), none, (.call 443 [(.t p6n33)])⟩, ⟨(some p6n35), none, (.bin .neq (.t p6n34) (.c (.int .i64 (.ofNat 0))))⟩, ⟨(some p6n36), none, (.mv (.t p6n35))⟩, ⟨(some p6n37), (some (p6n36, false)), (.mv (.t p6n8))⟩, ⟨(some p6n38), (some (p6n36, false)), (.ldA 4 (.t p6n5))⟩, ⟨(some p6n39), (some (p6n36, false)), (.call 445 [(.t p6n38)])⟩, ⟨(some p6n40), (some (p6n36, false)), (.call 444 [(.t p6n37), (.t p6n39)])⟩, ⟨(some p6n41), (some (p6n36, false)), (.un .not (.t p6n40))⟩, ⟨(some p6n42), none, (.pick (.t p6n36) (.c (.bool true)) (.t p6n41))⟩]) (.cond (.t p6n42) (.seq (.reg [⟨(some p6n2), none, (.mv (.c (.bool false)))⟩]) .ret) .skip)))))) (.reg [⟨(some p6n15), none, (.mv (.t p6n4))⟩, ⟨(some p6n16), none, (.bin .add (.t p6n15) (.c (.int .i64 (.ofNat 1))))⟩, ⟨(some p6n4), none, (.mv (.t p6n16))⟩])))
noncomputable def blockCutsE : List AO := [⟨(some p6n43), none, (.faddr 2 (.t p6n1))⟩, ⟨(some p6n44), none, (.ld1 (.t p6n43))⟩, ⟨(some p6n45), none, (.len false (.t p6n44))⟩, ⟨(some p6n46), none, (.bin .geq (.t p6n45) (.c (.int .i64 (.ofNat 0))))⟩, ⟨(some p6n47), none, (.mv (.t p6n46))⟩, ⟨(some p6n48), (some (p6n47, true)), (.call 446 [])⟩, ⟨(some p6n49), none, (.pick (.t p6n47) (.t p6n48) (.c (.bool false)))⟩, ⟨(some p6n2), none, (.mv (.t p6n49))⟩]
theorem blockCuts_shape : a439.body = seqs [blockCutsC0, blockCutsC1] (.seq (.seq blockCutsA (.block 0 (.loop blockCutsB))) (.seq (.reg blockCutsE) .ret)) := by kernel_rfl
noncomputable def blockCutsF (a : AV) : Fr := Fr.nil.put (pth 6 0) (.agg ((List.replicate 3 AV.und).set 2 a))
noncomputable def blockCutsIn (a : AV) : RR := evL (ev tab.get 1000000) [blockCutsC0, blockCutsC1] (blockCutsF a) ⟨1, [[]], [[]]⟩
noncomputable def blockCutsL : AV := (frOf (blockCutsIn .nils)).get (pth 6 3)
noncomputable def blockCutsFr (i : Nat) : Fr := fr3 6 1 3 4 (.ptr 1 0) blockCutsL (.int .i64 (.ofNat i))
noncomputable def blockCutsRd (i : Nat) : Bool := isN3 6 1 3 4 (.ptr 1 0) blockCutsL (.int .i64 (.ofNat (i + 1))) (ev tab.get 1000000 blockCutsB (blockCutsFr i) ⟨3, [[]], [[]]⟩)

end M2
end
section
/- The law BlockCuts: some of its rounds, run one by one. -/
namespace M2
open Go

theorem blockCuts_q0 : allN blockCutsRd 1 0 = true := by kernel_rfl
theorem blockCuts_q1 : allN blockCutsRd 1 1 = true := by kernel_rfl
theorem blockCuts_q2 : allN blockCutsRd 1 2 = true := by kernel_rfl

end M2
end
section
/- The law BlockCuts: some of its rounds, run one by one. -/
namespace M2
open Go

theorem blockCuts_q3 : allN blockCutsRd 1 3 = true := by kernel_rfl
theorem blockCuts_q4 : allN blockCutsRd 1 4 = true := by kernel_rfl
theorem blockCuts_q5 : allN blockCutsRd 1 5 = true := by kernel_rfl

end M2
end
section
/- The law BlockCuts: some of its rounds, run one by one. -/
namespace M2
open Go

theorem blockCuts_q6 : allN blockCutsRd 1 6 = true := by kernel_rfl
theorem blockCuts_q7 : allN blockCutsRd 1 7 = true := by kernel_rfl
theorem blockCuts_q8 : allN blockCutsRd 1 8 = true := by kernel_rfl

end M2
end
section
/- The law BlockCuts: some of its rounds, run one by one. -/
namespace M2
open Go

theorem blockCuts_q9 : allN blockCutsRd 1 9 = true := by kernel_rfl
theorem blockCuts_q10 : allN blockCutsRd 1 10 = true := by kernel_rfl
theorem blockCuts_out : isX3 0 6 1 3 4 (.ptr 1 0) blockCutsL (.int .i64 (.ofNat 11)) (ev tab.get 1000000 blockCutsB (blockCutsFr 11) ⟨3, [[]], [[]]⟩) = true := by kernel_rfl
theorem blockCuts_wakes : okR (callA tab.get (ev tab.get 1000000) 446 [] ⟨3, [], []⟩) = true := by kernel_rfl

end M2
end
section
/- The law BlockCuts, run in pieces. -/
namespace M2
open Go Go.Proofs Go.Proofs.YtoljmdhhhkbolaaGreatDoor

theorem blockCuts_rounds : ∀ i, i < 11 → blockCutsRd i = true := by
  intro i hi
  by_cases h0 : i < 1
  · exact allN_ok 1 0 blockCuts_q0 i (by omega) (by omega)
  by_cases h1 : i < 2
  · exact allN_ok 1 1 blockCuts_q1 i (by omega) (by omega)
  by_cases h2 : i < 3
  · exact allN_ok 1 2 blockCuts_q2 i (by omega) (by omega)
  by_cases h3 : i < 4
  · exact allN_ok 1 3 blockCuts_q3 i (by omega) (by omega)
  by_cases h4 : i < 5
  · exact allN_ok 1 4 blockCuts_q4 i (by omega) (by omega)
  by_cases h5 : i < 6
  · exact allN_ok 1 5 blockCuts_q5 i (by omega) (by omega)
  by_cases h6 : i < 7
  · exact allN_ok 1 6 blockCuts_q6 i (by omega) (by omega)
  by_cases h7 : i < 8
  · exact allN_ok 1 7 blockCuts_q7 i (by omega) (by omega)
  by_cases h8 : i < 9
  · exact allN_ok 1 8 blockCuts_q8 i (by omega) (by omega)
  by_cases h9 : i < 10
  · exact allN_ok 1 9 blockCuts_q9 i (by omega) (by omega)
  by_cases h10 : i < 11
  · exact allN_ok 1 10 blockCuts_q10 i (by omega) (by omega)
  omega
theorem blockCuts_low : lowK 3 20 blockCutsL = true := by kernel_rfl
theorem blockCuts_norm (a : AV) : (blockCutsIn a).norm? = true := by kernel_rfl
theorem blockCuts_fr (a : AV) : isN3 6 1 3 4 (.ptr 1 0) blockCutsL (.int .i64 (.ofNat 0)) (ev tab.get 1000000 blockCutsA (frOf (blockCutsIn a)) (stOf (blockCutsIn a))) = true := by kernel_rfl
noncomputable def blockCutsU (a : AV) : T := stOf (ev tab.get 1000000 blockCutsA (frOf (blockCutsIn a)) (stOf (blockCutsIn a)))
theorem blockCuts_n (a : AV) : (blockCutsU a).n = 3 := by kernel_rfl
theorem blockCuts_vs (a : AV) : (blockCutsU a).vs = [[(1, .cells ((List.replicate 3 AV.und).set 2 a))]] := by kernel_rfl
def blockCutsT (a : AV) : T := ⟨3, [[(1, .cells ((List.replicate 3 AV.und).set 2 a))]], [[]]⟩

theorem blockCuts_key (a : AV) (ha : OneSl a) (c : CallF) (hc : c 446 [] (blockCutsT a) = .ok (.bool true) (blockCutsT a)) : ∃ t3, outC a439 (retOf (runOps blockCutsE c (blockCutsFr 11) (blockCutsT a))) = .ok (.bool true) t3 := by
  have e : runOps blockCutsE c (blockCutsFr 11) (blockCutsT a) = runOps blockCutsE (fun _ _ _ => c 446 [] (blockCutsT a)) (blockCutsFr 11) (blockCutsT a) := by
    rcases ha with rfl | rfl | ⟨e, pos, cap, alt, n, rfl⟩ <;> kernel_rfl
  rw [e, hc]
  rcases ha with rfl | rfl | ⟨e, pos, cap, alt, n, rfl⟩
  · exact okR_ok (by kernel_rfl)
  · exact okR_ok (by kernel_rfl)
  · exact okR_ok (by kernel_rfl)

theorem blockCuts_run (a : AV) (ha : OneSl a) : ∃ t', Rt Tryz.prog (maps ims) 439 [.agg ((List.replicate 3 AV.und).set 2 a)] ⟨1, [], []⟩ (.bool true) t' := by
  obtain ⟨tw, hw⟩ := okR_ok blockCuts_wakes
  have horc := orc_ok mix him table hw
  obtain ⟨t3, hout⟩ := blockCuts_key a ha (orc 446 [] 3) (orc_eq rfl)
  refine ⟨t3, Rt.of table (show tab.get 439 = some a439 by kernel_rfl) (by decide) (args := [.agg ((List.replicate 3 AV.und).set 2 a)]) (F := blockCutsF a) rfl (r := retOf (runOps blockCutsE (orc 446 [] 3) (blockCutsFr 11) (blockCutsT a))) ?_ hout⟩
  rw [blockCuts_shape]
  refine Ex.seqs (F1 := frOf (blockCutsIn a)) (t1 := stOf (blockCutsIn a)) (ExL.run mix him table (N := 1000000) (norm_eq (blockCuts_norm a))) ?_
  refine Ex.seq (F1 := blockCutsFr 11) (t1 := blockCutsU a) ?_ (Ex.thin (t2 := blockCutsT a) (Ex.fin mix him table (Ex.reg him horc)) (blockCuts_n a).symm (by rw [blockCuts_vs a]; exact List.Sublist.refl _) (List.nil_sublist _))
  obtain ⟨F2, t3, h3, h4⟩ := isN3_ok (blockCuts_fr a)
  refine Ex.seq (F1 := F2) (t1 := blockCutsU a) (Ex.run mix him table (N := 1000000) (by rw [h3]; unfold blockCutsU; rw [h3]; rfl)) ?_
  exact Ex.weak h4 (Ex.rounds mix him table (N := 1000000) (down_ptr (by decide)) (back_ptr (by decide)) blockCuts_low blockCuts_rounds blockCuts_out (blockCutsU a))

end M2
end
