/- General ground for the statement: an abstract machine that the program's code is shown to follow, and the contracts of the functions that the law reaches. Part 2. -/
import Derived.Test.YtpbhojddfmajoaaGreatA1
import Derived.ProofKit
import Derived.OpenShut
set_option linter.unusedVariables false
set_option linter.unusedSimpArgs false
section
namespace M2
open Go

/-- our functions stand for the program's -/
def Table (P : Program) (M : Maps) (im : FuncId → Option Nat) (tbl : Nat → Option AFunc) : Prop :=
  ∀ f fn, tbl f = some fn → ∃ gf, P.funcs[M.fm f]? = some gf ∧ cmpF P im fn.depth fn.keep gf = some fn

section
variable {P : Program} {M : Maps} {im : FuncId → Option Nat} {d ntmps : Nat}

theorem argsIn_ok : ∀ (ps : List Bits) (vs : List AV) (f0 f : Fr), argsIn ps vs f0 = some f → ps.Nodup → ps.length = vs.length ∧
    ∀ q, f.get q = match ps.idxOf? q with | some i => vs.getD i .und | none => f0.get q := by
  intro ps
  induction ps with
  | nil =>
    intro vs f0 f h _
    cases vs with
    | nil => cases h; exact ⟨rfl, fun q => rfl⟩
    | cons v vs => simp [argsIn] at h
  | cons p ps ih =>
    intro vs f0 f h hn
    cases vs with
    | nil => simp [argsIn] at h
    | cons v vs =>
      rw [List.nodup_cons] at hn
      obtain ⟨h1, h2⟩ := ih vs _ f h hn.2
      refine ⟨by simp [h1], fun q => ?_⟩
      rw [h2 q]
      by_cases hpq : p = q
      · subst hpq
        have : ps.idxOf? p = none := List.idxOf?_eq_none_iff.mpr hn.1
        rw [this]
        simp [List.idxOf?_cons, Fr.get_put]
      · rw [List.idxOf?_cons, if_neg (by simpa using hpq)]
        cases hq : ps.idxOf? q with
        | none => simp [Fr.get_put, hpq]
        | some i => simp

theorem idx_pth {d n t : Nat} (hn : n ≤ 2 ^ d) (ht : t < 2 ^ d) : ((List.range n).map (pth d)).idxOf? (pth d t) = if t < n then some t else none := by
  by_cases h : t < n
  · rw [if_pos h]
    rw [List.idxOf?_eq_some_iff]
    refine ⟨by simpa using h, by simp, fun j hj => ?_⟩
    simp only [List.getElem_map, List.getElem_range]
    intro e
    have := pth_inj d j t (by omega) ht (by simpa using e)
    omega
  · rw [if_neg h, List.idxOf?_eq_none_iff]
    intro hm
    obtain ⟨j, hj, e⟩ := List.mem_map.mp hm
    have hj' : j < n := by simpa using hj
    have := pth_inj d j t (by omega) ht e
    omega

theorem enter_flat {α : Type} (l : List (List (Nat × α))) : (([] : List (Nat × α)) :: l).flatten = l.flatten := rfl

theorem SR.enter {g : G} {t : T} (h : SR M g t) : SR M g t.enter := h.fewer rfl (List.Sublist.refl _) (List.Sublist.refl _)

theorem leaveVs_sub (keep : Bool) (l : List VScope) : (leaveVs keep l).flatten.Sublist l.flatten := by
  unfold leaveVs
  split
  · cases keep
    · simp
    · simp
  · exact List.Sublist.refl _

theorem leaveIs_sub (keep : Bool) (r : AV) (l : List IScope) : (leaveIs keep r l).flatten.Sublist l.flatten := by
  unfold leaveIs
  split
  · split
    · simp only [List.flatten_cons, List.append_assoc]
      exact List.Sublist.refl _
    · simp only [List.flatten_cons, List.append_assoc]
      exact List.Sublist.append List.filter_sublist (List.Sublist.refl _)
  · exact List.Sublist.refl _

theorem SR.leave {g : G} {t : T} (h : SR M g t) (keep : Bool) (r : AV) : SR M g (t.leave keep r) := h.fewer rfl (leaveVs_sub _ _) (leaveIs_sub _ _ _)

/-- what a function hands back in one place -/
def resV (tmps : Array Value) (rv : ResultVar) : Sem Value :=
  match rv with
  | .tmp t => pure (tmps.getD t undef)
  | .cell a t => do loadVar t (← asAddr (tmps.getD a undef))

theorem results_eq (fn : Func) (tmps : Array Value) : results fn tmps = (do
    let vs ← fn.results.mapM (resV tmps)
    pure (if h : vs.size = 1 then vs[0] else .tuple vs)) := by
  unfold results
  congr 1

theorem result_ok {g : G} {F : Fr} {t : T} {a : Act} (hf : Fits M g d ntmps F t a) {rv : ResultVar} {r : Bits × Option (Nat × Bool)} (hc : cmpRes P d rv = some r) {v : AV} (hr : resultOf F t r = some v) :
    ∃ v', (resV a.tmps rv).run P g.w = .ok v' g.w ∧ VR M g v v' := by
  cases rv with
  | tmp u =>
    simp only [cmpRes] at hc
    split at hc
    · rename_i h
      cases hc
      cases hr
      exact ⟨_, rfl, hf.f.rel u h⟩
    · contradiction
  | cell u ty =>
    simp only [cmpRes] at hc
    split at hc
    · rename_i h
      simp only [Option.bind_eq_bind, Option.bind_eq_some_iff] at hc
      obtain ⟨s, hs, ag, ha, e⟩ := hc
      cases e
      obtain ⟨i, hi, rfl⟩ := sizeT_ok hs
      have hv := hf.f.rel u h
      unfold resultOf at hr
      simp only at hr
      split at hr
      · rename_i cs hread
        cases ag with
        | true =>
          simp only at hr
          cases hb : Nat.ble i.size cs.length with
          | false => rw [hb] at hr; cases hr
          | true =>
            rw [hb] at hr
            cases hr
            have hle := Nat.le_of_ble_eq_true hb
            by_cases hne : cs = []
            · subst hne
              have h0 : i.size = 0 := by simpa using hle
              have : ∃ b off, a.tmps.getD u undef = .pointer (some ⟨b, off, none⟩) := by
                unfold T.read at hread
                split at hread
                · rename_i hy; rw [hy] at hv; generalize a.tmps.getD u undef = cv at hv; cases hv; exact ⟨_, _, rfl⟩
                · rename_i hy; rw [hy] at hv; generalize a.tmps.getD u undef = cv at hv; cases hv; exact ⟨_, _, rfl⟩
                · contradiction
              obtain ⟨b, off, hp⟩ := this
              refine ⟨.agg #[], ?_, by rw [List.take_nil]; exact .agg [] #[] rfl (fun i h => absurd h (by simp))⟩
              simp [resV, hp, asAddr, loadVar, run_isAgg ha, run_sizeOf hi, h0, loadCells, loadCellsFrom]
            · obtain ⟨b, off, hp, f, hff⟩ := read_ok hf.s hread hv hne
              refine ⟨.agg ((List.range i.size).map f).toArray, ?_, ?_⟩
              · have := run_loadCells (P := P) g.w ⟨b, off, none⟩ i.size f (fun j hj => by rw [addr_add]; exact (hff j (by omega)).1)
                simp [resV, hp, asAddr, loadVar, run_isAgg ha, run_sizeOf hi, this]
              · refine .agg _ _ (by simp; omega) (fun j hj => ?_)
                have hj' : j < i.size := by simp at hj; omega
                have := (hff j (by omega)).2
                simpa [Array.getD, hj'] using this
        | false =>
          simp only at hr
          cases cs with
          | nil => cases hr
          | cons c cs =>
            cases hr
            obtain ⟨b, off, hp, f, hff⟩ := read_ok hf.s hread hv (by simp)
            obtain ⟨h1, h2⟩ := hff 0 (by simp)
            simp only [Nat.add_zero] at h1
            exact ⟨f 0, by simp [resV, hp, asAddr, loadVar, run_isAgg ha, h1], h2⟩
      · contradiction
    · contradiction

theorem results_ok {g : G} {F : Fr} {t : T} {a : Act} (hf : Fits M g d ntmps F t a) : ∀ (rvs : List ResultVar) (rs : List (Bits × Option (Nat × Bool))), rvs.mapM (cmpRes P d) = some rs →
    ∀ vs, resultsOf F t rs = some vs → ∃ ws : List Value, (rvs.mapM (resV a.tmps)).run P g.w = .ok ws g.w ∧ ws.length = vs.length ∧ ∀ i (h : i < vs.length), VR M g vs[i] (ws.getD i undef) := by
  intro rvs
  induction rvs with
  | nil =>
    intro rs h vs hv
    simp at h
    subst h
    cases hv
    exact ⟨[], rfl, rfl, fun i h => absurd h (by simp)⟩
  | cons rv rvs ih =>
    intro rs h vs hv
    simp only [List.mapM_cons, Option.bind_eq_bind, Option.bind_eq_some_iff, Option.pure_def] at h
    obtain ⟨r, hr, rs', hrs, e⟩ := h
    cases e
    unfold resultsOf at hv
    split at hv
    · rename_i v1 h1
      split at hv
      · rename_i vs1 h2
        cases hv
        obtain ⟨w1, q1, q2⟩ := result_ok hf hr h1
        obtain ⟨ws, p1, p2, p3⟩ := ih rs' hrs vs1 h2
        refine ⟨w1 :: ws, ?_, by simp [p2], fun i hi => ?_⟩
        · rw [List.mapM_cons]
          simp only [Sem.run_bind, Sem.run_pure]
          simp only [q1, Result.andThen_ok, p1]
        · cases i with
          | zero => simpa using q2
          | succ i => simpa using p3 i (by simpa using hi)
      · contradiction
    · contradiction

theorem packed_ok {g : G} {vs : List AV} {ws : List Value} (hl : ws.length = vs.length) (hv : ∀ i (h : i < vs.length), VR M g vs[i] (ws.getD i undef)) :
    VR M g (packed vs) (if h : ws.toArray.size = 1 then ws.toArray[0] else .tuple ws.toArray) := by
  have tup : ws.length ≠ 1 → VR M g (.tup vs) (if h : ws.toArray.size = 1 then ws.toArray[0] else .tuple ws.toArray) := by
    intro hne
    rw [dif_neg (by simpa using hne)]
    refine .tup vs ws.toArray (by simpa using hl) (fun i hi => ?_)
    have := hv i hi
    have hi2 : i < ws.length := by omega
    simpa [Array.getD, List.getD, hi2] using this
  cases vs with
  | nil => exact tup (by rw [hl]; simp)
  | cons v vs =>
    cases vs with
    | nil =>
      cases ws with
      | nil => simp at hl
      | cons w ws =>
        cases ws with
        | nil => simpa [packed] using hv 0 (by simp)
        | cons _ _ => simp at hl
    | cons v2 vs => exact tup (by rw [hl]; simp)

theorem pth_nodup {d n : Nat} (h : n ≤ 2 ^ d) : ((List.range n).map (pth d)).Nodup := by
  unfold List.Nodup
  rw [List.pairwise_map]
  refine List.Pairwise.imp_of_mem (fun {a b} ha hb hne e => ?_) (List.nodup_range (n := n))
  have ha' : a < n := by simpa using ha
  have hb' : b < n := by simpa using hb
  exact hne (pth_inj d a b (by omega) (by omega) e)

theorem call_sound (hmix : P.follows .mixedOrders = true) (him : ∀ f x, im f = some x → M.fm x = f) {tbl : Nat → Option AFunc} (ht : Table P M im tbl) : ∀ n, CallOK P M (callA tbl (ev tbl n)) := by
  intro n
  induction n using Nat.strongRecOn with
  | _ n ih =>
    have hcode := code_sound (P := P) hmix him tbl n ih
    intro f args t r t' hr
    unfold callA at hr
    cases hfn : tbl f with
    | none => rw [hfn] at hr; cases hr
    | some fn =>
      rw [hfn] at hr
      simp only at hr
      obtain ⟨gf, hgf, hcf⟩ := ht f fn hfn
      unfold cmpF at hcf
      split at hcf
      · rename_i hcond
        obtain ⟨c1, c2, c3⟩ := hcond
        simp only [Option.bind_eq_bind, Option.bind_eq_some_iff] at hcf
        obtain ⟨c, hbody, b, hb, rs, hrs, e⟩ := hcf
        have hgood : Good P (M.fm f) := ⟨gf, hgf, by simpa using c3, by simp [hbody]⟩
        refine ⟨hgood, ?_⟩
        intro g cargs hS hsz hv
        have efn : fn = { depth := fn.depth, params := (List.range (gf.params.size + gf.nfree)).map (pth fn.depth), results := rs, keep := fn.keep, body := b } := by simpa using e.symm
        have eparams : fn.params = (List.range (gf.params.size + gf.nfree)).map (pth fn.depth) := by rw [efn]
        have ebody : fn.body = b := by rw [efn]
        have eres : fn.results = rs := by rw [efn]
        cases ha : argsIn fn.params args .nil with
        | none => rw [ha] at hr; cases hr
        | some F =>
          rw [ha] at hr
          simp only at hr
          have hnd : fn.params.Nodup := by
            rw [eparams]
            exact pth_nodup (by omega)
          obtain ⟨a1, a2⟩ := argsIn_ok _ _ _ _ ha hnd
          have hnp : gf.params.size + gf.nfree = args.length := by rw [← a1, eparams]; simp
          refine calls_of_wp hgf hbody ?_
          have hfits : Fits M g fn.depth gf.ntmps F t.enter { tmps := cargs ++ Array.replicate (gf.ntmps - cargs.size) undef, defers := [] } := by
            refine ⟨⟨by simp; omega, fun u hu => ?_⟩, hS.enter, by simp; omega, rfl⟩
            rw [a2, eparams, idx_pth (by omega) hu]
            by_cases hlt : u < gf.params.size + gf.nfree
            · rw [if_pos hlt]
              simp only
              have h1 := hv u (by omega)
              have e1 : args.getD u .und = args[u]'(by omega) := by simp [List.getD, show u < args.length by omega]
              rw [e1]
              have e2 : (cargs ++ Array.replicate (gf.ntmps - cargs.size) undef).getD u undef = cargs.getD u undef := by
                simp only [Array.getD_eq_getD_getElem?]
                rw [Array.getElem?_append_left (by omega)]
              show VR M g _ ((cargs ++ Array.replicate (gf.ntmps - cargs.size) undef).getD u undef)
              rw [e2]
              exact h1
            · rw [if_neg hlt]
              simp only [Fr.get_nil]
              exact .und _
          have hpost : ∀ R, (∀ F1 t1, (ev tbl n fn.body F t.enter = .norm F1 t1 ∨ ev tbl n fn.body F t.enter = .ret F1 t1) → ∀ g' a', g.Le g' → Fits M g' fn.depth gf.ntmps F1 t1 a' →
              bodyPost P gf R .normal a' g'.w) → c.wp P (bodyPost P gf R) { tmps := cargs ++ Array.replicate (gf.ntmps - cargs.size) undef, defers := [] } g.w := by
            intro R hR
            refine hcode fn.depth gf.ntmps c b hb g F t.enter _ _ hfits ?_
            rw [ebody] at hR hr
            cases hev : ev tbl n b F t.enter with
            | fail => rw [hev] at hr; cases hr
            | norm F1 t1 => exact fun g' a' hle hf' => hR F1 t1 (.inl hev) g' a' hle hf'
            | exit id F1 t1 => rw [hev] at hr; cases hr
            | ret F1 t1 => exact fun g' a' hle hf' => hR F1 t1 (.inr hev) g' a' hle hf'
          refine hpost _ (fun F1 t1 hev g' a' hle hf' => ?_)
          have hafter : afterBody fn F1 t1 = .ok r t' := by
            rcases hev with hev | hev <;> (rw [hev] at hr; exact hr)
          unfold afterBody at hafter
          rw [eres] at hafter
          cases hrv : resultsOf F1 t1 rs with
          | none => rw [hrv] at hafter; cases hafter
          | some vs =>
            rw [hrv] at hafter
            cases hafter
            obtain ⟨ws, w1, w2, w3⟩ := results_ok hf' gf.results.toList rs hrs vs hrv
            refine ⟨hf'.d, if h : ws.toArray.size = 1 then ws.toArray[0] else .tuple ws.toArray, ?_, ?_⟩
            · show (results gf a'.tmps).run P g'.w = _
              rw [results_eq, Array.mapM_eq_mapM_toList]
              simp only [Sem.run_bind, Sem.run_map, w1, Result.andThen_ok, Sem.run_pure]
            · exact ⟨_, g', rfl, rfl, hle, packed_ok w2 w3, hf'.s.leave _ _⟩
      · contradiction

end

end M2
end
section
namespace M2
open Go Go.ChangeShapes Go.WideShapes Go.ChangeAt Go.RowKit

/-- what a run of ours says of the program's call, where all that stands is left alone -/
theorem link {P : Program} {M : Maps} {im : FuncId → Option Nat} {tbl : Nat → Option AFunc} (hmix : P.follows .mixedOrders = true) (him : ∀ f x, im f = some x → M.fm x = f) (ht : Table P M im tbl)
    {n id : Nat} {avs : List AV} {args : Array Value} {t t' : T} {g : G} (hoth : ∀ b, b < g.w.heap.size → g.μ b = .oth) (hS : SR M g t) (hsz : args.size = avs.length)
    (hv : ∀ i (h : i < avs.length), VR M g avs[i] (args.getD i undef)) (hrun : callA tbl (ev tbl n) id avs t = .ok (.bool true) t') :
    Calls P (M.fm id) args g.w fun e w' => e = .returned (.bool true) ∧ Below g.w.heap.size g.w w' := by
  obtain ⟨-, h⟩ := call_sound hmix him ht n id avs t _ t' hrun
  refine (h g args hS hsz hv).mono ?_
  rintro e w' ⟨v, g', rfl, rfl, hle, hvr, -⟩
  cases hvr
  exact ⟨rfl, hle.os, hle.tape, hle.output, hle.size, fun k hk => (hle.oth k hk (by rw [hoth k hk]; rfl)).2⟩

/-- a law of one argument: what the row asks of its call -/
theorem law_calls {P : Program} {H : Type} {enc : TypeId × Value → H} {f : Func} {s : ChangeSpec} {fid : FuncId} {t bt : TypeId} (hparams : f.params.toList = [t]) (hres : f.resultTypes = #[bt])
    (hbt : P.underlying bt = some .bool) (hvars : s.vars = []) (hfn : ∀ d, s.fn H [d] = { results := [.lit (.bool true)], args := [d] }) (hl : laidOutB P = true) (hr : P.readableRec t = true)
    (hrow : t < P.types.size) {W : World} {args : Array Value} {ds gs : List (DataW H)} {before : List MemPlace} (hW : DataW.Whole enc P f.params.toList s.vars false W args.toList ds gs before)
    (hcalls : ∀ v d p, args = #[v] → ds = [d] → gs = [] → DataW.Trod enc P W 0 (fun _ => true) true t v d p → Calls P fid args W fun e W' => e = .returned (.bool true) ∧ Below W.heap.size W W') :
    Calls P fid args W fun e W' => ∃ v, e = .returned v ∧ s.post enc P f false true false false W args v W' := by
  have hW' := hW
  obtain ⟨p, q, hA, hV, rfl, hfz, hnd⟩ := hW
  rw [hparams] at hA
  obtain ⟨v0, vs0, d0, ds0, p0, q0, hargs, rfl, rfl, h0, r0⟩ := trodAll_cons hA
  obtain ⟨rfl, rfl, rfl⟩ := trodAll_nil r0
  obtain rfl : args = #[v0] := by cases args; simp_all
  rw [hvars] at hV
  obtain ⟨rfl, rfl⟩ := trodVars_none hV
  refine (hcalls v0 d0 p0 rfl rfl rfl h0).mono ?_
  rintro e W' ⟨rfl, hb⟩
  refine ⟨_, rfl, [d0], [], _, [], p0 ++ [], [], hW', ?_, ?_, ?_, hb.frame _, fun h => by cases h⟩
  · rw [List.append_nil, hfn, hres]
    exact trodAll_mk1 (shut_bool hbt _)
  · rw [List.append_nil [d0], hfn, hparams]
    exact ⟨p0, [], Below.trod hl hr hrow h0 hb (fun x hx => by simpa using hW'.lt x (by simpa using hx)), rfl, rfl⟩
  · rw [List.append_nil [d0], hfn, hvars]
    rfl

end M2
end
section
namespace M2
open Go

/-! #### what a reading of an argument is, ascs a value of ours -/

/-- fields side by side from a place on; the place behind them -/
def tiles (P : Program) : List Field → Nat → Option Nat
  | [], off => some off
  | f :: fs, off => if f.offset = off then tiles P fs (off + P.cellsOf f.type) else none

/-- types that are read so -/
def argT (P : Program) : Nat → TypeId → Bool
  | 0, _ => false
  | n + 1, t =>
    match P.underlying t with
    | some .bool => true
    | some (.int _) => true
    | some .string => true
    | some (.slice e) => Nat.ble 1 (P.cellsOf e) && argT P n e
    | some (.struct fs) => (tiles P fs.toList 0 == some (P.cellsOf t)) && fs.toList.all (fun f => argT P n f.type)
    | _ => false

def isAg (P : Program) (t : TypeId) : Bool :=
  match P.underlying t with
  | some (.struct _) => true
  | _ => false

/-- an element out of its cells -/
def elemA (ag : Bool) (cs : List AV) : AV := if ag then .agg cs else cs.headD .und

def DA {H : Type} (P : Program) : Nat → TypeId → DataW H → List AV → Prop
  | 0, _, _, _ => False
  | n + 1, t, d, ascs =>
    match P.underlying t with
    | some .bool => ∃ b, d = .lit (.bool b) ∧ ascs = [.bool b]
    | some (.int k) => ∃ v, d = .lit (.int k v) ∧ (Lit.int k v).wf = true ∧ ascs = [.int k v]
    | some .string => ∃ s, d = .lit (.string s) ∧ s.length ≤ maxLen ∧ ascs = [.str s]
    | some (.slice e) => (d = .nil ∧ ascs = [.nils]) ∨
        ∃ elems spare es, d = .slice elems spare ∧ es.length = elems.length ∧ elems.length + spare.length ≤ maxLen ∧
          (∀ i (h : i < elems.length) (h' : i < es.length), ∃ cs, cs.length = P.cellsOf e ∧ DA P n e elems[i] cs ∧ es[i] = elemA (isAg P e) cs) ∧
          ((elems.length + spare.length = 0 ∧ ascs = [.sl0]) ∨ ∃ id pos, ascs = [.sl id (P.cellsOf e) pos (elems.length + spare.length) false 0 es])
    | some (.struct fs) => ∃ ps, d = .agg ps ∧ ps.length = fs.size ∧ ascs.length = P.cellsOf t ∧
        ∀ i (h : i < fs.size) (h' : i < ps.length), DA P n fs[i].type ps[i] ((ascs.drop fs[i].offset).take (P.cellsOf fs[i].type))
    | _ => False

/-- a world of which nothing may change -/
def argG (W : World) (n K : Nat) : G := { n := n, ok := fun i => i < n, ρ := fun i => ⟨i / K, i % K, 0⟩, ν := fun _ => 0, μ := fun _ => .oth, w := W }

theorem argG_sr (M : Maps) (W : World) (n K : Nat) : SR M (argG W n K) ⟨n, [], []⟩ :=
  { n := rfl, wf := ⟨by simp, fun p hp => by simp at hp, by simp, fun p hp => by simp at hp⟩, okn := fun _ h => h,
    var := fun x o hx => by simp [look2_nil] at hx, inj := fun x y o o' hx => by simp [look2_nil] at hx,
    ids := fun i en e hx => by simp [look2_nil] at hx, idinj := fun i j a b hx => by simp [look2_nil] at hx }

theorem size_bound (W : World) : ∃ K, 0 < K ∧ ∀ (b : Nat) (c : Array Value) (ty : TypeId) (fz : Nat × Nat), W.heap[b]? = some (.cells c ty fz) → c.size < K := by
  have key : ∀ l : List Obj, ∃ K, 0 < K ∧ ∀ (c : Array Value) (ty : TypeId) (fz : Nat × Nat), Obj.cells c ty fz ∈ l → c.size < K := by
    intro l
    induction l with
    | nil => exact ⟨1, by omega, fun c ty fz h => by cases h⟩
    | cons o l ih =>
      obtain ⟨K, hK, h⟩ := ih
      cases o with
      | cells c0 ty0 fz0 =>
        refine ⟨K + c0.size + 1, by omega, fun c ty fz hm => ?_⟩
        cases hm with
        | head => omega
        | tail _ hm => have := h c ty fz hm; omega
      | _ =>
        refine ⟨K, hK, fun c ty fz hm => ?_⟩
        cases hm with
        | tail _ hm => exact h c ty fz hm
  obtain ⟨K, hK, h⟩ := key W.heap.toList
  refine ⟨K, hK, fun b c ty fz hb => h c ty fz ?_⟩
  exact Array.mem_toList_iff.mpr (Array.mem_of_getElem? hb)

theorem choose_list {α : Type} {p : Nat → α → Prop} : ∀ n, (∀ i, i < n → ∃ x, p i x) → ∃ l : List α, l.length = n ∧ ∀ i (h : i < l.length), p i l[i] := by
  intro n
  induction n with
  | zero => intro _; exact ⟨[], rfl, fun i h => absurd h (by simp)⟩
  | succ n ih =>
    intro h
    obtain ⟨l, h1, h2⟩ := ih (fun i hi => h i (by omega))
    obtain ⟨x, hx⟩ := h n (by omega)
    refine ⟨l ++ [x], by simp [h1], fun i hi => ?_⟩
    by_cases e : i < l.length
    · rw [List.getElem_append_left e]; exact h2 i e
    · have : i = n := by simp at hi; omega
      subst this
      rw [List.getElem_append_right (by omega)]
      simpa [h1] using hx

theorem cells_ok {W : World} {a : Addr} {n : Nat} {l : List Value} (h : W.cells? 0 a n = some l) : l.length = n ∧ ∀ j (hj : j < l.length), W.cell? (a.add j) = some l[j] := by
  unfold World.cells? at h
  rw [if_pos (Nat.zero_le _)] at h
  obtain ⟨h1, h2⟩ := mapM_get _ _ _ h
  have h1' : l.length = n := by simpa using h1
  refine ⟨h1', fun j hj => ?_⟩
  have := h2 j (by simpa [h1'] using hj) hj
  simpa using this

section
variable {H : Type} {enc : TypeId × Value → H} {P : Program} {M : Maps} {W : World} {K : Nat}

theorem one_cell {g : G} {v : Value} {a : AV} (h : VR M g a v) : ∀ i (hi : i < [a].length), VR M g [a][i] ([v].getD i undef) := by
  intro i hi
  have : i = 0 := by simpa using hi
  subst this
  simpa using h

theorem headD_get (l : List AV) (h : 0 < l.length) : l.headD .und = l[0] := by
  cases l with
  | nil => simp at h
  | cons y ys => simp

theorem getD_part (cs : List Value) (off size j : Nat) (h : j < size) : ((cs.drop off).take size).getD j undef = cs.getD (off + j) undef := by
  simp [List.getD_eq_getElem?_getD, List.getElem?_drop, h]

theorem tile_join (g : G) (cs : List Value) : ∀ (l : List Field) (off tot : Nat), tiles P l off = some tot → ∀ ys : List (List AV), ys.length = l.length →
    (∀ i (h : i < l.length) (h' : i < ys.length), ys[i].length = P.cellsOf l[i].type ∧ ∀ j (hj : j < ys[i].length), VR M g ys[i][j] (((cs.drop l[i].offset).take (P.cellsOf l[i].type)).getD j undef)) →
    ys.flatten.length + off = tot ∧ (∀ i (h : i < l.length) (h' : i < ys.length), off ≤ l[i].offset ∧ (ys.flatten.drop (l[i].offset - off)).take (P.cellsOf l[i].type) = ys[i]) ∧
      ∀ j (hj : j < ys.flatten.length), VR M g ys.flatten[j] (cs.getD (off + j) undef) := by
  intro l
  induction l with
  | nil =>
    intro off tot ht ys hl _
    have : ys = [] := by simpa using hl
    subst this
    simp only [tiles, Option.some.injEq] at ht
    exact ⟨by simp [ht], fun i h => absurd h (by simp), fun j hj => absurd hj (by simp)⟩
  | cons f l ih =>
    intro off tot ht ys hl hy
    cases ys with
    | nil => simp at hl
    | cons y ys =>
      unfold tiles at ht
      split at ht
      · rename_i hoff
        have h0 := hy 0 (by simp) (by simp)
        simp only [List.getElem_cons_zero] at h0
        obtain ⟨y1, y2⟩ := h0
        obtain ⟨r1, r2, r3⟩ := ih _ _ ht ys (by simpa using hl) (fun i h h' => hy (i + 1) (Nat.succ_lt_succ h) (Nat.succ_lt_succ h'))
        refine ⟨by rw [List.flatten_cons, List.length_append]; omega, fun i h h' => ?_, fun j hj => ?_⟩
        · cases i with
          | zero =>
            simp only [List.getElem_cons_zero, List.flatten_cons]
            refine ⟨by omega, ?_⟩
            rw [hoff, Nat.sub_self, List.drop_zero, ← y1]
            simp
          | succ i =>
            obtain ⟨q1, q2⟩ := r2 i (by simpa using h) (by simpa using h')
            simp only [List.getElem_cons_succ, List.flatten_cons]
            refine ⟨by omega, ?_⟩
            rw [← q2, List.drop_append, List.drop_of_length_le (by omega), List.nil_append]
            congr 2
            omega
        · by_cases e : j < y.length
          · have := y2 j e
            rw [getD_part _ _ _ _ (by omega), hoff] at this
            simp only [List.flatten_cons]
            rw [List.getElem_append_left e]
            exact this
          · simp only [List.flatten_cons] at hj ⊢
            rw [List.getElem_append_right (by omega)]
            have := r3 (j - y.length) (by simp at hj; simp; omega)
            have e2 : off + P.cellsOf f.type + (j - y.length) = off + j := by omega
            rw [e2] at this
            exact this
      · cases ht

theorem trod_vr (hK0 : 0 < K) (hK : ∀ (b : Nat) (c : Array Value) (ty : TypeId) (fz : Nat × Nat), W.heap[b]? = some (.cells c ty fz) → c.size < K) :
    ∀ (fuel tf : Nat) (t : TypeId) (cs : List Value) (x : DataW H × List MemPlace), argT P tf t = true → DataW.trod enc P W 0 (fun _ => true) true fuel t cs = some x →
      ∃ ascs, DA P tf t x.1 ascs ∧ ascs.length = cs.length ∧ (∀ i (h : i < ascs.length), VR M (argG W (W.heap.size * K) K) ascs[i] (cs.getD i undef)) ∧
        (isAg P t = true ∨ (isAg P t = false ∧ ∃ v, cs = [v] ∧ v.cells = #[v])) := by
  intro fuel
  induction fuel with
  | zero => intro tf t cs x _ h; simp [DataW.trod] at h
  | succ fuel ih =>
    intro tf t cs x ha h
    cases tf with
    | zero => simp [argT] at ha
    | succ tf =>
      unfold argT at ha
      split at ha
      · rename_i hu
        obtain ⟨b, rfl, rfl⟩ := DataW.trod_bool hu h
        exact ⟨[.bool b], by simp [DA, hu], rfl, one_cell (.bool b), .inr ⟨by simp [isAg, hu], _, rfl, rfl⟩⟩
      · rename_i k hu
        obtain ⟨n, rfl, rfl, hw⟩ := DataW.trod_int hu h
        exact ⟨[.int k n], by simp [DA, hu, hw], rfl, one_cell (.int k n), .inr ⟨by simp [isAg, hu], _, rfl, rfl⟩⟩
      · rename_i hu
        obtain ⟨s, rfl, rfl, hw⟩ := DataW.trod_string hu h
        refine ⟨[.str s.data.toList], ?_, rfl, one_cell ?_, .inr ⟨by simp [isAg, hu], _, rfl, rfl⟩⟩
        · simp only [DA, hu]
          exact ⟨_, rfl, by simpa using hw, rfl⟩
        · have : VR M (argG W (W.heap.size * K) K) (.str s.data.toList) (.string ⟨s.data.toList.toArray⟩) := .str _
          simpa using this
      · rename_i e hu
        simp only [Bool.and_eq_true] at ha
        obtain ⟨he1, hae⟩ := ha
        have he1 := Nat.le_of_ble_eq_true he1
        have hag : isAg P t = false := by simp [isAg, hu]
        rcases DataW.trod_slice hu h with ⟨rfl, rfl⟩ | ⟨a, len, cap, elems, rest, n, hn, rfl, rfl, -, hlc, hcm, hel, hE, hR, -⟩
        · exact ⟨[.nils], by simp [DA, hu], rfl, one_cell .nils, .inr ⟨hag, _, rfl, rfl⟩⟩
        · have hn : fuel = n := by omega
          subst hn
          obtain ⟨hrl, hR⟩ := hR rfl
          have hex : ∀ i, i < len → ∃ q : List AV × List Value, q.1.length = P.cellsOf e ∧ q.2.length = P.cellsOf e ∧ (∀ j (hj : j < q.2.length), W.cell? ((a.add (i * P.cellsOf e)).add j) = some q.2[j]) ∧
              (∀ h : i < elems.length, DA P tf e elems[i].1 q.1) ∧ (∀ j (hj : j < q.1.length), VR M (argG W (W.heap.size * K) K) q.1[j] (q.2.getD j undef)) ∧
              (isAg P e = true ∨ (isAg P e = false ∧ ∃ v, q.2 = [v] ∧ v.cells = #[v])) := by
            intro i hi
            have := hE i hi
            rw [List.getElem?_eq_getElem (by omega), Option.bind_eq_some_iff] at this
            obtain ⟨l, hl, ht⟩ := this
            obtain ⟨l1, l2⟩ := cells_ok hl
            obtain ⟨ascs, d1, d2, d3, d4⟩ := ih tf e l _ hae ht
            exact ⟨(ascs, l), by show ascs.length = _; omega, l1, l2, fun _ => d1, d3, d4⟩
          obtain ⟨qs, hql, hq⟩ := choose_list len hex
          by_cases hc0 : cap = 0
          · have hl0 : len = 0 := by omega
            have hel0 : elems = [] := by apply List.eq_nil_of_length_eq_zero; omega
            have hrl0 : rest = [] := by apply List.eq_nil_of_length_eq_zero; omega
            subst hel0 hrl0
            obtain ⟨b, off, sp⟩ := a
            rw [hc0, hl0]
            refine ⟨[.sl0], ?_, rfl, one_cell (.sl0 b off sp), .inr ⟨hag, _, rfl, rfl⟩⟩
            simp only [DA, hu]
            exact .inr ⟨[], [], [], rfl, rfl, by simp, fun i h => absurd h (by simp), .inl (by simp)⟩
          · -- the first cell is there
            have hfirst : ∃ v, W.cell? a = some v := by
              by_cases hl0 : len = 0
              · have := hR 0 (by omega)
                rw [List.getElem?_eq_getElem (by omega), Option.bind_eq_some_iff] at this
                obtain ⟨l, hl, -⟩ := this
                obtain ⟨l1, l2⟩ := cells_ok hl
                have := l2 0 (by omega)
                rw [hl0] at this
                simp [Addr.add] at this
                exact ⟨_, this⟩
              · have hq0 := hq 0 (by omega)
                have := hq0.2.2.1 0 (by have := hq0.2.1; omega)
                simp [Addr.add] at this
                exact ⟨_, this⟩
            obtain ⟨v0, hv0⟩ := hfirst
            obtain ⟨b, off, sp⟩ := a
            unfold World.cell? at hv0
            simp only at hv0
            split at hv0
            · rename_i c cty fz hb
              split at hv0
              · cases hv0
              · rename_i hsp
                have hsp : sp = none := by cases sp with
                  | none => rfl
                  | some _ => exact absurd rfl hsp
                subst hsp
                have hoff : off < c.size := (Array.getElem?_eq_some_iff.mp hv0).1
                have hoK : off < K := Nat.lt_trans hoff (hK b c cty fz hb)
                have hbb : b < W.heap.size := (Array.getElem?_eq_some_iff.mp hb).1
                have hid : b * K + off < W.heap.size * K := by
                  have : (b + 1) * K ≤ W.heap.size * K := Nat.mul_le_mul_right K hbb
                  rw [Nat.succ_mul] at this
                  omega
                have hρ : (argG W (W.heap.size * K) K).ρ (b * K + off) = ⟨b, off, 0⟩ := by
                  simp only [argG]
                  rw [Nat.mul_comm b K, Nat.mul_add_div hK0, Nat.mul_add_mod, Nat.div_eq_of_lt hoK, Nat.mod_eq_of_lt hoK, Nat.add_zero]
                refine ⟨[.sl (b * K + off) (P.cellsOf e) 0 cap false 0 (qs.map fun q => elemA (isAg P e) q.1)], ?_, rfl, one_cell ?_, .inr ⟨hag, _, rfl, rfl⟩⟩
                · simp only [DA, hu]
                  refine .inr ⟨elems.map (·.1), rest.map (·.1), qs.map fun q => elemA (isAg P e) q.1, rfl, by simp [hql, hel], by simp; omega, fun i h h' => ?_, .inr ⟨b * K + off, 0, by simp only [List.length_map]; rw [show elems.length + rest.length = cap by omega]⟩⟩
                  have hi : i < qs.length := by simpa using h'
                  obtain ⟨q1, q2, q3, q4, -⟩ := hq i hi
                  exact ⟨qs[i].1, q1, by simpa using q4 (by simpa using h), by simp⟩
                · have hvr := VR.sl (M := M) (g := argG W (W.heap.size * K) K) (b * K + off) (P.cellsOf e) 0 cap false 0 (qs.map fun q => elemA (isAg P e) q.1) b off cap
                    (fun i => if isAg P e then .agg (qs.getD i ([], [])).2.toArray else (qs.getD i ([], [])).2.headD undef) hid (by simp) (by rw [hρ]) (by rw [hρ]; simp) (by simp; omega) ?_ ?_ ?_ ⟨hbb, trivial⟩
                  · simpa [hql] using hvr
                  · intro i hi
                    have hi' : i < qs.length := by simpa using hi
                    obtain ⟨q1, q2, q3, q4, q5, q6⟩ := hq i hi'
                    have eq : qs.getD i ([], []) = qs[i] := by simp [List.getD, hi']
                    simp only [List.getElem_map, eq]
                    rcases q6 with q6 | ⟨q6, v, q7, q8⟩
                    · simp only [elemA, q6, if_true]
                      refine .agg _ _ (by simp; omega) (fun j hj => ?_)
                      have := q5 j hj
                      simpa [Array.getD_eq_getD_getElem?, List.getD_eq_getElem?_getD] using this
                    · simp only [elemA, q6, Bool.false_eq_true, if_false, q7, List.headD_cons]
                      have hl1 : P.cellsOf e = 1 := by rw [← q2, q7]; rfl
                      have := q5 0 (by omega)
                      rw [q7] at this
                      have hh : qs[i].1.headD .und = qs[i].1[0]'(by omega) := headD_get _ (by omega)
                      rw [hh]
                      simpa using this
                  · intro i hi
                    have hi' : i < qs.length := by simpa using hi
                    obtain ⟨q1, q2, q3, q4, q5, q6⟩ := hq i hi'
                    have eq : qs.getD i ([], []) = qs[i] := by simp [List.getD, hi']
                    simp only [eq]
                    rcases q6 with q6 | ⟨q6, v, q7, q8⟩
                    · simp only [q6, if_true]
                      simp [Value.cells, q2]
                    · simp only [q6, Bool.false_eq_true, if_false, q7, List.headD_cons, q8]
                      rw [← q2, q7]
                      rfl
                  · intro i j hi hj
                    have hi' : i < qs.length := by simpa using hi
                    obtain ⟨q1, q2, q3, q4, q5, q6⟩ := hq i hi'
                    have eq : qs.getD i ([], []) = qs[i] := by simp [List.getD, hi']
                    have hcell := q3 j (by omega)
                    rw [addr_add, addr_add] at hcell
                    simp only [eq]
                    show W.cell? _ = _
                    rw [hcell]
                    rcases q6 with q6 | ⟨q6, v, q7, q8⟩
                    · simp only [q6, if_true]
                      simp [Value.cells, show j < qs[i].2.length by omega]
                    · have hl1 : P.cellsOf e = 1 := by rw [← q2, q7]; rfl
                      have hj0 : j = 0 := by omega
                      subst hj0
                      simp only [q6, Bool.false_eq_true, if_false, q7, List.headD_cons, q8]
                      simp
            · cases hv0
      · rename_i fs hu
        simp only [Bool.and_eq_true, beq_iff_eq, List.all_eq_true] at ha
        obtain ⟨ht, hfa⟩ := ha
        obtain ⟨xs, n, hn, rfl, hlen, hxl, hx⟩ := DataW.trod_struct hu h
        have hn : fuel = n := by omega
        subst hn
        have hex : ∀ i, i < fs.size → ∃ q : List AV, ∀ (h : i < fs.size) (h' : i < xs.length), DA P tf fs[i].type xs[i].1 q ∧ q.length = ((cs.drop fs[i].offset).take (P.cellsOf fs[i].type)).length ∧
            ∀ j (hj : j < q.length), VR M (argG W (W.heap.size * K) K) q[j] (((cs.drop fs[i].offset).take (P.cellsOf fs[i].type)).getD j undef) := by
          intro i hi
          have := hx i fs[i] (by simp [hi])
          rw [List.getElem?_eq_getElem (by omega)] at this
          obtain ⟨ascs, d1, d2, d3, -⟩ := ih tf _ _ _ (hfa fs[i] (by simp)) this
          exact ⟨ascs, fun _ _ => ⟨d1, d2, d3⟩⟩
        obtain ⟨qs, hql, hq⟩ := choose_list fs.size hex
        have hcov : ∀ (l : List Field) (off tot : Nat), tiles P l off = some tot → off ≤ tot ∧ ∀ f, f ∈ l → f.offset + P.cellsOf f.type ≤ tot := by
          intro l
          induction l with
          | nil => intro off tot h; simp only [tiles, Option.some.injEq] at h; exact ⟨by omega, fun f h => by cases h⟩
          | cons f l ihl =>
            intro off tot h
            unfold tiles at h
            split at h
            · obtain ⟨a1, a2⟩ := ihl _ _ h
              refine ⟨by omega, fun f' hf' => ?_⟩
              cases hf' with
              | head => omega
              | tail _ hf' => exact a2 f' hf'
            · cases h
        obtain ⟨-, hcv⟩ := hcov _ _ _ ht
        obtain ⟨t1, t2, t3⟩ := tile_join (argG W (W.heap.size * K) K) cs fs.toList 0 _ ht qs (by simp [hql]) (fun i h h' => by
          have hi : i < fs.size := by simpa using h
          obtain ⟨-, d2, d3⟩ := hq i h' hi (by omega)
          have hle := hcv fs[i] (by simp)
          simp only [Array.getElem_toList]
          refine ⟨?_, d3⟩
          rw [d2, List.length_take, List.length_drop]
          omega)
        refine ⟨qs.flatten, ?_, by omega, fun j hj => by simpa using t3 j hj, .inl (by simp [isAg, hu])⟩
        simp only [DA, hu]
        refine ⟨xs.map (·.1), rfl, by simp [hxl], by omega, fun i h h' => ?_⟩
        obtain ⟨-, e2⟩ := t2 i (by simpa using h) (by omega)
        simp only [Array.getElem_toList, Nat.sub_zero] at e2
        rw [e2]
        simpa using (hq i (by omega) h (by omega)).1
      · cases ha

end

end M2
end
section
namespace M2
open Go

def p0n0 : Bits := .e
def p1n0 : Bits := .z p0n0
def p1n1 : Bits := .o p0n0
def p2n0 : Bits := .z p1n0
def p2n1 : Bits := .o p1n0
def p2n2 : Bits := .z p1n1
def p2n3 : Bits := .o p1n1
def p3n0 : Bits := .z p2n0
def p3n1 : Bits := .o p2n0
def p3n2 : Bits := .z p2n1
def p3n3 : Bits := .o p2n1
def p3n4 : Bits := .z p2n2
def p3n5 : Bits := .o p2n2
def p3n6 : Bits := .z p2n3
def p3n7 : Bits := .o p2n3
def p4n0 : Bits := .z p3n0
def p4n1 : Bits := .o p3n0
def p4n2 : Bits := .z p3n1
def p4n3 : Bits := .o p3n1
def p4n4 : Bits := .z p3n2
def p4n5 : Bits := .o p3n2
def p4n6 : Bits := .z p3n3
def p4n7 : Bits := .o p3n3
def p4n8 : Bits := .z p3n4
def p4n9 : Bits := .o p3n4
def p4n10 : Bits := .z p3n5
def p4n11 : Bits := .o p3n5
def p4n12 : Bits := .z p3n6
def p4n13 : Bits := .o p3n6
def p4n14 : Bits := .z p3n7
def p4n15 : Bits := .o p3n7
def p5n0 : Bits := .z p4n0
def p5n1 : Bits := .o p4n0
def p5n2 : Bits := .z p4n1
def p5n3 : Bits := .o p4n1
def p5n4 : Bits := .z p4n2
def p5n5 : Bits := .o p4n2
def p5n6 : Bits := .z p4n3
def p5n7 : Bits := .o p4n3
def p5n8 : Bits := .z p4n4
def p5n9 : Bits := .o p4n4
def p5n10 : Bits := .z p4n5
def p5n11 : Bits := .o p4n5
def p5n12 : Bits := .z p4n6
def p5n13 : Bits := .o p4n6
def p5n14 : Bits := .z p4n7
def p5n15 : Bits := .o p4n7
def p5n16 : Bits := .z p4n8
def p5n17 : Bits := .o p4n8
def p5n18 : Bits := .z p4n9
def p5n19 : Bits := .o p4n9
def p5n20 : Bits := .z p4n10
def p5n21 : Bits := .o p4n10
def p5n22 : Bits := .z p4n11
def p5n23 : Bits := .o p4n11
def p5n24 : Bits := .z p4n12
def p5n25 : Bits := .o p4n12
def p5n26 : Bits := .z p4n13
def p5n27 : Bits := .o p4n13
def p5n28 : Bits := .z p4n14
def p5n29 : Bits := .o p4n14
def p5n30 : Bits := .z p4n15
def p5n31 : Bits := .o p4n15
def p6n0 : Bits := .z p5n0
def p6n1 : Bits := .o p5n0
def p6n2 : Bits := .z p5n1
def p6n3 : Bits := .o p5n1
def p6n4 : Bits := .z p5n2
def p6n5 : Bits := .o p5n2
def p6n6 : Bits := .z p5n3
def p6n7 : Bits := .o p5n3
def p6n8 : Bits := .z p5n4
def p6n9 : Bits := .o p5n4
def p6n10 : Bits := .z p5n5
def p6n11 : Bits := .o p5n5
def p6n12 : Bits := .z p5n6
def p6n13 : Bits := .o p5n6
def p6n14 : Bits := .z p5n7
def p6n15 : Bits := .o p5n7
def p6n16 : Bits := .z p5n8
def p6n17 : Bits := .o p5n8
def p6n18 : Bits := .z p5n9
def p6n19 : Bits := .o p5n9
def p6n20 : Bits := .z p5n10
def p6n21 : Bits := .o p5n10
def p6n22 : Bits := .z p5n11
def p6n23 : Bits := .o p5n11
def p6n24 : Bits := .z p5n12
def p6n25 : Bits := .o p5n12
def p6n26 : Bits := .z p5n13
def p6n27 : Bits := .o p5n13
def p6n28 : Bits := .z p5n14
def p6n29 : Bits := .o p5n14
def p6n30 : Bits := .z p5n15
def p6n31 : Bits := .o p5n15
def p6n32 : Bits := .z p5n16
def p6n33 : Bits := .o p5n16
def p6n34 : Bits := .z p5n17
def p6n35 : Bits := .o p5n17
def p6n36 : Bits := .z p5n18
def p6n37 : Bits := .o p5n18
def p6n38 : Bits := .z p5n19
def p6n39 : Bits := .o p5n19
def p6n40 : Bits := .z p5n20
def p6n41 : Bits := .o p5n20
def p6n42 : Bits := .z p5n21
def p6n43 : Bits := .o p5n21
def p6n44 : Bits := .z p5n22
def p6n45 : Bits := .o p5n22
def p6n46 : Bits := .z p5n23
def p6n47 : Bits := .o p5n23
def p6n48 : Bits := .z p5n24
def p6n49 : Bits := .o p5n24
def p6n50 : Bits := .z p5n25
def p6n51 : Bits := .o p5n25
def p6n52 : Bits := .z p5n26
def p6n53 : Bits := .o p5n26
def p6n54 : Bits := .z p5n27
def p6n55 : Bits := .o p5n27
def p6n56 : Bits := .z p5n28
def p6n57 : Bits := .o p5n28
def p6n58 : Bits := .z p5n29
def p6n59 : Bits := .o p5n29
def p6n60 : Bits := .z p5n30
def p6n61 : Bits := .o p5n30
def p6n62 : Bits := .z p5n31
def p6n63 : Bits := .o p5n31
def p7n0 : Bits := .z p6n0
def p7n1 : Bits := .o p6n0
def p7n2 : Bits := .z p6n1
def p7n3 : Bits := .o p6n1
def p7n4 : Bits := .z p6n2
def p7n5 : Bits := .o p6n2
def p7n6 : Bits := .z p6n3
def p7n7 : Bits := .o p6n3
def p7n8 : Bits := .z p6n4
def p7n9 : Bits := .o p6n4
def p7n10 : Bits := .z p6n5
def p7n11 : Bits := .o p6n5
def p7n12 : Bits := .z p6n6
def p7n13 : Bits := .o p6n6
def p7n14 : Bits := .z p6n7
def p7n15 : Bits := .o p6n7
def p7n16 : Bits := .z p6n8
def p7n17 : Bits := .o p6n8
def p7n18 : Bits := .z p6n9
def p7n19 : Bits := .o p6n9
def p7n20 : Bits := .z p6n10
def p7n21 : Bits := .o p6n10
def p7n22 : Bits := .z p6n11
def p7n23 : Bits := .o p6n11
def p7n24 : Bits := .z p6n12
def p7n25 : Bits := .o p6n12
def p7n26 : Bits := .z p6n13
def p7n27 : Bits := .o p6n13
def p7n28 : Bits := .z p6n14
def p7n29 : Bits := .o p6n14
def p7n30 : Bits := .z p6n15
def p7n31 : Bits := .o p6n15
def p7n32 : Bits := .z p6n16
def p7n33 : Bits := .o p6n16
def p7n34 : Bits := .z p6n17
def p7n35 : Bits := .o p6n17
def p7n36 : Bits := .z p6n18
def p7n37 : Bits := .o p6n18
def p7n38 : Bits := .z p6n19
def p7n39 : Bits := .o p6n19
def p7n40 : Bits := .z p6n20
def p7n41 : Bits := .o p6n20
def p7n42 : Bits := .z p6n21
def p7n43 : Bits := .o p6n21
def p7n44 : Bits := .z p6n22
def p7n45 : Bits := .o p6n22
def p7n46 : Bits := .z p6n23
def p7n47 : Bits := .o p6n23
def p7n48 : Bits := .z p6n24
def p7n49 : Bits := .o p6n24
def p7n50 : Bits := .z p6n25
def p7n51 : Bits := .o p6n25
def p7n52 : Bits := .z p6n26
def p7n53 : Bits := .o p6n26
def p7n54 : Bits := .z p6n27
def p7n55 : Bits := .o p6n27
def p7n56 : Bits := .z p6n28
def p7n57 : Bits := .o p6n28
def p7n58 : Bits := .z p6n29
def p7n59 : Bits := .o p6n29
def p7n60 : Bits := .z p6n30
def p7n61 : Bits := .o p6n30
def p7n62 : Bits := .z p6n31
def p7n63 : Bits := .o p6n31
def p7n64 : Bits := .z p6n32
def p7n65 : Bits := .o p6n32
def p7n66 : Bits := .z p6n33
def p7n67 : Bits := .o p6n33
def p7n68 : Bits := .z p6n34
def p7n69 : Bits := .o p6n34
def p7n70 : Bits := .z p6n35
def p7n71 : Bits := .o p6n35
def p7n72 : Bits := .z p6n36
def p7n73 : Bits := .o p6n36
def p7n74 : Bits := .z p6n37
def p7n75 : Bits := .o p6n37
def p7n76 : Bits := .z p6n38
def p7n77 : Bits := .o p6n38
def p7n78 : Bits := .z p6n39
def p7n79 : Bits := .o p6n39
def p7n80 : Bits := .z p6n40
def p7n81 : Bits := .o p6n40
def p7n82 : Bits := .z p6n41
def p7n83 : Bits := .o p6n41
def p7n84 : Bits := .z p6n42
def p7n85 : Bits := .o p6n42
def p7n86 : Bits := .z p6n43
def p7n87 : Bits := .o p6n43
def p7n88 : Bits := .z p6n44
def p7n89 : Bits := .o p6n44
def p7n90 : Bits := .z p6n45
def p7n91 : Bits := .o p6n45
def p7n92 : Bits := .z p6n46
def p7n93 : Bits := .o p6n46
def p7n94 : Bits := .z p6n47
def p7n95 : Bits := .o p6n47
def p7n96 : Bits := .z p6n48
def p7n97 : Bits := .o p6n48
def p7n98 : Bits := .z p6n49
def p7n99 : Bits := .o p6n49
def p7n100 : Bits := .z p6n50
def p7n101 : Bits := .o p6n50
def p7n102 : Bits := .z p6n51
def p7n103 : Bits := .o p6n51
def p7n104 : Bits := .z p6n52
def p7n105 : Bits := .o p6n52
def p7n106 : Bits := .z p6n53
def p7n107 : Bits := .o p6n53
def p7n108 : Bits := .z p6n54
def p7n109 : Bits := .o p6n54
def p7n110 : Bits := .z p6n55
def p7n111 : Bits := .o p6n55
def p7n112 : Bits := .z p6n56
def p7n113 : Bits := .o p6n56
def p7n114 : Bits := .z p6n57
def p7n115 : Bits := .o p6n57
def p7n116 : Bits := .z p6n58
def p7n117 : Bits := .o p6n58
def p7n118 : Bits := .z p6n59
def p7n119 : Bits := .o p6n59
def p7n120 : Bits := .z p6n60
def p7n121 : Bits := .o p6n60
def p7n122 : Bits := .z p6n61
def p7n123 : Bits := .o p6n61
def p7n124 : Bits := .z p6n62
def p7n125 : Bits := .o p6n62
def p7n126 : Bits := .z p6n63
def p7n127 : Bits := .o p6n63
def p8n0 : Bits := .z p7n0
def p8n1 : Bits := .o p7n0
def p8n2 : Bits := .z p7n1
def p8n3 : Bits := .o p7n1
def p8n4 : Bits := .z p7n2
def p8n5 : Bits := .o p7n2
def p8n6 : Bits := .z p7n3
def p8n7 : Bits := .o p7n3
def p8n8 : Bits := .z p7n4
def p8n9 : Bits := .o p7n4
def p8n10 : Bits := .z p7n5
def p8n11 : Bits := .o p7n5
def p8n12 : Bits := .z p7n6
def p8n13 : Bits := .o p7n6
def p8n14 : Bits := .z p7n7
def p8n15 : Bits := .o p7n7
def p8n16 : Bits := .z p7n8
def p8n17 : Bits := .o p7n8
def p8n18 : Bits := .z p7n9
def p8n19 : Bits := .o p7n9
def p8n20 : Bits := .z p7n10
def p8n21 : Bits := .o p7n10
def p8n22 : Bits := .z p7n11
def p8n23 : Bits := .o p7n11
def p8n24 : Bits := .z p7n12
def p8n25 : Bits := .o p7n12
def p8n26 : Bits := .z p7n13
def p8n27 : Bits := .o p7n13
def p8n28 : Bits := .z p7n14
def p8n29 : Bits := .o p7n14
def p8n30 : Bits := .z p7n15
def p8n31 : Bits := .o p7n15
def p8n32 : Bits := .z p7n16
def p8n33 : Bits := .o p7n16
def p8n34 : Bits := .z p7n17
def p8n35 : Bits := .o p7n17
def p8n36 : Bits := .z p7n18
def p8n37 : Bits := .o p7n18
def p8n38 : Bits := .z p7n19
def p8n39 : Bits := .o p7n19
def p8n40 : Bits := .z p7n20
def p8n41 : Bits := .o p7n20
def p8n42 : Bits := .z p7n21
def p8n43 : Bits := .o p7n21
def p8n44 : Bits := .z p7n22
def p8n45 : Bits := .o p7n22
def p8n46 : Bits := .z p7n23
def p8n47 : Bits := .o p7n23
def p8n48 : Bits := .z p7n24
def p8n49 : Bits := .o p7n24
def p8n50 : Bits := .z p7n25
def p8n51 : Bits := .o p7n25
def p8n52 : Bits := .z p7n26
def p8n53 : Bits := .o p7n26
def p8n54 : Bits := .z p7n27
def p8n55 : Bits := .o p7n27
def p8n56 : Bits := .z p7n28
def p8n57 : Bits := .o p7n28
def p8n58 : Bits := .z p7n29
def p8n59 : Bits := .o p7n29
def p8n60 : Bits := .z p7n30
def p8n61 : Bits := .o p7n30
def p8n62 : Bits := .z p7n31
def p8n63 : Bits := .o p7n31
def p8n64 : Bits := .z p7n32
def p8n65 : Bits := .o p7n32
def p8n66 : Bits := .z p7n33
def p8n67 : Bits := .o p7n33
def p8n68 : Bits := .z p7n34
def p8n69 : Bits := .o p7n34
def p8n70 : Bits := .z p7n35
def p8n71 : Bits := .o p7n35
def p8n72 : Bits := .z p7n36
def p8n73 : Bits := .o p7n36
def p8n74 : Bits := .z p7n37
def p8n75 : Bits := .o p7n37
def p8n76 : Bits := .z p7n38
def p8n77 : Bits := .o p7n38
def p8n78 : Bits := .z p7n39
def p8n79 : Bits := .o p7n39
def p8n80 : Bits := .z p7n40
def p8n81 : Bits := .o p7n40
def p8n82 : Bits := .z p7n41
def p8n83 : Bits := .o p7n41
def p8n84 : Bits := .z p7n42
def p8n85 : Bits := .o p7n42
def p8n86 : Bits := .z p7n43
def p8n87 : Bits := .o p7n43
def p8n88 : Bits := .z p7n44
def p8n89 : Bits := .o p7n44
def p8n90 : Bits := .z p7n45
def p8n91 : Bits := .o p7n45
def p8n92 : Bits := .z p7n46
def p8n93 : Bits := .o p7n46
def p8n94 : Bits := .z p7n47
def p8n95 : Bits := .o p7n47
def p8n96 : Bits := .z p7n48
def p8n97 : Bits := .o p7n48
def p8n98 : Bits := .z p7n49
def p8n99 : Bits := .o p7n49
def p8n100 : Bits := .z p7n50
def p8n101 : Bits := .o p7n50
def p8n102 : Bits := .z p7n51
def p8n103 : Bits := .o p7n51
def p8n104 : Bits := .z p7n52
def p8n105 : Bits := .o p7n52
def p8n106 : Bits := .z p7n53
def p8n107 : Bits := .o p7n53
def p8n108 : Bits := .z p7n54
def p8n109 : Bits := .o p7n54
def p8n110 : Bits := .z p7n55
def p8n111 : Bits := .o p7n55
def p8n112 : Bits := .z p7n56
def p8n113 : Bits := .o p7n56
def p8n114 : Bits := .z p7n57
def p8n115 : Bits := .o p7n57
def p8n116 : Bits := .z p7n58
def p8n117 : Bits := .o p7n58
def p8n118 : Bits := .z p7n59
def p8n119 : Bits := .o p7n59
def p8n120 : Bits := .z p7n60
def p8n121 : Bits := .o p7n60
def p8n122 : Bits := .z p7n61
def p8n123 : Bits := .o p7n61
def p8n124 : Bits := .z p7n62
def p8n125 : Bits := .o p7n62
def p8n126 : Bits := .z p7n63
def p8n127 : Bits := .o p7n63
def p8n128 : Bits := .z p7n64
def p8n129 : Bits := .o p7n64
def p8n130 : Bits := .z p7n65
def p8n131 : Bits := .o p7n65
def p8n132 : Bits := .z p7n66
def p8n133 : Bits := .o p7n66
def p8n134 : Bits := .z p7n67
def p8n135 : Bits := .o p7n67
def p8n136 : Bits := .z p7n68
def p8n137 : Bits := .o p7n68
def p8n138 : Bits := .z p7n69
def p8n139 : Bits := .o p7n69
def p8n140 : Bits := .z p7n70
def p8n141 : Bits := .o p7n70
def p8n142 : Bits := .z p7n71
def p8n143 : Bits := .o p7n71
def p8n144 : Bits := .z p7n72
def p8n145 : Bits := .o p7n72
def p8n146 : Bits := .z p7n73
def p8n147 : Bits := .o p7n73
def p8n148 : Bits := .z p7n74
def p8n149 : Bits := .o p7n74
def p8n150 : Bits := .z p7n75
def p8n151 : Bits := .o p7n75
def p8n152 : Bits := .z p7n76
def p8n153 : Bits := .o p7n76
def p8n154 : Bits := .z p7n77
def p8n155 : Bits := .o p7n77
def p8n156 : Bits := .z p7n78
def p8n157 : Bits := .o p7n78
def p8n158 : Bits := .z p7n79
def p8n159 : Bits := .o p7n79
def p8n160 : Bits := .z p7n80
def p8n161 : Bits := .o p7n80
def p8n162 : Bits := .z p7n81
def p8n163 : Bits := .o p7n81
def p8n164 : Bits := .z p7n82
def p8n165 : Bits := .o p7n82
def p8n166 : Bits := .z p7n83
def p8n167 : Bits := .o p7n83
def p8n168 : Bits := .z p7n84
def p8n169 : Bits := .o p7n84
def p8n170 : Bits := .z p7n85
def p8n171 : Bits := .o p7n85
def p8n172 : Bits := .z p7n86
def p8n173 : Bits := .o p7n86
def p8n174 : Bits := .z p7n87
def p8n175 : Bits := .o p7n87
def p8n176 : Bits := .z p7n88
def p8n177 : Bits := .o p7n88
def p8n178 : Bits := .z p7n89
def p8n179 : Bits := .o p7n89
def p8n180 : Bits := .z p7n90
def p8n181 : Bits := .o p7n90
def p8n182 : Bits := .z p7n91
def p8n183 : Bits := .o p7n91
def p8n184 : Bits := .z p7n92
def p8n185 : Bits := .o p7n92
def p8n186 : Bits := .z p7n93
def p8n187 : Bits := .o p7n93
def p8n188 : Bits := .z p7n94
def p8n189 : Bits := .o p7n94
def p8n190 : Bits := .z p7n95
def p8n191 : Bits := .o p7n95
def p8n192 : Bits := .z p7n96
def p8n193 : Bits := .o p7n96
def p8n194 : Bits := .z p7n97
def p8n195 : Bits := .o p7n97
def p8n196 : Bits := .z p7n98
def p8n197 : Bits := .o p7n98
def p8n198 : Bits := .z p7n99
def p8n199 : Bits := .o p7n99
def p8n200 : Bits := .z p7n100
def p8n201 : Bits := .o p7n100
def p8n202 : Bits := .z p7n101
def p8n203 : Bits := .o p7n101
def p8n204 : Bits := .z p7n102
def p8n205 : Bits := .o p7n102
def p8n206 : Bits := .z p7n103
def p8n207 : Bits := .o p7n103
def p8n208 : Bits := .z p7n104
def p8n209 : Bits := .o p7n104
def p8n210 : Bits := .z p7n105
def p8n211 : Bits := .o p7n105
def p8n212 : Bits := .z p7n106
def p8n213 : Bits := .o p7n106
def p8n214 : Bits := .z p7n107
def p8n215 : Bits := .o p7n107
def p8n216 : Bits := .z p7n108
def p8n217 : Bits := .o p7n108
def p8n218 : Bits := .z p7n109
def p8n219 : Bits := .o p7n109
def p8n220 : Bits := .z p7n110
def p8n221 : Bits := .o p7n110
def p8n222 : Bits := .z p7n111
def p8n223 : Bits := .o p7n111
def p8n224 : Bits := .z p7n112
def p8n225 : Bits := .o p7n112
def p8n226 : Bits := .z p7n113
def p8n227 : Bits := .o p7n113
def p8n228 : Bits := .z p7n114
def p8n229 : Bits := .o p7n114
def p8n230 : Bits := .z p7n115
def p8n231 : Bits := .o p7n115
def p8n232 : Bits := .z p7n116
def p8n233 : Bits := .o p7n116
def p8n234 : Bits := .z p7n117
def p8n235 : Bits := .o p7n117
def p8n236 : Bits := .z p7n118
def p8n237 : Bits := .o p7n118
def p8n238 : Bits := .z p7n119
def p8n239 : Bits := .o p7n119
def p8n240 : Bits := .z p7n120
def p8n241 : Bits := .o p7n120
def p8n242 : Bits := .z p7n121
def p8n243 : Bits := .o p7n121
def p8n244 : Bits := .z p7n122
def p8n245 : Bits := .o p7n122
def p8n246 : Bits := .z p7n123
def p8n247 : Bits := .o p7n123
def p8n248 : Bits := .z p7n124
def p8n249 : Bits := .o p7n124
def p8n250 : Bits := .z p7n125
def p8n251 : Bits := .o p7n125
def p8n252 : Bits := .z p7n126
def p8n253 : Bits := .o p7n126
def p8n254 : Bits := .z p7n127
def p8n255 : Bits := .o p7n127
def p9n0 : Bits := .z p8n0
def p9n1 : Bits := .o p8n0
def p9n2 : Bits := .z p8n1
def p9n3 : Bits := .o p8n1
def p9n4 : Bits := .z p8n2
def p9n5 : Bits := .o p8n2
def p9n6 : Bits := .z p8n3
def p9n7 : Bits := .o p8n3
def p9n8 : Bits := .z p8n4
def p9n9 : Bits := .o p8n4
def p9n10 : Bits := .z p8n5
def p9n11 : Bits := .o p8n5
def p9n12 : Bits := .z p8n6
def p9n13 : Bits := .o p8n6
def p9n14 : Bits := .z p8n7
def p9n15 : Bits := .o p8n7
def p9n16 : Bits := .z p8n8
def p9n17 : Bits := .o p8n8
def p9n18 : Bits := .z p8n9
def p9n19 : Bits := .o p8n9
def p9n20 : Bits := .z p8n10
def p9n21 : Bits := .o p8n10
def p9n22 : Bits := .z p8n11
def p9n23 : Bits := .o p8n11
def p9n24 : Bits := .z p8n12
def p9n25 : Bits := .o p8n12
def p9n26 : Bits := .z p8n13
def p9n27 : Bits := .o p8n13
def p9n28 : Bits := .z p8n14
def p9n29 : Bits := .o p8n14
def p9n30 : Bits := .z p8n15
def p9n31 : Bits := .o p8n15
def p9n32 : Bits := .z p8n16
def p9n33 : Bits := .o p8n16
def p9n34 : Bits := .z p8n17
def p9n35 : Bits := .o p8n17
def p9n36 : Bits := .z p8n18
def p9n37 : Bits := .o p8n18
def p9n38 : Bits := .z p8n19
def p9n39 : Bits := .o p8n19
def p9n40 : Bits := .z p8n20
def p9n41 : Bits := .o p8n20
def p9n42 : Bits := .z p8n21
def p9n43 : Bits := .o p8n21
def p9n44 : Bits := .z p8n22
def p9n45 : Bits := .o p8n22
def p9n46 : Bits := .z p8n23
def p9n47 : Bits := .o p8n23
def p9n48 : Bits := .z p8n24
def p9n49 : Bits := .o p8n24
def p9n50 : Bits := .z p8n25
def p9n51 : Bits := .o p8n25
def p9n52 : Bits := .z p8n26
def p9n53 : Bits := .o p8n26
def p9n54 : Bits := .z p8n27
def p9n55 : Bits := .o p8n27
def p9n56 : Bits := .z p8n28
def p9n57 : Bits := .o p8n28
def p9n58 : Bits := .z p8n29
def p9n59 : Bits := .o p8n29
def p9n60 : Bits := .z p8n30
def p9n61 : Bits := .o p8n30
def p9n62 : Bits := .z p8n31
def p9n63 : Bits := .o p8n31
def p9n64 : Bits := .z p8n32
def p9n65 : Bits := .o p8n32
def p9n66 : Bits := .z p8n33
def p9n67 : Bits := .o p8n33
def p9n68 : Bits := .z p8n34
def p9n69 : Bits := .o p8n34
def p9n70 : Bits := .z p8n35
def p9n71 : Bits := .o p8n35
def p9n72 : Bits := .z p8n36
def p9n73 : Bits := .o p8n36
def p9n74 : Bits := .z p8n37
def p9n75 : Bits := .o p8n37
def p9n76 : Bits := .z p8n38
def p9n77 : Bits := .o p8n38
def p9n78 : Bits := .z p8n39
def p9n79 : Bits := .o p8n39
def p9n80 : Bits := .z p8n40
def p9n81 : Bits := .o p8n40
def p9n82 : Bits := .z p8n41
def p9n83 : Bits := .o p8n41
def p9n84 : Bits := .z p8n42
def p9n85 : Bits := .o p8n42
def p9n86 : Bits := .z p8n43
def p9n87 : Bits := .o p8n43
def p9n88 : Bits := .z p8n44
def p9n89 : Bits := .o p8n44
def p9n90 : Bits := .z p8n45
def p9n91 : Bits := .o p8n45
def p9n92 : Bits := .z p8n46
def p9n93 : Bits := .o p8n46
def p9n94 : Bits := .z p8n47
def p9n95 : Bits := .o p8n47
def p9n96 : Bits := .z p8n48
def p9n97 : Bits := .o p8n48
def p9n98 : Bits := .z p8n49
def p9n99 : Bits := .o p8n49
def p9n100 : Bits := .z p8n50
def p9n101 : Bits := .o p8n50
def p9n102 : Bits := .z p8n51
def p9n103 : Bits := .o p8n51
def p9n104 : Bits := .z p8n52
def p9n105 : Bits := .o p8n52
def p9n106 : Bits := .z p8n53
def p9n107 : Bits := .o p8n53
def p9n108 : Bits := .z p8n54
def p9n109 : Bits := .o p8n54
def p9n110 : Bits := .z p8n55
def p9n111 : Bits := .o p8n55
def p9n112 : Bits := .z p8n56
def p9n113 : Bits := .o p8n56
def p9n114 : Bits := .z p8n57
def p9n115 : Bits := .o p8n57
def p9n116 : Bits := .z p8n58
def p9n117 : Bits := .o p8n58
def p9n118 : Bits := .z p8n59
def p9n119 : Bits := .o p8n59
def p9n120 : Bits := .z p8n60
def p9n121 : Bits := .o p8n60
def p9n122 : Bits := .z p8n61
def p9n123 : Bits := .o p8n61
def p9n124 : Bits := .z p8n62
def p9n125 : Bits := .o p8n62
def p9n126 : Bits := .z p8n63
def p9n127 : Bits := .o p8n63
def p9n128 : Bits := .z p8n64
def p9n129 : Bits := .o p8n64
def p9n130 : Bits := .z p8n65
def p9n131 : Bits := .o p8n65
def p9n132 : Bits := .z p8n66
def p9n133 : Bits := .o p8n66
def p9n134 : Bits := .z p8n67
def p9n135 : Bits := .o p8n67
def p9n136 : Bits := .z p8n68
def p9n137 : Bits := .o p8n68
def p9n138 : Bits := .z p8n69
def p9n139 : Bits := .o p8n69
def p9n140 : Bits := .z p8n70
def p9n141 : Bits := .o p8n70
def p9n142 : Bits := .z p8n71
def p9n143 : Bits := .o p8n71
def p9n144 : Bits := .z p8n72
def p9n145 : Bits := .o p8n72
def p9n146 : Bits := .z p8n73
def p9n147 : Bits := .o p8n73
def p9n148 : Bits := .z p8n74
def p9n149 : Bits := .o p8n74
def p9n150 : Bits := .z p8n75
def p9n151 : Bits := .o p8n75
def p9n152 : Bits := .z p8n76
def p9n153 : Bits := .o p8n76
def p9n154 : Bits := .z p8n77
def p9n155 : Bits := .o p8n77
def p9n156 : Bits := .z p8n78
def p9n157 : Bits := .o p8n78
def p9n158 : Bits := .z p8n79
def p9n159 : Bits := .o p8n79
def p9n160 : Bits := .z p8n80
def p9n161 : Bits := .o p8n80
def p9n162 : Bits := .z p8n81
def p9n163 : Bits := .o p8n81
def p9n164 : Bits := .z p8n82
def p9n165 : Bits := .o p8n82
def p9n166 : Bits := .z p8n83
def p9n167 : Bits := .o p8n83
def p9n168 : Bits := .z p8n84
def p9n169 : Bits := .o p8n84
def p9n170 : Bits := .z p8n85
def p9n171 : Bits := .o p8n85
def p9n172 : Bits := .z p8n86
def p9n173 : Bits := .o p8n86
def p9n174 : Bits := .z p8n87
def p9n175 : Bits := .o p8n87
def p9n176 : Bits := .z p8n88
def p9n177 : Bits := .o p8n88
def p9n178 : Bits := .z p8n89
def p9n179 : Bits := .o p8n89
def p9n180 : Bits := .z p8n90
def p9n181 : Bits := .o p8n90
def p9n182 : Bits := .z p8n91
def p9n183 : Bits := .o p8n91
def p9n184 : Bits := .z p8n92
def p9n185 : Bits := .o p8n92
def p9n186 : Bits := .z p8n93
def p9n187 : Bits := .o p8n93
def p9n188 : Bits := .z p8n94
def p9n189 : Bits := .o p8n94
def p9n190 : Bits := .z p8n95
def p9n191 : Bits := .o p8n95
def p9n192 : Bits := .z p8n96
def p9n193 : Bits := .o p8n96
def p9n194 : Bits := .z p8n97
def p9n195 : Bits := .o p8n97
def p9n196 : Bits := .z p8n98
def p9n197 : Bits := .o p8n98
def p9n198 : Bits := .z p8n99
def p9n199 : Bits := .o p8n99
def p9n200 : Bits := .z p8n100
def p9n201 : Bits := .o p8n100
def p9n202 : Bits := .z p8n101
def p9n203 : Bits := .o p8n101
def p9n204 : Bits := .z p8n102
def p9n205 : Bits := .o p8n102
def p9n206 : Bits := .z p8n103
def p9n207 : Bits := .o p8n103
def p9n208 : Bits := .z p8n104
def p9n209 : Bits := .o p8n104
def p9n210 : Bits := .z p8n105
def p9n211 : Bits := .o p8n105
def p9n212 : Bits := .z p8n106
def p9n213 : Bits := .o p8n106
def p9n214 : Bits := .z p8n107
def p9n215 : Bits := .o p8n107
def p9n216 : Bits := .z p8n108
def p9n217 : Bits := .o p8n108
def p9n218 : Bits := .z p8n109
def p9n219 : Bits := .o p8n109
def p9n220 : Bits := .z p8n110
def p9n221 : Bits := .o p8n110
def p9n222 : Bits := .z p8n111
def p9n223 : Bits := .o p8n111
def p9n224 : Bits := .z p8n112
def p9n225 : Bits := .o p8n112
def p9n226 : Bits := .z p8n113
def p9n227 : Bits := .o p8n113
def p9n228 : Bits := .z p8n114
def p9n229 : Bits := .o p8n114
def p9n230 : Bits := .z p8n115
def p9n231 : Bits := .o p8n115
def p9n232 : Bits := .z p8n116
def p9n233 : Bits := .o p8n116
def p9n234 : Bits := .z p8n117
def p9n235 : Bits := .o p8n117
def p9n236 : Bits := .z p8n118
def p9n237 : Bits := .o p8n118
def p9n238 : Bits := .z p8n119
def p9n239 : Bits := .o p8n119
def p9n240 : Bits := .z p8n120
def p9n241 : Bits := .o p8n120
def p9n242 : Bits := .z p8n121
def p9n243 : Bits := .o p8n121
def p9n244 : Bits := .z p8n122
def p9n245 : Bits := .o p8n122
def p9n246 : Bits := .z p8n123
def p9n247 : Bits := .o p8n123
def p9n248 : Bits := .z p8n124
def p9n249 : Bits := .o p8n124
def p9n250 : Bits := .z p8n125
def p9n251 : Bits := .o p8n125
def p9n252 : Bits := .z p8n126
def p9n253 : Bits := .o p8n126
def p9n254 : Bits := .z p8n127
def p9n255 : Bits := .o p8n127
def p9n256 : Bits := .z p8n128
def p9n257 : Bits := .o p8n128
def p9n258 : Bits := .z p8n129
def p9n259 : Bits := .o p8n129
def p9n260 : Bits := .z p8n130
def p9n261 : Bits := .o p8n130
def p9n262 : Bits := .z p8n131
def p9n263 : Bits := .o p8n131
def p9n264 : Bits := .z p8n132
def p9n265 : Bits := .o p8n132
def p9n266 : Bits := .z p8n133
def p9n267 : Bits := .o p8n133
def p9n268 : Bits := .z p8n134
def p9n269 : Bits := .o p8n134
def p9n270 : Bits := .z p8n135
def p9n271 : Bits := .o p8n135
def p9n272 : Bits := .z p8n136
def p9n273 : Bits := .o p8n136
def p9n274 : Bits := .z p8n137
def p9n275 : Bits := .o p8n137
def p9n276 : Bits := .z p8n138
def p9n277 : Bits := .o p8n138
def p9n278 : Bits := .z p8n139
def p9n279 : Bits := .o p8n139
def p9n280 : Bits := .z p8n140
def p9n281 : Bits := .o p8n140
def p9n282 : Bits := .z p8n141
def p9n283 : Bits := .o p8n141
def p9n284 : Bits := .z p8n142
def p9n285 : Bits := .o p8n142
def p9n286 : Bits := .z p8n143
def p9n287 : Bits := .o p8n143
def p9n288 : Bits := .z p8n144
def p9n289 : Bits := .o p8n144
def p9n290 : Bits := .z p8n145
def p9n291 : Bits := .o p8n145
def p9n292 : Bits := .z p8n146
def p9n293 : Bits := .o p8n146
def p9n294 : Bits := .z p8n147
def p9n295 : Bits := .o p8n147
def p9n296 : Bits := .z p8n148
def p9n297 : Bits := .o p8n148
def p9n298 : Bits := .z p8n149
def p9n299 : Bits := .o p8n149
def p9n300 : Bits := .z p8n150
def p9n301 : Bits := .o p8n150
def p9n302 : Bits := .z p8n151
def p9n303 : Bits := .o p8n151
def p9n304 : Bits := .z p8n152
def p9n305 : Bits := .o p8n152
def p9n306 : Bits := .z p8n153
def p9n307 : Bits := .o p8n153
def p9n308 : Bits := .z p8n154
def p9n309 : Bits := .o p8n154
def p9n310 : Bits := .z p8n155
def p9n311 : Bits := .o p8n155
def p9n312 : Bits := .z p8n156
def p9n313 : Bits := .o p8n156
def p9n314 : Bits := .z p8n157
def p9n315 : Bits := .o p8n157
def p9n316 : Bits := .z p8n158
def p9n317 : Bits := .o p8n158
def p9n318 : Bits := .z p8n159
def p9n319 : Bits := .o p8n159
def p9n320 : Bits := .z p8n160
def p9n321 : Bits := .o p8n160
def p9n322 : Bits := .z p8n161
def p9n323 : Bits := .o p8n161
def p9n324 : Bits := .z p8n162
def p9n325 : Bits := .o p8n162
def p9n326 : Bits := .z p8n163
def p9n327 : Bits := .o p8n163
def p9n328 : Bits := .z p8n164
def p9n329 : Bits := .o p8n164
def p9n330 : Bits := .z p8n165
def p9n331 : Bits := .o p8n165
def p9n332 : Bits := .z p8n166
def p9n333 : Bits := .o p8n166
def p9n334 : Bits := .z p8n167
def p9n335 : Bits := .o p8n167
def p9n336 : Bits := .z p8n168
def p9n337 : Bits := .o p8n168
def p9n338 : Bits := .z p8n169
def p9n339 : Bits := .o p8n169
def p9n340 : Bits := .z p8n170
def p9n341 : Bits := .o p8n170
def p9n342 : Bits := .z p8n171
def p9n343 : Bits := .o p8n171
def p9n344 : Bits := .z p8n172
def p9n345 : Bits := .o p8n172
def p9n346 : Bits := .z p8n173
def p9n347 : Bits := .o p8n173
def p9n348 : Bits := .z p8n174
def p9n349 : Bits := .o p8n174
def p9n350 : Bits := .z p8n175
def p9n351 : Bits := .o p8n175
def p9n352 : Bits := .z p8n176
def p9n353 : Bits := .o p8n176
def p9n354 : Bits := .z p8n177
def p9n355 : Bits := .o p8n177
def p9n356 : Bits := .z p8n178
def p9n357 : Bits := .o p8n178
def p9n358 : Bits := .z p8n179
def p9n359 : Bits := .o p8n179
def p9n360 : Bits := .z p8n180
def p9n361 : Bits := .o p8n180
def p9n362 : Bits := .z p8n181
def p9n363 : Bits := .o p8n181
def p9n364 : Bits := .z p8n182
def p9n365 : Bits := .o p8n182
def p9n366 : Bits := .z p8n183
def p9n367 : Bits := .o p8n183
def p9n368 : Bits := .z p8n184
def p9n369 : Bits := .o p8n184
def p9n370 : Bits := .z p8n185
def p9n371 : Bits := .o p8n185
def p9n372 : Bits := .z p8n186
def p9n373 : Bits := .o p8n186
def p9n374 : Bits := .z p8n187
def p9n375 : Bits := .o p8n187
def p9n376 : Bits := .z p8n188
def p9n377 : Bits := .o p8n188
def p9n378 : Bits := .z p8n189
def p9n379 : Bits := .o p8n189
def p9n380 : Bits := .z p8n190
def p9n381 : Bits := .o p8n190
def p9n382 : Bits := .z p8n191
def p9n383 : Bits := .o p8n191
def p9n384 : Bits := .z p8n192
def p9n385 : Bits := .o p8n192
def p9n386 : Bits := .z p8n193
def p9n387 : Bits := .o p8n193
def p9n388 : Bits := .z p8n194
def p9n389 : Bits := .o p8n194
def p9n390 : Bits := .z p8n195
def p9n391 : Bits := .o p8n195
def p9n392 : Bits := .z p8n196
def p9n393 : Bits := .o p8n196
def p9n394 : Bits := .z p8n197
def p9n395 : Bits := .o p8n197
def p9n396 : Bits := .z p8n198
def p9n397 : Bits := .o p8n198
def p9n398 : Bits := .z p8n199
def p9n399 : Bits := .o p8n199
def p9n400 : Bits := .z p8n200
def p9n401 : Bits := .o p8n200
def p9n402 : Bits := .z p8n201
def p9n403 : Bits := .o p8n201
def p9n404 : Bits := .z p8n202
def p9n405 : Bits := .o p8n202
def p9n406 : Bits := .z p8n203
def p9n407 : Bits := .o p8n203
def p9n408 : Bits := .z p8n204
def p9n409 : Bits := .o p8n204
def p9n410 : Bits := .z p8n205
def p9n411 : Bits := .o p8n205
def p9n412 : Bits := .z p8n206
def p9n413 : Bits := .o p8n206
def p9n414 : Bits := .z p8n207
def p9n415 : Bits := .o p8n207
def p9n416 : Bits := .z p8n208
def p9n417 : Bits := .o p8n208
def p9n418 : Bits := .z p8n209
def p9n419 : Bits := .o p8n209
def p9n420 : Bits := .z p8n210
def p9n421 : Bits := .o p8n210
def p9n422 : Bits := .z p8n211
def p9n423 : Bits := .o p8n211
def p9n424 : Bits := .z p8n212
def p9n425 : Bits := .o p8n212
def p9n426 : Bits := .z p8n213
def p9n427 : Bits := .o p8n213
def p9n428 : Bits := .z p8n214
def p9n429 : Bits := .o p8n214
def p9n430 : Bits := .z p8n215
def p9n431 : Bits := .o p8n215
def p9n432 : Bits := .z p8n216
def p9n433 : Bits := .o p8n216
def p9n434 : Bits := .z p8n217
def p9n435 : Bits := .o p8n217
def p9n436 : Bits := .z p8n218
def p9n437 : Bits := .o p8n218
def p9n438 : Bits := .z p8n219
def p9n439 : Bits := .o p8n219
def p9n440 : Bits := .z p8n220
def p9n441 : Bits := .o p8n220
def p9n442 : Bits := .z p8n221
def p9n443 : Bits := .o p8n221
def p9n444 : Bits := .z p8n222
def p9n445 : Bits := .o p8n222
def p9n446 : Bits := .z p8n223
def p9n447 : Bits := .o p8n223
def p9n448 : Bits := .z p8n224
def p9n449 : Bits := .o p8n224
def p9n450 : Bits := .z p8n225
def p9n451 : Bits := .o p8n225
def p9n452 : Bits := .z p8n226
def p9n453 : Bits := .o p8n226
def p9n454 : Bits := .z p8n227
def p9n455 : Bits := .o p8n227
def p9n456 : Bits := .z p8n228
def p9n457 : Bits := .o p8n228
def p9n458 : Bits := .z p8n229
def p9n459 : Bits := .o p8n229
def p9n460 : Bits := .z p8n230
def p9n461 : Bits := .o p8n230
def p9n462 : Bits := .z p8n231
def p9n463 : Bits := .o p8n231
def p9n464 : Bits := .z p8n232
def p9n465 : Bits := .o p8n232
def p9n466 : Bits := .z p8n233
def p9n467 : Bits := .o p8n233
def p9n468 : Bits := .z p8n234
def p9n469 : Bits := .o p8n234
def p9n470 : Bits := .z p8n235
def p9n471 : Bits := .o p8n235
def p9n472 : Bits := .z p8n236
def p9n473 : Bits := .o p8n236
def p9n474 : Bits := .z p8n237
def p9n475 : Bits := .o p8n237
def p9n476 : Bits := .z p8n238
def p9n477 : Bits := .o p8n238
def p9n478 : Bits := .z p8n239
def p9n479 : Bits := .o p8n239
def p9n480 : Bits := .z p8n240
def p9n481 : Bits := .o p8n240
def p9n482 : Bits := .z p8n241
def p9n483 : Bits := .o p8n241
def p9n484 : Bits := .z p8n242
def p9n485 : Bits := .o p8n242
def p9n486 : Bits := .z p8n243
def p9n487 : Bits := .o p8n243
def p9n488 : Bits := .z p8n244
def p9n489 : Bits := .o p8n244
def p9n490 : Bits := .z p8n245
def p9n491 : Bits := .o p8n245
def p9n492 : Bits := .z p8n246
def p9n493 : Bits := .o p8n246
def p9n494 : Bits := .z p8n247
def p9n495 : Bits := .o p8n247
def p9n496 : Bits := .z p8n248
def p9n497 : Bits := .o p8n248
def p9n498 : Bits := .z p8n249
def p9n499 : Bits := .o p8n249
def p9n500 : Bits := .z p8n250
def p9n501 : Bits := .o p8n250
def p9n502 : Bits := .z p8n251
def p9n503 : Bits := .o p8n251
def p9n504 : Bits := .z p8n252
def p9n505 : Bits := .o p8n252
def p9n506 : Bits := .z p8n253
def p9n507 : Bits := .o p8n253
def p9n508 : Bits := .z p8n254
def p9n509 : Bits := .o p8n254
def p9n510 : Bits := .z p8n255
def p9n511 : Bits := .o p8n255

inductive Tr where
  | leaf
  | node (k : Nat) (a : AFunc) (l r : Tr)

noncomputable def Tr.goN (x : Nat) (k : Nat) (a : AFunc) (_ _ : Tr) (l r : Option AFunc) : Option AFunc :=
  Bool.rec (motive := fun _ => Option AFunc) (Bool.rec (motive := fun _ => Option AFunc) r l (Nat.blt x k)) (some a) (Nat.beq x k)
noncomputable def Tr.get (t : Tr) (x : Nat) : Option AFunc := Tr.rec (motive := fun _ => Option AFunc) none (Tr.goN x) t
def Tr.list : Tr → List (Nat × AFunc)
  | .leaf => []
  | .node k a l r => (k, a) :: (l.list ++ r.list)

theorem Tr.get_mem (t : Tr) (x : Nat) (a : AFunc) (h : t.get x = some a) : (x, a) ∈ t.list := by
  induction t with
  | leaf => cases h
  | node k b l r ihl ihr =>
    change Tr.goN x k b l r (l.get x) (r.get x) = some a at h
    unfold Tr.goN at h
    cases hb : Nat.beq x k with
    | true =>
      rw [hb] at h
      cases h
      have := Nat.eq_of_beq_eq_true hb
      subst this
      exact List.mem_cons_self
    | false =>
      rw [hb] at h
      cases hl : Nat.blt x k with
      | true =>
        rw [hl] at h
        exact List.mem_cons_of_mem _ (List.mem_append_left _ (ihl h))
      | false =>
        rw [hl] at h
        exact List.mem_cons_of_mem _ (List.mem_append_right _ (ihr h))

end M2
end
section
namespace M2
open Go Go.ChangeShapes Go.WideShapes Go.ChangeAt Go.RowKit

/-- a law's call, by a run of ours that is right of every argument that reads so -/
theorem law_run {P : Program} {M : Maps} {im : FuncId → Option Nat} {tbl : Nat → Option AFunc} (hmix : P.follows .mixedOrders = true) (him : ∀ f x, im f = some x → M.fm x = f) (ht : Table P M im tbl)
    {H : Type} {enc : TypeId × Value → H} {W : World} {base id tf : Nat} {t : TypeId} {fs : Array Field} (hu : P.underlying t = some (.struct fs)) (ha : argT P tf t = true) {v : Value} {d : DataW H} {p : List MemPlace}
    (hval : Value.okWide P W .any base t v) (htr : DataW.Trod enc P W 0 (fun _ => true) true t v d p)
    (hrun : ∀ ascs m, DA P tf t d ascs → ∃ n t', callA tbl (ev tbl n) id [.agg ascs] ⟨m, [], []⟩ = .ok (.bool true) t') :
    Calls P (M.fm id) #[v] W fun e W' => e = .returned (.bool true) ∧ Below W.heap.size W W' := by
  obtain ⟨K, hK0, hK⟩ := size_bound W
  obtain ⟨fuel, htr⟩ := htr
  unfold Value.okWide at hval
  rw [hu] at hval
  obtain ⟨cs, rfl, hcs, -⟩ := hval
  obtain ⟨ascs, h1, h2, h3, -⟩ := trod_vr (M := M) hK0 hK fuel tf t _ _ ha htr
  obtain ⟨n, t', hr⟩ := hrun ascs (W.heap.size * K) h1
  refine link (g := argG W (W.heap.size * K) K) hmix him ht (fun _ _ => rfl) (argG_sr M W _ K) rfl (fun i hi => ?_) hr
  have hi0 : i = 0 := by simpa using hi
  subst hi0
  simp only [List.getElem_cons_zero]
  have hl : ascs.length = cs.size := by simpa [Value.cells] using h2
  refine .agg ascs cs hl.symm (fun j hj => ?_)
  have := h3 j hj
  simpa [Value.cells, Array.getD_eq_getD_getElem?, List.getD_eq_getElem?_getD] using this

/-- the table, function by function -/
theorem table_of {P : Program} {M : Maps} {im : FuncId → Option Nat} {tab : Tr} (h : ∀ p, p ∈ tab.list → ∃ gf, P.funcs[M.fm p.1]? = some gf ∧ cmpF P im p.2.depth p.2.keep gf = some p.2) : Table P M im tab.get := by
  intro f fn hf
  exact h (f, fn) (Tr.get_mem tab f fn hf)

inductive TrOK (Q : Nat → AFunc → Prop) : Tr → Prop where
  | leaf : TrOK Q .leaf
  | node {k : Nat} {a : AFunc} {l r : Tr} (h : Q k a) (hl : TrOK Q l) (hr : TrOK Q r) : TrOK Q (.node k a l r)

theorem TrOK.list {Q : Nat → AFunc → Prop} {t : Tr} (h : TrOK Q t) : ∀ p, p ∈ t.list → Q p.1 p.2 := by
  induction h with
  | leaf => intro p hp; cases hp
  | node h hl hr ihl ihr =>
    intro p hp
    simp only [Tr.list, List.mem_cons, List.mem_append] at hp
    rcases hp with rfl | hp | hp
    · exact h
    · exact ihl p hp
    · exact ihr p hp

def Here (P : Program) (M : Maps) (im : FuncId → Option Nat) (i : Nat) (a : AFunc) : Prop := ∃ gf, P.funcs[M.fm i]? = some gf ∧ cmpF P im a.depth a.keep gf = some a

theorem table_ok {P : Program} {M : Maps} {im : FuncId → Option Nat} {tab : Tr} (h : TrOK (Here P M im) tab) : Table P M im tab.get := table_of (TrOK.list h)

/-- numbers there and back -/
def maps (ims : List Nat) : Maps := ⟨fun x => (ims.idxOf? x).getD 0, fun x => x⟩
theorem him_of {ims : List Nat} (hn : ims.Nodup) : ∀ f x, ims[f]? = some x → (maps ims).fm x = f := by
  intro f x h
  obtain ⟨hf, rfl⟩ := List.getElem?_eq_some_iff.mp h
  show (ims.idxOf? ims[f]).getD 0 = f
  rw [show ims.idxOf? ims[f] = some f from ?_]
  · rfl
  · rw [List.idxOf?_eq_some_iff]
    refine ⟨hf, by simp, fun j hj => ?_⟩
    intro e
    exact List.pairwise_iff_getElem.mp hn j f (by omega) hf hj (by simpa using e)

end M2
end
section
/- Compiled functions, printed by a program of mine. -/
namespace M2
open Go

noncomputable def a2 : AFunc :=
  ⟨4, [], [], false, (.reg [⟨(some p4n0), none, (.call 1 [])⟩])⟩
noncomputable def a27 : AFunc :=
  ⟨6, [p6n0], [(p6n2, none)], false, (.seq (.reg [⟨(some p6n2), none, (.mv (.c .nils))⟩]) (.seq (.reg [⟨(some p6n3), none, (.mv (.c .nils))⟩]) (.seq (.seq (.reg [⟨(some p6n4), none, (.mv (.c (.int .i64 (.ofNat 0))))⟩]) (.block 0 (.loop (.seq (.seq (.reg [⟨(some p6n5), none, (.mv (.t p6n4))⟩, ⟨(some p6n6), none, (.mv (.t p6n0))⟩, ⟨(some p6n7), none, (.len false (.t p6n6))⟩, ⟨(some p6n8), none, (.bin .lss (.t p6n5) (.t p6n7))⟩]) (.cond (.t p6n8) .skip (.exit 0))) (.seq (.block 1 (.reg [⟨(some p6n11), none, (.mv (.t p6n3))⟩, ⟨(some p6n12), none, (.mv (.t p6n0))⟩, ⟨(some p6n13), none, (.mv (.t p6n4))⟩, ⟨(some p6n14), none, (.iaddr 4 (.t p6n12) (.t p6n13))⟩, ⟨(some p6n15), none, (.ldA 4 (.t p6n14))⟩, ⟨(some p6n16), none, (.buildS 4 1 (.agg [(.int .i64 (.ofNat 0)), (.str []), (.int .i64 (.ofNat 0)), (.int .i64 (.ofNat 0))]) [(0, (.t p6n15))])⟩, ⟨(some p6n17), none, (.app 4 40 (.agg [(.int .i64 (.ofNat 0)), (.str []), (.int .i64 (.ofNat 0)), (.int .i64 (.ofNat 0))]) (.t p6n11) (.t p6n16))⟩, ⟨(some p6n3), none, (.mv (.t p6n17))⟩])) (.reg [⟨(some p6n9), none, (.mv (.t p6n4))⟩, ⟨(some p6n10), none, (.bin .add (.t p6n9) (.c (.int .i64 (.ofNat 1))))⟩, ⟨(some p6n4), none, (.mv (.t p6n10))⟩])))))) (.seq (.reg [⟨(some p6n18), none, (.mv (.t p6n3))⟩, ⟨(some p6n2), none, (.mv (.t p6n18))⟩]) .ret))))⟩
noncomputable def a29 : AFunc :=
  ⟨6, [p6n0, p6n1], [(p6n4, (some (2, true))), (p6n5, none), (p6n6, none)], false, (.seq (.reg [⟨(some p6n4), none, (.alloc [(.str []), (.int .i64 (.ofNat 0))])⟩, ⟨(some p6n5), none, (.mv (.c (.int .i64 (.ofNat 0))))⟩, ⟨(some p6n6), none, (.mv (.c (.int .i64 (.ofNat 0))))⟩]) (.seq (.seq (.reg [⟨(some p6n8), none, (.mv (.t p6n0))⟩, ⟨(some p6n9), none, (.call 50 [(.t p6n8)])⟩, ⟨(some p6n10), none, (.un .not (.t p6n9))⟩, ⟨(some p6n11), none, (.mv (.t p6n10))⟩, ⟨(some p6n12), (some (p6n11, false)), (.mv (.t p6n1))⟩, ⟨(some p6n13), (some (p6n11, false)), (.call 51 [(.t p6n12)])⟩, ⟨(some p6n14), (some (p6n11, false)), (.un .not (.t p6n13))⟩, ⟨(some p6n15), none, (.pick (.t p6n11) (.c (.bool true)) (.t p6n14))⟩]) (.cond (.t p6n15) (.seq (.reg [⟨(some p6n16), none, (.ldA 2 (.t p6n4))⟩, ⟨none, none, (.st 2 (.t p6n4) (.t p6n16))⟩, ⟨(some p6n5), none, (.mv (.c (.int .i64 (.ofNat 0))))⟩, ⟨(some p6n6), none, (.mv (.c (.int .i64 (.ofNat 1))))⟩]) .ret) .skip)) (.seq (.reg [⟨(some p6n17), none, (.mv (.t p6n0))⟩, ⟨(some p6n18), none, (.mv (.t p6n1))⟩, ⟨(some p6n19), none, (.build [.nils, .nils, (.int .i64 (.ofNat 0)), (.int .i64 (.ofNat 0))] [(0, (1, (.t p6n17))), (1, (1, (.t p6n18)))])⟩, ⟨(some p6n20), none, (.box (.t p6n19))⟩, ⟨(some p6n7), none, (.mv (.t p6n20))⟩]) (.seq (.seq (.reg [⟨(some p6n22), none, (.mv (.t p6n7))⟩, ⟨(some p6n23), none, (.call 52 [(.t p6n22)])⟩, ⟨(some p6n21), none, (.mv (.t p6n23))⟩, ⟨(some p6n24), none, (.ext (.t p6n21) 0)⟩, ⟨(some p6n25), none, (.ext (.t p6n21) 1)⟩, ⟨none, none, (.st 2 (.t p6n4) (.t p6n24))⟩, ⟨(some p6n6), none, (.mv (.t p6n25))⟩]) (.seq (.reg [⟨(some p6n26), none, (.mv (.t p6n6))⟩, ⟨(some p6n27), none, (.bin .neq (.t p6n26) (.c (.int .i64 (.ofNat 0))))⟩]) (.cond (.t p6n27) (.seq (.reg [⟨(some p6n28), none, (.build [(.str []), (.int .i64 (.ofNat 0))] [])⟩, ⟨(some p6n29), none, (.mv (.t p6n6))⟩, ⟨none, none, (.st 2 (.t p6n4) (.t p6n28))⟩, ⟨(some p6n5), none, (.mv (.c (.int .i64 (.ofNat 0))))⟩, ⟨(some p6n6), none, (.mv (.t p6n29))⟩]) .ret) .skip))) (.seq (.regd [((.loadm 0 0), ⟨(some p6n30), none, (.ldA 2 (.t p6n4))⟩), (.pure, ⟨(some p6n31), none, (.mv (.t p6n7))⟩), (.pure, ⟨(some p6n32), none, (.nilck (.t p6n31))⟩), (.pure, ⟨(some p6n33), none, (.faddr 2 (.t p6n32))⟩), ((.loadm 4 14), ⟨(some p6n34), none, (.ld1 (.t p6n33))⟩), ((.sto 5 1), ⟨none, none, (.st 2 (.t p6n4) (.t p6n30))⟩)] [⟨(some p6n5), none, (.mv (.t p6n34))⟩, ⟨(some p6n6), none, (.mv (.c (.int .i64 (.ofNat 0))))⟩]) .ret)))))⟩
noncomputable def a30 : AFunc :=
  ⟨6, [p6n0, p6n1], [(p6n4, (some (2, true))), (p6n5, none)], false, (.seq (.reg [⟨(some p6n4), none, (.alloc [(.str []), (.int .i64 (.ofNat 0))])⟩, ⟨(some p6n5), none, (.mv (.c (.int .i64 (.ofNat 0))))⟩]) (.seq (.reg [⟨(some p6n10), none, (.mv (.t p6n0))⟩, ⟨(some p6n11), none, (.mv (.t p6n1))⟩, ⟨(some p6n12), none, (.call 29 [(.t p6n10), (.t p6n11)])⟩, ⟨(some p6n9), none, (.mv (.t p6n12))⟩, ⟨(some p6n13), none, (.ext (.t p6n9) 0)⟩, ⟨(some p6n14), none, (.ext (.t p6n9) 1)⟩, ⟨(some p6n15), none, (.ext (.t p6n9) 2)⟩, ⟨(some p6n6), none, (.alloc [(.str []), (.int .i64 (.ofNat 0))])⟩, ⟨none, none, (.st 2 (.t p6n6) (.t p6n13))⟩, ⟨(some p6n7), none, (.mv (.t p6n14))⟩, ⟨(some p6n8), none, (.mv (.t p6n15))⟩]) (.seq (.block 0 (.seq (.reg [⟨(some p6n17), none, (.mv (.t p6n8))⟩, ⟨(some p6n18), none, (.bin .neq (.t p6n17) (.c (.int .i64 (.ofNat 0))))⟩, ⟨(some p6n16), none, (.mv (.t p6n18))⟩]) (.cond (.t p6n16) (.seq (.reg [⟨(some p6n19), none, (.build [(.str []), (.int .i64 (.ofNat 0))] [])⟩, ⟨(some p6n20), none, (.mv (.t p6n8))⟩, ⟨none, none, (.st 2 (.t p6n4) (.t p6n19))⟩, ⟨(some p6n5), none, (.mv (.t p6n20))⟩]) .ret) (.seq (.reg [⟨(some p6n22), none, (.mv (.t p6n7))⟩, ⟨(some p6n23), none, (.mv (.t p6n1))⟩, ⟨(some p6n24), none, (.len false (.t p6n23))⟩, ⟨(some p6n25), none, (.bin .lss (.t p6n22) (.t p6n24))⟩, ⟨(some p6n21), none, (.mv (.t p6n25))⟩]) (.cond (.t p6n21) (.seq (.reg [⟨(some p6n26), none, (.build [(.str []), (.int .i64 (.ofNat 0))] [])⟩, ⟨none, none, (.st 2 (.t p6n4) (.t p6n26))⟩, ⟨(some p6n5), none, (.mv (.c (.int .i64 (.ofNat 3))))⟩]) .ret) .skip))))) (.seq (.reg [⟨(some p6n27), none, (.ldA 2 (.t p6n6))⟩, ⟨none, none, (.st 2 (.t p6n4) (.t p6n27))⟩, ⟨(some p6n5), none, (.mv (.c (.int .i64 (.ofNat 0))))⟩]) .ret))))⟩
noncomputable def a31 : AFunc :=
  ⟨6, [p6n0, p6n1], [(p6n4, none), (p6n5, none)], false, (.seq (.reg [⟨(some p6n4), none, (.mv (.c (.int .i64 (.ofNat 0))))⟩, ⟨(some p6n5), none, (.mv (.c (.int .i64 (.ofNat 0))))⟩]) (.seq (.reg [⟨(some p6n9), none, (.mv (.t p6n0))⟩, ⟨(some p6n10), none, (.mv (.t p6n1))⟩, ⟨(some p6n11), none, (.call 30 [(.t p6n9), (.t p6n10)])⟩, ⟨(some p6n8), none, (.mv (.t p6n11))⟩, ⟨(some p6n12), none, (.ext (.t p6n8) 0)⟩, ⟨(some p6n13), none, (.ext (.t p6n8) 1)⟩, ⟨(some p6n6), none, (.alloc [(.str []), (.int .i64 (.ofNat 0))])⟩, ⟨none, none, (.st 2 (.t p6n6) (.t p6n12))⟩, ⟨(some p6n7), none, (.mv (.t p6n13))⟩]) (.seq (.block 0 (.seq (.reg [⟨(some p6n15), none, (.mv (.t p6n7))⟩, ⟨(some p6n16), none, (.bin .neq (.t p6n15) (.c (.int .i64 (.ofNat 0))))⟩, ⟨(some p6n14), none, (.mv (.t p6n16))⟩]) (.cond (.t p6n14) (.seq (.reg [⟨(some p6n17), none, (.mv (.t p6n7))⟩, ⟨(some p6n4), none, (.mv (.c (.int .i64 (.ofNat 0))))⟩, ⟨(some p6n5), none, (.mv (.t p6n17))⟩]) .ret) (.seq (.reg [⟨(some p6n19), none, (.faddr 0 (.t p6n6))⟩, ⟨(some p6n20), none, (.ld1 (.t p6n19))⟩, ⟨(some p6n21), none, (.bin .neq (.t p6n20) (.c (.str [])))⟩, ⟨(some p6n18), none, (.mv (.t p6n21))⟩]) (.cond (.t p6n18) (.seq (.reg [⟨(some p6n4), none, (.mv (.c (.int .i64 (.ofNat 0))))⟩, ⟨(some p6n5), none, (.mv (.c (.int .i64 (.ofNat 6))))⟩]) .ret) .skip))))) (.seq (.reg [⟨(some p6n22), none, (.faddr 1 (.t p6n6))⟩, ⟨(some p6n23), none, (.ld1 (.t p6n22))⟩, ⟨(some p6n4), none, (.mv (.t p6n23))⟩, ⟨(some p6n5), none, (.mv (.c (.int .i64 (.ofNat 0))))⟩]) .ret))))⟩
noncomputable def a33 : AFunc :=
  ⟨6, [p6n0], [(p6n2, none)], false, (.seq (.reg [⟨(some p6n2), none, (.mv (.c (.bool false)))⟩]) (.seq (.seq (.reg [⟨(some p6n3), none, (.mv (.c (.int .i64 (.ofNat 0))))⟩]) (.block 0 (.loop (.seq (.seq (.reg [⟨(some p6n4), none, (.mv (.t p6n3))⟩, ⟨(some p6n5), none, (.mv (.t p6n0))⟩, ⟨(some p6n6), none, (.len false (.t p6n5))⟩, ⟨(some p6n7), none, (.bin .lss (.t p6n4) (.t p6n6))⟩, ⟨(some p6n8), none, (.mv (.t p6n7))⟩, ⟨(some p6n9), (some (p6n8, true)), (.mv (.t p6n3))⟩, ⟨(some p6n10), (some (p6n8, true)), (.bin .leq (.t p6n9) (.c (.int .i64 (.ofNat 40))))⟩, ⟨(some p6n11), none, (.pick (.t p6n8) (.t p6n10) (.c (.bool false)))⟩]) (.cond (.t p6n11) .skip (.exit 0))) (.seq (.block 1 (.seq (.reg [⟨(some p6n14), none, (.mv (.t p6n0))⟩, ⟨(some p6n15), none, (.mv (.t p6n3))⟩, ⟨(some p6n16), none, (.iaddr 4 (.t p6n14) (.t p6n15))⟩, ⟨(some p6n17), none, (.ldA 4 (.t p6n16))⟩, ⟨(some p6n18), none, (.call 56 [(.t p6n17)])⟩, ⟨(some p6n19), none, (.un .not (.t p6n18))⟩]) (.cond (.t p6n19) (.seq (.reg [⟨(some p6n2), none, (.mv (.c (.bool false)))⟩]) .ret) .skip))) (.reg [⟨(some p6n12), none, (.mv (.t p6n3))⟩, ⟨(some p6n13), none, (.bin .add (.t p6n12) (.c (.int .i64 (.ofNat 1))))⟩, ⟨(some p6n3), none, (.mv (.t p6n13))⟩])))))) (.seq (.reg [⟨(some p6n20), none, (.mv (.t p6n0))⟩, ⟨(some p6n21), none, (.len false (.t p6n20))⟩, ⟨(some p6n22), none, (.bin .leq (.t p6n21) (.c (.int .i64 (.ofNat 40))))⟩, ⟨(some p6n2), none, (.mv (.t p6n22))⟩]) .ret)))⟩
noncomputable def a34 : AFunc :=
  ⟨6, [p6n0, p6n1], [(p6n4, (some (2, true))), (p6n5, none), (p6n6, none)], false, (.seq (.reg [⟨(some p6n4), none, (.alloc [(.str []), (.int .i64 (.ofNat 0))])⟩, ⟨(some p6n5), none, (.mv (.c (.int .i64 (.ofNat 0))))⟩, ⟨(some p6n6), none, (.mv (.c (.int .i64 (.ofNat 0))))⟩]) (.seq (.reg [⟨(some p6n9), none, (.mv (.t p6n0))⟩, ⟨(some p6n10), none, (.mv (.t p6n1))⟩, ⟨(some p6n11), none, (.build [.nils, .nils, (.int .i64 (.ofNat 0)), (.int .i64 (.ofNat 0))] [(0, (1, (.t p6n9))), (1, (1, (.t p6n10)))])⟩, ⟨(some p6n12), none, (.box (.t p6n11))⟩, ⟨(some p6n7), none, (.mv (.t p6n12))⟩]) (.seq (.reg [⟨(some p6n13), none, (.mv (.t p6n7))⟩, ⟨(some p6n14), none, (.call 57 [(.t p6n13), (.c (.int .i64 (.ofNat 0)))])⟩, ⟨(some p6n8), none, (.alloc [(.str []), (.int .i64 (.ofNat 0))])⟩, ⟨none, none, (.st 2 (.t p6n8) (.t p6n14))⟩]) (.seq (.seq (.reg [⟨(some p6n15), none, (.mv (.t p6n7))⟩, ⟨(some p6n16), none, (.nilck (.t p6n15))⟩, ⟨(some p6n17), none, (.faddr 3 (.t p6n16))⟩, ⟨(some p6n18), none, (.ld1 (.t p6n17))⟩, ⟨(some p6n19), none, (.bin .neq (.t p6n18) (.c (.int .i64 (.ofNat 0))))⟩]) (.cond (.t p6n19) (.seq (.regd [(.pure, ⟨(some p6n20), none, (.build [(.str []), (.int .i64 (.ofNat 0))] [])⟩), (.pure, ⟨(some p6n21), none, (.mv (.t p6n7))⟩), (.pure, ⟨(some p6n22), none, (.nilck (.t p6n21))⟩), (.pure, ⟨(some p6n23), none, (.faddr 3 (.t p6n22))⟩), ((.loadm 4 14), ⟨(some p6n24), none, (.ld1 (.t p6n23))⟩), ((.sto 5 1), ⟨none, none, (.st 2 (.t p6n4) (.t p6n20))⟩), (.pure, ⟨(some p6n5), none, (.mv (.c (.int .i64 (.ofNat 0))))⟩)] [⟨(some p6n6), none, (.mv (.t p6n24))⟩]) .ret) .skip)) (.seq (.regd [((.loadm 0 0), ⟨(some p6n25), none, (.ldA 2 (.t p6n8))⟩), (.pure, ⟨(some p6n26), none, (.mv (.t p6n7))⟩), (.pure, ⟨(some p6n27), none, (.nilck (.t p6n26))⟩), (.pure, ⟨(some p6n28), none, (.faddr 2 (.t p6n27))⟩), ((.loadm 4 14), ⟨(some p6n29), none, (.ld1 (.t p6n28))⟩), ((.sto 5 1), ⟨none, none, (.st 2 (.t p6n4) (.t p6n25))⟩)] [⟨(some p6n5), none, (.mv (.t p6n29))⟩, ⟨(some p6n6), none, (.mv (.c (.int .i64 (.ofNat 0))))⟩]) .ret)))))⟩
noncomputable def a35 : AFunc :=
  ⟨6, [p6n0, p6n1], [(p6n4, (some (2, true))), (p6n5, none)], false, (.seq (.reg [⟨(some p6n4), none, (.alloc [(.str []), (.int .i64 (.ofNat 0))])⟩, ⟨(some p6n5), none, (.mv (.c (.int .i64 (.ofNat 0))))⟩]) (.seq (.reg [⟨(some p6n10), none, (.mv (.t p6n0))⟩, ⟨(some p6n11), none, (.mv (.t p6n1))⟩, ⟨(some p6n12), none, (.call 34 [(.t p6n10), (.t p6n11)])⟩, ⟨(some p6n9), none, (.mv (.t p6n12))⟩, ⟨(some p6n13), none, (.ext (.t p6n9) 0)⟩, ⟨(some p6n14), none, (.ext (.t p6n9) 1)⟩, ⟨(some p6n15), none, (.ext (.t p6n9) 2)⟩, ⟨(some p6n6), none, (.alloc [(.str []), (.int .i64 (.ofNat 0))])⟩, ⟨none, none, (.st 2 (.t p6n6) (.t p6n13))⟩, ⟨(some p6n7), none, (.mv (.t p6n14))⟩, ⟨(some p6n8), none, (.mv (.t p6n15))⟩]) (.seq (.seq (.reg [⟨(some p6n16), none, (.mv (.t p6n8))⟩, ⟨(some p6n17), none, (.bin .eql (.t p6n16) (.c (.int .i64 (.ofNat 0))))⟩, ⟨(some p6n18), none, (.mv (.t p6n17))⟩, ⟨(some p6n19), (some (p6n18, true)), (.mv (.t p6n7))⟩, ⟨(some p6n20), (some (p6n18, true)), (.mv (.t p6n1))⟩, ⟨(some p6n21), (some (p6n18, true)), (.len false (.t p6n20))⟩, ⟨(some p6n22), (some (p6n18, true)), (.bin .lss (.t p6n19) (.t p6n21))⟩, ⟨(some p6n23), none, (.pick (.t p6n18) (.t p6n22) (.c (.bool false)))⟩]) (.cond (.t p6n23) (.reg [⟨(some p6n8), none, (.mv (.c (.int .i64 (.ofNat 3))))⟩]) .skip)) (.seq (.seq (.reg [⟨(some p6n24), none, (.mv (.t p6n8))⟩, ⟨(some p6n25), none, (.bin .neq (.t p6n24) (.c (.int .i64 (.ofNat 0))))⟩]) (.cond (.t p6n25) (.seq (.reg [⟨(some p6n26), none, (.build [(.str []), (.int .i64 (.ofNat 0))] [])⟩, ⟨(some p6n27), none, (.mv (.t p6n8))⟩, ⟨none, none, (.st 2 (.t p6n4) (.t p6n26))⟩, ⟨(some p6n5), none, (.mv (.t p6n27))⟩]) .ret) .skip)) (.seq (.reg [⟨(some p6n28), none, (.ldA 2 (.t p6n6))⟩, ⟨none, none, (.st 2 (.t p6n4) (.t p6n28))⟩, ⟨(some p6n5), none, (.mv (.c (.int .i64 (.ofNat 0))))⟩]) .ret)))))⟩
noncomputable def a36 : AFunc :=
  ⟨6, [p6n0, p6n1], [(p6n4, none), (p6n5, none)], false, (.seq (.reg [⟨(some p6n4), none, (.mv (.c (.int .i64 (.ofNat 0))))⟩, ⟨(some p6n5), none, (.mv (.c (.int .i64 (.ofNat 0))))⟩]) (.seq (.reg [⟨(some p6n9), none, (.mv (.t p6n0))⟩, ⟨(some p6n10), none, (.mv (.t p6n1))⟩, ⟨(some p6n11), none, (.call 35 [(.t p6n9), (.t p6n10)])⟩, ⟨(some p6n8), none, (.mv (.t p6n11))⟩, ⟨(some p6n12), none, (.ext (.t p6n8) 0)⟩, ⟨(some p6n13), none, (.ext (.t p6n8) 1)⟩, ⟨(some p6n6), none, (.alloc [(.str []), (.int .i64 (.ofNat 0))])⟩, ⟨none, none, (.st 2 (.t p6n6) (.t p6n12))⟩, ⟨(some p6n7), none, (.mv (.t p6n13))⟩]) (.seq (.seq (.reg [⟨(some p6n14), none, (.mv (.t p6n7))⟩, ⟨(some p6n15), none, (.bin .eql (.t p6n14) (.c (.int .i64 (.ofNat 0))))⟩, ⟨(some p6n16), none, (.mv (.t p6n15))⟩, ⟨(some p6n17), (some (p6n16, true)), (.faddr 0 (.t p6n6))⟩, ⟨(some p6n18), (some (p6n16, true)), (.ld1 (.t p6n17))⟩, ⟨(some p6n19), (some (p6n16, true)), (.bin .neq (.t p6n18) (.c (.str [])))⟩, ⟨(some p6n20), none, (.pick (.t p6n16) (.t p6n19) (.c (.bool false)))⟩]) (.cond (.t p6n20) (.reg [⟨(some p6n7), none, (.mv (.c (.int .i64 (.ofNat 6))))⟩]) .skip)) (.seq (.seq (.reg [⟨(some p6n21), none, (.mv (.t p6n7))⟩, ⟨(some p6n22), none, (.bin .neq (.t p6n21) (.c (.int .i64 (.ofNat 0))))⟩]) (.cond (.t p6n22) (.seq (.reg [⟨(some p6n23), none, (.mv (.t p6n7))⟩, ⟨(some p6n4), none, (.mv (.c (.int .i64 (.ofNat 0))))⟩, ⟨(some p6n5), none, (.mv (.t p6n23))⟩]) .ret) .skip)) (.seq (.reg [⟨(some p6n24), none, (.faddr 1 (.t p6n6))⟩, ⟨(some p6n25), none, (.ld1 (.t p6n24))⟩, ⟨(some p6n4), none, (.mv (.t p6n25))⟩, ⟨(some p6n5), none, (.mv (.c (.int .i64 (.ofNat 0))))⟩]) .ret)))))⟩
noncomputable def a38 : AFunc :=
  ⟨6, [p6n0, p6n1], [(p6n4, none)], false, (.seq (.reg [⟨(some p6n4), none, (.mv (.c (.bool false)))⟩]) (.seq (.seq (.reg [⟨(some p6n6), none, (.mv (.t p6n0))⟩, ⟨(some p6n7), none, (.len false (.t p6n6))⟩, ⟨(some p6n8), none, (.mv (.t p6n1))⟩, ⟨(some p6n9), none, (.len false (.t p6n8))⟩, ⟨(some p6n10), none, (.bin .neq (.t p6n7) (.t p6n9))⟩]) (.cond (.t p6n10) (.seq (.reg [⟨(some p6n4), none, (.mv (.c (.bool false)))⟩]) .ret) .skip)) (.seq (.seq (.reg [⟨(some p6n5), none, (.mv (.c (.int .i64 (.ofNat 0))))⟩]) (.block 0 (.loop (.seq (.seq (.reg [⟨(some p6n11), none, (.mv (.t p6n5))⟩, ⟨(some p6n12), none, (.mv (.t p6n0))⟩, ⟨(some p6n13), none, (.len false (.t p6n12))⟩, ⟨(some p6n14), none, (.bin .lss (.t p6n11) (.t p6n13))⟩]) (.cond (.t p6n14) .skip (.exit 0))) (.seq (.block 1 (.seq (.regd [(.pure, ⟨(some p6n17), none, (.mv (.t p6n0))⟩), (.pure, ⟨(some p6n18), none, (.mv (.t p6n5))⟩), (.pure, ⟨(some p6n19), none, (.iaddr 4 (.t p6n17) (.t p6n18))⟩), (.load, ⟨(some p6n20), none, (.ldA 4 (.t p6n19))⟩), (.pure, ⟨(some p6n21), none, (.mv (.t p6n1))⟩), (.pure, ⟨(some p6n22), none, (.mv (.t p6n5))⟩), (.pure, ⟨(some p6n23), none, (.iaddr 4 (.t p6n21) (.t p6n22))⟩), (.load, ⟨(some p6n24), none, (.ldA 4 (.t p6n23))⟩)] [⟨(some p6n25), none, (.eqs (.st [(0, (1, (false, .int))), (1, (1, (false, .str))), (2, (1, (false, .int))), (3, (1, (false, .int)))]) true (.t p6n20) (.t p6n24))⟩]) (.cond (.t p6n25) (.seq (.reg [⟨(some p6n4), none, (.mv (.c (.bool false)))⟩]) .ret) .skip))) (.reg [⟨(some p6n15), none, (.mv (.t p6n5))⟩, ⟨(some p6n16), none, (.bin .add (.t p6n15) (.c (.int .i64 (.ofNat 1))))⟩, ⟨(some p6n5), none, (.mv (.t p6n16))⟩])))))) (.seq (.reg [⟨(some p6n4), none, (.mv (.c (.bool true)))⟩]) .ret))))⟩
noncomputable def a39 : AFunc :=
  ⟨6, [p6n0, p6n1], [(p6n4, none)], false, (.seq (.reg [⟨(some p6n4), none, (.mv (.c (.bool false)))⟩]) (.seq (.seq (.reg [⟨(some p6n6), none, (.mv (.t p6n0))⟩, ⟨(some p6n7), none, (.len false (.t p6n6))⟩, ⟨(some p6n8), none, (.mv (.t p6n1))⟩, ⟨(some p6n9), none, (.len false (.t p6n8))⟩, ⟨(some p6n10), none, (.bin .neq (.t p6n7) (.t p6n9))⟩]) (.cond (.t p6n10) (.seq (.reg [⟨(some p6n4), none, (.mv (.c (.bool false)))⟩]) .ret) .skip)) (.seq (.seq (.reg [⟨(some p6n5), none, (.mv (.c (.int .i64 (.ofNat 0))))⟩]) (.block 0 (.loop (.seq (.seq (.reg [⟨(some p6n11), none, (.mv (.t p6n5))⟩, ⟨(some p6n12), none, (.mv (.t p6n0))⟩, ⟨(some p6n13), none, (.len false (.t p6n12))⟩, ⟨(some p6n14), none, (.bin .lss (.t p6n11) (.t p6n13))⟩]) (.cond (.t p6n14) .skip (.exit 0))) (.seq (.block 1 (.seq (.regd [(.pure, ⟨(some p6n17), none, (.mv (.t p6n0))⟩), (.pure, ⟨(some p6n18), none, (.mv (.t p6n5))⟩), (.pure, ⟨(some p6n19), none, (.iaddr 2 (.t p6n17) (.t p6n18))⟩), (.load, ⟨(some p6n20), none, (.ldA 2 (.t p6n19))⟩), (.pure, ⟨(some p6n21), none, (.mv (.t p6n1))⟩), (.pure, ⟨(some p6n22), none, (.mv (.t p6n5))⟩), (.pure, ⟨(some p6n23), none, (.iaddr 2 (.t p6n21) (.t p6n22))⟩), (.load, ⟨(some p6n24), none, (.ldA 2 (.t p6n23))⟩)] [⟨(some p6n25), none, (.eqs (.st [(0, (1, (false, .str))), (1, (1, (false, .int)))]) true (.t p6n20) (.t p6n24))⟩]) (.cond (.t p6n25) (.seq (.reg [⟨(some p6n4), none, (.mv (.c (.bool false)))⟩]) .ret) .skip))) (.reg [⟨(some p6n15), none, (.mv (.t p6n5))⟩, ⟨(some p6n16), none, (.bin .add (.t p6n15) (.c (.int .i64 (.ofNat 1))))⟩, ⟨(some p6n5), none, (.mv (.t p6n16))⟩])))))) (.seq (.reg [⟨(some p6n4), none, (.mv (.c (.bool true)))⟩]) .ret))))⟩
noncomputable def a46 : AFunc :=
  ⟨4, [p4n0, p4n1, p4n2], [(p4n6, none)], false, (.seq (.reg [⟨(some p4n6), none, (.mv (.c (.bool false)))⟩]) (.seq (.reg [⟨(some p4n7), none, (.mv (.t p4n0))⟩, ⟨(some p4n8), none, (.mv (.t p4n1))⟩, ⟨(some p4n9), none, (.bin .geq (.t p4n7) (.t p4n8))⟩, ⟨(some p4n10), none, (.mv (.t p4n9))⟩, ⟨(some p4n11), (some (p4n10, true)), (.mv (.t p4n0))⟩, ⟨(some p4n12), (some (p4n10, true)), (.mv (.t p4n2))⟩, ⟨(some p4n13), (some (p4n10, true)), (.bin .leq (.t p4n11) (.t p4n12))⟩, ⟨(some p4n14), none, (.pick (.t p4n10) (.t p4n13) (.c (.bool false)))⟩, ⟨(some p4n6), none, (.mv (.t p4n14))⟩]) .ret))⟩
noncomputable def a47 : AFunc :=
  ⟨6, [p6n0], [(p6n2, none)], false, (.seq (.reg [⟨(some p6n1), none, (.box (.t p6n0))⟩, ⟨(some p6n2), none, (.mv (.c (.bool false)))⟩]) (.seq (.regd [(.pure, ⟨(some p6n5), none, (.faddr 1 (.t p6n1))⟩), (.load, ⟨(some p6n6), none, (.ld1 (.t p6n5))⟩), (.pure, ⟨(some p6n7), none, (.len false (.t p6n6))⟩), (.pure, ⟨(some p6n8), none, (.faddr 0 (.t p6n1))⟩), (.load, ⟨(some p6n9), none, (.ld1 (.t p6n8))⟩), (.iso, ⟨(some p6n10), none, (.call 58 [(.t p6n9)])⟩), (.pure, ⟨(some p6n11), none, (.bin .quo (.t p6n10) (.c (.int .i64 (.ofNat 8))))⟩)] [⟨(some p6n12), none, (.bin .add (.t p6n7) (.t p6n11))⟩, ⟨(some p6n3), none, (.mv (.t p6n12))⟩]) (.seq (.seq (.reg [⟨(some p6n4), none, (.mv (.c (.int .i64 (.ofNat 0))))⟩]) (.block 0 (.loop (.seq (.seq (.reg [⟨(some p6n13), none, (.mv (.t p6n4))⟩, ⟨(some p6n14), none, (.faddr 1 (.t p6n1))⟩, ⟨(some p6n15), none, (.ld1 (.t p6n14))⟩, ⟨(some p6n16), none, (.len false (.t p6n15))⟩, ⟨(some p6n17), none, (.bin .lss (.t p6n13) (.t p6n16))⟩, ⟨(some p6n18), none, (.mv (.t p6n17))⟩, ⟨(some p6n19), (some (p6n18, true)), (.mv (.t p6n3))⟩, ⟨(some p6n20), (some (p6n18, true)), (.bin .lss (.t p6n19) (.c (.int .i64 (.ofNat 1048576))))⟩, ⟨(some p6n21), none, (.pick (.t p6n18) (.t p6n20) (.c (.bool false)))⟩]) (.cond (.t p6n21) .skip (.exit 0))) (.seq (.block 1 (.reg [⟨(some p6n24), none, (.mv (.t p6n3))⟩, ⟨(some p6n25), none, (.faddr 1 (.t p6n1))⟩, ⟨(some p6n26), none, (.ld1 (.t p6n25))⟩, ⟨(some p6n27), none, (.mv (.t p6n4))⟩, ⟨(some p6n28), none, (.iaddr 1 (.t p6n26) (.t p6n27))⟩, ⟨(some p6n29), none, (.ld1 (.t p6n28))⟩, ⟨(some p6n30), none, (.call 59 [(.t p6n29)])⟩, ⟨(some p6n31), none, (.bin .add (.t p6n24) (.t p6n30))⟩, ⟨(some p6n3), none, (.mv (.t p6n31))⟩])) (.reg [⟨(some p6n22), none, (.mv (.t p6n4))⟩, ⟨(some p6n23), none, (.bin .add (.t p6n22) (.c (.int .i64 (.ofNat 1))))⟩, ⟨(some p6n4), none, (.mv (.t p6n23))⟩])))))) (.seq (.reg [⟨(some p6n32), none, (.mv (.t p6n3))⟩, ⟨(some p6n33), none, (.bin .gtr (.t p6n32) (.c (.int .i64 (.ofNat 900))))⟩, ⟨(some p6n2), none, (.mv (.t p6n33))⟩]) .ret))))⟩
noncomputable def a48 : AFunc :=
  ⟨8, [p8n0], [(p8n2, none), (p8n3, none), (p8n4, none)], false, (.seq (.reg [⟨(some p8n2), none, (.mv (.c .nils))⟩, ⟨(some p8n3), none, (.mv (.c (.int .i64 (.ofNat 0))))⟩, ⟨(some p8n4), none, (.mv (.c (.int .i64 (.ofNat 0))))⟩]) (.seq (.seq (.reg [⟨(some p8n5), none, (.mv (.c (.int .i64 (.ofNat 0))))⟩]) (.block 0 (.loop (.seq (.seq (.reg [⟨(some p8n10), none, (.mv (.t p8n5))⟩, ⟨(some p8n11), none, (.mv (.t p8n0))⟩, ⟨(some p8n12), none, (.len true (.t p8n11))⟩, ⟨(some p8n13), none, (.bin .lss (.t p8n10) (.t p8n12))⟩]) (.cond (.t p8n13) .skip (.exit 0))) (.seq (.block 1 (.seq (.reg [⟨(some p8n16), none, (.mv (.t p8n0))⟩, ⟨(some p8n17), none, (.mv (.t p8n5))⟩, ⟨(some p8n18), none, (.idxS (.t p8n16) (.t p8n17))⟩, ⟨(some p8n19), none, (.bin .eql (.t p8n18) (.c (.int .u8 (.ofNat 10))))⟩]) (.cond (.t p8n19) (.seq (.reg [⟨(some p8n2), none, (.mv (.c .nils))⟩, ⟨(some p8n3), none, (.mv (.c (.int .i64 (.ofNat 0))))⟩, ⟨(some p8n4), none, (.mv (.c (.int .i64 (.ofNat 3))))⟩]) .ret) .skip))) (.reg [⟨(some p8n14), none, (.mv (.t p8n5))⟩, ⟨(some p8n15), none, (.bin .add (.t p8n14) (.c (.int .i64 (.ofNat 1))))⟩, ⟨(some p8n5), none, (.mv (.t p8n15))⟩])))))) (.seq (.reg [⟨(some p8n6), none, (.mv (.c .nils))⟩]) (.seq (.seq (.reg [⟨(some p8n7), none, (.mv (.c (.int .i64 (.ofNat 0))))⟩]) (.block 2 (.loop (.seq (.seq (.reg [⟨(some p8n20), none, (.mv (.t p8n7))⟩, ⟨(some p8n21), none, (.mv (.t p8n0))⟩, ⟨(some p8n22), none, (.len true (.t p8n21))⟩, ⟨(some p8n23), none, (.bin .lss (.t p8n20) (.t p8n22))⟩, ⟨(some p8n24), none, (.mv (.t p8n23))⟩, ⟨(some p8n25), (some (p8n24, true)), (.mv (.t p8n0))⟩, ⟨(some p8n26), (some (p8n24, true)), (.mv (.t p8n7))⟩, ⟨(some p8n27), (some (p8n24, true)), (.idxS (.t p8n25) (.t p8n26))⟩, ⟨(some p8n28), (some (p8n24, true)), (.bin .neq (.t p8n27) (.c (.int .u8 (.ofNat 59))))⟩, ⟨(some p8n29), none, (.pick (.t p8n24) (.t p8n28) (.c (.bool false)))⟩]) (.cond (.t p8n29) .skip (.exit 2))) (.block 3 (.seq (.seq (.reg [⟨(some p8n30), none, (.mv (.t p8n0))⟩, ⟨(some p8n31), none, (.mv (.t p8n7))⟩, ⟨(some p8n32), none, (.idxS (.t p8n30) (.t p8n31))⟩, ⟨(some p8n33), none, (.bin .eql (.t p8n32) (.c (.int .u8 (.ofNat 32))))⟩, ⟨(some p8n34), none, (.mv (.t p8n33))⟩, ⟨(some p8n35), (some (p8n34, false)), (.mv (.t p8n0))⟩, ⟨(some p8n36), (some (p8n34, false)), (.mv (.t p8n7))⟩, ⟨(some p8n37), (some (p8n34, false)), (.idxS (.t p8n35) (.t p8n36))⟩, ⟨(some p8n38), (some (p8n34, false)), (.bin .eql (.t p8n37) (.c (.int .u8 (.ofNat 9))))⟩, ⟨(some p8n39), none, (.pick (.t p8n34) (.c (.bool true)) (.t p8n38))⟩]) (.cond (.t p8n39) (.seq (.reg [⟨(some p8n40), none, (.mv (.t p8n7))⟩, ⟨(some p8n41), none, (.bin .add (.t p8n40) (.c (.int .i64 (.ofNat 1))))⟩, ⟨(some p8n7), none, (.mv (.t p8n41))⟩]) (.exit 3)) .skip)) (.seq (.reg [⟨(some p8n43), none, (.mv (.t p8n0))⟩, ⟨(some p8n44), none, (.mv (.t p8n7))⟩, ⟨(some p8n45), none, (.slS (.t p8n43) (some (.t p8n44)) none)⟩, ⟨(some p8n46), none, (.call 60 [(.t p8n45)])⟩, ⟨(some p8n42), none, (.mv (.t p8n46))⟩, ⟨(some p8n47), none, (.ext (.t p8n42) 0)⟩, ⟨(some p8n48), none, (.ext (.t p8n42) 1)⟩, ⟨(some p8n8), none, (.alloc [(.int .i64 (.ofNat 0)), (.str []), (.int .i64 (.ofNat 0)), (.int .i64 (.ofNat 0))])⟩, ⟨none, none, (.st 4 (.t p8n8) (.t p8n47))⟩, ⟨(some p8n9), none, (.mv (.t p8n48))⟩]) (.seq (.seq (.reg [⟨(some p8n49), none, (.mv (.t p8n9))⟩, ⟨(some p8n50), none, (.bin .eql (.t p8n49) (.c (.int .i64 (.ofNat 0))))⟩]) (.cond (.t p8n50) (.seq (.reg [⟨(some p8n51), none, (.mv (.t p8n7))⟩, ⟨(some p8n2), none, (.mv (.c .nils))⟩, ⟨(some p8n3), none, (.mv (.t p8n51))⟩, ⟨(some p8n4), none, (.mv (.c (.int .i64 (.ofNat 3))))⟩]) .ret) .skip)) (.seq (.seq (.reg [⟨(some p8n52), none, (.mv (.t p8n6))⟩, ⟨(some p8n53), none, (.len false (.t p8n52))⟩, ⟨(some p8n54), none, (.bin .geq (.t p8n53) (.c (.int .i64 (.ofNat 40))))⟩]) (.cond (.t p8n54) (.seq (.reg [⟨(some p8n55), none, (.mv (.t p8n7))⟩, ⟨(some p8n2), none, (.mv (.c .nils))⟩, ⟨(some p8n3), none, (.mv (.t p8n55))⟩, ⟨(some p8n4), none, (.mv (.c (.int .i64 (.ofNat 2))))⟩]) .ret) .skip)) (.seq (.reg [⟨(some p8n56), none, (.mv (.t p8n7))⟩, ⟨(some p8n57), none, (.faddr 3 (.t p8n8))⟩, ⟨none, none, (.st 1 (.t p8n57) (.t p8n56))⟩]) (.seq (.reg [⟨(some p8n58), none, (.mv (.t p8n6))⟩, ⟨(some p8n59), none, (.ldA 4 (.t p8n8))⟩, ⟨(some p8n60), none, (.buildS 4 1 (.agg [(.int .i64 (.ofNat 0)), (.str []), (.int .i64 (.ofNat 0)), (.int .i64 (.ofNat 0))]) [(0, (.t p8n59))])⟩, ⟨(some p8n61), none, (.app 4 40 (.agg [(.int .i64 (.ofNat 0)), (.str []), (.int .i64 (.ofNat 0)), (.int .i64 (.ofNat 0))]) (.t p8n58) (.t p8n60))⟩, ⟨(some p8n6), none, (.mv (.t p8n61))⟩]) (.reg [⟨(some p8n62), none, (.mv (.t p8n7))⟩, ⟨(some p8n63), none, (.mv (.t p8n9))⟩, ⟨(some p8n64), none, (.bin .add (.t p8n62) (.t p8n63))⟩, ⟨(some p8n7), none, (.mv (.t p8n64))⟩])))))))))))) (.seq (.reg [⟨(some p8n65), none, (.mv (.t p8n6))⟩, ⟨(some p8n2), none, (.mv (.t p8n65))⟩, ⟨(some p8n3), none, (.mv (.c (.int .i64 (.ofNat 0))))⟩, ⟨(some p8n4), none, (.mv (.c (.int .i64 (.ofNat 0))))⟩]) .ret)))))⟩
noncomputable def a49 : AFunc :=
  ⟨4, [p4n0, p4n1], [(p4n4, none)], false, (.seq (.reg [⟨(some p4n4), none, (.mv (.c (.int .i64 (.ofNat 0))))⟩]) (.seq (.reg [⟨(some p4n5), none, (.mv (.t p4n0))⟩, ⟨(some p4n6), none, (.cv (.int .u64) (.t p4n5))⟩, ⟨(some p4n7), none, (.mv (.t p4n1))⟩, ⟨(some p4n8), none, (.cv (.int .u64) (.t p4n7))⟩, ⟨(some p4n9), none, (.bin .rem (.t p4n6) (.t p4n8))⟩, ⟨(some p4n10), none, (.cv (.int .i64) (.t p4n9))⟩, ⟨(some p4n4), none, (.mv (.t p4n10))⟩]) .ret))⟩
noncomputable def a50 : AFunc :=
  ⟨6, [p6n0], [(p6n2, none)], false, (.seq (.reg [⟨(some p6n2), none, (.mv (.c (.bool false)))⟩]) (.seq (.seq (.reg [⟨(some p6n5), none, (.mv (.t p6n0))⟩, ⟨(some p6n6), none, (.len false (.t p6n5))⟩, ⟨(some p6n7), none, (.mv (.c (.int .i64 (.ofNat 0))))⟩]) (.block 0 (.loop (.seq (.reg [⟨(some p6n8), none, (.bin .lss (.t p6n7) (.t p6n6))⟩]) (.seq (.cond (.t p6n8) .skip (.exit 0)) (.seq (.block 1 (.seq (.reg [⟨(some p6n9), none, (.mv (.t p6n7))⟩, ⟨(some p6n10), none, (.iaddr 2 (.t p6n5) (.t p6n7))⟩, ⟨(some p6n11), none, (.ldA 2 (.t p6n10))⟩, ⟨(some p6n4), none, (.alloc [(.str []), (.int .i64 (.ofNat 0))])⟩, ⟨(some p6n3), none, (.mv (.t p6n9))⟩, ⟨none, none, (.st 2 (.t p6n4) (.t p6n11))⟩]) (.seq (.reg [⟨(some p6n12), none, (.faddr 0 (.t p6n4))⟩, ⟨(some p6n13), none, (.ld1 (.t p6n12))⟩, ⟨(some p6n14), none, (.bin .eql (.t p6n13) (.c (.str [])))⟩, ⟨(some p6n15), none, (.mv (.t p6n14))⟩, ⟨(some p6n16), (some (p6n15, false)), (.ldA 2 (.t p6n4))⟩, ⟨(some p6n17), (some (p6n15, false)), (.call 61 [(.t p6n16)])⟩, ⟨(some p6n18), (some (p6n15, false)), (.un .not (.t p6n17))⟩, ⟨(some p6n19), none, (.pick (.t p6n15) (.c (.bool true)) (.t p6n18))⟩, ⟨(some p6n20), none, (.mv (.t p6n19))⟩, ⟨(some p6n21), (some (p6n20, false)), (.mv (.t p6n0))⟩, ⟨(some p6n22), (some (p6n20, false)), (.mv (.t p6n3))⟩, ⟨(some p6n23), (some (p6n20, false)), (.slL 2 (.t p6n21) none (some (.t p6n22)) none)⟩, ⟨(some p6n24), (some (p6n20, false)), (.mkfn 63 [] [(.t p6n4)])⟩, ⟨(some p6n25), (some (p6n20, false)), (.call 62 [(.t p6n23), (.t p6n24)])⟩, ⟨(some p6n26), none, (.pick (.t p6n20) (.c (.bool true)) (.t p6n25))⟩]) (.cond (.t p6n26) (.seq (.reg [⟨(some p6n2), none, (.mv (.c (.bool false)))⟩]) .ret) .skip)))) (.reg [⟨(some p6n27), none, (.bin .add (.t p6n7) (.c (.int .i64 (.ofNat 1))))⟩, ⟨(some p6n7), none, (.mv (.t p6n27))⟩]))))))) (.seq (.reg [⟨(some p6n28), none, (.mv (.t p6n0))⟩, ⟨(some p6n29), none, (.len false (.t p6n28))⟩, ⟨(some p6n30), none, (.bin .leq (.t p6n29) (.c (.int .i64 (.ofNat 60))))⟩, ⟨(some p6n2), none, (.mv (.t p6n30))⟩]) .ret)))⟩
noncomputable def a51 : AFunc :=
  ⟨4, [p4n0], [(p4n2, none)], false, (.seq (.reg [⟨(some p4n2), none, (.mv (.c (.bool false)))⟩]) (.seq (.reg [⟨(some p4n3), none, (.mv (.t p4n0))⟩, ⟨(some p4n4), none, (.len false (.t p4n3))⟩, ⟨(some p4n5), none, (.bin .leq (.t p4n4) (.c (.int .i64 (.ofNat 40))))⟩, ⟨(some p4n6), none, (.mv (.t p4n5))⟩, ⟨(some p4n7), (some (p4n6, true)), (.mv (.t p4n0))⟩, ⟨(some p4n8), (some (p4n6, true)), (.call 64 [(.t p4n7), (.c (.fn 65 [] []))])⟩, ⟨(some p4n9), (some (p4n6, true)), (.un .not (.t p4n8))⟩, ⟨(some p4n10), none, (.pick (.t p4n6) (.t p4n9) (.c (.bool false)))⟩, ⟨(some p4n2), none, (.mv (.t p4n10))⟩]) .ret))⟩
noncomputable def a52 : AFunc :=
  ⟨4, [p4n0], [(p4n2, (some (2, true))), (p4n3, none)], false, (.seq (.reg [⟨(some p4n1), none, (.box (.t p4n0))⟩, ⟨(some p4n2), none, (.alloc [(.str []), (.int .i64 (.ofNat 0))])⟩, ⟨(some p4n3), none, (.mv (.c (.int .i64 (.ofNat 0))))⟩]) (.seq (.reg [⟨(some p4n4), none, (.ld1 (.t p4n1))⟩, ⟨(some p4n5), none, (.ld1 (.t p4n1))⟩, ⟨(some p4n6), none, (.mkfn 68 [(.t p4n5)] [])⟩, ⟨(some p4n7), none, (.mkfn 69 [] [(.t p4n1)])⟩, ⟨(some p4n8), none, (.call 67 [(.t p4n4), (.t p4n6), (.t p4n7)])⟩, ⟨(some p4n9), none, (.ext (.t p4n8) 0)⟩, ⟨(some p4n10), none, (.ext (.t p4n8) 1)⟩, ⟨none, none, (.st 2 (.t p4n2) (.t p4n9))⟩, ⟨(some p4n3), none, (.mv (.t p4n10))⟩]) .ret))⟩
noncomputable def a53 : AFunc :=
  ⟨6, [p6n0], [(p6n2, none)], false, (.seq (.reg [⟨(some p6n2), none, (.mv (.c (.bool false)))⟩]) (.seq (.seq (.reg [⟨(some p6n4), none, (.mv (.t p6n0))⟩, ⟨(some p6n5), none, (.len true (.t p6n4))⟩, ⟨(some p6n6), none, (.bin .eql (.t p6n5) (.c (.int .i64 (.ofNat 0))))⟩, ⟨(some p6n7), none, (.mv (.t p6n6))⟩, ⟨(some p6n8), (some (p6n7, false)), (.mv (.t p6n0))⟩, ⟨(some p6n9), (some (p6n7, false)), (.len true (.t p6n8))⟩, ⟨(some p6n10), (some (p6n7, false)), (.bin .gtr (.t p6n9) (.c (.int .i64 (.ofNat 12))))⟩, ⟨(some p6n11), none, (.pick (.t p6n7) (.c (.bool true)) (.t p6n10))⟩, ⟨(some p6n12), none, (.mv (.t p6n11))⟩, ⟨(some p6n13), (some (p6n12, false)), (.mv (.t p6n0))⟩, ⟨(some p6n14), (some (p6n12, false)), (.idxS (.t p6n13) (.c (.int .i64 (.ofNat 0))))⟩, ⟨(some p6n15), (some (p6n12, false)), (.bin .geq (.t p6n14) (.c (.int .u8 (.ofNat 48))))⟩, ⟨(some p6n16), (some (p6n12, false)), (.mv (.t p6n15))⟩, ⟨(some p6n17), (some (p6n16, true)), (.mv (.t p6n0))⟩, ⟨(some p6n18), (some (p6n16, true)), (.idxS (.t p6n17) (.c (.int .i64 (.ofNat 0))))⟩, ⟨(some p6n19), (some (p6n16, true)), (.bin .leq (.t p6n18) (.c (.int .u8 (.ofNat 57))))⟩, ⟨(some p6n20), (some (p6n12, false)), (.pick (.t p6n16) (.t p6n19) (.c (.bool false)))⟩, ⟨(some p6n21), none, (.pick (.t p6n12) (.c (.bool true)) (.t p6n20))⟩]) (.cond (.t p6n21) (.seq (.reg [⟨(some p6n2), none, (.mv (.c (.bool false)))⟩]) .ret) .skip)) (.seq (.seq (.reg [⟨(some p6n3), none, (.mv (.c (.int .i64 (.ofNat 0))))⟩]) (.block 0 (.loop (.seq (.seq (.reg [⟨(some p6n22), none, (.mv (.t p6n3))⟩, ⟨(some p6n23), none, (.mv (.t p6n0))⟩, ⟨(some p6n24), none, (.len true (.t p6n23))⟩, ⟨(some p6n25), none, (.bin .lss (.t p6n22) (.t p6n24))⟩]) (.cond (.t p6n25) .skip (.exit 0))) (.seq (.block 1 (.seq (.reg [⟨(some p6n28), none, (.mv (.t p6n0))⟩, ⟨(some p6n29), none, (.mv (.t p6n3))⟩, ⟨(some p6n30), none, (.idxS (.t p6n28) (.t p6n29))⟩, ⟨(some p6n31), none, (.bin .geq (.t p6n30) (.c (.int .u8 (.ofNat 97))))⟩, ⟨(some p6n32), none, (.mv (.t p6n31))⟩, ⟨(some p6n33), (some (p6n32, true)), (.mv (.t p6n0))⟩, ⟨(some p6n34), (some (p6n32, true)), (.mv (.t p6n3))⟩, ⟨(some p6n35), (some (p6n32, true)), (.idxS (.t p6n33) (.t p6n34))⟩, ⟨(some p6n36), (some (p6n32, true)), (.bin .leq (.t p6n35) (.c (.int .u8 (.ofNat 122))))⟩, ⟨(some p6n37), none, (.pick (.t p6n32) (.t p6n36) (.c (.bool false)))⟩, ⟨(some p6n38), none, (.mv (.t p6n37))⟩, ⟨(some p6n39), (some (p6n38, false)), (.mv (.t p6n0))⟩, ⟨(some p6n40), (some (p6n38, false)), (.mv (.t p6n3))⟩, ⟨(some p6n41), (some (p6n38, false)), (.idxS (.t p6n39) (.t p6n40))⟩, ⟨(some p6n42), (some (p6n38, false)), (.bin .eql (.t p6n41) (.c (.int .u8 (.ofNat 95))))⟩, ⟨(some p6n43), none, (.pick (.t p6n38) (.c (.bool true)) (.t p6n42))⟩, ⟨(some p6n44), none, (.mv (.t p6n43))⟩, ⟨(some p6n45), (some (p6n44, false)), (.mv (.t p6n0))⟩, ⟨(some p6n46), (some (p6n44, false)), (.mv (.t p6n3))⟩, ⟨(some p6n47), (some (p6n44, false)), (.idxS (.t p6n45) (.t p6n46))⟩, ⟨(some p6n48), (some (p6n44, false)), (.bin .geq (.t p6n47) (.c (.int .u8 (.ofNat 48))))⟩, ⟨(some p6n49), (some (p6n44, false)), (.mv (.t p6n48))⟩, ⟨(some p6n50), (some (p6n49, true)), (.mv (.t p6n0))⟩, ⟨(some p6n51), (some (p6n49, true)), (.mv (.t p6n3))⟩, ⟨(some p6n52), (some (p6n49, true)), (.idxS (.t p6n50) (.t p6n51))⟩, ⟨(some p6n53), (some (p6n49, true)), (.bin .leq (.t p6n52) (.c (.int .u8 (.ofNat 57))))⟩, ⟨(some p6n54), (some (p6n44, false)), (.pick (.t p6n49) (.t p6n53) (.c (.bool false)))⟩, ⟨(some p6n55), none, (.pick (.t p6n44) (.c (.bool true)) (.t p6n54))⟩, ⟨(some p6n56), none, (.un .not (.t p6n55))⟩]) (.cond (.t p6n56) (.seq (.reg [⟨(some p6n2), none, (.mv (.c (.bool false)))⟩]) .ret) .skip))) (.reg [⟨(some p6n26), none, (.mv (.t p6n3))⟩, ⟨(some p6n27), none, (.bin .add (.t p6n26) (.c (.int .i64 (.ofNat 1))))⟩, ⟨(some p6n3), none, (.mv (.t p6n27))⟩])))))) (.seq (.reg [⟨(some p6n2), none, (.mv (.c (.bool true)))⟩]) .ret))))⟩
noncomputable def a54 : AFunc :=
  ⟨4, [p4n0], [(p4n2, none)], false, (.seq (.reg [⟨(some p4n2), none, (.mv (.c (.bool false)))⟩]) (.seq (.reg [⟨(some p4n3), none, (.mv (.t p4n0))⟩, ⟨(some p4n4), none, (.call 46 [(.t p4n3), (.c (.int .i64 (.negSucc 2147483647))), (.c (.int .i64 (.ofNat 2147483648)))])⟩, ⟨(some p4n2), none, (.mv (.t p4n4))⟩]) .ret))⟩
noncomputable def a55 : AFunc :=
  ⟨6, [p6n0, p6n1], [(p6n4, none)], false, (.seq (.reg [⟨(some p6n4), none, (.mv (.c (.int .i64 (.ofNat 0))))⟩]) (.seq (.seq (.reg [⟨(some p6n5), none, (.mv (.c (.int .i64 (.ofNat 0))))⟩]) (.block 0 (.loop (.seq (.seq (.reg [⟨(some p6n6), none, (.mv (.t p6n5))⟩, ⟨(some p6n7), none, (.mv (.t p6n0))⟩, ⟨(some p6n8), none, (.len false (.t p6n7))⟩, ⟨(some p6n9), none, (.bin .lss (.t p6n6) (.t p6n8))⟩]) (.cond (.t p6n9) .skip (.exit 0))) (.seq (.block 1 (.seq (.reg [⟨(some p6n12), none, (.mv (.t p6n0))⟩, ⟨(some p6n13), none, (.mv (.t p6n5))⟩, ⟨(some p6n14), none, (.iaddr 2 (.t p6n12) (.t p6n13))⟩, ⟨(some p6n15), none, (.faddr 0 (.t p6n14))⟩, ⟨(some p6n16), none, (.ld1 (.t p6n15))⟩, ⟨(some p6n17), none, (.mv (.t p6n1))⟩, ⟨(some p6n18), none, (.bin .eql (.t p6n16) (.t p6n17))⟩]) (.cond (.t p6n18) (.seq (.reg [⟨(some p6n19), none, (.mv (.t p6n5))⟩, ⟨(some p6n4), none, (.mv (.t p6n19))⟩]) .ret) .skip))) (.reg [⟨(some p6n10), none, (.mv (.t p6n5))⟩, ⟨(some p6n11), none, (.bin .add (.t p6n10) (.c (.int .i64 (.ofNat 1))))⟩, ⟨(some p6n5), none, (.mv (.t p6n11))⟩])))))) (.seq (.reg [⟨(some p6n4), none, (.mv (.c (.int .i64 (.negSucc 0))))⟩]) .ret)))⟩
noncomputable def a56 : AFunc :=
  ⟨8, [p8n0], [(p8n2, none)], false, (.seq (.reg [⟨(some p8n1), none, (.box (.t p8n0))⟩, ⟨(some p8n2), none, (.mv (.c (.bool false)))⟩]) (.seq (.seq (.reg [⟨(some p8n5), none, (.faddr 0 (.t p8n1))⟩, ⟨(some p8n6), none, (.ld1 (.t p8n5))⟩]) (.block 0 (.seq (.reg [⟨(some p8n8), none, (.bin .eql (.t p8n6) (.c (.int .i64 (.ofNat 2))))⟩, ⟨(some p8n7), none, (.mv (.t p8n8))⟩]) (.cond (.t p8n7) (.seq (.reg [⟨(some p8n9), none, (.faddr 1 (.t p8n1))⟩, ⟨(some p8n10), none, (.ld1 (.t p8n9))⟩, ⟨(some p8n11), none, (.bin .eql (.t p8n10) (.c (.str [])))⟩, ⟨(some p8n12), none, (.mv (.t p8n11))⟩, ⟨(some p8n13), (some (p8n12, true)), (.faddr 2 (.t p8n1))⟩, ⟨(some p8n14), (some (p8n12, true)), (.ld1 (.t p8n13))⟩, ⟨(some p8n15), (some (p8n12, true)), (.bin .geq (.t p8n14) (.c (.int .i64 (.ofNat 0))))⟩, ⟨(some p8n16), none, (.pick (.t p8n12) (.t p8n15) (.c (.bool false)))⟩, ⟨(some p8n17), none, (.mv (.t p8n16))⟩, ⟨(some p8n18), (some (p8n17, true)), (.faddr 2 (.t p8n1))⟩, ⟨(some p8n19), (some (p8n17, true)), (.ld1 (.t p8n18))⟩, ⟨(some p8n20), (some (p8n17, true)), (.bin .lss (.t p8n19) (.c (.int .i64 (.ofNat 2147483648))))⟩, ⟨(some p8n21), none, (.pick (.t p8n17) (.t p8n20) (.c (.bool false)))⟩, ⟨(some p8n2), none, (.mv (.t p8n21))⟩]) .ret) (.seq (.seq (.reg [⟨(some p8n23), none, (.bin .eql (.t p8n6) (.c (.int .i64 (.ofNat 1))))⟩, ⟨(some p8n22), none, (.mv (.t p8n23))⟩]) (.cond (.t p8n22) .skip (.reg [⟨(some p8n24), none, (.bin .eql (.t p8n6) (.c (.int .i64 (.ofNat 3))))⟩, ⟨(some p8n22), none, (.mv (.t p8n24))⟩]))) (.cond (.t p8n22) (.seq (.seq (.reg [⟨(some p8n25), none, (.faddr 2 (.t p8n1))⟩, ⟨(some p8n26), none, (.ld1 (.t p8n25))⟩, ⟨(some p8n27), none, (.bin .neq (.t p8n26) (.c (.int .i64 (.ofNat 0))))⟩, ⟨(some p8n28), none, (.mv (.t p8n27))⟩, ⟨(some p8n29), (some (p8n28, false)), (.faddr 1 (.t p8n1))⟩, ⟨(some p8n30), (some (p8n28, false)), (.ld1 (.t p8n29))⟩, ⟨(some p8n31), (some (p8n28, false)), (.bin .eql (.t p8n30) (.c (.str [])))⟩, ⟨(some p8n32), none, (.pick (.t p8n28) (.c (.bool true)) (.t p8n31))⟩, ⟨(some p8n33), none, (.mv (.t p8n32))⟩, ⟨(some p8n34), (some (p8n33, false)), (.faddr 1 (.t p8n1))⟩, ⟨(some p8n35), (some (p8n33, false)), (.ld1 (.t p8n34))⟩, ⟨(some p8n36), (some (p8n33, false)), (.bin .eql (.t p8n35) (.c (.str [59])))⟩, ⟨(some p8n37), none, (.pick (.t p8n33) (.c (.bool true)) (.t p8n36))⟩, ⟨(some p8n38), none, (.mv (.t p8n37))⟩, ⟨(some p8n39), (some (p8n38, false)), (.faddr 1 (.t p8n1))⟩, ⟨(some p8n40), (some (p8n38, false)), (.ld1 (.t p8n39))⟩, ⟨(some p8n41), (some (p8n38, false)), (.idxS (.t p8n40) (.c (.int .i64 (.ofNat 0))))⟩, ⟨(some p8n42), (some (p8n38, false)), (.bin .eql (.t p8n41) (.c (.int .u8 (.ofNat 32))))⟩, ⟨(some p8n43), none, (.pick (.t p8n38) (.c (.bool true)) (.t p8n42))⟩, ⟨(some p8n44), none, (.mv (.t p8n43))⟩, ⟨(some p8n45), (some (p8n44, false)), (.faddr 1 (.t p8n1))⟩, ⟨(some p8n46), (some (p8n44, false)), (.ld1 (.t p8n45))⟩, ⟨(some p8n47), (some (p8n44, false)), (.idxS (.t p8n46) (.c (.int .i64 (.ofNat 0))))⟩, ⟨(some p8n48), (some (p8n44, false)), (.bin .eql (.t p8n47) (.c (.int .u8 (.ofNat 9))))⟩, ⟨(some p8n49), none, (.pick (.t p8n44) (.c (.bool true)) (.t p8n48))⟩]) (.cond (.t p8n49) (.seq (.reg [⟨(some p8n2), none, (.mv (.c (.bool false)))⟩]) .ret) .skip)) (.seq (.reg [⟨(some p8n51), none, (.faddr 1 (.t p8n1))⟩, ⟨(some p8n52), none, (.ld1 (.t p8n51))⟩, ⟨(some p8n53), none, (.call 60 [(.t p8n52)])⟩, ⟨(some p8n50), none, (.mv (.t p8n53))⟩, ⟨(some p8n54), none, (.ext (.t p8n50) 0)⟩, ⟨(some p8n55), none, (.ext (.t p8n50) 1)⟩, ⟨(some p8n3), none, (.alloc [(.int .i64 (.ofNat 0)), (.str []), (.int .i64 (.ofNat 0)), (.int .i64 (.ofNat 0))])⟩, ⟨none, none, (.st 4 (.t p8n3) (.t p8n54))⟩, ⟨(some p8n4), none, (.mv (.t p8n55))⟩]) (.seq (.reg [⟨(some p8n56), none, (.mv (.t p8n4))⟩, ⟨(some p8n57), none, (.faddr 1 (.t p8n1))⟩, ⟨(some p8n58), none, (.ld1 (.t p8n57))⟩, ⟨(some p8n59), none, (.len true (.t p8n58))⟩, ⟨(some p8n60), none, (.bin .eql (.t p8n56) (.t p8n59))⟩, ⟨(some p8n61), none, (.mv (.t p8n60))⟩, ⟨(some p8n62), (some (p8n61, true)), (.faddr 0 (.t p8n3))⟩, ⟨(some p8n63), (some (p8n61, true)), (.ld1 (.t p8n62))⟩, ⟨(some p8n64), (some (p8n61, true)), (.faddr 0 (.t p8n1))⟩, ⟨(some p8n65), (some (p8n61, true)), (.ld1 (.t p8n64))⟩, ⟨(some p8n66), (some (p8n61, true)), (.bin .eql (.t p8n63) (.t p8n65))⟩, ⟨(some p8n67), none, (.pick (.t p8n61) (.t p8n66) (.c (.bool false)))⟩, ⟨(some p8n2), none, (.mv (.t p8n67))⟩]) .ret))) .skip)))))) (.seq (.reg [⟨(some p8n2), none, (.mv (.c (.bool false)))⟩]) .ret)))⟩
noncomputable def a57 : AFunc :=
  ⟨6, [p6n0, p6n1], [(p6n4, (some (2, true)))], false, (.seq (.reg [⟨(some p6n4), none, (.alloc [(.str []), (.int .i64 (.ofNat 0))])⟩]) (.seq (.reg [⟨(some p6n10), none, (.mv (.t p6n0))⟩, ⟨(some p6n11), none, (.mv (.t p6n1))⟩, ⟨(some p6n12), none, (.call 73 [(.t p6n10), (.t p6n11)])⟩, ⟨(some p6n5), none, (.alloc [(.str []), (.int .i64 (.ofNat 0))])⟩, ⟨none, none, (.st 2 (.t p6n5) (.t p6n12))⟩]) (.seq (.block 0 (.loop (.seq (.seq (.reg [⟨(some p6n13), none, (.mv (.t p6n0))⟩, ⟨(some p6n14), none, (.call 74 [(.t p6n13), (.c (.str [43]))])⟩, ⟨(some p6n15), none, (.mv (.t p6n14))⟩, ⟨(some p6n16), (some (p6n15, false)), (.mv (.t p6n0))⟩, ⟨(some p6n17), (some (p6n15, false)), (.call 74 [(.t p6n16), (.c (.str [45]))])⟩, ⟨(some p6n18), none, (.pick (.t p6n15) (.c (.bool true)) (.t p6n17))⟩]) (.cond (.t p6n18) .skip (.exit 0))) (.block 1 (.seq (.reg [⟨(some p6n19), none, (.mv (.t p6n0))⟩, ⟨(some p6n20), none, (.call 74 [(.t p6n19), (.c (.str [45]))])⟩, ⟨(some p6n6), none, (.mv (.t p6n20))⟩]) (.seq (.reg [⟨(some p6n21), none, (.mv (.t p6n0))⟩, ⟨(some p6n22), none, (.nilck (.t p6n21))⟩, ⟨(some p6n23), none, (.faddr 2 (.t p6n22))⟩, ⟨(some p6n24), none, (.ld1 (.t p6n23))⟩, ⟨(some p6n25), none, (.bin .add (.t p6n24) (.c (.int .i64 (.ofNat 1))))⟩, ⟨(some p6n26), none, (.nilck (.t p6n21))⟩, ⟨(some p6n27), none, (.faddr 2 (.t p6n26))⟩, ⟨none, none, (.st 1 (.t p6n27) (.t p6n25))⟩]) (.seq (.reg [⟨(some p6n28), none, (.mv (.t p6n0))⟩, ⟨(some p6n29), none, (.mv (.t p6n1))⟩, ⟨(some p6n30), none, (.call 73 [(.t p6n28), (.t p6n29)])⟩, ⟨(some p6n7), none, (.alloc [(.str []), (.int .i64 (.ofNat 0))])⟩, ⟨none, none, (.st 2 (.t p6n7) (.t p6n30))⟩]) (.seq (.seq (.reg [⟨(some p6n31), none, (.mv (.t p6n0))⟩, ⟨(some p6n32), none, (.nilck (.t p6n31))⟩, ⟨(some p6n33), none, (.faddr 3 (.t p6n32))⟩, ⟨(some p6n34), none, (.ld1 (.t p6n33))⟩, ⟨(some p6n35), none, (.bin .neq (.t p6n34) (.c (.int .i64 (.ofNat 0))))⟩]) (.cond (.t p6n35) (.exit 0) .skip)) (.seq (.reg [⟨(some p6n37), none, (.ldA 2 (.t p6n5))⟩, ⟨(some p6n38), none, (.ldA 2 (.t p6n7))⟩, ⟨(some p6n39), none, (.mv (.t p6n6))⟩, ⟨(some p6n40), none, (.call 75 [(.t p6n37), (.t p6n38), (.t p6n39)])⟩, ⟨(some p6n36), none, (.mv (.t p6n40))⟩, ⟨(some p6n41), none, (.ext (.t p6n36) 0)⟩, ⟨(some p6n42), none, (.ext (.t p6n36) 1)⟩, ⟨(some p6n8), none, (.alloc [(.str []), (.int .i64 (.ofNat 0))])⟩, ⟨none, none, (.st 2 (.t p6n8) (.t p6n41))⟩, ⟨(some p6n9), none, (.mv (.t p6n42))⟩]) (.seq (.seq (.reg [⟨(some p6n43), none, (.mv (.t p6n9))⟩, ⟨(some p6n44), none, (.bin .neq (.t p6n43) (.c (.int .i64 (.ofNat 0))))⟩]) (.cond (.t p6n44) (.seq (.reg [⟨(some p6n45), none, (.mv (.t p6n0))⟩, ⟨(some p6n46), none, (.mv (.t p6n9))⟩, ⟨(some p6n47), none, (.call 76 [(.t p6n45), (.t p6n46)])⟩, ⟨none, none, (.st 2 (.t p6n4) (.t p6n47))⟩]) .ret) .skip)) (.reg [⟨(some p6n48), none, (.ldA 2 (.t p6n8))⟩, ⟨none, none, (.st 2 (.t p6n5) (.t p6n48))⟩]))))))))))) (.seq (.reg [⟨(some p6n49), none, (.ldA 2 (.t p6n5))⟩, ⟨none, none, (.st 2 (.t p6n4) (.t p6n49))⟩]) .ret))))⟩
noncomputable def a58 : AFunc :=
  ⟨6, [p6n0], [(p6n2, none)], false, (.seq (.reg [⟨(some p6n2), none, (.mv (.c (.int .i64 (.ofNat 0))))⟩]) (.seq (.reg [⟨(some p6n5), none, (.mv (.t p6n0))⟩, ⟨(some p6n6), none, (.len false (.t p6n5))⟩, ⟨(some p6n3), none, (.mv (.t p6n6))⟩]) (.seq (.seq (.reg [⟨(some p6n4), none, (.mv (.c (.int .i64 (.ofNat 0))))⟩]) (.block 0 (.loop (.seq (.seq (.reg [⟨(some p6n7), none, (.mv (.t p6n4))⟩, ⟨(some p6n8), none, (.mv (.t p6n0))⟩, ⟨(some p6n9), none, (.len false (.t p6n8))⟩, ⟨(some p6n10), none, (.bin .lss (.t p6n7) (.t p6n9))⟩, ⟨(some p6n11), none, (.mv (.t p6n10))⟩, ⟨(some p6n12), (some (p6n11, true)), (.mv (.t p6n3))⟩, ⟨(some p6n13), (some (p6n11, true)), (.bin .lss (.t p6n12) (.c (.int .i64 (.ofNat 1048576))))⟩, ⟨(some p6n14), none, (.pick (.t p6n11) (.t p6n13) (.c (.bool false)))⟩]) (.cond (.t p6n14) .skip (.exit 0))) (.seq (.block 1 (.reg [⟨(some p6n17), none, (.mv (.t p6n3))⟩, ⟨(some p6n18), none, (.mv (.t p6n0))⟩, ⟨(some p6n19), none, (.mv (.t p6n4))⟩, ⟨(some p6n20), none, (.iaddr 1 (.t p6n18) (.t p6n19))⟩, ⟨(some p6n21), none, (.ld1 (.t p6n20))⟩, ⟨(some p6n22), none, (.len true (.t p6n21))⟩, ⟨(some p6n23), none, (.bin .add (.t p6n17) (.t p6n22))⟩, ⟨(some p6n3), none, (.mv (.t p6n23))⟩])) (.reg [⟨(some p6n15), none, (.mv (.t p6n4))⟩, ⟨(some p6n16), none, (.bin .add (.t p6n15) (.c (.int .i64 (.ofNat 1))))⟩, ⟨(some p6n4), none, (.mv (.t p6n16))⟩])))))) (.seq (.reg [⟨(some p6n24), none, (.mv (.t p6n3))⟩, ⟨(some p6n2), none, (.mv (.t p6n24))⟩]) .ret))))⟩
noncomputable def a59 : AFunc :=
  ⟨6, [p6n0], [(p6n2, none)], false, (.seq (.reg [⟨(some p6n2), none, (.mv (.c (.int .i64 (.ofNat 0))))⟩]) (.seq (.reg [⟨(some p6n5), none, (.mv (.t p6n0))⟩, ⟨(some p6n6), none, (.len false (.t p6n5))⟩, ⟨(some p6n3), none, (.mv (.t p6n6))⟩]) (.seq (.seq (.reg [⟨(some p6n4), none, (.mv (.c (.int .i64 (.ofNat 0))))⟩]) (.block 0 (.loop (.seq (.seq (.reg [⟨(some p6n7), none, (.mv (.t p6n4))⟩, ⟨(some p6n8), none, (.mv (.t p6n0))⟩, ⟨(some p6n9), none, (.len false (.t p6n8))⟩, ⟨(some p6n10), none, (.bin .lss (.t p6n7) (.t p6n9))⟩, ⟨(some p6n11), none, (.mv (.t p6n10))⟩, ⟨(some p6n12), (some (p6n11, true)), (.mv (.t p6n3))⟩, ⟨(some p6n13), (some (p6n11, true)), (.bin .lss (.t p6n12) (.c (.int .i64 (.ofNat 1048576))))⟩, ⟨(some p6n14), none, (.pick (.t p6n11) (.t p6n13) (.c (.bool false)))⟩]) (.cond (.t p6n14) .skip (.exit 0))) (.seq (.block 1 (.reg [⟨(some p6n17), none, (.mv (.t p6n3))⟩, ⟨(some p6n18), none, (.mv (.t p6n0))⟩, ⟨(some p6n19), none, (.mv (.t p6n4))⟩, ⟨(some p6n20), none, (.iaddr 4 (.t p6n18) (.t p6n19))⟩, ⟨(some p6n21), none, (.faddr 1 (.t p6n20))⟩, ⟨(some p6n22), none, (.ld1 (.t p6n21))⟩, ⟨(some p6n23), none, (.len true (.t p6n22))⟩, ⟨(some p6n24), none, (.bin .quo (.t p6n23) (.c (.int .i64 (.ofNat 4))))⟩, ⟨(some p6n25), none, (.bin .add (.t p6n17) (.t p6n24))⟩, ⟨(some p6n3), none, (.mv (.t p6n25))⟩])) (.reg [⟨(some p6n15), none, (.mv (.t p6n4))⟩, ⟨(some p6n16), none, (.bin .add (.t p6n15) (.c (.int .i64 (.ofNat 1))))⟩, ⟨(some p6n4), none, (.mv (.t p6n16))⟩])))))) (.seq (.reg [⟨(some p6n26), none, (.mv (.t p6n3))⟩, ⟨(some p6n2), none, (.mv (.t p6n26))⟩]) .ret))))⟩
noncomputable def a60 : AFunc :=
  ⟨8, [p8n0], [(p8n2, (some (4, true))), (p8n3, none)], false, (.seq (.reg [⟨(some p8n2), none, (.alloc [(.int .i64 (.ofNat 0)), (.str []), (.int .i64 (.ofNat 0)), (.int .i64 (.ofNat 0))])⟩, ⟨(some p8n3), none, (.mv (.c (.int .i64 (.ofNat 0))))⟩]) (.seq (.reg [⟨(some p8n4), none, (.mv (.c (.int .i64 (.ofNat 0))))⟩]) (.seq (.reg [⟨(some p8n12), none, (.mv (.t p8n0))⟩, ⟨(some p8n13), none, (.idxS (.t p8n12) (.c (.int .i64 (.ofNat 0))))⟩, ⟨(some p8n5), none, (.mv (.t p8n13))⟩]) (.seq (.block 0 (.seq (.reg [⟨(some p8n15), none, (.mv (.t p8n5))⟩, ⟨(some p8n16), none, (.call 77 [(.t p8n15)])⟩, ⟨(some p8n14), none, (.mv (.t p8n16))⟩]) (.cond (.t p8n14) (.seq (.block 1 (.loop (.seq (.seq (.reg [⟨(some p8n17), none, (.mv (.t p8n4))⟩, ⟨(some p8n18), none, (.mv (.t p8n0))⟩, ⟨(some p8n19), none, (.len true (.t p8n18))⟩, ⟨(some p8n20), none, (.bin .lss (.t p8n17) (.t p8n19))⟩, ⟨(some p8n21), none, (.mv (.t p8n20))⟩, ⟨(some p8n22), (some (p8n21, true)), (.mv (.t p8n0))⟩, ⟨(some p8n23), (some (p8n21, true)), (.mv (.t p8n4))⟩, ⟨(some p8n24), (some (p8n21, true)), (.idxS (.t p8n22) (.t p8n23))⟩, ⟨(some p8n25), (some (p8n21, true)), (.call 77 [(.t p8n24)])⟩, ⟨(some p8n26), (some (p8n21, true)), (.mv (.t p8n25))⟩, ⟨(some p8n27), (some (p8n26, false)), (.mv (.t p8n0))⟩, ⟨(some p8n28), (some (p8n26, false)), (.mv (.t p8n4))⟩, ⟨(some p8n29), (some (p8n26, false)), (.idxS (.t p8n27) (.t p8n28))⟩, ⟨(some p8n30), (some (p8n26, false)), (.call 78 [(.t p8n29)])⟩, ⟨(some p8n31), (some (p8n21, true)), (.pick (.t p8n26) (.c (.bool true)) (.t p8n30))⟩, ⟨(some p8n32), none, (.pick (.t p8n21) (.t p8n31) (.c (.bool false)))⟩]) (.cond (.t p8n32) .skip (.exit 1))) (.block 2 (.reg [⟨(some p8n33), none, (.mv (.t p8n4))⟩, ⟨(some p8n34), none, (.bin .add (.t p8n33) (.c (.int .i64 (.ofNat 1))))⟩, ⟨(some p8n4), none, (.mv (.t p8n34))⟩]))))) (.seq (.seq (.reg [⟨(some p8n35), none, (.mv (.t p8n4))⟩, ⟨(some p8n36), none, (.bin .gtr (.t p8n35) (.c (.int .i64 (.ofNat 12))))⟩]) (.cond (.t p8n36) (.seq (.reg [⟨(some p8n37), none, (.build [(.int .i64 (.ofNat 0)), (.str []), (.int .i64 (.ofNat 0)), (.int .i64 (.ofNat 0))] [])⟩, ⟨none, none, (.st 4 (.t p8n2) (.t p8n37))⟩, ⟨(some p8n3), none, (.mv (.c (.int .i64 (.ofNat 0))))⟩]) .ret) .skip)) (.seq (.reg [⟨(some p8n38), none, (.mv (.t p8n0))⟩, ⟨(some p8n39), none, (.mv (.t p8n4))⟩, ⟨(some p8n40), none, (.slS (.t p8n38) none (some (.t p8n39)))⟩, ⟨(some p8n41), none, (.build [(.int .i64 (.ofNat 0)), (.str []), (.int .i64 (.ofNat 0)), (.int .i64 (.ofNat 0))] [(0, (1, (.c (.int .i64 (.ofNat 1))))), (1, (1, (.t p8n40)))])⟩, ⟨(some p8n42), none, (.mv (.t p8n4))⟩, ⟨none, none, (.st 4 (.t p8n2) (.t p8n41))⟩, ⟨(some p8n3), none, (.mv (.t p8n42))⟩]) .ret))) (.seq (.reg [⟨(some p8n44), none, (.mv (.t p8n5))⟩, ⟨(some p8n45), none, (.call 78 [(.t p8n44)])⟩, ⟨(some p8n43), none, (.mv (.t p8n45))⟩]) (.cond (.t p8n43) (.seq (.reg [⟨(some p8n6), none, (.mv (.c (.int .i64 (.ofNat 10))))⟩, ⟨(some p8n7), none, (.mv (.c (.int .i64 (.ofNat 0))))⟩]) (.seq (.seq (.reg [⟨(some p8n46), none, (.mv (.t p8n0))⟩, ⟨(some p8n47), none, (.len true (.t p8n46))⟩, ⟨(some p8n48), none, (.bin .gtr (.t p8n47) (.c (.int .i64 (.ofNat 1))))⟩, ⟨(some p8n49), none, (.mv (.t p8n48))⟩, ⟨(some p8n50), (some (p8n49, true)), (.mv (.t p8n0))⟩, ⟨(some p8n51), (some (p8n49, true)), (.slS (.t p8n50) none (some (.c (.int .i64 (.ofNat 2)))))⟩, ⟨(some p8n52), (some (p8n49, true)), (.bin .eql (.t p8n51) (.c (.str [48, 120])))⟩, ⟨(some p8n53), none, (.pick (.t p8n49) (.t p8n52) (.c (.bool false)))⟩]) (.cond (.t p8n53) (.reg [⟨(some p8n6), none, (.mv (.c (.int .i64 (.ofNat 16))))⟩, ⟨(some p8n7), none, (.mv (.c (.int .i64 (.ofNat 2))))⟩, ⟨(some p8n4), none, (.mv (.c (.int .i64 (.ofNat 2))))⟩]) .skip)) (.seq (.block 3 (.loop (.seq (.seq (.reg [⟨(some p8n54), none, (.mv (.t p8n4))⟩, ⟨(some p8n55), none, (.mv (.t p8n0))⟩, ⟨(some p8n56), none, (.len true (.t p8n55))⟩, ⟨(some p8n57), none, (.bin .lss (.t p8n54) (.t p8n56))⟩, ⟨(some p8n58), none, (.mv (.t p8n57))⟩, ⟨(some p8n59), (some (p8n58, true)), (.mv (.t p8n0))⟩, ⟨(some p8n60), (some (p8n58, true)), (.mv (.t p8n4))⟩, ⟨(some p8n61), (some (p8n58, true)), (.idxS (.t p8n59) (.t p8n60))⟩, ⟨(some p8n62), (some (p8n58, true)), (.call 78 [(.t p8n61)])⟩, ⟨(some p8n63), (some (p8n58, true)), (.mv (.t p8n62))⟩, ⟨(some p8n64), (some (p8n63, false)), (.mv (.t p8n6))⟩, ⟨(some p8n65), (some (p8n63, false)), (.bin .eql (.t p8n64) (.c (.int .i64 (.ofNat 16))))⟩, ⟨(some p8n66), (some (p8n63, false)), (.mv (.t p8n65))⟩, ⟨(some p8n67), (some (p8n66, true)), (.mv (.t p8n0))⟩, ⟨(some p8n68), (some (p8n66, true)), (.mv (.t p8n4))⟩, ⟨(some p8n69), (some (p8n66, true)), (.idxS (.t p8n67) (.t p8n68))⟩, ⟨(some p8n70), (some (p8n66, true)), (.call 79 [(.t p8n69)])⟩, ⟨(some p8n71), (some (p8n63, false)), (.pick (.t p8n66) (.t p8n70) (.c (.bool false)))⟩, ⟨(some p8n72), (some (p8n58, true)), (.pick (.t p8n63) (.c (.bool true)) (.t p8n71))⟩, ⟨(some p8n73), none, (.pick (.t p8n58) (.t p8n72) (.c (.bool false)))⟩]) (.cond (.t p8n73) .skip (.exit 3))) (.block 4 (.reg [⟨(some p8n74), none, (.mv (.t p8n4))⟩, ⟨(some p8n75), none, (.bin .add (.t p8n74) (.c (.int .i64 (.ofNat 1))))⟩, ⟨(some p8n4), none, (.mv (.t p8n75))⟩]))))) (.seq (.reg [⟨(some p8n77), none, (.mv (.t p8n0))⟩, ⟨(some p8n78), none, (.mv (.t p8n7))⟩, ⟨(some p8n79), none, (.mv (.t p8n4))⟩, ⟨(some p8n80), none, (.slS (.t p8n77) (some (.t p8n78)) (some (.t p8n79)))⟩, ⟨(some p8n81), none, (.mv (.t p8n6))⟩, ⟨(some p8n82), none, (.call 80 [(.t p8n80), (.t p8n81)])⟩, ⟨(some p8n76), none, (.mv (.t p8n82))⟩, ⟨(some p8n83), none, (.ext (.t p8n76) 0)⟩, ⟨(some p8n84), none, (.ext (.t p8n76) 1)⟩, ⟨(some p8n8), none, (.mv (.t p8n83))⟩, ⟨(some p8n9), none, (.mv (.t p8n84))⟩]) (.seq (.seq (.reg [⟨(some p8n85), none, (.mv (.t p8n9))⟩, ⟨(some p8n86), none, (.un .not (.t p8n85))⟩, ⟨(some p8n87), none, (.mv (.t p8n86))⟩, ⟨(some p8n88), (some (p8n87, false)), (.mv (.t p8n4))⟩, ⟨(some p8n89), (some (p8n87, false)), (.mv (.t p8n7))⟩, ⟨(some p8n90), (some (p8n87, false)), (.bin .eql (.t p8n88) (.t p8n89))⟩, ⟨(some p8n91), none, (.pick (.t p8n87) (.c (.bool true)) (.t p8n90))⟩]) (.cond (.t p8n91) (.seq (.reg [⟨(some p8n92), none, (.build [(.int .i64 (.ofNat 0)), (.str []), (.int .i64 (.ofNat 0)), (.int .i64 (.ofNat 0))] [])⟩, ⟨none, none, (.st 4 (.t p8n2) (.t p8n92))⟩, ⟨(some p8n3), none, (.mv (.c (.int .i64 (.ofNat 0))))⟩]) .ret) .skip)) (.seq (.reg [⟨(some p8n93), none, (.mv (.t p8n8))⟩, ⟨(some p8n94), none, (.build [(.int .i64 (.ofNat 0)), (.str []), (.int .i64 (.ofNat 0)), (.int .i64 (.ofNat 0))] [(0, (1, (.c (.int .i64 (.ofNat 2))))), (2, (1, (.t p8n93)))])⟩, ⟨(some p8n95), none, (.mv (.t p8n4))⟩, ⟨none, none, (.st 4 (.t p8n2) (.t p8n94))⟩, ⟨(some p8n3), none, (.mv (.t p8n95))⟩]) .ret)))))) .skip))))) (.seq (.seq (.reg [⟨(some p8n96), none, (.buildSo 1 8 (.int .u8 (.ofNat 0)) [(0, (.c (.int .u8 (.ofNat 44)))), (1, (.c (.int .u8 (.ofNat 58)))), (2, (.c (.int .u8 (.ofNat 43)))), (3, (.c (.int .u8 (.ofNat 45)))), (4, (.c (.int .u8 (.ofNat 42)))), (5, (.c (.int .u8 (.ofNat 40)))), (6, (.c (.int .u8 (.ofNat 41)))), (7, (.c (.int .u8 (.ofNat 64))))])⟩, ⟨(some p8n97), none, (.mark (.t p8n96))⟩, ⟨(some p8n98), none, (.len false (.t p8n97))⟩, ⟨(some p8n99), none, (.mv (.c (.int .i64 (.ofNat 0))))⟩]) (.block 5 (.loop (.seq (.reg [⟨(some p8n100), none, (.bin .lss (.t p8n99) (.t p8n98))⟩]) (.seq (.cond (.t p8n100) .skip (.exit 5)) (.seq (.block 6 (.seq (.reg [⟨(some p8n101), none, (.iaddr 1 (.t p8n97) (.t p8n99))⟩, ⟨(some p8n102), none, (.ld1 (.t p8n101))⟩, ⟨(some p8n11), none, (.mv (.t p8n102))⟩]) (.seq (.reg [⟨(some p8n103), none, (.mv (.t p8n11))⟩, ⟨(some p8n104), none, (.mv (.t p8n5))⟩, ⟨(some p8n105), none, (.bin .eql (.t p8n103) (.t p8n104))⟩]) (.cond (.t p8n105) (.seq (.reg [⟨(some p8n106), none, (.mv (.t p8n0))⟩, ⟨(some p8n107), none, (.slS (.t p8n106) none (some (.c (.int .i64 (.ofNat 1)))))⟩, ⟨(some p8n108), none, (.build [(.int .i64 (.ofNat 0)), (.str []), (.int .i64 (.ofNat 0)), (.int .i64 (.ofNat 0))] [(0, (1, (.c (.int .i64 (.ofNat 3))))), (1, (1, (.t p8n107)))])⟩, ⟨none, none, (.st 4 (.t p8n2) (.t p8n108))⟩, ⟨(some p8n3), none, (.mv (.c (.int .i64 (.ofNat 1))))⟩]) .ret) .skip)))) (.reg [⟨(some p8n109), none, (.bin .add (.t p8n99) (.c (.int .i64 (.ofNat 1))))⟩, ⟨(some p8n99), none, (.mv (.t p8n109))⟩]))))))) (.seq (.reg [⟨(some p8n110), none, (.build [(.int .i64 (.ofNat 0)), (.str []), (.int .i64 (.ofNat 0)), (.int .i64 (.ofNat 0))] [])⟩, ⟨none, none, (.st 4 (.t p8n2) (.t p8n110))⟩, ⟨(some p8n3), none, (.mv (.c (.int .i64 (.ofNat 0))))⟩]) .ret))))))⟩
noncomputable def a61 : AFunc :=
  ⟨4, [p4n0], [(p4n2, none)], false, (.seq (.reg [⟨(some p4n1), none, (.box (.t p4n0))⟩, ⟨(some p4n2), none, (.mv (.c (.bool false)))⟩]) (.seq (.reg [⟨(some p4n3), none, (.faddr 1 (.t p4n1))⟩, ⟨(some p4n4), none, (.ld1 (.t p4n3))⟩, ⟨(some p4n5), none, (.call 81 [(.t p4n4)])⟩, ⟨(some p4n6), none, (.mv (.t p4n5))⟩, ⟨(some p4n7), (some (p4n6, true)), (.faddr 0 (.t p4n1))⟩, ⟨(some p4n8), (some (p4n6, true)), (.ld1 (.t p4n7))⟩, ⟨(some p4n9), (some (p4n6, true)), (.bin .eql (.t p4n8) (.c (.str [])))⟩, ⟨(some p4n10), (some (p4n6, true)), (.mv (.t p4n9))⟩, ⟨(some p4n11), (some (p4n10, false)), (.faddr 0 (.t p4n1))⟩, ⟨(some p4n12), (some (p4n10, false)), (.ld1 (.t p4n11))⟩, ⟨(some p4n13), (some (p4n10, false)), (.call 82 [(.t p4n12)])⟩, ⟨(some p4n14), (some (p4n6, true)), (.pick (.t p4n10) (.c (.bool true)) (.t p4n13))⟩, ⟨(some p4n15), none, (.pick (.t p4n6) (.t p4n14) (.c (.bool false)))⟩, ⟨(some p4n2), none, (.mv (.t p4n15))⟩]) .ret))⟩
noncomputable def a62 : AFunc :=
  ⟨4, [p4n0, p4n1], [(p4n4, none)], false, (.seq (.reg [⟨(some p4n4), none, (.mv (.c (.bool false)))⟩]) (.seq (.reg [⟨(some p4n5), none, (.mv (.t p4n0))⟩, ⟨(some p4n6), none, (.mv (.t p4n1))⟩, ⟨(some p4n7), none, (.call 83 [(.t p4n5), (.t p4n6)])⟩, ⟨(some p4n8), none, (.bin .geq (.t p4n7) (.c (.int .i64 (.ofNat 0))))⟩, ⟨(some p4n4), none, (.mv (.t p4n8))⟩]) .ret))⟩
noncomputable def a63 : AFunc :=
  ⟨4, [p4n0, p4n1], [(p4n3, none)], false, (.seq (.reg [⟨(some p4n2), none, (.box (.t p4n0))⟩, ⟨(some p4n3), none, (.mv (.c (.bool false)))⟩]) (.seq (.reg [⟨(some p4n4), none, (.faddr 0 (.t p4n2))⟩, ⟨(some p4n5), none, (.ld1 (.t p4n4))⟩, ⟨(some p4n6), none, (.faddr 0 (.t p4n1))⟩, ⟨(some p4n7), none, (.ld1 (.t p4n6))⟩, ⟨(some p4n8), none, (.bin .eql (.t p4n5) (.t p4n7))⟩, ⟨(some p4n3), none, (.mv (.t p4n8))⟩]) .ret))⟩
noncomputable def a64 : AFunc :=
  ⟨4, [p4n0, p4n1], [(p4n4, none)], false, (.seq (.reg [⟨(some p4n4), none, (.mv (.c (.bool false)))⟩]) (.seq (.reg [⟨(some p4n5), none, (.mv (.t p4n0))⟩, ⟨(some p4n6), none, (.mv (.t p4n1))⟩, ⟨(some p4n7), none, (.call 84 [(.t p4n5), (.t p4n6)])⟩, ⟨(some p4n8), none, (.bin .geq (.t p4n7) (.c (.int .i64 (.ofNat 0))))⟩, ⟨(some p4n4), none, (.mv (.t p4n8))⟩]) .ret))⟩
noncomputable def a65 : AFunc :=
  ⟨4, [p4n0], [(p4n2, none)], false, (.seq (.reg [⟨(some p4n1), none, (.box (.t p4n0))⟩, ⟨(some p4n2), none, (.mv (.c (.bool false)))⟩]) (.seq (.reg [⟨(some p4n3), none, (.ldA 4 (.t p4n1))⟩, ⟨(some p4n4), none, (.call 66 [(.t p4n3)])⟩, ⟨(some p4n5), none, (.un .not (.t p4n4))⟩, ⟨(some p4n2), none, (.mv (.t p4n5))⟩]) .ret))⟩
noncomputable def a66 : AFunc :=
  ⟨8, [p8n0], [(p8n2, none)], false, (.seq (.reg [⟨(some p8n1), none, (.box (.t p8n0))⟩, ⟨(some p8n2), none, (.mv (.c (.bool false)))⟩]) (.seq (.seq (.reg [⟨(some p8n3), none, (.faddr 0 (.t p8n1))⟩, ⟨(some p8n4), none, (.ld1 (.t p8n3))⟩]) (.block 0 (.seq (.reg [⟨(some p8n6), none, (.bin .eql (.t p8n4) (.c (.int .i64 (.ofNat 1))))⟩, ⟨(some p8n5), none, (.mv (.t p8n6))⟩]) (.cond (.t p8n5) (.seq (.regd [(.pure, ⟨(some p8n7), none, (.faddr 2 (.t p8n1))⟩), (.load, ⟨(some p8n8), none, (.ld1 (.t p8n7))⟩), (.pure, ⟨(some p8n9), none, (.bin .eql (.t p8n8) (.c (.int .i64 (.ofNat 0))))⟩), (.pure, ⟨(some p8n10), none, (.mv (.t p8n9))⟩), (.pure, ⟨(some p8n11), (some (p8n10, true)), (.faddr 1 (.t p8n1))⟩), (.load, ⟨(some p8n12), (some (p8n10, true)), (.ld1 (.t p8n11))⟩), (.pure, ⟨(some p8n13), (some (p8n10, true)), (.bin .neq (.t p8n12) (.c (.str [])))⟩), (.pure, ⟨(some p8n14), none, (.pick (.t p8n10) (.t p8n13) (.c (.bool false)))⟩), (.pure, ⟨(some p8n15), none, (.mv (.t p8n14))⟩), (.pure, ⟨(some p8n16), (some (p8n15, true)), (.faddr 1 (.t p8n1))⟩), (.load, ⟨(some p8n17), (some (p8n15, true)), (.ld1 (.t p8n16))⟩), (.pure, ⟨(some p8n18), (some (p8n15, true)), (.len true (.t p8n17))⟩), (.pure, ⟨(some p8n19), (some (p8n15, true)), (.bin .leq (.t p8n18) (.c (.int .i64 (.ofNat 12))))⟩), (.pure, ⟨(some p8n20), none, (.pick (.t p8n15) (.t p8n19) (.c (.bool false)))⟩), (.pure, ⟨(some p8n21), none, (.mv (.t p8n20))⟩), (.pure, ⟨(some p8n22), (some (p8n21, true)), (.faddr 1 (.t p8n1))⟩), (.load, ⟨(some p8n23), (some (p8n21, true)), (.ld1 (.t p8n22))⟩), (.pure, ⟨(some p8n24), (some (p8n21, true)), (.idxS (.t p8n23) (.c (.int .i64 (.ofNat 0))))⟩), (.iso, ⟨(some p8n25), (some (p8n21, true)), (.call 85 [(.t p8n24)])⟩), (.pure, ⟨(some p8n26), none, (.pick (.t p8n21) (.t p8n25) (.c (.bool false)))⟩), (.pure, ⟨(some p8n27), none, (.mv (.t p8n26))⟩), (.pure, ⟨(some p8n28), (some (p8n27, true)), (.faddr 1 (.t p8n1))⟩), (.load, ⟨(some p8n29), (some (p8n27, true)), (.ld1 (.t p8n28))⟩), (.iso, ⟨(some p8n30), (some (p8n27, true)), (.call 86 [(.t p8n29), (.c (.fn 87 [] []))])⟩), (.pure, ⟨(some p8n31), (some (p8n27, true)), (.faddr 1 (.t p8n1))⟩), (.load, ⟨(some p8n32), (some (p8n27, true)), (.ld1 (.t p8n31))⟩), (.pure, ⟨(some p8n33), (some (p8n27, true)), (.len true (.t p8n32))⟩)] [⟨(some p8n34), (some (p8n27, true)), (.bin .eql (.t p8n30) (.t p8n33))⟩, ⟨(some p8n35), none, (.pick (.t p8n27) (.t p8n34) (.c (.bool false)))⟩, ⟨(some p8n2), none, (.mv (.t p8n35))⟩]) .ret) (.seq (.reg [⟨(some p8n37), none, (.bin .eql (.t p8n4) (.c (.int .i64 (.ofNat 2))))⟩, ⟨(some p8n36), none, (.mv (.t p8n37))⟩]) (.cond (.t p8n36) (.seq (.reg [⟨(some p8n38), none, (.faddr 1 (.t p8n1))⟩, ⟨(some p8n39), none, (.ld1 (.t p8n38))⟩, ⟨(some p8n40), none, (.bin .eql (.t p8n39) (.c (.str [])))⟩, ⟨(some p8n41), none, (.mv (.t p8n40))⟩, ⟨(some p8n42), (some (p8n41, true)), (.faddr 2 (.t p8n1))⟩, ⟨(some p8n43), (some (p8n41, true)), (.ld1 (.t p8n42))⟩, ⟨(some p8n44), (some (p8n41, true)), (.bin .geq (.t p8n43) (.c (.int .i64 (.ofNat 0))))⟩, ⟨(some p8n45), none, (.pick (.t p8n41) (.t p8n44) (.c (.bool false)))⟩, ⟨(some p8n46), none, (.mv (.t p8n45))⟩, ⟨(some p8n47), (some (p8n46, true)), (.faddr 2 (.t p8n1))⟩, ⟨(some p8n48), (some (p8n46, true)), (.ld1 (.t p8n47))⟩, ⟨(some p8n49), (some (p8n46, true)), (.bin .leq (.t p8n48) (.c (.int .i64 (.ofNat 2147483647))))⟩, ⟨(some p8n50), none, (.pick (.t p8n46) (.t p8n49) (.c (.bool false)))⟩, ⟨(some p8n2), none, (.mv (.t p8n50))⟩]) .ret) (.seq (.reg [⟨(some p8n52), none, (.bin .eql (.t p8n4) (.c (.int .i64 (.ofNat 3))))⟩, ⟨(some p8n51), none, (.mv (.t p8n52))⟩]) (.cond (.t p8n51) (.seq (.reg [⟨(some p8n53), none, (.faddr 2 (.t p8n1))⟩, ⟨(some p8n54), none, (.ld1 (.t p8n53))⟩, ⟨(some p8n55), none, (.bin .eql (.t p8n54) (.c (.int .i64 (.ofNat 0))))⟩, ⟨(some p8n56), none, (.mv (.t p8n55))⟩, ⟨(some p8n57), (some (p8n56, true)), (.faddr 1 (.t p8n1))⟩, ⟨(some p8n58), (some (p8n56, true)), (.ld1 (.t p8n57))⟩, ⟨(some p8n59), (some (p8n56, true)), (.len true (.t p8n58))⟩, ⟨(some p8n60), (some (p8n56, true)), (.bin .eql (.t p8n59) (.c (.int .i64 (.ofNat 1))))⟩, ⟨(some p8n61), none, (.pick (.t p8n56) (.t p8n60) (.c (.bool false)))⟩, ⟨(some p8n62), none, (.mv (.t p8n61))⟩, ⟨(some p8n63), (some (p8n62, true)), (.faddr 1 (.t p8n1))⟩, ⟨(some p8n64), (some (p8n62, true)), (.ld1 (.t p8n63))⟩, ⟨(some p8n65), (some (p8n62, true)), (.idxS (.t p8n64) (.c (.int .i64 (.ofNat 0))))⟩, ⟨(some p8n66), (some (p8n62, true)), (.call 88 [(.t p8n65)])⟩, ⟨(some p8n67), none, (.pick (.t p8n62) (.t p8n66) (.c (.bool false)))⟩, ⟨(some p8n2), none, (.mv (.t p8n67))⟩]) .ret) .skip)))))))) (.seq (.reg [⟨(some p8n2), none, (.mv (.c (.bool false)))⟩]) .ret)))⟩
noncomputable def a67 : AFunc :=
  ⟨6, [p6n0, p6n1, p6n2], [(p6n6, (some (2, true))), (p6n7, none)], false, (.seq (.reg [⟨(some p6n6), none, (.alloc [(.str []), (.int .i64 (.ofNat 0))])⟩, ⟨(some p6n7), none, (.mv (.c (.int .i64 (.ofNat 0))))⟩]) (.seq (.reg [⟨(some p6n13), none, (.mv (.t p6n1))⟩, ⟨(some p6n14), none, (.calld (.t p6n13) [])⟩, ⟨(some p6n12), none, (.mv (.t p6n14))⟩, ⟨(some p6n15), none, (.ext (.t p6n12) 0)⟩, ⟨(some p6n16), none, (.ext (.t p6n12) 1)⟩, ⟨(some p6n8), none, (.alloc [(.str []), (.int .i64 (.ofNat 0))])⟩, ⟨none, none, (.st 2 (.t p6n8) (.t p6n15))⟩, ⟨(some p6n9), none, (.mv (.t p6n16))⟩]) (.seq (.block 0 (.loop (.seq (.seq (.reg [⟨(some p6n17), none, (.mv (.t p6n9))⟩, ⟨(some p6n18), none, (.bin .eql (.t p6n17) (.c (.int .i64 (.ofNat 0))))⟩]) (.cond (.t p6n18) .skip (.exit 0))) (.block 1 (.seq (.reg [⟨(some p6n19), none, (.mv (.t p6n2))⟩, ⟨(some p6n20), none, (.calld (.t p6n19) [])⟩, ⟨(some p6n10), none, (.mv (.t p6n20))⟩]) (.seq (.seq (.reg [⟨(some p6n21), none, (.mv (.t p6n10))⟩, ⟨(some p6n22), none, (.eqk .func false (.t p6n21) (.c .nilf))⟩]) (.cond (.t p6n22) (.seq (.reg [⟨(some p6n23), none, (.ldA 2 (.t p6n8))⟩, ⟨none, none, (.st 2 (.t p6n6) (.t p6n23))⟩, ⟨(some p6n7), none, (.mv (.c (.int .i64 (.ofNat 0))))⟩]) .ret) .skip)) (.seq (.reg [⟨(some p6n11), none, (.alloc [(.str []), (.int .i64 (.ofNat 0))])⟩]) (.seq (.reg [⟨(some p6n25), none, (.mv (.t p6n1))⟩, ⟨(some p6n26), none, (.calld (.t p6n25) [])⟩, ⟨(some p6n24), none, (.mv (.t p6n26))⟩, ⟨(some p6n27), none, (.ext (.t p6n24) 0)⟩, ⟨(some p6n28), none, (.ext (.t p6n24) 1)⟩, ⟨none, none, (.st 2 (.t p6n11) (.t p6n27))⟩, ⟨(some p6n9), none, (.mv (.t p6n28))⟩]) (.seq (.reg [⟨(some p6n29), none, (.mv (.t p6n9))⟩, ⟨(some p6n30), none, (.bin .eql (.t p6n29) (.c (.int .i64 (.ofNat 0))))⟩]) (.cond (.t p6n30) (.reg [⟨(some p6n32), none, (.mv (.t p6n10))⟩, ⟨(some p6n33), none, (.ldA 2 (.t p6n8))⟩, ⟨(some p6n34), none, (.ldA 2 (.t p6n11))⟩, ⟨(some p6n35), none, (.calld (.t p6n32) [(.t p6n33), (.t p6n34)])⟩, ⟨(some p6n31), none, (.mv (.t p6n35))⟩, ⟨(some p6n36), none, (.ext (.t p6n31) 0)⟩, ⟨(some p6n37), none, (.ext (.t p6n31) 1)⟩, ⟨none, none, (.st 2 (.t p6n8) (.t p6n36))⟩, ⟨(some p6n9), none, (.mv (.t p6n37))⟩]) .skip)))))))))) (.seq (.reg [⟨(some p6n38), none, (.build [(.str []), (.int .i64 (.ofNat 0))] [])⟩, ⟨(some p6n39), none, (.mv (.t p6n9))⟩, ⟨none, none, (.st 2 (.t p6n6) (.t p6n38))⟩, ⟨(some p6n7), none, (.mv (.t p6n39))⟩]) .ret))))⟩
noncomputable def a68 : AFunc :=
  ⟨4, [p4n0], [(p4n2, (some (2, true))), (p4n3, none)], false, (.seq (.reg [⟨(some p4n1), none, (.box (.t p4n0))⟩, ⟨(some p4n2), none, (.alloc [(.str []), (.int .i64 (.ofNat 0))])⟩, ⟨(some p4n3), none, (.mv (.c (.int .i64 (.ofNat 0))))⟩]) (.seq (.reg [⟨(some p4n4), none, (.ld1 (.t p4n1))⟩, ⟨(some p4n5), none, (.ld1 (.t p4n1))⟩, ⟨(some p4n6), none, (.mkfn 89 [(.t p4n5)] [])⟩, ⟨(some p4n7), none, (.mkfn 90 [] [(.t p4n1)])⟩, ⟨(some p4n8), none, (.call 67 [(.t p4n4), (.t p4n6), (.t p4n7)])⟩, ⟨(some p4n9), none, (.ext (.t p4n8) 0)⟩, ⟨(some p4n10), none, (.ext (.t p4n8) 1)⟩, ⟨none, none, (.st 2 (.t p4n2) (.t p4n9))⟩, ⟨(some p4n3), none, (.mv (.t p4n10))⟩]) .ret))⟩
noncomputable def a69 : AFunc :=
  ⟨4, [p4n0], [(p4n1, none)], false, (.seq (.reg [⟨(some p4n1), none, (.mv (.c .nilf))⟩]) (.seq (.block 0 (.seq (.reg [⟨(some p4n3), none, (.ld1 (.t p4n0))⟩, ⟨(some p4n4), none, (.call 70 [(.t p4n3), (.c (.str [43]))])⟩, ⟨(some p4n2), none, (.mv (.t p4n4))⟩]) (.cond (.t p4n2) (.seq (.reg [⟨(some p4n1), none, (.mv (.c (.fn 71 [] [])))⟩]) .ret) (.seq (.reg [⟨(some p4n6), none, (.ld1 (.t p4n0))⟩, ⟨(some p4n7), none, (.call 70 [(.t p4n6), (.c (.str [45]))])⟩, ⟨(some p4n5), none, (.mv (.t p4n7))⟩]) (.cond (.t p4n5) (.seq (.reg [⟨(some p4n1), none, (.mv (.c (.fn 72 [] [])))⟩]) .ret) .skip))))) (.seq (.reg [⟨(some p4n1), none, (.mv (.c .nilf))⟩]) .ret)))⟩
noncomputable def a70 : AFunc :=
  ⟨6, [p6n0, p6n1], [(p6n4, none)], false, (.seq (.reg [⟨(some p6n4), none, (.mv (.c (.bool false)))⟩]) (.seq (.seq (.regd [(.pure, ⟨(some p6n5), none, (.mv (.t p6n0))⟩), (.pure, ⟨(some p6n6), none, (.nilck (.t p6n5))⟩), (.pure, ⟨(some p6n7), none, (.faddr 2 (.t p6n6))⟩), (.load, ⟨(some p6n8), none, (.ld1 (.t p6n7))⟩), (.pure, ⟨(some p6n9), none, (.mv (.t p6n0))⟩), (.pure, ⟨(some p6n10), none, (.nilck (.t p6n9))⟩), (.pure, ⟨(some p6n11), none, (.faddr 1 (.t p6n10))⟩), (.load, ⟨(some p6n12), none, (.ld1 (.t p6n11))⟩), (.pure, ⟨(some p6n13), none, (.len false (.t p6n12))⟩), (.pure, ⟨(some p6n14), none, (.bin .eql (.t p6n8) (.t p6n13))⟩), (.pure, ⟨(some p6n15), none, (.mv (.t p6n14))⟩), (.pure, ⟨(some p6n16), (some (p6n15, false)), (.mv (.t p6n0))⟩), (.pure, ⟨(some p6n17), (some (p6n15, false)), (.nilck (.t p6n16))⟩), (.pure, ⟨(some p6n18), (some (p6n15, false)), (.faddr 1 (.t p6n17))⟩), (.load, ⟨(some p6n19), (some (p6n15, false)), (.ld1 (.t p6n18))⟩), (.pure, ⟨(some p6n20), (some (p6n15, false)), (.mv (.t p6n0))⟩), (.pure, ⟨(some p6n21), (some (p6n15, false)), (.nilck (.t p6n20))⟩), (.pure, ⟨(some p6n22), (some (p6n15, false)), (.faddr 2 (.t p6n21))⟩), (.load, ⟨(some p6n23), (some (p6n15, false)), (.ld1 (.t p6n22))⟩), (.pure, ⟨(some p6n24), (some (p6n15, false)), (.iaddr 4 (.t p6n19) (.t p6n23))⟩), (.pure, ⟨(some p6n25), (some (p6n15, false)), (.faddr 0 (.t p6n24))⟩), (.load, ⟨(some p6n26), (some (p6n15, false)), (.ld1 (.t p6n25))⟩), (.pure, ⟨(some p6n27), (some (p6n15, false)), (.bin .neq (.t p6n26) (.c (.int .i64 (.ofNat 3))))⟩), (.pure, ⟨(some p6n28), none, (.pick (.t p6n15) (.c (.bool true)) (.t p6n27))⟩), (.pure, ⟨(some p6n29), none, (.mv (.t p6n28))⟩), (.pure, ⟨(some p6n30), (some (p6n29, false)), (.mv (.t p6n0))⟩), (.pure, ⟨(some p6n31), (some (p6n29, false)), (.nilck (.t p6n30))⟩), (.pure, ⟨(some p6n32), (some (p6n29, false)), (.faddr 1 (.t p6n31))⟩), (.load, ⟨(some p6n33), (some (p6n29, false)), (.ld1 (.t p6n32))⟩), (.pure, ⟨(some p6n34), (some (p6n29, false)), (.mv (.t p6n0))⟩), (.pure, ⟨(some p6n35), (some (p6n29, false)), (.nilck (.t p6n34))⟩), (.pure, ⟨(some p6n36), (some (p6n29, false)), (.faddr 2 (.t p6n35))⟩), (.load, ⟨(some p6n37), (some (p6n29, false)), (.ld1 (.t p6n36))⟩), (.pure, ⟨(some p6n38), (some (p6n29, false)), (.iaddr 4 (.t p6n33) (.t p6n37))⟩), (.pure, ⟨(some p6n39), (some (p6n29, false)), (.faddr 1 (.t p6n38))⟩), (.load, ⟨(some p6n40), (some (p6n29, false)), (.ld1 (.t p6n39))⟩), (.pure, ⟨(some p6n41), (some (p6n29, false)), (.mv (.t p6n1))⟩)] [⟨(some p6n42), (some (p6n29, false)), (.bin .neq (.t p6n40) (.t p6n41))⟩, ⟨(some p6n43), none, (.pick (.t p6n29) (.c (.bool true)) (.t p6n42))⟩]) (.cond (.t p6n43) (.seq (.reg [⟨(some p6n4), none, (.mv (.c (.bool false)))⟩]) .ret) .skip)) (.seq (.reg [⟨(some p6n44), none, (.mv (.t p6n0))⟩, ⟨(some p6n45), none, (.nilck (.t p6n44))⟩, ⟨(some p6n46), none, (.faddr 2 (.t p6n45))⟩, ⟨(some p6n47), none, (.ld1 (.t p6n46))⟩, ⟨(some p6n48), none, (.bin .add (.t p6n47) (.c (.int .i64 (.ofNat 1))))⟩, ⟨(some p6n49), none, (.nilck (.t p6n44))⟩, ⟨(some p6n50), none, (.faddr 2 (.t p6n49))⟩, ⟨none, none, (.st 1 (.t p6n50) (.t p6n48))⟩]) (.seq (.reg [⟨(some p6n4), none, (.mv (.c (.bool true)))⟩]) .ret))))⟩
noncomputable def a71 : AFunc :=
  ⟨6, [p6n0, p6n1], [(p6n4, (some (2, true))), (p6n5, none)], false, (.seq (.reg [⟨(some p6n2), none, (.box (.t p6n0))⟩, ⟨(some p6n3), none, (.box (.t p6n1))⟩, ⟨(some p6n4), none, (.alloc [(.str []), (.int .i64 (.ofNat 0))])⟩, ⟨(some p6n5), none, (.mv (.c (.int .i64 (.ofNat 0))))⟩]) (.seq (.seq (.reg [⟨(some p6n6), none, (.faddr 0 (.t p6n2))⟩, ⟨(some p6n7), none, (.ld1 (.t p6n6))⟩, ⟨(some p6n8), none, (.bin .neq (.t p6n7) (.c (.str [])))⟩, ⟨(some p6n9), none, (.mv (.t p6n8))⟩, ⟨(some p6n10), (some (p6n9, true)), (.faddr 0 (.t p6n3))⟩, ⟨(some p6n11), (some (p6n9, true)), (.ld1 (.t p6n10))⟩, ⟨(some p6n12), (some (p6n9, true)), (.bin .neq (.t p6n11) (.c (.str [])))⟩, ⟨(some p6n13), none, (.pick (.t p6n9) (.t p6n12) (.c (.bool false)))⟩]) (.cond (.t p6n13) (.seq (.reg [⟨(some p6n14), none, (.build [(.str []), (.int .i64 (.ofNat 0))] [])⟩, ⟨none, none, (.st 2 (.t p6n4) (.t p6n14))⟩, ⟨(some p6n5), none, (.mv (.c (.int .i64 (.ofNat 6))))⟩]) .ret) .skip)) (.seq (.reg [⟨(some p6n15), none, (.faddr 0 (.t p6n2))⟩, ⟨(some p6n16), none, (.ld1 (.t p6n15))⟩, ⟨(some p6n17), none, (.faddr 0 (.t p6n3))⟩, ⟨(some p6n18), none, (.ld1 (.t p6n17))⟩, ⟨(some p6n19), none, (.bin .add (.t p6n16) (.t p6n18))⟩, ⟨(some p6n20), none, (.faddr 1 (.t p6n2))⟩, ⟨(some p6n21), none, (.ld1 (.t p6n20))⟩, ⟨(some p6n22), none, (.faddr 1 (.t p6n3))⟩, ⟨(some p6n23), none, (.ld1 (.t p6n22))⟩, ⟨(some p6n24), none, (.bin .add (.t p6n21) (.t p6n23))⟩, ⟨(some p6n25), none, (.build [(.str []), (.int .i64 (.ofNat 0))] [(0, (1, (.t p6n19))), (1, (1, (.t p6n24)))])⟩, ⟨(some p6n26), none, (.call 92 [(.t p6n25)])⟩, ⟨(some p6n27), none, (.ext (.t p6n26) 0)⟩, ⟨(some p6n28), none, (.ext (.t p6n26) 1)⟩, ⟨none, none, (.st 2 (.t p6n4) (.t p6n27))⟩, ⟨(some p6n5), none, (.mv (.t p6n28))⟩]) .ret)))⟩
noncomputable def a72 : AFunc :=
  ⟨6, [p6n0, p6n1], [(p6n4, (some (2, true))), (p6n5, none)], false, (.seq (.reg [⟨(some p6n2), none, (.box (.t p6n0))⟩, ⟨(some p6n3), none, (.box (.t p6n1))⟩, ⟨(some p6n4), none, (.alloc [(.str []), (.int .i64 (.ofNat 0))])⟩, ⟨(some p6n5), none, (.mv (.c (.int .i64 (.ofNat 0))))⟩]) (.seq (.seq (.reg [⟨(some p6n6), none, (.faddr 0 (.t p6n3))⟩, ⟨(some p6n7), none, (.ld1 (.t p6n6))⟩, ⟨(some p6n8), none, (.bin .neq (.t p6n7) (.c (.str [])))⟩]) (.cond (.t p6n8) (.seq (.reg [⟨(some p6n9), none, (.build [(.str []), (.int .i64 (.ofNat 0))] [])⟩, ⟨none, none, (.st 2 (.t p6n4) (.t p6n9))⟩, ⟨(some p6n5), none, (.mv (.c (.int .i64 (.ofNat 6))))⟩]) .ret) .skip)) (.seq (.reg [⟨(some p6n10), none, (.faddr 0 (.t p6n2))⟩, ⟨(some p6n11), none, (.ld1 (.t p6n10))⟩, ⟨(some p6n12), none, (.faddr 1 (.t p6n2))⟩, ⟨(some p6n13), none, (.ld1 (.t p6n12))⟩, ⟨(some p6n14), none, (.faddr 1 (.t p6n3))⟩, ⟨(some p6n15), none, (.ld1 (.t p6n14))⟩, ⟨(some p6n16), none, (.bin .sub (.t p6n13) (.t p6n15))⟩, ⟨(some p6n17), none, (.build [(.str []), (.int .i64 (.ofNat 0))] [(0, (1, (.t p6n11))), (1, (1, (.t p6n16)))])⟩, ⟨(some p6n18), none, (.call 92 [(.t p6n17)])⟩, ⟨(some p6n19), none, (.ext (.t p6n18) 0)⟩, ⟨(some p6n20), none, (.ext (.t p6n18) 1)⟩, ⟨none, none, (.st 2 (.t p6n4) (.t p6n19))⟩, ⟨(some p6n5), none, (.mv (.t p6n20))⟩]) .ret)))⟩
noncomputable def a73 : AFunc :=
  ⟨6, [p6n0, p6n1], [(p6n4, (some (2, true)))], false, (.seq (.reg [⟨(some p6n4), none, (.alloc [(.str []), (.int .i64 (.ofNat 0))])⟩]) (.seq (.reg [⟨(some p6n7), none, (.mv (.t p6n0))⟩, ⟨(some p6n8), none, (.mv (.t p6n1))⟩, ⟨(some p6n9), none, (.call 93 [(.t p6n7), (.t p6n8)])⟩, ⟨(some p6n5), none, (.alloc [(.str []), (.int .i64 (.ofNat 0))])⟩, ⟨none, none, (.st 2 (.t p6n5) (.t p6n9))⟩]) (.seq (.block 0 (.loop (.seq (.seq (.reg [⟨(some p6n10), none, (.mv (.t p6n0))⟩, ⟨(some p6n11), none, (.call 74 [(.t p6n10), (.c (.str [42]))])⟩]) (.cond (.t p6n11) .skip (.exit 0))) (.block 1 (.seq (.reg [⟨(some p6n12), none, (.mv (.t p6n0))⟩, ⟨(some p6n13), none, (.nilck (.t p6n12))⟩, ⟨(some p6n14), none, (.faddr 2 (.t p6n13))⟩, ⟨(some p6n15), none, (.ld1 (.t p6n14))⟩, ⟨(some p6n16), none, (.bin .add (.t p6n15) (.c (.int .i64 (.ofNat 1))))⟩, ⟨(some p6n17), none, (.nilck (.t p6n12))⟩, ⟨(some p6n18), none, (.faddr 2 (.t p6n17))⟩, ⟨none, none, (.st 1 (.t p6n18) (.t p6n16))⟩]) (.seq (.reg [⟨(some p6n19), none, (.mv (.t p6n0))⟩, ⟨(some p6n20), none, (.mv (.t p6n1))⟩, ⟨(some p6n21), none, (.call 93 [(.t p6n19), (.t p6n20)])⟩, ⟨(some p6n6), none, (.alloc [(.str []), (.int .i64 (.ofNat 0))])⟩, ⟨none, none, (.st 2 (.t p6n6) (.t p6n21))⟩]) (.seq (.seq (.reg [⟨(some p6n22), none, (.mv (.t p6n0))⟩, ⟨(some p6n23), none, (.nilck (.t p6n22))⟩, ⟨(some p6n24), none, (.faddr 3 (.t p6n23))⟩, ⟨(some p6n25), none, (.ld1 (.t p6n24))⟩, ⟨(some p6n26), none, (.bin .neq (.t p6n25) (.c (.int .i64 (.ofNat 0))))⟩]) (.cond (.t p6n26) (.exit 0) .skip)) (.seq (.seq (.reg [⟨(some p6n27), none, (.faddr 0 (.t p6n5))⟩, ⟨(some p6n28), none, (.ld1 (.t p6n27))⟩, ⟨(some p6n29), none, (.bin .neq (.t p6n28) (.c (.str [])))⟩, ⟨(some p6n30), none, (.mv (.t p6n29))⟩, ⟨(some p6n31), (some (p6n30, false)), (.faddr 0 (.t p6n6))⟩, ⟨(some p6n32), (some (p6n30, false)), (.ld1 (.t p6n31))⟩, ⟨(some p6n33), (some (p6n30, false)), (.bin .neq (.t p6n32) (.c (.str [])))⟩, ⟨(some p6n34), none, (.pick (.t p6n30) (.c (.bool true)) (.t p6n33))⟩]) (.cond (.t p6n34) (.seq (.reg [⟨(some p6n35), none, (.mv (.t p6n0))⟩, ⟨(some p6n36), none, (.call 76 [(.t p6n35), (.c (.int .i64 (.ofNat 6)))])⟩, ⟨none, none, (.st 2 (.t p6n4) (.t p6n36))⟩]) .ret) .skip)) (.seq (.reg [⟨(some p6n37), none, (.faddr 1 (.t p6n5))⟩, ⟨(some p6n38), none, (.ld1 (.t p6n37))⟩, ⟨(some p6n39), none, (.faddr 1 (.t p6n6))⟩, ⟨(some p6n40), none, (.ld1 (.t p6n39))⟩, ⟨(some p6n41), none, (.bin .mul (.t p6n38) (.t p6n40))⟩, ⟨(some p6n42), none, (.faddr 1 (.t p6n5))⟩, ⟨none, none, (.st 1 (.t p6n42) (.t p6n41))⟩]) (.seq (.reg [⟨(some p6n43), none, (.faddr 1 (.t p6n5))⟩, ⟨(some p6n44), none, (.ld1 (.t p6n43))⟩, ⟨(some p6n45), none, (.call 54 [(.t p6n44)])⟩, ⟨(some p6n46), none, (.un .not (.t p6n45))⟩]) (.cond (.t p6n46) (.seq (.reg [⟨(some p6n47), none, (.mv (.t p6n0))⟩, ⟨(some p6n48), none, (.call 76 [(.t p6n47), (.c (.int .i64 (.ofNat 7)))])⟩, ⟨none, none, (.st 2 (.t p6n4) (.t p6n48))⟩]) .ret) .skip))))))))))) (.seq (.reg [⟨(some p6n49), none, (.ldA 2 (.t p6n5))⟩, ⟨none, none, (.st 2 (.t p6n4) (.t p6n49))⟩]) .ret))))⟩
noncomputable def a74 : AFunc :=
  ⟨6, [p6n0, p6n1], [(p6n4, none)], false, (.seq (.reg [⟨(some p6n4), none, (.mv (.c (.bool false)))⟩]) (.seq (.regd [(.pure, ⟨(some p6n5), none, (.mv (.t p6n0))⟩), (.pure, ⟨(some p6n6), none, (.nilck (.t p6n5))⟩), (.pure, ⟨(some p6n7), none, (.faddr 3 (.t p6n6))⟩), (.load, ⟨(some p6n8), none, (.ld1 (.t p6n7))⟩), (.pure, ⟨(some p6n9), none, (.bin .eql (.t p6n8) (.c (.int .i64 (.ofNat 0))))⟩), (.pure, ⟨(some p6n10), none, (.mv (.t p6n9))⟩), (.pure, ⟨(some p6n11), (some (p6n10, true)), (.mv (.t p6n0))⟩), (.pure, ⟨(some p6n12), (some (p6n10, true)), (.nilck (.t p6n11))⟩), (.pure, ⟨(some p6n13), (some (p6n10, true)), (.faddr 2 (.t p6n12))⟩), (.load, ⟨(some p6n14), (some (p6n10, true)), (.ld1 (.t p6n13))⟩), (.pure, ⟨(some p6n15), (some (p6n10, true)), (.mv (.t p6n0))⟩), (.pure, ⟨(some p6n16), (some (p6n10, true)), (.nilck (.t p6n15))⟩), (.pure, ⟨(some p6n17), (some (p6n10, true)), (.faddr 1 (.t p6n16))⟩), (.load, ⟨(some p6n18), (some (p6n10, true)), (.ld1 (.t p6n17))⟩), (.pure, ⟨(some p6n19), (some (p6n10, true)), (.len false (.t p6n18))⟩), (.pure, ⟨(some p6n20), (some (p6n10, true)), (.bin .lss (.t p6n14) (.t p6n19))⟩), (.pure, ⟨(some p6n21), none, (.pick (.t p6n10) (.t p6n20) (.c (.bool false)))⟩), (.pure, ⟨(some p6n22), none, (.mv (.t p6n21))⟩), (.pure, ⟨(some p6n23), (some (p6n22, true)), (.mv (.t p6n0))⟩), (.pure, ⟨(some p6n24), (some (p6n22, true)), (.nilck (.t p6n23))⟩), (.pure, ⟨(some p6n25), (some (p6n22, true)), (.faddr 1 (.t p6n24))⟩), (.load, ⟨(some p6n26), (some (p6n22, true)), (.ld1 (.t p6n25))⟩), (.pure, ⟨(some p6n27), (some (p6n22, true)), (.mv (.t p6n0))⟩), (.pure, ⟨(some p6n28), (some (p6n22, true)), (.nilck (.t p6n27))⟩), (.pure, ⟨(some p6n29), (some (p6n22, true)), (.faddr 2 (.t p6n28))⟩), (.load, ⟨(some p6n30), (some (p6n22, true)), (.ld1 (.t p6n29))⟩), (.pure, ⟨(some p6n31), (some (p6n22, true)), (.iaddr 4 (.t p6n26) (.t p6n30))⟩), (.pure, ⟨(some p6n32), (some (p6n22, true)), (.faddr 0 (.t p6n31))⟩), (.load, ⟨(some p6n33), (some (p6n22, true)), (.ld1 (.t p6n32))⟩), (.pure, ⟨(some p6n34), (some (p6n22, true)), (.bin .eql (.t p6n33) (.c (.int .i64 (.ofNat 3))))⟩), (.pure, ⟨(some p6n35), none, (.pick (.t p6n22) (.t p6n34) (.c (.bool false)))⟩), (.pure, ⟨(some p6n36), none, (.mv (.t p6n35))⟩), (.pure, ⟨(some p6n37), (some (p6n36, true)), (.mv (.t p6n0))⟩), (.pure, ⟨(some p6n38), (some (p6n36, true)), (.nilck (.t p6n37))⟩), (.pure, ⟨(some p6n39), (some (p6n36, true)), (.faddr 1 (.t p6n38))⟩), (.load, ⟨(some p6n40), (some (p6n36, true)), (.ld1 (.t p6n39))⟩), (.pure, ⟨(some p6n41), (some (p6n36, true)), (.mv (.t p6n0))⟩), (.pure, ⟨(some p6n42), (some (p6n36, true)), (.nilck (.t p6n41))⟩), (.pure, ⟨(some p6n43), (some (p6n36, true)), (.faddr 2 (.t p6n42))⟩), (.load, ⟨(some p6n44), (some (p6n36, true)), (.ld1 (.t p6n43))⟩), (.pure, ⟨(some p6n45), (some (p6n36, true)), (.iaddr 4 (.t p6n40) (.t p6n44))⟩), (.pure, ⟨(some p6n46), (some (p6n36, true)), (.faddr 1 (.t p6n45))⟩), (.load, ⟨(some p6n47), (some (p6n36, true)), (.ld1 (.t p6n46))⟩), (.pure, ⟨(some p6n48), (some (p6n36, true)), (.mv (.t p6n1))⟩)] [⟨(some p6n49), (some (p6n36, true)), (.bin .eql (.t p6n47) (.t p6n48))⟩, ⟨(some p6n50), none, (.pick (.t p6n36) (.t p6n49) (.c (.bool false)))⟩, ⟨(some p6n4), none, (.mv (.t p6n50))⟩]) .ret))⟩
noncomputable def a75 : AFunc :=
  ⟨6, [p6n0, p6n1, p6n2], [(p6n6, (some (2, true))), (p6n7, none)], false, (.seq (.reg [⟨(some p6n3), none, (.box (.t p6n0))⟩, ⟨(some p6n4), none, (.box (.t p6n1))⟩, ⟨(some p6n6), none, (.alloc [(.str []), (.int .i64 (.ofNat 0))])⟩, ⟨(some p6n7), none, (.mv (.c (.int .i64 (.ofNat 0))))⟩]) (.seq (.seq (.reg [⟨(some p6n9), none, (.faddr 0 (.t p6n3))⟩, ⟨(some p6n10), none, (.ld1 (.t p6n9))⟩, ⟨(some p6n11), none, (.bin .neq (.t p6n10) (.c (.str [])))⟩, ⟨(some p6n12), none, (.mv (.t p6n11))⟩, ⟨(some p6n13), (some (p6n12, true)), (.faddr 0 (.t p6n4))⟩, ⟨(some p6n14), (some (p6n12, true)), (.ld1 (.t p6n13))⟩, ⟨(some p6n15), (some (p6n12, true)), (.bin .neq (.t p6n14) (.c (.str [])))⟩, ⟨(some p6n16), none, (.pick (.t p6n12) (.t p6n15) (.c (.bool false)))⟩, ⟨(some p6n17), none, (.mv (.t p6n16))⟩, ⟨(some p6n18), (some (p6n17, false)), (.mv (.t p6n2))⟩, ⟨(some p6n19), (some (p6n17, false)), (.mv (.t p6n18))⟩, ⟨(some p6n20), (some (p6n19, true)), (.faddr 0 (.t p6n4))⟩, ⟨(some p6n21), (some (p6n19, true)), (.ld1 (.t p6n20))⟩, ⟨(some p6n22), (some (p6n19, true)), (.bin .neq (.t p6n21) (.c (.str [])))⟩, ⟨(some p6n23), (some (p6n17, false)), (.pick (.t p6n19) (.t p6n22) (.c (.bool false)))⟩, ⟨(some p6n24), none, (.pick (.t p6n17) (.c (.bool true)) (.t p6n23))⟩]) (.cond (.t p6n24) (.seq (.reg [⟨(some p6n25), none, (.build [(.str []), (.int .i64 (.ofNat 0))] [])⟩, ⟨none, none, (.st 2 (.t p6n6) (.t p6n25))⟩, ⟨(some p6n7), none, (.mv (.c (.int .i64 (.ofNat 6))))⟩]) .ret) .skip)) (.seq (.reg [⟨(some p6n26), none, (.faddr 1 (.t p6n3))⟩, ⟨(some p6n27), none, (.ld1 (.t p6n26))⟩, ⟨(some p6n28), none, (.faddr 1 (.t p6n4))⟩, ⟨(some p6n29), none, (.ld1 (.t p6n28))⟩, ⟨(some p6n30), none, (.bin .add (.t p6n27) (.t p6n29))⟩, ⟨(some p6n8), none, (.mv (.t p6n30))⟩]) (.seq (.seq (.reg [⟨(some p6n31), none, (.mv (.t p6n2))⟩]) (.cond (.t p6n31) (.reg [⟨(some p6n32), none, (.faddr 1 (.t p6n3))⟩, ⟨(some p6n33), none, (.ld1 (.t p6n32))⟩, ⟨(some p6n34), none, (.faddr 1 (.t p6n4))⟩, ⟨(some p6n35), none, (.ld1 (.t p6n34))⟩, ⟨(some p6n36), none, (.bin .sub (.t p6n33) (.t p6n35))⟩, ⟨(some p6n8), none, (.mv (.t p6n36))⟩]) .skip)) (.seq (.seq (.reg [⟨(some p6n37), none, (.mv (.t p6n8))⟩, ⟨(some p6n38), none, (.call 54 [(.t p6n37)])⟩, ⟨(some p6n39), none, (.un .not (.t p6n38))⟩]) (.cond (.t p6n39) (.seq (.reg [⟨(some p6n40), none, (.build [(.str []), (.int .i64 (.ofNat 0))] [])⟩, ⟨none, none, (.st 2 (.t p6n6) (.t p6n40))⟩, ⟨(some p6n7), none, (.mv (.c (.int .i64 (.ofNat 7))))⟩]) .ret) .skip)) (.seq (.reg [⟨(some p6n41), none, (.faddr 0 (.t p6n3))⟩, ⟨(some p6n42), none, (.ld1 (.t p6n41))⟩, ⟨(some p6n43), none, (.faddr 0 (.t p6n4))⟩, ⟨(some p6n44), none, (.ld1 (.t p6n43))⟩, ⟨(some p6n45), none, (.bin .add (.t p6n42) (.t p6n44))⟩, ⟨(some p6n46), none, (.mv (.t p6n8))⟩, ⟨(some p6n47), none, (.build [(.str []), (.int .i64 (.ofNat 0))] [(0, (1, (.t p6n45))), (1, (1, (.t p6n46)))])⟩, ⟨none, none, (.st 2 (.t p6n6) (.t p6n47))⟩, ⟨(some p6n7), none, (.mv (.c (.int .i64 (.ofNat 0))))⟩]) .ret))))))⟩
noncomputable def a76 : AFunc :=
  ⟨4, [p4n0, p4n1], [(p4n4, (some (2, true)))], false, (.seq (.reg [⟨(some p4n4), none, (.alloc [(.str []), (.int .i64 (.ofNat 0))])⟩]) (.seq (.seq (.reg [⟨(some p4n5), none, (.mv (.t p4n0))⟩, ⟨(some p4n6), none, (.nilck (.t p4n5))⟩, ⟨(some p4n7), none, (.faddr 3 (.t p4n6))⟩, ⟨(some p4n8), none, (.ld1 (.t p4n7))⟩, ⟨(some p4n9), none, (.bin .eql (.t p4n8) (.c (.int .i64 (.ofNat 0))))⟩]) (.cond (.t p4n9) (.reg [⟨(some p4n10), none, (.mv (.t p4n0))⟩, ⟨(some p4n11), none, (.mv (.t p4n1))⟩, ⟨(some p4n12), none, (.nilck (.t p4n10))⟩, ⟨(some p4n13), none, (.faddr 3 (.t p4n12))⟩, ⟨none, none, (.st 1 (.t p4n13) (.t p4n11))⟩]) .skip)) (.seq (.reg [⟨(some p4n14), none, (.build [(.str []), (.int .i64 (.ofNat 0))] [])⟩, ⟨none, none, (.st 2 (.t p4n4) (.t p4n14))⟩]) .ret)))⟩
noncomputable def a77 : AFunc :=
  ⟨6, [p6n0], [(p6n2, none)], false, (.seq (.reg [⟨(some p6n2), none, (.mv (.c (.bool false)))⟩]) (.seq (.reg [⟨(some p6n3), none, (.mv (.t p6n0))⟩, ⟨(some p6n4), none, (.bin .geq (.t p6n3) (.c (.int .u8 (.ofNat 97))))⟩, ⟨(some p6n5), none, (.mv (.t p6n4))⟩, ⟨(some p6n6), (some (p6n5, true)), (.mv (.t p6n0))⟩, ⟨(some p6n7), (some (p6n5, true)), (.bin .leq (.t p6n6) (.c (.int .u8 (.ofNat 122))))⟩, ⟨(some p6n8), none, (.pick (.t p6n5) (.t p6n7) (.c (.bool false)))⟩, ⟨(some p6n9), none, (.mv (.t p6n8))⟩, ⟨(some p6n10), (some (p6n9, false)), (.mv (.t p6n0))⟩, ⟨(some p6n11), (some (p6n9, false)), (.bin .eql (.t p6n10) (.c (.int .u8 (.ofNat 95))))⟩, ⟨(some p6n12), none, (.pick (.t p6n9) (.c (.bool true)) (.t p6n11))⟩, ⟨(some p6n13), none, (.mv (.t p6n12))⟩, ⟨(some p6n14), (some (p6n13, false)), (.mv (.t p6n0))⟩, ⟨(some p6n15), (some (p6n13, false)), (.bin .eql (.t p6n14) (.c (.int .u8 (.ofNat 46))))⟩, ⟨(some p6n16), none, (.pick (.t p6n13) (.c (.bool true)) (.t p6n15))⟩, ⟨(some p6n2), none, (.mv (.t p6n16))⟩]) .ret))⟩
noncomputable def a78 : AFunc :=
  ⟨4, [p4n0], [(p4n2, none)], false, (.seq (.reg [⟨(some p4n2), none, (.mv (.c (.bool false)))⟩]) (.seq (.reg [⟨(some p4n3), none, (.mv (.t p4n0))⟩, ⟨(some p4n4), none, (.bin .geq (.t p4n3) (.c (.int .u8 (.ofNat 48))))⟩, ⟨(some p4n5), none, (.mv (.t p4n4))⟩, ⟨(some p4n6), (some (p4n5, true)), (.mv (.t p4n0))⟩, ⟨(some p4n7), (some (p4n5, true)), (.bin .leq (.t p4n6) (.c (.int .u8 (.ofNat 57))))⟩, ⟨(some p4n8), none, (.pick (.t p4n5) (.t p4n7) (.c (.bool false)))⟩, ⟨(some p4n2), none, (.mv (.t p4n8))⟩]) .ret))⟩
noncomputable def a79 : AFunc :=
  ⟨4, [p4n0], [(p4n2, none)], false, (.seq (.reg [⟨(some p4n2), none, (.mv (.c (.bool false)))⟩]) (.seq (.reg [⟨(some p4n3), none, (.mv (.t p4n0))⟩, ⟨(some p4n4), none, (.call 78 [(.t p4n3)])⟩, ⟨(some p4n5), none, (.mv (.t p4n4))⟩, ⟨(some p4n6), (some (p4n5, false)), (.mv (.t p4n0))⟩, ⟨(some p4n7), (some (p4n5, false)), (.bin .geq (.t p4n6) (.c (.int .u8 (.ofNat 97))))⟩, ⟨(some p4n8), (some (p4n5, false)), (.mv (.t p4n7))⟩, ⟨(some p4n9), (some (p4n8, true)), (.mv (.t p4n0))⟩, ⟨(some p4n10), (some (p4n8, true)), (.bin .leq (.t p4n9) (.c (.int .u8 (.ofNat 102))))⟩, ⟨(some p4n11), (some (p4n5, false)), (.pick (.t p4n8) (.t p4n10) (.c (.bool false)))⟩, ⟨(some p4n12), none, (.pick (.t p4n5) (.c (.bool true)) (.t p4n11))⟩, ⟨(some p4n2), none, (.mv (.t p4n12))⟩]) .ret))⟩
noncomputable def a80 : AFunc :=
  ⟨6, [p6n0, p6n1], [(p6n4, none), (p6n5, none)], false, (.seq (.reg [⟨(some p6n4), none, (.mv (.c (.int .i64 (.ofNat 0))))⟩, ⟨(some p6n5), none, (.mv (.c (.bool false)))⟩]) (.seq (.reg [⟨(some p6n6), none, (.mv (.c (.int .i64 (.ofNat 0))))⟩]) (.seq (.seq (.reg [⟨(some p6n7), none, (.mv (.c (.int .i64 (.ofNat 0))))⟩]) (.block 0 (.loop (.seq (.seq (.reg [⟨(some p6n9), none, (.mv (.t p6n7))⟩, ⟨(some p6n10), none, (.mv (.t p6n0))⟩, ⟨(some p6n11), none, (.len true (.t p6n10))⟩, ⟨(some p6n12), none, (.bin .lss (.t p6n9) (.t p6n11))⟩]) (.cond (.t p6n12) .skip (.exit 0))) (.seq (.block 1 (.seq (.reg [⟨(some p6n15), none, (.mv (.t p6n0))⟩, ⟨(some p6n16), none, (.mv (.t p6n7))⟩, ⟨(some p6n17), none, (.idxS (.t p6n15) (.t p6n16))⟩, ⟨(some p6n18), none, (.bin .sub (.t p6n17) (.c (.int .u8 (.ofNat 48))))⟩, ⟨(some p6n19), none, (.cv (.int .i64) (.t p6n18))⟩, ⟨(some p6n8), none, (.mv (.t p6n19))⟩]) (.seq (.seq (.reg [⟨(some p6n20), none, (.mv (.t p6n0))⟩, ⟨(some p6n21), none, (.mv (.t p6n7))⟩, ⟨(some p6n22), none, (.idxS (.t p6n20) (.t p6n21))⟩, ⟨(some p6n23), none, (.call 78 [(.t p6n22)])⟩, ⟨(some p6n24), none, (.un .not (.t p6n23))⟩]) (.cond (.t p6n24) (.reg [⟨(some p6n25), none, (.mv (.t p6n0))⟩, ⟨(some p6n26), none, (.mv (.t p6n7))⟩, ⟨(some p6n27), none, (.idxS (.t p6n25) (.t p6n26))⟩, ⟨(some p6n28), none, (.bin .sub (.t p6n27) (.c (.int .u8 (.ofNat 97))))⟩, ⟨(some p6n29), none, (.cv (.int .i64) (.t p6n28))⟩, ⟨(some p6n30), none, (.bin .add (.t p6n29) (.c (.int .i64 (.ofNat 10))))⟩, ⟨(some p6n8), none, (.mv (.t p6n30))⟩]) .skip)) (.seq (.reg [⟨(some p6n31), none, (.mv (.t p6n6))⟩, ⟨(some p6n32), none, (.mv (.t p6n1))⟩, ⟨(some p6n33), none, (.bin .mul (.t p6n31) (.t p6n32))⟩, ⟨(some p6n34), none, (.mv (.t p6n8))⟩, ⟨(some p6n35), none, (.bin .add (.t p6n33) (.t p6n34))⟩, ⟨(some p6n6), none, (.mv (.t p6n35))⟩]) (.seq (.reg [⟨(some p6n36), none, (.mv (.t p6n6))⟩, ⟨(some p6n37), none, (.bin .geq (.t p6n36) (.c (.int .i64 (.ofNat 2147483648))))⟩]) (.cond (.t p6n37) (.seq (.reg [⟨(some p6n4), none, (.mv (.c (.int .i64 (.ofNat 0))))⟩, ⟨(some p6n5), none, (.mv (.c (.bool false)))⟩]) .ret) .skip)))))) (.reg [⟨(some p6n13), none, (.mv (.t p6n7))⟩, ⟨(some p6n14), none, (.bin .add (.t p6n13) (.c (.int .i64 (.ofNat 1))))⟩, ⟨(some p6n7), none, (.mv (.t p6n14))⟩])))))) (.seq (.reg [⟨(some p6n38), none, (.mv (.t p6n6))⟩, ⟨(some p6n4), none, (.mv (.t p6n38))⟩, ⟨(some p6n5), none, (.mv (.c (.bool true)))⟩]) .ret))))⟩
noncomputable def a81 : AFunc :=
  ⟨4, [p4n0], [(p4n2, none)], false, (.seq (.reg [⟨(some p4n2), none, (.mv (.c (.bool false)))⟩]) (.seq (.reg [⟨(some p4n3), none, (.mv (.t p4n0))⟩, ⟨(some p4n4), none, (.bin .geq (.t p4n3) (.c (.int .i64 (.negSucc 2147483647))))⟩, ⟨(some p4n5), none, (.mv (.t p4n4))⟩, ⟨(some p4n6), (some (p4n5, true)), (.mv (.t p4n0))⟩, ⟨(some p4n7), (some (p4n5, true)), (.bin .leq (.t p4n6) (.c (.int .i64 (.ofNat 2147483648))))⟩, ⟨(some p4n8), none, (.pick (.t p4n5) (.t p4n7) (.c (.bool false)))⟩, ⟨(some p4n2), none, (.mv (.t p4n8))⟩]) .ret))⟩
noncomputable def a82 : AFunc :=
  ⟨6, [p6n0], [(p6n2, none)], false, (.seq (.reg [⟨(some p6n2), none, (.mv (.c (.bool false)))⟩]) (.seq (.seq (.reg [⟨(some p6n5), none, (.mv (.t p6n0))⟩, ⟨(some p6n6), none, (.bin .eql (.t p6n5) (.c (.str [])))⟩, ⟨(some p6n7), none, (.mv (.t p6n6))⟩, ⟨(some p6n8), (some (p6n7, false)), (.mv (.t p6n0))⟩, ⟨(some p6n9), (some (p6n7, false)), (.len true (.t p6n8))⟩, ⟨(some p6n10), (some (p6n7, false)), (.bin .gtr (.t p6n9) (.c (.int .i64 (.ofNat 12))))⟩, ⟨(some p6n11), none, (.pick (.t p6n7) (.c (.bool true)) (.t p6n10))⟩, ⟨(some p6n12), none, (.mv (.t p6n11))⟩, ⟨(some p6n13), (some (p6n12, false)), (.mv (.t p6n0))⟩, ⟨(some p6n14), (some (p6n12, false)), (.idxS (.t p6n13) (.c (.int .i64 (.ofNat 0))))⟩, ⟨(some p6n15), (some (p6n12, false)), (.call 94 [(.t p6n14)])⟩, ⟨(some p6n16), (some (p6n12, false)), (.un .not (.t p6n15))⟩, ⟨(some p6n17), none, (.pick (.t p6n12) (.c (.bool true)) (.t p6n16))⟩]) (.cond (.t p6n17) (.seq (.reg [⟨(some p6n2), none, (.mv (.c (.bool false)))⟩]) .ret) .skip)) (.seq (.seq (.reg [⟨(some p6n18), none, (.mv (.t p6n0))⟩, ⟨(some p6n19), none, (.len true (.t p6n18))⟩, ⟨(some p6n20), none, (.mv (.c (.int .i64 (.ofNat 0))))⟩]) (.block 0 (.loop (.seq (.reg [⟨(some p6n21), none, (.bin .lss (.t p6n20) (.t p6n19))⟩]) (.seq (.cond (.t p6n21) .skip (.exit 0)) (.seq (.block 1 (.seq (.reg [⟨(some p6n22), none, (.mv (.t p6n20))⟩, ⟨(some p6n3), none, (.mv (.t p6n22))⟩]) (.seq (.reg [⟨(some p6n23), none, (.mv (.t p6n0))⟩, ⟨(some p6n24), none, (.mv (.t p6n3))⟩, ⟨(some p6n25), none, (.idxS (.t p6n23) (.t p6n24))⟩, ⟨(some p6n4), none, (.mv (.t p6n25))⟩]) (.seq (.reg [⟨(some p6n26), none, (.mv (.t p6n4))⟩, ⟨(some p6n27), none, (.call 94 [(.t p6n26)])⟩, ⟨(some p6n28), none, (.un .not (.t p6n27))⟩, ⟨(some p6n29), none, (.mv (.t p6n28))⟩, ⟨(some p6n30), (some (p6n29, true)), (.mv (.t p6n4))⟩, ⟨(some p6n31), (some (p6n29, true)), (.bin .lss (.t p6n30) (.c (.int .u8 (.ofNat 48))))⟩, ⟨(some p6n32), (some (p6n29, true)), (.mv (.t p6n31))⟩, ⟨(some p6n33), (some (p6n32, false)), (.mv (.t p6n4))⟩, ⟨(some p6n34), (some (p6n32, false)), (.bin .gtr (.t p6n33) (.c (.int .u8 (.ofNat 57))))⟩, ⟨(some p6n35), (some (p6n29, true)), (.pick (.t p6n32) (.c (.bool true)) (.t p6n34))⟩, ⟨(some p6n36), none, (.pick (.t p6n29) (.t p6n35) (.c (.bool false)))⟩]) (.cond (.t p6n36) (.seq (.reg [⟨(some p6n2), none, (.mv (.c (.bool false)))⟩]) .ret) .skip))))) (.reg [⟨(some p6n37), none, (.bin .add (.t p6n20) (.c (.int .i64 (.ofNat 1))))⟩, ⟨(some p6n20), none, (.mv (.t p6n37))⟩]))))))) (.seq (.reg [⟨(some p6n2), none, (.mv (.c (.bool true)))⟩]) .ret))))⟩
noncomputable def a83 : AFunc :=
  ⟨6, [p6n0, p6n1], [(p6n4, none)], false, (.seq (.reg [⟨(some p6n4), none, (.mv (.c (.int .i64 (.ofNat 0))))⟩]) (.seq (.seq (.reg [⟨(some p6n6), none, (.mv (.t p6n0))⟩, ⟨(some p6n7), none, (.len false (.t p6n6))⟩, ⟨(some p6n8), none, (.mv (.c (.int .i64 (.ofNat 0))))⟩]) (.block 0 (.loop (.seq (.reg [⟨(some p6n9), none, (.bin .lss (.t p6n8) (.t p6n7))⟩]) (.seq (.cond (.t p6n9) .skip (.exit 0)) (.seq (.block 1 (.seq (.reg [⟨(some p6n10), none, (.mv (.t p6n8))⟩, ⟨(some p6n5), none, (.mv (.t p6n10))⟩]) (.seq (.reg [⟨(some p6n11), none, (.mv (.t p6n1))⟩, ⟨(some p6n12), none, (.mv (.t p6n0))⟩, ⟨(some p6n13), none, (.mv (.t p6n5))⟩, ⟨(some p6n14), none, (.iaddr 2 (.t p6n12) (.t p6n13))⟩, ⟨(some p6n15), none, (.ldA 2 (.t p6n14))⟩, ⟨(some p6n16), none, (.calld (.t p6n11) [(.t p6n15)])⟩]) (.cond (.t p6n16) (.seq (.reg [⟨(some p6n17), none, (.mv (.t p6n5))⟩, ⟨(some p6n4), none, (.mv (.t p6n17))⟩]) .ret) .skip)))) (.reg [⟨(some p6n18), none, (.bin .add (.t p6n8) (.c (.int .i64 (.ofNat 1))))⟩, ⟨(some p6n8), none, (.mv (.t p6n18))⟩]))))))) (.seq (.reg [⟨(some p6n4), none, (.mv (.c (.int .i64 (.negSucc 0))))⟩]) .ret)))⟩
noncomputable def a84 : AFunc :=
  ⟨6, [p6n0, p6n1], [(p6n4, none)], false, (.seq (.reg [⟨(some p6n4), none, (.mv (.c (.int .i64 (.ofNat 0))))⟩]) (.seq (.seq (.reg [⟨(some p6n6), none, (.mv (.t p6n0))⟩, ⟨(some p6n7), none, (.len false (.t p6n6))⟩, ⟨(some p6n8), none, (.mv (.c (.int .i64 (.ofNat 0))))⟩]) (.block 0 (.loop (.seq (.reg [⟨(some p6n9), none, (.bin .lss (.t p6n8) (.t p6n7))⟩]) (.seq (.cond (.t p6n9) .skip (.exit 0)) (.seq (.block 1 (.seq (.reg [⟨(some p6n10), none, (.mv (.t p6n8))⟩, ⟨(some p6n5), none, (.mv (.t p6n10))⟩]) (.seq (.reg [⟨(some p6n11), none, (.mv (.t p6n1))⟩, ⟨(some p6n12), none, (.mv (.t p6n0))⟩, ⟨(some p6n13), none, (.mv (.t p6n5))⟩, ⟨(some p6n14), none, (.iaddr 4 (.t p6n12) (.t p6n13))⟩, ⟨(some p6n15), none, (.ldA 4 (.t p6n14))⟩, ⟨(some p6n16), none, (.calld (.t p6n11) [(.t p6n15)])⟩]) (.cond (.t p6n16) (.seq (.reg [⟨(some p6n17), none, (.mv (.t p6n5))⟩, ⟨(some p6n4), none, (.mv (.t p6n17))⟩]) .ret) .skip)))) (.reg [⟨(some p6n18), none, (.bin .add (.t p6n8) (.c (.int .i64 (.ofNat 1))))⟩, ⟨(some p6n8), none, (.mv (.t p6n18))⟩]))))))) (.seq (.reg [⟨(some p6n4), none, (.mv (.c (.int .i64 (.negSucc 0))))⟩]) .ret)))⟩
noncomputable def a85 : AFunc :=
  ⟨6, [p6n0], [(p6n2, none)], false, (.seq (.reg [⟨(some p6n2), none, (.mv (.c (.bool false)))⟩]) (.seq (.reg [⟨(some p6n3), none, (.mv (.t p6n0))⟩, ⟨(some p6n4), none, (.bin .eql (.t p6n3) (.c (.int .u8 (.ofNat 95))))⟩, ⟨(some p6n5), none, (.mv (.t p6n4))⟩, ⟨(some p6n6), (some (p6n5, false)), (.mv (.t p6n0))⟩, ⟨(some p6n7), (some (p6n5, false)), (.bin .eql (.t p6n6) (.c (.int .u8 (.ofNat 46))))⟩, ⟨(some p6n8), none, (.pick (.t p6n5) (.c (.bool true)) (.t p6n7))⟩, ⟨(some p6n9), none, (.mv (.t p6n8))⟩, ⟨(some p6n10), (some (p6n9, false)), (.mv (.t p6n0))⟩, ⟨(some p6n11), (some (p6n9, false)), (.bin .geq (.t p6n10) (.c (.int .u8 (.ofNat 97))))⟩, ⟨(some p6n12), (some (p6n9, false)), (.mv (.t p6n11))⟩, ⟨(some p6n13), (some (p6n12, true)), (.mv (.t p6n0))⟩, ⟨(some p6n14), (some (p6n12, true)), (.bin .leq (.t p6n13) (.c (.int .u8 (.ofNat 122))))⟩, ⟨(some p6n15), (some (p6n9, false)), (.pick (.t p6n12) (.t p6n14) (.c (.bool false)))⟩, ⟨(some p6n16), none, (.pick (.t p6n9) (.c (.bool true)) (.t p6n15))⟩, ⟨(some p6n2), none, (.mv (.t p6n16))⟩]) .ret))⟩
noncomputable def a86 : AFunc :=
  ⟨6, [p6n0, p6n1], [(p6n4, none)], false, (.seq (.reg [⟨(some p6n4), none, (.mv (.c (.int .i64 (.ofNat 0))))⟩]) (.seq (.reg [⟨(some p6n5), none, (.mv (.c (.int .i64 (.ofNat 0))))⟩]) (.seq (.block 0 (.loop (.seq (.seq (.reg [⟨(some p6n6), none, (.mv (.t p6n5))⟩, ⟨(some p6n7), none, (.mv (.t p6n0))⟩, ⟨(some p6n8), none, (.len true (.t p6n7))⟩, ⟨(some p6n9), none, (.bin .lss (.t p6n6) (.t p6n8))⟩, ⟨(some p6n10), none, (.mv (.t p6n9))⟩, ⟨(some p6n11), (some (p6n10, true)), (.mv (.t p6n1))⟩, ⟨(some p6n12), (some (p6n10, true)), (.mv (.t p6n0))⟩, ⟨(some p6n13), (some (p6n10, true)), (.mv (.t p6n5))⟩, ⟨(some p6n14), (some (p6n10, true)), (.idxS (.t p6n12) (.t p6n13))⟩, ⟨(some p6n15), (some (p6n10, true)), (.calld (.t p6n11) [(.t p6n14)])⟩, ⟨(some p6n16), none, (.pick (.t p6n10) (.t p6n15) (.c (.bool false)))⟩]) (.cond (.t p6n16) .skip (.exit 0))) (.block 1 (.reg [⟨(some p6n17), none, (.mv (.t p6n5))⟩, ⟨(some p6n18), none, (.bin .add (.t p6n17) (.c (.int .i64 (.ofNat 1))))⟩, ⟨(some p6n5), none, (.mv (.t p6n18))⟩]))))) (.seq (.reg [⟨(some p6n19), none, (.mv (.t p6n5))⟩, ⟨(some p6n4), none, (.mv (.t p6n19))⟩]) .ret))))⟩
noncomputable def a87 : AFunc :=
  ⟨4, [p4n0], [(p4n2, none)], false, (.seq (.reg [⟨(some p4n2), none, (.mv (.c (.bool false)))⟩]) (.seq (.reg [⟨(some p4n3), none, (.mv (.t p4n0))⟩, ⟨(some p4n4), none, (.call 85 [(.t p4n3)])⟩, ⟨(some p4n5), none, (.mv (.t p4n4))⟩, ⟨(some p4n6), (some (p4n5, false)), (.mv (.t p4n0))⟩, ⟨(some p4n7), (some (p4n5, false)), (.call 95 [(.t p4n6)])⟩, ⟨(some p4n8), none, (.pick (.t p4n5) (.c (.bool true)) (.t p4n7))⟩, ⟨(some p4n2), none, (.mv (.t p4n8))⟩]) .ret))⟩
noncomputable def a88 : AFunc :=
  ⟨4, [p4n0], [(p4n2, none)], false, (.seq (.reg [⟨(some p4n2), none, (.mv (.c (.bool false)))⟩]) (.seq (.reg [⟨(some p4n3), none, (.mv (.t p4n0))⟩, ⟨(some p4n4), none, (.call 96 [(.c (.str [44, 58, 43, 45, 42, 40, 41, 64])), (.t p4n3)])⟩, ⟨(some p4n5), none, (.bin .geq (.t p4n4) (.c (.int .i64 (.ofNat 0))))⟩, ⟨(some p4n2), none, (.mv (.t p4n5))⟩]) .ret))⟩
noncomputable def a89 : AFunc :=
  ⟨8, [p8n0], [(p8n2, (some (2, true))), (p8n3, none)], false, (.seq (.reg [⟨(some p8n2), none, (.alloc [(.str []), (.int .i64 (.ofNat 0))])⟩, ⟨(some p8n3), none, (.mv (.c (.int .i64 (.ofNat 0))))⟩]) (.seq (.block 0 (.seq (.reg [⟨(some p8n10), none, (.mv (.t p8n0))⟩, ⟨(some p8n11), none, (.call 70 [(.t p8n10), (.c (.str [45]))])⟩, ⟨(some p8n9), none, (.mv (.t p8n11))⟩]) (.cond (.t p8n9) (.seq (.reg [⟨(some p8n13), none, (.mv (.t p8n0))⟩, ⟨(some p8n14), none, (.mv (.t p8n0))⟩, ⟨(some p8n15), none, (.mkfn 89 [(.t p8n14)] [])⟩, ⟨(some p8n16), none, (.call 97 [(.t p8n13), (.t p8n15)])⟩, ⟨(some p8n12), none, (.mv (.t p8n16))⟩, ⟨(some p8n17), none, (.ext (.t p8n12) 0)⟩, ⟨(some p8n18), none, (.ext (.t p8n12) 1)⟩, ⟨(some p8n4), none, (.alloc [(.str []), (.int .i64 (.ofNat 0))])⟩, ⟨none, none, (.st 2 (.t p8n4) (.t p8n17))⟩, ⟨(some p8n5), none, (.mv (.t p8n18))⟩]) (.seq (.seq (.reg [⟨(some p8n19), none, (.mv (.t p8n5))⟩, ⟨(some p8n20), none, (.bin .neq (.t p8n19) (.c (.int .i64 (.ofNat 0))))⟩]) (.cond (.t p8n20) (.seq (.reg [⟨(some p8n21), none, (.build [(.str []), (.int .i64 (.ofNat 0))] [])⟩, ⟨(some p8n22), none, (.mv (.t p8n5))⟩, ⟨none, none, (.st 2 (.t p8n2) (.t p8n21))⟩, ⟨(some p8n3), none, (.mv (.t p8n22))⟩]) .ret) .skip)) (.seq (.reg [⟨(some p8n23), none, (.build [(.str []), (.int .i64 (.ofNat 0))] [])⟩, ⟨(some p8n24), none, (.ldA 2 (.t p8n4))⟩, ⟨(some p8n25), none, (.call 72 [(.t p8n23), (.t p8n24)])⟩, ⟨(some p8n26), none, (.ext (.t p8n25) 0)⟩, ⟨(some p8n27), none, (.ext (.t p8n25) 1)⟩, ⟨none, none, (.st 2 (.t p8n2) (.t p8n26))⟩, ⟨(some p8n3), none, (.mv (.t p8n27))⟩]) .ret))) (.seq (.reg [⟨(some p8n29), none, (.mv (.t p8n0))⟩, ⟨(some p8n30), none, (.call 70 [(.t p8n29), (.c (.str [40]))])⟩, ⟨(some p8n28), none, (.mv (.t p8n30))⟩]) (.cond (.t p8n28) (.seq (.reg [⟨(some p8n32), none, (.mv (.t p8n0))⟩, ⟨(some p8n33), none, (.mv (.t p8n0))⟩, ⟨(some p8n34), none, (.mkfn 52 [(.t p8n33)] [])⟩, ⟨(some p8n35), none, (.call 97 [(.t p8n32), (.t p8n34)])⟩, ⟨(some p8n31), none, (.mv (.t p8n35))⟩, ⟨(some p8n36), none, (.ext (.t p8n31) 0)⟩, ⟨(some p8n37), none, (.ext (.t p8n31) 1)⟩, ⟨(some p8n6), none, (.alloc [(.str []), (.int .i64 (.ofNat 0))])⟩, ⟨none, none, (.st 2 (.t p8n6) (.t p8n36))⟩, ⟨(some p8n7), none, (.mv (.t p8n37))⟩]) (.seq (.seq (.reg [⟨(some p8n38), none, (.mv (.t p8n7))⟩, ⟨(some p8n39), none, (.bin .neq (.t p8n38) (.c (.int .i64 (.ofNat 0))))⟩]) (.cond (.t p8n39) (.seq (.reg [⟨(some p8n40), none, (.build [(.str []), (.int .i64 (.ofNat 0))] [])⟩, ⟨(some p8n41), none, (.mv (.t p8n7))⟩, ⟨none, none, (.st 2 (.t p8n2) (.t p8n40))⟩, ⟨(some p8n3), none, (.mv (.t p8n41))⟩]) .ret) .skip)) (.seq (.seq (.reg [⟨(some p8n42), none, (.mv (.t p8n0))⟩, ⟨(some p8n43), none, (.call 70 [(.t p8n42), (.c (.str [41]))])⟩, ⟨(some p8n44), none, (.un .not (.t p8n43))⟩]) (.cond (.t p8n44) (.seq (.reg [⟨(some p8n45), none, (.build [(.str []), (.int .i64 (.ofNat 0))] [])⟩, ⟨none, none, (.st 2 (.t p8n2) (.t p8n45))⟩, ⟨(some p8n3), none, (.mv (.c (.int .i64 (.ofNat 3))))⟩]) .ret) .skip)) (.seq (.reg [⟨(some p8n46), none, (.ldA 2 (.t p8n6))⟩, ⟨none, none, (.st 2 (.t p8n2) (.t p8n46))⟩, ⟨(some p8n3), none, (.mv (.c (.int .i64 (.ofNat 0))))⟩]) .ret)))) (.seq (.regd [(.pure, ⟨(some p8n48), none, (.mv (.t p8n0))⟩), (.pure, ⟨(some p8n49), none, (.nilck (.t p8n48))⟩), (.pure, ⟨(some p8n50), none, (.faddr 2 (.t p8n49))⟩), (.load, ⟨(some p8n51), none, (.ld1 (.t p8n50))⟩), (.pure, ⟨(some p8n52), none, (.mv (.t p8n0))⟩), (.pure, ⟨(some p8n53), none, (.nilck (.t p8n52))⟩), (.pure, ⟨(some p8n54), none, (.faddr 1 (.t p8n53))⟩), (.load, ⟨(some p8n55), none, (.ld1 (.t p8n54))⟩), (.pure, ⟨(some p8n56), none, (.len false (.t p8n55))⟩)] [⟨(some p8n57), none, (.bin .eql (.t p8n51) (.t p8n56))⟩, ⟨(some p8n47), none, (.mv (.t p8n57))⟩]) (.cond (.t p8n47) (.seq (.reg [⟨(some p8n58), none, (.build [(.str []), (.int .i64 (.ofNat 0))] [])⟩, ⟨none, none, (.st 2 (.t p8n2) (.t p8n58))⟩, ⟨(some p8n3), none, (.mv (.c (.int .i64 (.ofNat 3))))⟩]) .ret) .skip))))))) (.seq (.regd [(.pure, ⟨(some p8n59), none, (.mv (.t p8n0))⟩), (.pure, ⟨(some p8n60), none, (.nilck (.t p8n59))⟩), (.pure, ⟨(some p8n61), none, (.faddr 1 (.t p8n60))⟩), (.load, ⟨(some p8n62), none, (.ld1 (.t p8n61))⟩), (.pure, ⟨(some p8n63), none, (.mv (.t p8n0))⟩), (.pure, ⟨(some p8n64), none, (.nilck (.t p8n63))⟩), (.pure, ⟨(some p8n65), none, (.faddr 2 (.t p8n64))⟩), (.load, ⟨(some p8n66), none, (.ld1 (.t p8n65))⟩), (.pure, ⟨(some p8n67), none, (.iaddr 4 (.t p8n62) (.t p8n66))⟩), (.load, ⟨(some p8n68), none, (.ldA 4 (.t p8n67))⟩), (.pure, ⟨(some p8n8), none, (.alloc [(.int .i64 (.ofNat 0)), (.str []), (.int .i64 (.ofNat 0)), (.int .i64 (.ofNat 0))])⟩)] [⟨none, none, (.st 4 (.t p8n8) (.t p8n68))⟩]) (.seq (.reg [⟨(some p8n69), none, (.mv (.t p8n0))⟩, ⟨(some p8n70), none, (.nilck (.t p8n69))⟩, ⟨(some p8n71), none, (.faddr 2 (.t p8n70))⟩, ⟨(some p8n72), none, (.ld1 (.t p8n71))⟩, ⟨(some p8n73), none, (.bin .add (.t p8n72) (.c (.int .i64 (.ofNat 1))))⟩, ⟨(some p8n74), none, (.nilck (.t p8n69))⟩, ⟨(some p8n75), none, (.faddr 2 (.t p8n74))⟩, ⟨none, none, (.st 1 (.t p8n75) (.t p8n73))⟩]) (.seq (.seq (.reg [⟨(some p8n76), none, (.faddr 0 (.t p8n8))⟩, ⟨(some p8n77), none, (.ld1 (.t p8n76))⟩]) (.block 1 (.seq (.reg [⟨(some p8n79), none, (.bin .eql (.t p8n77) (.c (.int .i64 (.ofNat 2))))⟩, ⟨(some p8n78), none, (.mv (.t p8n79))⟩]) (.cond (.t p8n78) (.seq (.reg [⟨(some p8n80), none, (.faddr 2 (.t p8n8))⟩, ⟨(some p8n81), none, (.ld1 (.t p8n80))⟩, ⟨(some p8n82), none, (.build [(.str []), (.int .i64 (.ofNat 0))] [(1, (1, (.t p8n81)))])⟩, ⟨none, none, (.st 2 (.t p8n2) (.t p8n82))⟩, ⟨(some p8n3), none, (.mv (.c (.int .i64 (.ofNat 0))))⟩]) .ret) (.seq (.reg [⟨(some p8n84), none, (.bin .eql (.t p8n77) (.c (.int .i64 (.ofNat 1))))⟩, ⟨(some p8n83), none, (.mv (.t p8n84))⟩]) (.cond (.t p8n83) (.seq (.reg [⟨(some p8n85), none, (.mv (.t p8n0))⟩, ⟨(some p8n86), none, (.faddr 1 (.t p8n8))⟩, ⟨(some p8n87), none, (.ld1 (.t p8n86))⟩, ⟨(some p8n88), none, (.call 98 [(.t p8n85), (.t p8n87)])⟩, ⟨(some p8n89), none, (.ext (.t p8n88) 0)⟩, ⟨(some p8n90), none, (.ext (.t p8n88) 1)⟩, ⟨none, none, (.st 2 (.t p8n2) (.t p8n89))⟩, ⟨(some p8n3), none, (.mv (.t p8n90))⟩]) .ret) .skip)))))) (.seq (.reg [⟨(some p8n91), none, (.build [(.str []), (.int .i64 (.ofNat 0))] [])⟩, ⟨none, none, (.st 2 (.t p8n2) (.t p8n91))⟩, ⟨(some p8n3), none, (.mv (.c (.int .i64 (.ofNat 3))))⟩]) .ret))))))⟩
noncomputable def a90 : AFunc :=
  ⟨4, [p4n0], [(p4n1, none)], false, (.seq (.reg [⟨(some p4n1), none, (.mv (.c .nilf))⟩]) (.seq (.seq (.reg [⟨(some p4n2), none, (.ld1 (.t p4n0))⟩, ⟨(some p4n3), none, (.call 70 [(.t p4n2), (.c (.str [42]))])⟩]) (.cond (.t p4n3) (.seq (.reg [⟨(some p4n1), none, (.mv (.c (.fn 91 [] [])))⟩]) .ret) .skip)) (.seq (.reg [⟨(some p4n1), none, (.mv (.c .nilf))⟩]) .ret)))⟩
noncomputable def a91 : AFunc :=
  ⟨6, [p6n0, p6n1], [(p6n4, (some (2, true))), (p6n5, none)], false, (.seq (.reg [⟨(some p6n2), none, (.box (.t p6n0))⟩, ⟨(some p6n3), none, (.box (.t p6n1))⟩, ⟨(some p6n4), none, (.alloc [(.str []), (.int .i64 (.ofNat 0))])⟩, ⟨(some p6n5), none, (.mv (.c (.int .i64 (.ofNat 0))))⟩]) (.seq (.seq (.reg [⟨(some p6n6), none, (.faddr 0 (.t p6n2))⟩, ⟨(some p6n7), none, (.ld1 (.t p6n6))⟩, ⟨(some p6n8), none, (.bin .neq (.t p6n7) (.c (.str [])))⟩, ⟨(some p6n9), none, (.mv (.t p6n8))⟩, ⟨(some p6n10), (some (p6n9, false)), (.faddr 0 (.t p6n3))⟩, ⟨(some p6n11), (some (p6n9, false)), (.ld1 (.t p6n10))⟩, ⟨(some p6n12), (some (p6n9, false)), (.bin .neq (.t p6n11) (.c (.str [])))⟩, ⟨(some p6n13), none, (.pick (.t p6n9) (.c (.bool true)) (.t p6n12))⟩]) (.cond (.t p6n13) (.seq (.reg [⟨(some p6n14), none, (.build [(.str []), (.int .i64 (.ofNat 0))] [])⟩, ⟨none, none, (.st 2 (.t p6n4) (.t p6n14))⟩, ⟨(some p6n5), none, (.mv (.c (.int .i64 (.ofNat 6))))⟩]) .ret) .skip)) (.seq (.reg [⟨(some p6n15), none, (.faddr 1 (.t p6n2))⟩, ⟨(some p6n16), none, (.ld1 (.t p6n15))⟩, ⟨(some p6n17), none, (.faddr 1 (.t p6n3))⟩, ⟨(some p6n18), none, (.ld1 (.t p6n17))⟩, ⟨(some p6n19), none, (.bin .mul (.t p6n16) (.t p6n18))⟩, ⟨(some p6n20), none, (.build [(.str []), (.int .i64 (.ofNat 0))] [(1, (1, (.t p6n19)))])⟩, ⟨(some p6n21), none, (.call 92 [(.t p6n20)])⟩, ⟨(some p6n22), none, (.ext (.t p6n21) 0)⟩, ⟨(some p6n23), none, (.ext (.t p6n21) 1)⟩, ⟨none, none, (.st 2 (.t p6n4) (.t p6n22))⟩, ⟨(some p6n5), none, (.mv (.t p6n23))⟩]) .ret)))⟩
noncomputable def a92 : AFunc :=
  ⟨4, [p4n0], [(p4n2, (some (2, true))), (p4n3, none)], false, (.seq (.reg [⟨(some p4n1), none, (.box (.t p4n0))⟩, ⟨(some p4n2), none, (.alloc [(.str []), (.int .i64 (.ofNat 0))])⟩, ⟨(some p4n3), none, (.mv (.c (.int .i64 (.ofNat 0))))⟩]) (.seq (.seq (.reg [⟨(some p4n4), none, (.faddr 1 (.t p4n1))⟩, ⟨(some p4n5), none, (.ld1 (.t p4n4))⟩, ⟨(some p4n6), none, (.call 81 [(.t p4n5)])⟩, ⟨(some p4n7), none, (.un .not (.t p4n6))⟩]) (.cond (.t p4n7) (.seq (.reg [⟨(some p4n8), none, (.build [(.str []), (.int .i64 (.ofNat 0))] [])⟩, ⟨none, none, (.st 2 (.t p4n2) (.t p4n8))⟩, ⟨(some p4n3), none, (.mv (.c (.int .i64 (.ofNat 7))))⟩]) .ret) .skip)) (.seq (.reg [⟨(some p4n9), none, (.ldA 2 (.t p4n1))⟩, ⟨none, none, (.st 2 (.t p4n2) (.t p4n9))⟩, ⟨(some p4n3), none, (.mv (.c (.int .i64 (.ofNat 0))))⟩]) .ret)))⟩
noncomputable def a93 : AFunc :=
  ⟨8, [p8n0, p8n1], [(p8n4, (some (2, true)))], false, (.seq (.reg [⟨(some p8n4), none, (.alloc [(.str []), (.int .i64 (.ofNat 0))])⟩]) (.seq (.seq (.reg [⟨(some p8n9), none, (.mv (.t p8n0))⟩, ⟨(some p8n10), none, (.nilck (.t p8n9))⟩, ⟨(some p8n11), none, (.faddr 3 (.t p8n10))⟩, ⟨(some p8n12), none, (.ld1 (.t p8n11))⟩, ⟨(some p8n13), none, (.bin .neq (.t p8n12) (.c (.int .i64 (.ofNat 0))))⟩]) (.cond (.t p8n13) (.seq (.reg [⟨(some p8n14), none, (.build [(.str []), (.int .i64 (.ofNat 0))] [])⟩, ⟨none, none, (.st 2 (.t p8n4) (.t p8n14))⟩]) .ret) .skip)) (.seq (.seq (.regd [(.pure, ⟨(some p8n15), none, (.mv (.t p8n0))⟩), (.pure, ⟨(some p8n16), none, (.nilck (.t p8n15))⟩), (.pure, ⟨(some p8n17), none, (.faddr 2 (.t p8n16))⟩), (.load, ⟨(some p8n18), none, (.ld1 (.t p8n17))⟩), (.pure, ⟨(some p8n19), none, (.mv (.t p8n0))⟩), (.pure, ⟨(some p8n20), none, (.nilck (.t p8n19))⟩), (.pure, ⟨(some p8n21), none, (.faddr 1 (.t p8n20))⟩), (.load, ⟨(some p8n22), none, (.ld1 (.t p8n21))⟩), (.pure, ⟨(some p8n23), none, (.len false (.t p8n22))⟩)] [⟨(some p8n24), none, (.bin .geq (.t p8n18) (.t p8n23))⟩]) (.cond (.t p8n24) (.seq (.reg [⟨(some p8n25), none, (.mv (.t p8n0))⟩, ⟨(some p8n26), none, (.call 76 [(.t p8n25), (.c (.int .i64 (.ofNat 3)))])⟩, ⟨none, none, (.st 2 (.t p8n4) (.t p8n26))⟩]) .ret) .skip)) (.seq (.regd [(.pure, ⟨(some p8n27), none, (.mv (.t p8n0))⟩), (.pure, ⟨(some p8n28), none, (.nilck (.t p8n27))⟩), (.pure, ⟨(some p8n29), none, (.faddr 1 (.t p8n28))⟩), (.load, ⟨(some p8n30), none, (.ld1 (.t p8n29))⟩), (.pure, ⟨(some p8n31), none, (.mv (.t p8n0))⟩), (.pure, ⟨(some p8n32), none, (.nilck (.t p8n31))⟩), (.pure, ⟨(some p8n33), none, (.faddr 2 (.t p8n32))⟩), (.load, ⟨(some p8n34), none, (.ld1 (.t p8n33))⟩), (.pure, ⟨(some p8n35), none, (.iaddr 4 (.t p8n30) (.t p8n34))⟩), (.load, ⟨(some p8n36), none, (.ldA 4 (.t p8n35))⟩), (.pure, ⟨(some p8n5), none, (.alloc [(.int .i64 (.ofNat 0)), (.str []), (.int .i64 (.ofNat 0)), (.int .i64 (.ofNat 0))])⟩)] [⟨none, none, (.st 4 (.t p8n5) (.t p8n36))⟩]) (.seq (.block 0 (.seq (.reg [⟨(some p8n38), none, (.faddr 0 (.t p8n5))⟩, ⟨(some p8n39), none, (.ld1 (.t p8n38))⟩, ⟨(some p8n40), none, (.bin .eql (.t p8n39) (.c (.int .i64 (.ofNat 2))))⟩, ⟨(some p8n37), none, (.mv (.t p8n40))⟩]) (.cond (.t p8n37) (.seq (.reg [⟨(some p8n41), none, (.mv (.t p8n0))⟩, ⟨(some p8n42), none, (.nilck (.t p8n41))⟩, ⟨(some p8n43), none, (.faddr 2 (.t p8n42))⟩, ⟨(some p8n44), none, (.ld1 (.t p8n43))⟩, ⟨(some p8n45), none, (.bin .add (.t p8n44) (.c (.int .i64 (.ofNat 1))))⟩, ⟨(some p8n46), none, (.nilck (.t p8n41))⟩, ⟨(some p8n47), none, (.faddr 2 (.t p8n46))⟩, ⟨none, none, (.st 1 (.t p8n47) (.t p8n45))⟩]) (.seq (.reg [⟨(some p8n48), none, (.faddr 2 (.t p8n5))⟩, ⟨(some p8n49), none, (.ld1 (.t p8n48))⟩, ⟨(some p8n50), none, (.build [(.str []), (.int .i64 (.ofNat 0))] [(1, (1, (.t p8n49)))])⟩, ⟨none, none, (.st 2 (.t p8n4) (.t p8n50))⟩]) .ret)) (.seq (.reg [⟨(some p8n52), none, (.faddr 0 (.t p8n5))⟩, ⟨(some p8n53), none, (.ld1 (.t p8n52))⟩, ⟨(some p8n54), none, (.bin .eql (.t p8n53) (.c (.int .i64 (.ofNat 1))))⟩, ⟨(some p8n51), none, (.mv (.t p8n54))⟩]) (.cond (.t p8n51) (.seq (.seq (.reg [⟨(some p8n55), none, (.faddr 1 (.t p8n5))⟩, ⟨(some p8n56), none, (.ld1 (.t p8n55))⟩, ⟨(some p8n57), none, (.call 53 [(.t p8n56)])⟩, ⟨(some p8n58), none, (.un .not (.t p8n57))⟩]) (.cond (.t p8n58) (.seq (.reg [⟨(some p8n59), none, (.mv (.t p8n0))⟩, ⟨(some p8n60), none, (.call 76 [(.t p8n59), (.c (.int .i64 (.ofNat 3)))])⟩, ⟨none, none, (.st 2 (.t p8n4) (.t p8n60))⟩]) .ret) .skip)) (.seq (.reg [⟨(some p8n61), none, (.mv (.t p8n0))⟩, ⟨(some p8n62), none, (.nilck (.t p8n61))⟩, ⟨(some p8n63), none, (.faddr 2 (.t p8n62))⟩, ⟨(some p8n64), none, (.ld1 (.t p8n63))⟩, ⟨(some p8n65), none, (.bin .add (.t p8n64) (.c (.int .i64 (.ofNat 1))))⟩, ⟨(some p8n66), none, (.nilck (.t p8n61))⟩, ⟨(some p8n67), none, (.faddr 2 (.t p8n66))⟩, ⟨none, none, (.st 1 (.t p8n67) (.t p8n65))⟩]) (.seq (.seq (.regd [(.pure, ⟨(some p8n68), none, (.mv (.t p8n0))⟩), (.pure, ⟨(some p8n69), none, (.nilck (.t p8n68))⟩), (.pure, ⟨(some p8n70), none, (.faddr 0 (.t p8n69))⟩), (.load, ⟨(some p8n71), none, (.ld1 (.t p8n70))⟩), (.pure, ⟨(some p8n72), none, (.faddr 1 (.t p8n5))⟩), (.load, ⟨(some p8n73), none, (.ld1 (.t p8n72))⟩)] [⟨(some p8n74), none, (.call 55 [(.t p8n71), (.t p8n73)])⟩, ⟨(some p8n6), none, (.mv (.t p8n74))⟩]) (.seq (.reg [⟨(some p8n75), none, (.mv (.t p8n6))⟩, ⟨(some p8n76), none, (.bin .geq (.t p8n75) (.c (.int .i64 (.ofNat 0))))⟩]) (.cond (.t p8n76) (.seq (.reg [⟨(some p8n77), none, (.mv (.t p8n0))⟩, ⟨(some p8n78), none, (.nilck (.t p8n77))⟩, ⟨(some p8n79), none, (.faddr 0 (.t p8n78))⟩, ⟨(some p8n80), none, (.ld1 (.t p8n79))⟩, ⟨(some p8n81), none, (.mv (.t p8n6))⟩, ⟨(some p8n82), none, (.iaddr 2 (.t p8n80) (.t p8n81))⟩, ⟨(some p8n83), none, (.faddr 1 (.t p8n82))⟩, ⟨(some p8n84), none, (.ld1 (.t p8n83))⟩, ⟨(some p8n85), none, (.build [(.str []), (.int .i64 (.ofNat 0))] [(1, (1, (.t p8n84)))])⟩, ⟨none, none, (.st 2 (.t p8n4) (.t p8n85))⟩]) .ret) .skip))) (.seq (.reg [⟨(some p8n86), none, (.faddr 1 (.t p8n5))⟩, ⟨(some p8n87), none, (.ld1 (.t p8n86))⟩, ⟨(some p8n88), none, (.build [(.str []), (.int .i64 (.ofNat 0))] [(0, (1, (.t p8n87)))])⟩, ⟨none, none, (.st 2 (.t p8n4) (.t p8n88))⟩]) .ret)))) (.seq (.reg [⟨(some p8n90), none, (.mv (.t p8n0))⟩, ⟨(some p8n91), none, (.call 74 [(.t p8n90), (.c (.str [45]))])⟩, ⟨(some p8n92), none, (.mv (.t p8n91))⟩, ⟨(some p8n93), (some (p8n92, false)), (.mv (.t p8n0))⟩, ⟨(some p8n94), (some (p8n92, false)), (.call 74 [(.t p8n93), (.c (.str [40]))])⟩, ⟨(some p8n95), none, (.pick (.t p8n92) (.c (.bool true)) (.t p8n94))⟩, ⟨(some p8n89), none, (.mv (.t p8n95))⟩]) (.cond (.t p8n89) (.seq (.seq (.reg [⟨(some p8n96), none, (.mv (.t p8n1))⟩, ⟨(some p8n97), none, (.bin .geq (.t p8n96) (.c (.int .i64 (.ofNat 8))))⟩]) (.cond (.t p8n97) (.seq (.reg [⟨(some p8n98), none, (.mv (.t p8n0))⟩, ⟨(some p8n99), none, (.call 76 [(.t p8n98), (.c (.int .i64 (.ofNat 2)))])⟩, ⟨none, none, (.st 2 (.t p8n4) (.t p8n99))⟩]) .ret) .skip)) (.seq (.reg [⟨(some p8n100), none, (.mv (.t p8n0))⟩, ⟨(some p8n101), none, (.nilck (.t p8n100))⟩, ⟨(some p8n102), none, (.faddr 2 (.t p8n101))⟩, ⟨(some p8n103), none, (.ld1 (.t p8n102))⟩, ⟨(some p8n104), none, (.bin .add (.t p8n103) (.c (.int .i64 (.ofNat 1))))⟩, ⟨(some p8n105), none, (.nilck (.t p8n100))⟩, ⟨(some p8n106), none, (.faddr 2 (.t p8n105))⟩, ⟨none, none, (.st 1 (.t p8n106) (.t p8n104))⟩]) (.seq (.seq (.reg [⟨(some p8n107), none, (.faddr 1 (.t p8n5))⟩, ⟨(some p8n108), none, (.ld1 (.t p8n107))⟩, ⟨(some p8n109), none, (.bin .eql (.t p8n108) (.c (.str [45])))⟩]) (.cond (.t p8n109) (.seq (.reg [⟨(some p8n110), none, (.mv (.t p8n0))⟩, ⟨(some p8n111), none, (.mv (.t p8n1))⟩, ⟨(some p8n112), none, (.bin .add (.t p8n111) (.c (.int .i64 (.ofNat 1))))⟩, ⟨(some p8n113), none, (.call 93 [(.t p8n110), (.t p8n112)])⟩, ⟨(some p8n7), none, (.alloc [(.str []), (.int .i64 (.ofNat 0))])⟩, ⟨none, none, (.st 2 (.t p8n7) (.t p8n113))⟩]) (.seq (.seq (.reg [⟨(some p8n114), none, (.mv (.t p8n0))⟩, ⟨(some p8n115), none, (.nilck (.t p8n114))⟩, ⟨(some p8n116), none, (.faddr 3 (.t p8n115))⟩, ⟨(some p8n117), none, (.ld1 (.t p8n116))⟩, ⟨(some p8n118), none, (.bin .eql (.t p8n117) (.c (.int .i64 (.ofNat 0))))⟩, ⟨(some p8n119), none, (.mv (.t p8n118))⟩, ⟨(some p8n120), (some (p8n119, true)), (.faddr 0 (.t p8n7))⟩, ⟨(some p8n121), (some (p8n119, true)), (.ld1 (.t p8n120))⟩, ⟨(some p8n122), (some (p8n119, true)), (.bin .neq (.t p8n121) (.c (.str [])))⟩, ⟨(some p8n123), none, (.pick (.t p8n119) (.t p8n122) (.c (.bool false)))⟩]) (.cond (.t p8n123) (.seq (.reg [⟨(some p8n124), none, (.mv (.t p8n0))⟩, ⟨(some p8n125), none, (.call 76 [(.t p8n124), (.c (.int .i64 (.ofNat 6)))])⟩, ⟨none, none, (.st 2 (.t p8n4) (.t p8n125))⟩]) .ret) .skip)) (.seq (.reg [⟨(some p8n126), none, (.faddr 1 (.t p8n7))⟩, ⟨(some p8n127), none, (.ld1 (.t p8n126))⟩, ⟨(some p8n128), none, (.un .neg (.t p8n127))⟩, ⟨(some p8n129), none, (.build [(.str []), (.int .i64 (.ofNat 0))] [(1, (1, (.t p8n128)))])⟩, ⟨none, none, (.st 2 (.t p8n4) (.t p8n129))⟩]) .ret))) .skip)) (.seq (.reg [⟨(some p8n130), none, (.mv (.t p8n0))⟩, ⟨(some p8n131), none, (.mv (.t p8n1))⟩, ⟨(some p8n132), none, (.bin .add (.t p8n131) (.c (.int .i64 (.ofNat 1))))⟩, ⟨(some p8n133), none, (.call 57 [(.t p8n130), (.t p8n132)])⟩, ⟨(some p8n8), none, (.alloc [(.str []), (.int .i64 (.ofNat 0))])⟩, ⟨none, none, (.st 2 (.t p8n8) (.t p8n133))⟩]) (.seq (.seq (.reg [⟨(some p8n134), none, (.mv (.t p8n0))⟩, ⟨(some p8n135), none, (.nilck (.t p8n134))⟩, ⟨(some p8n136), none, (.faddr 3 (.t p8n135))⟩, ⟨(some p8n137), none, (.ld1 (.t p8n136))⟩, ⟨(some p8n138), none, (.bin .eql (.t p8n137) (.c (.int .i64 (.ofNat 0))))⟩, ⟨(some p8n139), none, (.mv (.t p8n138))⟩, ⟨(some p8n140), (some (p8n139, true)), (.mv (.t p8n0))⟩, ⟨(some p8n141), (some (p8n139, true)), (.call 74 [(.t p8n140), (.c (.str [41]))])⟩, ⟨(some p8n142), (some (p8n139, true)), (.un .not (.t p8n141))⟩, ⟨(some p8n143), none, (.pick (.t p8n139) (.t p8n142) (.c (.bool false)))⟩]) (.cond (.t p8n143) (.seq (.reg [⟨(some p8n144), none, (.mv (.t p8n0))⟩, ⟨(some p8n145), none, (.call 76 [(.t p8n144), (.c (.int .i64 (.ofNat 3)))])⟩, ⟨none, none, (.st 2 (.t p8n4) (.t p8n145))⟩]) .ret) .skip)) (.seq (.reg [⟨(some p8n146), none, (.mv (.t p8n0))⟩, ⟨(some p8n147), none, (.nilck (.t p8n146))⟩, ⟨(some p8n148), none, (.faddr 2 (.t p8n147))⟩, ⟨(some p8n149), none, (.ld1 (.t p8n148))⟩, ⟨(some p8n150), none, (.bin .add (.t p8n149) (.c (.int .i64 (.ofNat 1))))⟩, ⟨(some p8n151), none, (.nilck (.t p8n146))⟩, ⟨(some p8n152), none, (.faddr 2 (.t p8n151))⟩, ⟨none, none, (.st 1 (.t p8n152) (.t p8n150))⟩]) (.seq (.reg [⟨(some p8n153), none, (.ldA 2 (.t p8n8))⟩, ⟨none, none, (.st 2 (.t p8n4) (.t p8n153))⟩]) .ret))))))) .skip))))))) (.seq (.reg [⟨(some p8n154), none, (.mv (.t p8n0))⟩, ⟨(some p8n155), none, (.call 76 [(.t p8n154), (.c (.int .i64 (.ofNat 3)))])⟩, ⟨none, none, (.st 2 (.t p8n4) (.t p8n155))⟩]) .ret))))))⟩
noncomputable def a94 : AFunc :=
  ⟨4, [p4n0], [(p4n2, none)], false, (.seq (.reg [⟨(some p4n2), none, (.mv (.c (.bool false)))⟩]) (.seq (.reg [⟨(some p4n3), none, (.mv (.t p4n0))⟩, ⟨(some p4n4), none, (.bin .eql (.t p4n3) (.c (.int .u8 (.ofNat 95))))⟩, ⟨(some p4n5), none, (.mv (.t p4n4))⟩, ⟨(some p4n6), (some (p4n5, false)), (.mv (.t p4n0))⟩, ⟨(some p4n7), (some (p4n5, false)), (.bin .geq (.t p4n6) (.c (.int .u8 (.ofNat 97))))⟩, ⟨(some p4n8), (some (p4n5, false)), (.mv (.t p4n7))⟩, ⟨(some p4n9), (some (p4n8, true)), (.mv (.t p4n0))⟩, ⟨(some p4n10), (some (p4n8, true)), (.bin .leq (.t p4n9) (.c (.int .u8 (.ofNat 122))))⟩, ⟨(some p4n11), (some (p4n5, false)), (.pick (.t p4n8) (.t p4n10) (.c (.bool false)))⟩, ⟨(some p4n12), none, (.pick (.t p4n5) (.c (.bool true)) (.t p4n11))⟩, ⟨(some p4n2), none, (.mv (.t p4n12))⟩]) .ret))⟩
noncomputable def a95 : AFunc :=
  ⟨4, [p4n0], [(p4n2, none)], false, (.seq (.reg [⟨(some p4n2), none, (.mv (.c (.bool false)))⟩]) (.seq (.reg [⟨(some p4n3), none, (.mv (.t p4n0))⟩, ⟨(some p4n4), none, (.bin .geq (.t p4n3) (.c (.int .u8 (.ofNat 48))))⟩, ⟨(some p4n5), none, (.mv (.t p4n4))⟩, ⟨(some p4n6), (some (p4n5, true)), (.mv (.t p4n0))⟩, ⟨(some p4n7), (some (p4n5, true)), (.bin .leq (.t p4n6) (.c (.int .u8 (.ofNat 57))))⟩, ⟨(some p4n8), none, (.pick (.t p4n5) (.t p4n7) (.c (.bool false)))⟩, ⟨(some p4n2), none, (.mv (.t p4n8))⟩]) .ret))⟩
noncomputable def a96 : AFunc :=
  ⟨4, [p4n0, p4n1], [(p4n4, none)], false, (.seq (.reg [⟨(some p4n4), none, (.mv (.c (.int .i64 (.ofNat 0))))⟩]) (.seq (.reg [⟨(some p4n5), none, (.mv (.t p4n0))⟩, ⟨(some p4n6), none, (.mv (.t p4n1))⟩, ⟨(some p4n7), none, (.call 99 [(.t p4n5), (.t p4n6)])⟩, ⟨(some p4n4), none, (.mv (.t p4n7))⟩]) .ret))⟩
noncomputable def a97 : AFunc :=
  ⟨6, [p6n0, p6n1], [(p6n4, (some (2, true))), (p6n5, none)], false, (.seq (.reg [⟨(some p6n4), none, (.alloc [(.str []), (.int .i64 (.ofNat 0))])⟩, ⟨(some p6n5), none, (.mv (.c (.int .i64 (.ofNat 0))))⟩]) (.seq (.seq (.reg [⟨(some p6n8), none, (.mv (.t p6n0))⟩, ⟨(some p6n9), none, (.nilck (.t p6n8))⟩, ⟨(some p6n10), none, (.faddr 3 (.t p6n9))⟩, ⟨(some p6n11), none, (.ld1 (.t p6n10))⟩, ⟨(some p6n12), none, (.bin .eql (.t p6n11) (.c (.int .i64 (.ofNat 8))))⟩]) (.cond (.t p6n12) (.seq (.reg [⟨(some p6n13), none, (.build [(.str []), (.int .i64 (.ofNat 0))] [])⟩, ⟨none, none, (.st 2 (.t p6n4) (.t p6n13))⟩, ⟨(some p6n5), none, (.mv (.c (.int .i64 (.ofNat 2))))⟩]) .ret) .skip)) (.seq (.reg [⟨(some p6n14), none, (.mv (.t p6n0))⟩, ⟨(some p6n15), none, (.nilck (.t p6n14))⟩, ⟨(some p6n16), none, (.faddr 3 (.t p6n15))⟩, ⟨(some p6n17), none, (.ld1 (.t p6n16))⟩, ⟨(some p6n18), none, (.bin .add (.t p6n17) (.c (.int .i64 (.ofNat 1))))⟩, ⟨(some p6n19), none, (.nilck (.t p6n14))⟩, ⟨(some p6n20), none, (.faddr 3 (.t p6n19))⟩, ⟨none, none, (.st 1 (.t p6n20) (.t p6n18))⟩]) (.seq (.reg [⟨(some p6n22), none, (.mv (.t p6n1))⟩, ⟨(some p6n23), none, (.calld (.t p6n22) [])⟩, ⟨(some p6n21), none, (.mv (.t p6n23))⟩, ⟨(some p6n24), none, (.ext (.t p6n21) 0)⟩, ⟨(some p6n25), none, (.ext (.t p6n21) 1)⟩, ⟨(some p6n6), none, (.alloc [(.str []), (.int .i64 (.ofNat 0))])⟩, ⟨none, none, (.st 2 (.t p6n6) (.t p6n24))⟩, ⟨(some p6n7), none, (.mv (.t p6n25))⟩]) (.seq (.reg [⟨(some p6n26), none, (.mv (.t p6n0))⟩, ⟨(some p6n27), none, (.nilck (.t p6n26))⟩, ⟨(some p6n28), none, (.faddr 3 (.t p6n27))⟩, ⟨(some p6n29), none, (.ld1 (.t p6n28))⟩, ⟨(some p6n30), none, (.bin .sub (.t p6n29) (.c (.int .i64 (.ofNat 1))))⟩, ⟨(some p6n31), none, (.nilck (.t p6n26))⟩, ⟨(some p6n32), none, (.faddr 3 (.t p6n31))⟩, ⟨none, none, (.st 1 (.t p6n32) (.t p6n30))⟩]) (.seq (.reg [⟨(some p6n33), none, (.ldA 2 (.t p6n6))⟩, ⟨(some p6n34), none, (.mv (.t p6n7))⟩, ⟨none, none, (.st 2 (.t p6n4) (.t p6n33))⟩, ⟨(some p6n5), none, (.mv (.t p6n34))⟩]) .ret))))))⟩
noncomputable def a98 : AFunc :=
  ⟨6, [p6n0, p6n1], [(p6n4, (some (2, true))), (p6n5, none)], false, (.seq (.reg [⟨(some p6n3), none, (.box (.t p6n1))⟩, ⟨(some p6n4), none, (.alloc [(.str []), (.int .i64 (.ofNat 0))])⟩, ⟨(some p6n5), none, (.mv (.c (.int .i64 (.ofNat 0))))⟩]) (.seq (.seq (.reg [⟨(some p6n7), none, (.ld1 (.t p6n3))⟩, ⟨(some p6n8), none, (.call 82 [(.t p6n7)])⟩, ⟨(some p6n9), none, (.un .not (.t p6n8))⟩]) (.cond (.t p6n9) (.seq (.reg [⟨(some p6n10), none, (.build [(.str []), (.int .i64 (.ofNat 0))] [])⟩, ⟨none, none, (.st 2 (.t p6n4) (.t p6n10))⟩, ⟨(some p6n5), none, (.mv (.c (.int .i64 (.ofNat 3))))⟩]) .ret) .skip)) (.seq (.reg [⟨(some p6n11), none, (.mv (.t p6n0))⟩, ⟨(some p6n12), none, (.nilck (.t p6n11))⟩, ⟨(some p6n13), none, (.faddr 0 (.t p6n12))⟩, ⟨(some p6n14), none, (.ld1 (.t p6n13))⟩, ⟨(some p6n15), none, (.mkfn 100 [] [(.t p6n3)])⟩, ⟨(some p6n16), none, (.call 83 [(.t p6n14), (.t p6n15)])⟩, ⟨(some p6n6), none, (.mv (.t p6n16))⟩]) (.seq (.seq (.reg [⟨(some p6n17), none, (.mv (.t p6n6))⟩, ⟨(some p6n18), none, (.bin .lss (.t p6n17) (.c (.int .i64 (.ofNat 0))))⟩]) (.cond (.t p6n18) (.seq (.reg [⟨(some p6n19), none, (.ld1 (.t p6n3))⟩, ⟨(some p6n20), none, (.build [(.str []), (.int .i64 (.ofNat 0))] [(0, (1, (.t p6n19)))])⟩, ⟨none, none, (.st 2 (.t p6n4) (.t p6n20))⟩, ⟨(some p6n5), none, (.mv (.c (.int .i64 (.ofNat 0))))⟩]) .ret) .skip)) (.seq (.reg [⟨(some p6n21), none, (.mv (.t p6n0))⟩, ⟨(some p6n22), none, (.nilck (.t p6n21))⟩, ⟨(some p6n23), none, (.faddr 0 (.t p6n22))⟩, ⟨(some p6n24), none, (.ld1 (.t p6n23))⟩, ⟨(some p6n25), none, (.mv (.t p6n6))⟩, ⟨(some p6n26), none, (.iaddr 2 (.t p6n24) (.t p6n25))⟩, ⟨(some p6n27), none, (.faddr 1 (.t p6n26))⟩, ⟨(some p6n28), none, (.ld1 (.t p6n27))⟩, ⟨(some p6n29), none, (.build [(.str []), (.int .i64 (.ofNat 0))] [(1, (1, (.t p6n28)))])⟩, ⟨none, none, (.st 2 (.t p6n4) (.t p6n29))⟩, ⟨(some p6n5), none, (.mv (.c (.int .i64 (.ofNat 0))))⟩]) .ret)))))⟩
noncomputable def a99 : AFunc :=
  ⟨4, [p4n0, p4n1], [(p4n4, none)], false, (.seq (.reg [⟨(some p4n4), none, (.mv (.c (.int .i64 (.ofNat 0))))⟩]) (.seq (.reg [⟨(some p4n5), none, (.mv (.t p4n0))⟩, ⟨(some p4n6), none, (.mv (.t p4n1))⟩, ⟨(some p4n7), none, (.ixb (.t p4n5) (.t p4n6))⟩, ⟨(some p4n4), none, (.mv (.t p4n7))⟩]) .ret))⟩
noncomputable def a100 : AFunc :=
  ⟨4, [p4n0, p4n1], [(p4n3, none)], false, (.seq (.reg [⟨(some p4n2), none, (.box (.t p4n0))⟩, ⟨(some p4n3), none, (.mv (.c (.bool false)))⟩]) (.seq (.reg [⟨(some p4n4), none, (.faddr 0 (.t p4n2))⟩, ⟨(some p4n5), none, (.ld1 (.t p4n4))⟩, ⟨(some p4n6), none, (.ld1 (.t p4n1))⟩, ⟨(some p4n7), none, (.bin .eql (.t p4n5) (.t p4n6))⟩, ⟨(some p4n3), none, (.mv (.t p4n7))⟩]) .ret))⟩
noncomputable def a121 : AFunc :=
  ⟨8, [p8n0], [(p8n2, none)], false, (.seq (.reg [⟨(some p8n1), none, (.box (.t p8n0))⟩, ⟨(some p8n2), none, (.mv (.c (.bool false)))⟩]) (.seq (.seq (.reg [⟨(some p8n14), none, (.ldA 3 (.t p8n1))⟩, ⟨(some p8n15), none, (.call 127 [(.t p8n14)])⟩]) (.cond (.t p8n15) (.seq (.reg [⟨(some p8n2), none, (.mv (.c (.bool true)))⟩]) .ret) .skip)) (.seq (.reg [⟨(some p8n16), none, (.ldA 3 (.t p8n1))⟩, ⟨(some p8n17), none, (.call 128 [(.t p8n16)])⟩, ⟨(some p8n3), none, (.mv (.t p8n17))⟩]) (.seq (.seq (.reg [⟨(some p8n4), none, (.mv (.c (.int .i64 (.ofNat 0))))⟩]) (.block 0 (.loop (.seq (.seq (.reg [⟨(some p8n18), none, (.mv (.t p8n4))⟩, ⟨(some p8n19), none, (.mv (.t p8n3))⟩, ⟨(some p8n20), none, (.len false (.t p8n19))⟩, ⟨(some p8n21), none, (.bin .lss (.t p8n18) (.t p8n20))⟩]) (.cond (.t p8n21) .skip (.exit 0))) (.seq (.block 1 (.seq (.reg [⟨(some p8n24), none, (.mv (.t p8n3))⟩, ⟨(some p8n25), none, (.mv (.t p8n4))⟩, ⟨(some p8n26), none, (.iaddr 1 (.t p8n24) (.t p8n25))⟩, ⟨(some p8n27), none, (.ld1 (.t p8n26))⟩, ⟨(some p8n28), none, (.call 129 [(.t p8n27)])⟩, ⟨(some p8n5), none, (.mv (.t p8n28))⟩]) (.seq (.reg [⟨(some p8n30), none, (.mv (.t p8n5))⟩, ⟨(some p8n31), none, (.call 130 [(.t p8n30)])⟩, ⟨(some p8n29), none, (.mv (.t p8n31))⟩, ⟨(some p8n32), none, (.ext (.t p8n29) 0)⟩, ⟨(some p8n33), none, (.ext (.t p8n29) 1)⟩, ⟨(some p8n34), none, (.ext (.t p8n29) 2)⟩, ⟨(some p8n35), none, (.ext (.t p8n29) 3)⟩, ⟨(some p8n6), none, (.mv (.t p8n32))⟩, ⟨(some p8n7), none, (.mv (.t p8n33))⟩, ⟨(some p8n8), none, (.mv (.t p8n34))⟩, ⟨(some p8n9), none, (.mv (.t p8n35))⟩]) (.seq (.reg [⟨(some p8n10), none, (.mv (.c (.int .i64 (.ofNat 1))))⟩, ⟨(some p8n11), none, (.mv (.c (.int .i64 (.ofNat 0))))⟩]) (.seq (.reg [⟨(some p8n12), none, (.mv (.c .nils))⟩]) (.seq (.reg [⟨(some p8n13), none, (.mv (.c .nils))⟩]) (.seq (.seq (.reg [⟨(some p8n36), none, (.mv (.t p8n3))⟩, ⟨(some p8n37), none, (.mv (.t p8n4))⟩, ⟨(some p8n38), none, (.iaddr 1 (.t p8n36) (.t p8n37))⟩, ⟨(some p8n39), none, (.ld1 (.t p8n38))⟩, ⟨(some p8n40), none, (.call 131 [(.t p8n39)])⟩]) (.cond (.t p8n40) (.reg [⟨(some p8n42), none, (.mv (.t p8n3))⟩, ⟨(some p8n43), none, (.mv (.t p8n4))⟩, ⟨(some p8n44), none, (.iaddr 1 (.t p8n42) (.t p8n43))⟩, ⟨(some p8n45), none, (.ld1 (.t p8n44))⟩, ⟨(some p8n46), none, (.call 132 [(.t p8n45)])⟩, ⟨(some p8n41), none, (.mv (.t p8n46))⟩, ⟨(some p8n47), none, (.ext (.t p8n41) 0)⟩, ⟨(some p8n48), none, (.ext (.t p8n41) 1)⟩, ⟨(some p8n49), none, (.ext (.t p8n41) 2)⟩, ⟨(some p8n50), none, (.ext (.t p8n41) 3)⟩, ⟨(some p8n12), none, (.mv (.t p8n47))⟩, ⟨(some p8n13), none, (.mv (.t p8n48))⟩, ⟨(some p8n11), none, (.mv (.t p8n49))⟩, ⟨(some p8n10), none, (.mv (.t p8n50))⟩]) .skip)) (.seq (.seq (.reg [⟨(some p8n51), none, (.mv (.t p8n9))⟩, ⟨(some p8n52), none, (.call 133 [(.t p8n51)])⟩, ⟨(some p8n53), none, (.mv (.t p8n10))⟩, ⟨(some p8n54), none, (.bin .neq (.t p8n52) (.t p8n53))⟩, ⟨(some p8n55), none, (.mv (.t p8n54))⟩, ⟨(some p8n56), (some (p8n55, false)), (.mv (.t p8n8))⟩, ⟨(some p8n57), (some (p8n55, false)), (.mv (.t p8n11))⟩, ⟨(some p8n58), (some (p8n55, false)), (.bin .neq (.t p8n56) (.t p8n57))⟩, ⟨(some p8n59), none, (.pick (.t p8n55) (.c (.bool true)) (.t p8n58))⟩, ⟨(some p8n60), none, (.mv (.t p8n59))⟩, ⟨(some p8n61), (some (p8n60, false)), (.mv (.t p8n6))⟩, ⟨(some p8n62), (some (p8n60, false)), (.mv (.t p8n12))⟩, ⟨(some p8n63), (some (p8n60, false)), (.call 134 [(.t p8n61), (.t p8n62)])⟩, ⟨(some p8n64), (some (p8n60, false)), (.un .not (.t p8n63))⟩, ⟨(some p8n65), none, (.pick (.t p8n60) (.c (.bool true)) (.t p8n64))⟩, ⟨(some p8n66), none, (.mv (.t p8n65))⟩, ⟨(some p8n67), (some (p8n66, false)), (.mv (.t p8n7))⟩, ⟨(some p8n68), (some (p8n66, false)), (.mv (.t p8n13))⟩, ⟨(some p8n69), (some (p8n66, false)), (.call 39 [(.t p8n67), (.t p8n68)])⟩, ⟨(some p8n70), (some (p8n66, false)), (.un .not (.t p8n69))⟩, ⟨(some p8n71), none, (.pick (.t p8n66) (.c (.bool true)) (.t p8n70))⟩, ⟨(some p8n72), none, (.mv (.t p8n71))⟩, ⟨(some p8n73), (some (p8n72, false)), (.mv (.t p8n5))⟩, ⟨(some p8n74), (some (p8n72, false)), (.mv (.t p8n3))⟩, ⟨(some p8n75), (some (p8n72, false)), (.mv (.t p8n4))⟩, ⟨(some p8n76), (some (p8n72, false)), (.iaddr 1 (.t p8n74) (.t p8n75))⟩, ⟨(some p8n77), (some (p8n72, false)), (.ld1 (.t p8n76))⟩, ⟨(some p8n78), (some (p8n72, false)), (.call 134 [(.t p8n73), (.t p8n77)])⟩, ⟨(some p8n79), (some (p8n72, false)), (.un .not (.t p8n78))⟩, ⟨(some p8n80), none, (.pick (.t p8n72) (.c (.bool true)) (.t p8n79))⟩]) (.cond (.t p8n80) (.seq (.reg [⟨(some p8n2), none, (.mv (.c (.bool false)))⟩]) .ret) .skip)) (.seq (.reg [⟨(some p8n81), none, (.mv (.t p8n6))⟩, ⟨(some p8n82), none, (.call 135 [(.t p8n81)])⟩]) (.seq (.reg [⟨(some p8n83), none, (.mv (.t p8n5))⟩, ⟨(some p8n84), none, (.mv (.t p8n3))⟩, ⟨(some p8n85), none, (.mv (.t p8n4))⟩, ⟨(some p8n86), none, (.iaddr 1 (.t p8n84) (.t p8n85))⟩, ⟨(some p8n87), none, (.ld1 (.t p8n86))⟩, ⟨(some p8n88), none, (.call 134 [(.t p8n83), (.t p8n87)])⟩, ⟨(some p8n89), none, (.un .not (.t p8n88))⟩]) (.cond (.t p8n89) (.seq (.reg [⟨(some p8n2), none, (.mv (.c (.bool false)))⟩]) .ret) .skip))))))))))) (.reg [⟨(some p8n22), none, (.mv (.t p8n4))⟩, ⟨(some p8n23), none, (.bin .add (.t p8n22) (.c (.int .i64 (.ofNat 1))))⟩, ⟨(some p8n4), none, (.mv (.t p8n23))⟩])))))) (.seq (.reg [⟨(some p8n90), none, (.call 136 [])⟩, ⟨(some p8n2), none, (.mv (.t p8n90))⟩]) .ret)))))⟩
noncomputable def a122 : AFunc :=
  ⟨4, [p4n0], [(p4n2, none)], false, (.seq (.reg [⟨(some p4n1), none, (.box (.t p4n0))⟩, ⟨(some p4n2), none, (.mv (.c (.bool false)))⟩]) (.seq (.reg [⟨(some p4n3), none, (.faddr 2 (.t p4n1))⟩, ⟨(some p4n4), none, (.ld1 (.t p4n3))⟩, ⟨(some p4n5), none, (.len false (.t p4n4))⟩, ⟨(some p4n6), none, (.bin .geq (.t p4n5) (.c (.int .i64 (.ofNat 0))))⟩, ⟨(some p4n7), none, (.mv (.t p4n6))⟩, ⟨(some p4n8), (some (p4n7, true)), (.buildS 1 24 (.str []) [(0, (.c (.str [46, 105, 102, 32, 49, 10, 97, 10, 46, 101, 110, 100, 105, 102, 10, 98]))), (1, (.c (.str [46, 105, 102, 32, 48, 10, 97, 10, 46, 101, 110, 100, 105, 102, 10, 98]))), (2, (.c (.str [46, 105, 102, 32, 49, 10, 97, 10, 46, 101, 108, 115, 101, 10, 98, 10, 46, 101, 110, 100, 105, 102]))), (3, (.c (.str [46, 105, 102, 32, 48, 10, 97, 10, 46, 101, 108, 115, 101, 10, 98, 10, 46, 101, 110, 100, 105, 102]))), (4, (.c (.str [46, 105, 102, 32, 49, 10, 46, 105, 102, 32, 48, 10, 97, 10, 46, 101, 108, 115, 101, 10, 98, 10, 46, 101, 110, 100, 105, 102, 10, 99, 10, 46, 101, 108, 115, 101, 10, 100, 10, 46, 101, 110, 100, 105, 102]))), (5, (.c (.str [46, 105, 102, 32, 48, 10, 46, 105, 102, 32, 49, 10, 97, 10, 46, 101, 108, 115, 101, 10, 98, 10, 46, 101, 110, 100, 105, 102, 10, 46, 101, 108, 115, 101, 10, 99, 10, 46, 101, 110, 100, 105, 102]))), (6, (.c (.str [46, 105, 102, 32, 49, 10, 97]))), (7, (.c (.str [46, 105, 102, 32, 48, 10, 97]))), (8, (.c (.str [46, 101, 108, 115, 101]))), (9, (.c (.str [46, 101, 110, 100, 105, 102]))), (10, (.c (.str [46, 105, 102, 32, 49, 10, 46, 101, 108, 115, 101, 10, 46, 101, 108, 115, 101, 10, 46, 101, 110, 100, 105, 102]))), (11, (.c (.str [46, 105, 102, 32, 48, 10, 46, 101, 108, 115, 101, 10, 46, 101, 108, 115, 101, 10, 46, 101, 110, 100, 105, 102]))), (12, (.c (.str [46, 105, 102]))), (13, (.c (.str [46, 105, 102, 32, 120, 10, 46, 101, 110, 100, 105, 102]))), (14, (.c (.str [46, 105, 102, 32, 49, 32, 50, 10, 46, 101, 110, 100, 105, 102]))), (15, (.c (.str [46, 105, 102, 32, 49, 43, 10, 46, 101, 110, 100, 105, 102]))), (16, (.c (.str [97, 58, 32, 46, 105, 102, 32, 49, 10, 46, 101, 110, 100, 105, 102]))), (17, (.c (.str [46, 105, 102, 32, 49, 10, 97, 58, 32, 46, 101, 110, 100, 105, 102]))), (18, (.c (.str [46, 105, 102, 32, 48, 10, 97, 58, 32, 46, 101, 108, 115, 101, 10, 46, 101, 110, 100, 105, 102]))), (19, (.c (.str [46, 105, 102, 32, 49, 10, 46, 101, 110, 100, 105, 102, 32, 53]))), (20, (.c (.str [46, 105, 102, 32, 48, 10, 46, 101, 108, 115, 101, 32, 53, 10, 46, 101, 110, 100, 105, 102]))), (21, (.c (.str [46, 105, 102, 32, 48, 10, 46, 105, 102, 32, 122, 122, 32, 122, 122, 10, 97, 58, 32, 46, 101, 108, 115, 101, 32, 55, 10, 120, 58, 32, 46, 101, 110, 100, 105, 102, 32, 56, 10, 46, 101, 110, 100, 105, 102]))), (22, (.c (.str [46, 105, 102, 32, 45, 49, 10, 97, 10, 46, 101, 110, 100, 105, 102]))), (23, (.c (.str [46, 105, 102, 32, 48, 10, 46, 109, 97, 99, 114, 111, 10, 46, 101, 110, 100, 109, 32, 120, 10, 46, 101, 113, 117, 10, 46, 101, 110, 100, 105, 102, 10, 98])))])⟩, ⟨(some p4n9), (some (p4n7, true)), (.call 137 [(.t p4n8)])⟩, ⟨(some p4n10), none, (.pick (.t p4n7) (.t p4n9) (.c (.bool false)))⟩, ⟨(some p4n2), none, (.mv (.t p4n10))⟩]) .ret))⟩
noncomputable def a123 : AFunc :=
  ⟨4, [p4n0], [(p4n2, none)], false, (.seq (.reg [⟨(some p4n1), none, (.box (.t p4n0))⟩, ⟨(some p4n2), none, (.mv (.c (.bool false)))⟩]) (.seq (.reg [⟨(some p4n3), none, (.faddr 2 (.t p4n1))⟩, ⟨(some p4n4), none, (.ld1 (.t p4n3))⟩, ⟨(some p4n5), none, (.len false (.t p4n4))⟩, ⟨(some p4n6), none, (.bin .geq (.t p4n5) (.c (.int .i64 (.ofNat 0))))⟩, ⟨(some p4n7), none, (.mv (.t p4n6))⟩, ⟨(some p4n8), (some (p4n7, true)), (.buildS 1 20 (.str []) [(0, (.c (.str [46, 109, 97, 99, 114, 111, 32, 109, 10, 97, 10, 46, 101, 110, 100, 109, 10, 109]))), (1, (.c (.str [46, 109, 97, 99, 114, 111, 32, 109, 10, 97, 10, 98, 58, 32, 99, 10, 46, 101, 110, 100, 109, 10, 120, 58, 32, 109, 10, 121]))), (2, (.c (.str [109, 10, 46, 109, 97, 99, 114, 111, 32, 109, 10, 97, 10, 46, 101, 110, 100, 109]))), (3, (.c (.str [46, 109, 97, 99, 114, 111, 32, 109, 10, 46, 101, 110, 100, 109, 10, 109, 10, 108, 58, 32, 109]))), (4, (.c (.str [46, 109, 97, 99, 114, 111, 32, 109, 10, 97, 10, 46, 101, 110, 100, 109, 10, 46, 109, 97, 99, 114, 111, 32, 109, 10, 46, 101, 110, 100, 109]))), (5, (.c (.str [46, 109, 97, 99, 114, 111, 32, 109, 10, 110, 10, 46, 101, 110, 100, 109, 10, 46, 109, 97, 99, 114, 111, 32, 110, 10, 97, 10, 46, 101, 110, 100, 109, 10, 109]))), (6, (.c (.str [46, 109, 97, 99, 114, 111, 32, 109, 10, 109, 10, 46, 101, 110, 100, 109, 10, 109]))), (7, (.c (.str [46, 109, 97, 99, 114, 111, 10, 46, 101, 110, 100, 109]))), (8, (.c (.str [46, 109, 97, 99, 114, 111, 32, 109, 32, 110, 10, 46, 101, 110, 100, 109]))), (9, (.c (.str [46, 109, 97, 99, 114, 111, 32, 46, 109, 10, 46, 101, 110, 100, 109]))), (10, (.c (.str [46, 109, 97, 99, 114, 111, 32, 109]))), (11, (.c (.str [46, 101, 110, 100, 109]))), (12, (.c (.str [46, 109, 97, 99, 114, 111, 32, 109, 10, 46, 109, 97, 99, 114, 111, 32, 110, 10, 46, 101, 110, 100, 109, 10, 46, 101, 110, 100, 109]))), (13, (.c (.str [46, 109, 97, 99, 114, 111, 32, 109, 10, 46, 101, 110, 100, 109, 32, 53]))), (14, (.c (.str [46, 109, 97, 99, 114, 111, 32, 109, 10, 97, 58, 32, 46, 101, 110, 100, 109]))), (15, (.c (.str [97, 58, 32, 46, 109, 97, 99, 114, 111, 32, 109, 10, 46, 101, 110, 100, 109]))), (16, (.c (.str [46, 109, 97, 99, 114, 111, 32, 109, 10, 46, 105, 102, 32, 49, 10, 46, 101, 110, 100, 109, 10, 109, 10, 46, 101, 110, 100, 105, 102]))), (17, (.c (.str [46, 109, 97, 99, 114, 111, 32, 97, 100, 100, 10, 120, 10, 46, 101, 110, 100, 109, 10, 97, 100, 100, 32, 114, 49, 44, 32, 114, 50]))), (18, (.c (.str [46, 109, 97, 99, 114, 111, 32, 109, 10, 46, 101, 113, 117, 32, 107, 44, 32, 53, 10, 46, 101, 110, 100, 109, 10, 109, 10, 46, 105, 102, 32, 107, 10, 97, 10, 46, 101, 110, 100, 105, 102, 10, 109]))), (19, (.c (.str [46, 109, 97, 99, 114, 111, 32, 109, 10, 46, 109, 97, 99, 114, 111, 10, 46, 101, 110, 100, 109])))])⟩, ⟨(some p4n9), (some (p4n7, true)), (.call 137 [(.t p4n8)])⟩, ⟨(some p4n10), none, (.pick (.t p4n7) (.t p4n9) (.c (.bool false)))⟩, ⟨(some p4n2), none, (.mv (.t p4n10))⟩]) .ret))⟩
noncomputable def a124 : AFunc :=
  ⟨4, [p4n0], [(p4n2, none)], false, (.seq (.reg [⟨(some p4n1), none, (.box (.t p4n0))⟩, ⟨(some p4n2), none, (.mv (.c (.bool false)))⟩]) (.seq (.reg [⟨(some p4n3), none, (.faddr 2 (.t p4n1))⟩, ⟨(some p4n4), none, (.ld1 (.t p4n3))⟩, ⟨(some p4n5), none, (.len false (.t p4n4))⟩, ⟨(some p4n6), none, (.bin .geq (.t p4n5) (.c (.int .i64 (.ofNat 0))))⟩, ⟨(some p4n7), none, (.mv (.t p4n6))⟩, ⟨(some p4n8), (some (p4n7, true)), (.buildS 1 16 (.str []) [(0, (.c (.str [46, 109, 97, 99, 114, 111, 32, 109, 10, 97, 100, 100, 32, 64, 49, 44, 32, 64, 50, 44, 32, 64, 49, 10, 46, 101, 110, 100, 109, 10, 109, 32, 114, 49, 44, 32, 114, 50]))), (1, (.c (.str [46, 109, 97, 99, 114, 111, 32, 109, 10, 64, 49, 10, 46, 101, 110, 100, 109, 10, 109, 32, 104, 97, 108, 116, 10, 109]))), (2, (.c (.str [46, 109, 97, 99, 114, 111, 32, 109, 10, 64, 49, 10, 46, 101, 110, 100, 109, 10, 109, 32, 46, 105, 102, 32, 49, 10, 46, 101, 110, 100, 105, 102]))), (3, (.c (.str [46, 109, 97, 99, 114, 111, 32, 109, 10, 108, 105, 32, 114, 49, 44, 32, 64, 49, 43, 64, 50, 10, 46, 101, 110, 100, 109, 10, 109, 32, 49, 44, 32, 50, 43, 51]))), (4, (.c (.str [46, 109, 97, 99, 114, 111, 32, 109, 10, 64, 10, 46, 101, 110, 100, 109, 10, 109, 32, 49]))), (5, (.c (.str [46, 109, 97, 99, 114, 111, 32, 109, 10, 64, 32, 48, 10, 46, 101, 110, 100, 109, 10, 109, 32, 49]))), (6, (.c (.str [46, 109, 97, 99, 114, 111, 32, 109, 10, 64, 49, 48, 10, 46, 101, 110, 100, 109, 10, 109, 32, 49]))), (7, (.c (.str [46, 109, 97, 99, 114, 111, 32, 109, 10, 64, 49, 32, 64, 50, 10, 46, 101, 110, 100, 109, 10, 109, 32, 44]))), (8, (.c (.str [46, 109, 97, 99, 114, 111, 32, 109, 10, 64, 49, 10, 46, 101, 110, 100, 109, 10, 109, 32, 44, 10, 109, 32, 40, 49, 44, 50, 41]))), (9, (.c (.str [46, 109, 97, 99, 114, 111, 32, 109, 10, 46, 105, 102, 32, 64, 49, 10, 97, 10, 46, 101, 108, 115, 101, 10, 64, 57, 10, 46, 101, 110, 100, 105, 102, 10, 46, 101, 110, 100, 109, 10, 109, 32, 49, 10, 109, 32, 48]))), (10, (.c (.str [64, 49]))), (11, (.c (.str [97, 32, 64, 50]))), (12, (.c (.str [46, 109, 97, 99, 114, 111, 32, 109, 10, 110, 32, 64, 49, 10, 46, 101, 110, 100, 109, 10, 46, 109, 97, 99, 114, 111, 32, 110, 10, 64, 49, 32, 64, 49, 10, 46, 101, 110, 100, 109, 10, 109, 32, 120]))), (13, (.c (.str [46, 109, 97, 99, 114, 111, 32, 109, 10, 64, 49, 32, 64, 49, 32, 64, 49, 32, 64, 49, 32, 64, 49, 32, 64, 49, 32, 64, 49, 32, 64, 49, 32, 64, 49, 32, 64, 49, 32, 64, 49, 10, 46, 101, 110, 100, 109, 10, 109, 32, 97, 32, 97, 32, 97, 32, 97]))), (14, (.c (.str [46, 109, 97, 99, 114, 111, 32, 109, 10, 108, 58, 32, 64, 49, 10, 46, 101, 110, 100, 109, 10, 109]))), (15, (.c (.str [46, 109, 97, 99, 114, 111, 32, 109, 10, 108, 58, 32, 120, 10, 46, 101, 110, 100, 109, 10, 109, 10, 109])))])⟩, ⟨(some p4n9), (some (p4n7, true)), (.call 137 [(.t p4n8)])⟩, ⟨(some p4n10), none, (.pick (.t p4n7) (.t p4n9) (.c (.bool false)))⟩, ⟨(some p4n2), none, (.mv (.t p4n10))⟩]) .ret))⟩
noncomputable def a125 : AFunc :=
  ⟨4, [p4n0], [(p4n2, none)], false, (.seq (.reg [⟨(some p4n1), none, (.box (.t p4n0))⟩, ⟨(some p4n2), none, (.mv (.c (.bool false)))⟩]) (.seq (.reg [⟨(some p4n3), none, (.faddr 2 (.t p4n1))⟩, ⟨(some p4n4), none, (.ld1 (.t p4n3))⟩, ⟨(some p4n5), none, (.len false (.t p4n4))⟩, ⟨(some p4n6), none, (.bin .geq (.t p4n5) (.c (.int .i64 (.ofNat 0))))⟩, ⟨(some p4n7), none, (.mv (.t p4n6))⟩, ⟨(some p4n8), (some (p4n7, true)), (.buildS 1 17 (.str []) [(0, (.c (.str [46, 101, 113, 117, 32, 97, 44, 32, 53, 10, 46, 105, 102, 32, 97, 10, 120, 10, 46, 101, 110, 100, 105, 102]))), (1, (.c (.str [46, 101, 113, 117, 32, 97, 44, 32, 53, 10, 46, 101, 113, 117, 32, 98, 44, 32, 97, 42, 97, 10, 46, 105, 102, 32, 98, 45, 50, 53, 10, 120, 10, 46, 101, 110, 100, 105, 102]))), (2, (.c (.str [46, 101, 113, 117, 32, 97, 44, 32, 49, 10, 46, 101, 113, 117, 32, 97, 44, 32, 49]))), (3, (.c (.str [46, 101, 113, 117, 32, 97]))), (4, (.c (.str [46, 101, 113, 117, 32, 97, 32, 53]))), (5, (.c (.str [46, 101, 113, 117, 32, 97, 44]))), (6, (.c (.str [46, 101, 113, 117, 32, 44, 32, 53]))), (7, (.c (.str [46, 101, 113, 117, 32, 46, 97, 44, 32, 53]))), (8, (.c (.str [46, 101, 113, 117, 32, 97, 44, 32, 98]))), (9, (.c (.str [46, 101, 113, 117, 32, 97, 44, 32, 97]))), (10, (.c (.str [46, 101, 113, 117, 32, 97, 44, 32, 49, 44, 32, 50]))), (11, (.c (.str [46, 101, 113, 117]))), (12, (.c (.str [46, 105, 102, 32, 48, 10, 46, 101, 113, 117, 32, 97, 44, 32, 49, 10, 46, 101, 110, 100, 105, 102, 10, 46, 101, 113, 117, 32, 97, 44, 32, 50]))), (13, (.c (.str [120, 58, 32, 46, 101, 113, 117, 32, 97, 44, 32, 49]))), (14, (.c (.str [46, 101, 113, 117, 32, 97, 44, 32, 50, 49, 52, 55, 52, 56, 51, 54, 52, 55, 42, 50]))), (15, (.c (.str [46, 101, 113, 117, 32, 97, 44, 32, 53, 10, 97]))), (16, (.c (.str [97, 58, 32, 97, 10, 46, 101, 113, 117, 32, 97, 44, 32, 49])))])⟩, ⟨(some p4n9), (some (p4n7, true)), (.call 137 [(.t p4n8)])⟩, ⟨(some p4n10), none, (.pick (.t p4n7) (.t p4n9) (.c (.bool false)))⟩, ⟨(some p4n2), none, (.mv (.t p4n10))⟩]) .ret))⟩
noncomputable def a126 : AFunc :=
  ⟨8, [p8n0], [(p8n2, none)], false, (.seq (.reg [⟨(some p8n1), none, (.box (.t p8n0))⟩, ⟨(some p8n2), none, (.mv (.c (.bool false)))⟩]) (.seq (.reg [⟨(some p8n3), none, (.mv (.c .nils))⟩]) (.seq (.reg [⟨(some p8n4), none, (.mv (.c (.str [])))⟩, ⟨(some p8n5), none, (.mv (.c (.str [])))⟩]) (.seq (.seq (.reg [⟨(some p8n6), none, (.mv (.c (.int .i64 (.ofNat 0))))⟩]) (.block 0 (.loop (.seq (.seq (.reg [⟨(some p8n15), none, (.mv (.t p8n6))⟩, ⟨(some p8n16), none, (.bin .lss (.t p8n15) (.c (.int .i64 (.ofNat 11))))⟩]) (.cond (.t p8n16) .skip (.exit 0))) (.seq (.block 1 (.seq (.reg [⟨(some p8n19), none, (.mv (.t p8n6))⟩, ⟨(some p8n20), none, (.bin .add (.c (.int .i64 (.ofNat 97))) (.t p8n19))⟩, ⟨(some p8n21), none, (.cv (.int .u8) (.t p8n20))⟩, ⟨(some p8n22), none, (.buildSo 1 1 (.int .u8 (.ofNat 0)) [(0, (.t p8n21))])⟩, ⟨(some p8n23), none, (.mem .b2s [(.t p8n22)])⟩, ⟨(some p8n7), none, (.mv (.t p8n23))⟩]) (.seq (.reg [⟨(some p8n24), none, (.mv (.t p8n6))⟩, ⟨(some p8n25), none, (.bin .add (.c (.int .i64 (.ofNat 98))) (.t p8n24))⟩, ⟨(some p8n26), none, (.cv (.int .u8) (.t p8n25))⟩, ⟨(some p8n27), none, (.buildSo 1 1 (.int .u8 (.ofNat 0)) [(0, (.t p8n26))])⟩, ⟨(some p8n28), none, (.mem .b2s [(.t p8n27)])⟩, ⟨(some p8n8), none, (.mv (.t p8n28))⟩]) (.seq (.reg [⟨(some p8n29), none, (.mv (.t p8n4))⟩, ⟨(some p8n30), none, (.bin .add (.t p8n29) (.c (.str [46, 109, 97, 99, 114, 111, 32])))⟩, ⟨(some p8n31), none, (.mv (.t p8n7))⟩, ⟨(some p8n32), none, (.bin .add (.t p8n30) (.t p8n31))⟩, ⟨(some p8n33), none, (.bin .add (.t p8n32) (.c (.str [10])))⟩, ⟨(some p8n34), none, (.mv (.t p8n8))⟩, ⟨(some p8n35), none, (.bin .add (.t p8n33) (.t p8n34))⟩, ⟨(some p8n36), none, (.bin .add (.t p8n35) (.c (.str [10, 46, 101, 110, 100, 109, 10])))⟩, ⟨(some p8n4), none, (.mv (.t p8n36))⟩]) (.seq (.reg [⟨(some p8n37), none, (.mv (.t p8n3))⟩, ⟨(some p8n38), none, (.mv (.t p8n4))⟩, ⟨(some p8n39), none, (.bin .add (.t p8n38) (.c (.str [97, 10])))⟩, ⟨(some p8n40), none, (.mv (.t p8n4))⟩, ⟨(some p8n41), none, (.bin .add (.t p8n40) (.c (.str [98, 10])))⟩, ⟨(some p8n42), none, (.buildS 1 2 (.str []) [(0, (.t p8n39)), (1, (.t p8n41))])⟩, ⟨(some p8n43), none, (.app 1 16 (.str []) (.t p8n37) (.t p8n42))⟩, ⟨(some p8n3), none, (.mv (.t p8n43))⟩]) (.seq (.reg [⟨(some p8n44), none, (.mv (.t p8n5))⟩, ⟨(some p8n45), none, (.bin .add (.t p8n44) (.c (.str [46, 105, 102, 32, 49, 10])))⟩, ⟨(some p8n5), none, (.mv (.t p8n45))⟩]) (.seq (.reg [⟨(some p8n46), none, (.mv (.t p8n5))⟩, ⟨(some p8n47), none, (.bin .add (.t p8n46) (.c (.str [120, 10])))⟩, ⟨(some p8n9), none, (.mv (.t p8n47))⟩]) (.seq (.seq (.reg [⟨(some p8n10), none, (.mv (.c (.int .i64 (.ofNat 0))))⟩]) (.block 2 (.loop (.seq (.seq (.reg [⟨(some p8n48), none, (.mv (.t p8n10))⟩, ⟨(some p8n49), none, (.mv (.t p8n6))⟩, ⟨(some p8n50), none, (.bin .leq (.t p8n48) (.t p8n49))⟩]) (.cond (.t p8n50) .skip (.exit 2))) (.seq (.block 3 (.reg [⟨(some p8n53), none, (.mv (.t p8n9))⟩, ⟨(some p8n54), none, (.bin .add (.t p8n53) (.c (.str [46, 101, 110, 100, 105, 102, 10])))⟩, ⟨(some p8n9), none, (.mv (.t p8n54))⟩])) (.reg [⟨(some p8n51), none, (.mv (.t p8n10))⟩, ⟨(some p8n52), none, (.bin .add (.t p8n51) (.c (.int .i64 (.ofNat 1))))⟩, ⟨(some p8n10), none, (.mv (.t p8n52))⟩])))))) (.reg [⟨(some p8n55), none, (.mv (.t p8n3))⟩, ⟨(some p8n56), none, (.mv (.t p8n9))⟩, ⟨(some p8n57), none, (.buildS 1 1 (.str []) [(0, (.t p8n56))])⟩, ⟨(some p8n58), none, (.app 1 16 (.str []) (.t p8n55) (.t p8n57))⟩, ⟨(some p8n3), none, (.mv (.t p8n58))⟩]))))))))) (.reg [⟨(some p8n17), none, (.mv (.t p8n6))⟩, ⟨(some p8n18), none, (.bin .add (.t p8n17) (.c (.int .i64 (.ofNat 1))))⟩, ⟨(some p8n6), none, (.mv (.t p8n18))⟩])))))) (.seq (.reg [⟨(some p8n11), none, (.mv (.c (.str [46, 109, 97, 99, 114, 111, 32, 109, 10, 46, 101, 110, 100, 109, 10, 46, 109, 97, 99, 114, 111, 32, 110, 10])))⟩]) (.seq (.reg [⟨(some p8n12), none, (.mv (.c (.str [46, 109, 97, 99, 114, 111, 32, 119, 10])))⟩]) (.seq (.seq (.reg [⟨(some p8n13), none, (.mv (.c (.int .i64 (.ofNat 0))))⟩]) (.block 4 (.loop (.seq (.seq (.reg [⟨(some p8n59), none, (.mv (.t p8n13))⟩, ⟨(some p8n60), none, (.bin .lss (.t p8n59) (.c (.int .i64 (.ofNat 26))))⟩]) (.cond (.t p8n60) .skip (.exit 4))) (.seq (.block 5 (.reg [⟨(some p8n63), none, (.mv (.t p8n11))⟩, ⟨(some p8n64), none, (.bin .add (.t p8n63) (.c (.str [109, 10])))⟩, ⟨(some p8n65), none, (.mv (.t p8n12))⟩, ⟨(some p8n66), none, (.bin .add (.t p8n65) (.c (.str [120, 10])))⟩, ⟨(some p8n11), none, (.mv (.t p8n64))⟩, ⟨(some p8n12), none, (.mv (.t p8n66))⟩])) (.reg [⟨(some p8n61), none, (.mv (.t p8n13))⟩, ⟨(some p8n62), none, (.bin .add (.t p8n61) (.c (.int .i64 (.ofNat 1))))⟩, ⟨(some p8n13), none, (.mv (.t p8n62))⟩])))))) (.seq (.reg [⟨(some p8n67), none, (.mv (.t p8n11))⟩, ⟨(some p8n68), none, (.bin .add (.t p8n67) (.c (.str [46, 101, 110, 100, 109, 10])))⟩, ⟨(some p8n69), none, (.mv (.t p8n12))⟩, ⟨(some p8n70), none, (.bin .add (.t p8n69) (.c (.str [46, 101, 110, 100, 109, 10])))⟩, ⟨(some p8n11), none, (.mv (.t p8n68))⟩, ⟨(some p8n12), none, (.mv (.t p8n70))⟩]) (.seq (.seq (.reg [⟨(some p8n14), none, (.mv (.c (.int .i64 (.ofNat 0))))⟩]) (.block 6 (.loop (.seq (.seq (.reg [⟨(some p8n71), none, (.mv (.t p8n14))⟩, ⟨(some p8n72), none, (.bin .lss (.t p8n71) (.c (.int .i64 (.ofNat 22))))⟩]) (.cond (.t p8n72) .skip (.exit 6))) (.seq (.block 7 (.seq (.reg [⟨(some p8n75), none, (.mv (.t p8n11))⟩, ⟨(some p8n76), none, (.bin .add (.t p8n75) (.c (.str [110, 10])))⟩, ⟨(some p8n77), none, (.mv (.t p8n12))⟩, ⟨(some p8n78), none, (.bin .add (.t p8n77) (.c (.str [119, 10])))⟩, ⟨(some p8n11), none, (.mv (.t p8n76))⟩, ⟨(some p8n12), none, (.mv (.t p8n78))⟩]) (.seq (.reg [⟨(some p8n79), none, (.mv (.t p8n14))⟩, ⟨(some p8n80), none, (.bin .gtr (.t p8n79) (.c (.int .i64 (.ofNat 8))))⟩]) (.cond (.t p8n80) (.reg [⟨(some p8n81), none, (.mv (.t p8n3))⟩, ⟨(some p8n82), none, (.mv (.t p8n11))⟩, ⟨(some p8n83), none, (.mv (.t p8n12))⟩, ⟨(some p8n84), none, (.buildS 1 2 (.str []) [(0, (.t p8n82)), (1, (.t p8n83))])⟩, ⟨(some p8n85), none, (.app 1 16 (.str []) (.t p8n81) (.t p8n84))⟩, ⟨(some p8n3), none, (.mv (.t p8n85))⟩]) .skip)))) (.reg [⟨(some p8n73), none, (.mv (.t p8n14))⟩, ⟨(some p8n74), none, (.bin .add (.t p8n73) (.c (.int .i64 (.ofNat 1))))⟩, ⟨(some p8n14), none, (.mv (.t p8n74))⟩])))))) (.seq (.reg [⟨(some p8n86), none, (.faddr 2 (.t p8n1))⟩, ⟨(some p8n87), none, (.ld1 (.t p8n86))⟩, ⟨(some p8n88), none, (.len false (.t p8n87))⟩, ⟨(some p8n89), none, (.bin .geq (.t p8n88) (.c (.int .i64 (.ofNat 0))))⟩, ⟨(some p8n90), none, (.mv (.t p8n89))⟩, ⟨(some p8n91), (some (p8n90, true)), (.mv (.t p8n3))⟩, ⟨(some p8n92), (some (p8n90, true)), (.call 137 [(.t p8n91)])⟩, ⟨(some p8n93), none, (.pick (.t p8n90) (.t p8n92) (.c (.bool false)))⟩, ⟨(some p8n2), none, (.mv (.t p8n93))⟩]) .ret))))))))))⟩
noncomputable def a127 : AFunc :=
  ⟨6, [p6n0], [(p6n2, none)], false, (.seq (.reg [⟨(some p6n1), none, (.box (.t p6n0))⟩, ⟨(some p6n2), none, (.mv (.c (.bool false)))⟩]) (.seq (.reg [⟨(some p6n5), none, (.faddr 2 (.t p6n1))⟩, ⟨(some p6n6), none, (.ld1 (.t p6n5))⟩, ⟨(some p6n7), none, (.len false (.t p6n6))⟩, ⟨(some p6n3), none, (.mv (.t p6n7))⟩]) (.seq (.seq (.reg [⟨(some p6n4), none, (.mv (.c (.int .i64 (.ofNat 0))))⟩]) (.block 0 (.loop (.seq (.seq (.reg [⟨(some p6n8), none, (.mv (.t p6n4))⟩, ⟨(some p6n9), none, (.faddr 2 (.t p6n1))⟩, ⟨(some p6n10), none, (.ld1 (.t p6n9))⟩, ⟨(some p6n11), none, (.len false (.t p6n10))⟩, ⟨(some p6n12), none, (.bin .lss (.t p6n8) (.t p6n11))⟩, ⟨(some p6n13), none, (.mv (.t p6n12))⟩, ⟨(some p6n14), (some (p6n13, true)), (.mv (.t p6n3))⟩, ⟨(some p6n15), (some (p6n13, true)), (.bin .lss (.t p6n14) (.c (.int .i64 (.ofNat 1048576))))⟩, ⟨(some p6n16), none, (.pick (.t p6n13) (.t p6n15) (.c (.bool false)))⟩]) (.cond (.t p6n16) .skip (.exit 0))) (.seq (.block 1 (.reg [⟨(some p6n19), none, (.mv (.t p6n3))⟩, ⟨(some p6n20), none, (.faddr 2 (.t p6n1))⟩, ⟨(some p6n21), none, (.ld1 (.t p6n20))⟩, ⟨(some p6n22), none, (.mv (.t p6n4))⟩, ⟨(some p6n23), none, (.iaddr 1 (.t p6n21) (.t p6n22))⟩, ⟨(some p6n24), none, (.ld1 (.t p6n23))⟩, ⟨(some p6n25), none, (.call 138 [(.t p6n24)])⟩, ⟨(some p6n26), none, (.bin .add (.t p6n19) (.t p6n25))⟩, ⟨(some p6n3), none, (.mv (.t p6n26))⟩])) (.reg [⟨(some p6n17), none, (.mv (.t p6n4))⟩, ⟨(some p6n18), none, (.bin .add (.t p6n17) (.c (.int .i64 (.ofNat 1))))⟩, ⟨(some p6n4), none, (.mv (.t p6n18))⟩])))))) (.seq (.reg [⟨(some p6n27), none, (.mv (.t p6n3))⟩, ⟨(some p6n28), none, (.bin .gtr (.t p6n27) (.c (.int .i64 (.ofNat 900))))⟩, ⟨(some p6n29), none, (.mv (.t p6n28))⟩, ⟨(some p6n30), (some (p6n29, false)), (.faddr 0 (.t p6n1))⟩, ⟨(some p6n31), (some (p6n29, false)), (.ldA 2 (.t p6n30))⟩, ⟨(some p6n32), (some (p6n29, false)), (.call 47 [(.t p6n31)])⟩, ⟨(some p6n33), none, (.pick (.t p6n29) (.c (.bool true)) (.t p6n32))⟩, ⟨(some p6n2), none, (.mv (.t p6n33))⟩]) .ret))))⟩
noncomputable def a128 : AFunc :=
  ⟨8, [p8n0], [(p8n2, none)], false, (.seq (.reg [⟨(some p8n1), none, (.box (.t p8n0))⟩, ⟨(some p8n2), none, (.mv (.c .nils))⟩]) (.seq (.reg [⟨(some p8n11), none, (.buildS 1 1 .nils [(0, (.c .nils))])⟩, ⟨(some p8n12), none, (.faddr 2 (.t p8n1))⟩, ⟨(some p8n13), none, (.ld1 (.t p8n12))⟩, ⟨(some p8n14), none, (.app 1 24 .nils (.t p8n11) (.t p8n13))⟩, ⟨(some p8n3), none, (.mv (.t p8n14))⟩]) (.seq (.seq (.reg [⟨(some p8n15), none, (.mv (.t p8n3))⟩, ⟨(some p8n16), none, (.len false (.t p8n15))⟩, ⟨(some p8n17), none, (.bin .gtr (.t p8n16) (.c (.int .i64 (.ofNat 6))))⟩]) (.cond (.t p8n17) (.reg [⟨(some p8n18), none, (.mv (.t p8n3))⟩, ⟨(some p8n19), none, (.slL 1 (.t p8n18) none (some (.c (.int .i64 (.ofNat 6)))) none)⟩, ⟨(some p8n3), none, (.mv (.t p8n19))⟩]) .skip)) (.seq (.seq (.reg [⟨(some p8n4), none, (.mv (.c (.int .i64 (.ofNat 0))))⟩]) (.block 0 (.loop (.seq (.seq (.reg [⟨(some p8n20), none, (.mv (.t p8n4))⟩, ⟨(some p8n21), none, (.faddr 0 (.t p8n1))⟩, ⟨(some p8n22), none, (.faddr 0 (.t p8n21))⟩, ⟨(some p8n23), none, (.ld1 (.t p8n22))⟩, ⟨(some p8n24), none, (.len false (.t p8n23))⟩, ⟨(some p8n25), none, (.bin .lss (.t p8n20) (.t p8n24))⟩, ⟨(some p8n26), none, (.mv (.t p8n25))⟩, ⟨(some p8n27), (some (p8n26, true)), (.mv (.t p8n4))⟩, ⟨(some p8n28), (some (p8n26, true)), (.bin .lss (.t p8n27) (.c (.int .i64 (.ofNat 6))))⟩, ⟨(some p8n29), none, (.pick (.t p8n26) (.t p8n28) (.c (.bool false)))⟩]) (.cond (.t p8n29) .skip (.exit 0))) (.seq (.block 1 (.seq (.reg [⟨(some p8n33), none, (.faddr 0 (.t p8n1))⟩, ⟨(some p8n34), none, (.faddr 0 (.t p8n33))⟩, ⟨(some p8n35), none, (.ld1 (.t p8n34))⟩, ⟨(some p8n36), none, (.mv (.t p8n4))⟩, ⟨(some p8n37), none, (.iaddr 1 (.t p8n35) (.t p8n36))⟩, ⟨(some p8n38), none, (.ld1 (.t p8n37))⟩, ⟨(some p8n39), none, (.call 139 [(.t p8n38)])⟩, ⟨(some p8n32), none, (.mv (.t p8n39))⟩, ⟨(some p8n40), none, (.ext (.t p8n32) 0)⟩, ⟨(some p8n41), none, (.ext (.t p8n32) 1)⟩, ⟨(some p8n42), none, (.ext (.t p8n32) 2)⟩, ⟨(some p8n5), none, (.mv (.t p8n40))⟩, ⟨(some p8n6), none, (.mv (.t p8n41))⟩, ⟨(some p8n7), none, (.mv (.t p8n42))⟩]) (.seq (.seq (.reg [⟨(some p8n43), none, (.mv (.t p8n7))⟩, ⟨(some p8n44), none, (.bin .neq (.t p8n43) (.c (.int .i64 (.ofNat 0))))⟩]) (.cond (.t p8n44) (.exit 1) .skip)) (.seq (.reg [⟨(some p8n45), none, (.mv (.t p8n3))⟩, ⟨(some p8n46), none, (.mv (.t p8n5))⟩, ⟨(some p8n47), none, (.buildS 1 1 .nils [(0, (.t p8n46))])⟩, ⟨(some p8n48), none, (.app 1 24 .nils (.t p8n45) (.t p8n47))⟩, ⟨(some p8n3), none, (.mv (.t p8n48))⟩]) (.seq (.seq (.reg [⟨(some p8n49), none, (.mv (.t p8n5))⟩, ⟨(some p8n50), none, (.len false (.t p8n49))⟩, ⟨(some p8n51), none, (.bin .eql (.t p8n50) (.c (.int .i64 (.ofNat 0))))⟩]) (.cond (.t p8n51) (.exit 1) .skip)) (.seq (.reg [⟨(some p8n8), none, (.mv (.c (.int .i64 (.ofNat 0))))⟩]) (.block 2 (.loop (.seq (.seq (.reg [⟨(some p8n52), none, (.mv (.t p8n8))⟩, ⟨(some p8n53), none, (.bin .lss (.t p8n52) (.c (.int .i64 (.ofNat 5))))⟩]) (.cond (.t p8n53) .skip (.exit 2))) (.seq (.block 3 (.seq (.reg [⟨(some p8n56), none, (.mv (.t p8n5))⟩, ⟨(some p8n57), none, (.call 129 [(.t p8n56)])⟩, ⟨(some p8n9), none, (.mv (.t p8n57))⟩]) (.seq (.reg [⟨(some p8n58), none, (.mv (.t p8n8))⟩, ⟨(some p8n59), none, (.mv (.t p8n9))⟩, ⟨(some p8n60), none, (.len false (.t p8n59))⟩, ⟨(some p8n61), none, (.bin .mul (.t p8n58) (.t p8n60))⟩, ⟨(some p8n62), none, (.bin .quo (.t p8n61) (.c (.int .i64 (.ofNat 5))))⟩, ⟨(some p8n63), none, (.mv (.t p8n4))⟩, ⟨(some p8n64), none, (.bin .add (.t p8n62) (.t p8n63))⟩, ⟨(some p8n65), none, (.mv (.t p8n9))⟩, ⟨(some p8n66), none, (.len false (.t p8n65))⟩, ⟨(some p8n67), none, (.call 49 [(.t p8n64), (.t p8n66)])⟩, ⟨(some p8n10), none, (.mv (.t p8n67))⟩]) (.seq (.seq (.reg [⟨(some p8n68), none, (.mv (.t p8n8))⟩]) (.block 4 (.seq (.reg [⟨(some p8n74), none, (.bin .eql (.t p8n68) (.c (.int .i64 (.ofNat 0))))⟩, ⟨(some p8n73), none, (.mv (.t p8n74))⟩]) (.cond (.t p8n73) (.regd [(.pure, ⟨(some p8n75), none, (.mv (.t p8n9))⟩), (.pure, ⟨(some p8n76), none, (.mv (.t p8n10))⟩), (.pure, ⟨(some p8n77), none, (.slL 3 (.t p8n75) none (some (.t p8n76)) none)⟩), (.pure, ⟨(some p8n78), none, (.mv (.t p8n9))⟩), (.pure, ⟨(some p8n79), none, (.mv (.t p8n10))⟩), (.pure, ⟨(some p8n80), none, (.bin .add (.t p8n79) (.c (.int .i64 (.ofNat 1))))⟩), (.pure, ⟨(some p8n81), none, (.slL 3 (.t p8n78) (some (.t p8n80)) none none)⟩)] [⟨(some p8n82), none, (.app 3 48 (.agg [(.int .i64 (.ofNat 0)), (.str []), .nils]) (.t p8n77) (.t p8n81))⟩, ⟨(some p8n9), none, (.mv (.t p8n82))⟩]) (.seq (.reg [⟨(some p8n84), none, (.bin .eql (.t p8n68) (.c (.int .i64 (.ofNat 1))))⟩, ⟨(some p8n83), none, (.mv (.t p8n84))⟩]) (.cond (.t p8n83) (.reg [⟨(some p8n85), none, (.mv (.t p8n9))⟩, ⟨(some p8n86), none, (.mv (.t p8n10))⟩, ⟨(some p8n87), none, (.iaddr 3 (.t p8n85) (.t p8n86))⟩, ⟨(some p8n88), none, (.faddr 0 (.t p8n87))⟩, ⟨(some p8n89), none, (.ld1 (.t p8n88))⟩, ⟨(some p8n90), none, (.bin .add (.t p8n89) (.c (.int .i64 (.ofNat 1))))⟩, ⟨(some p8n91), none, (.iaddr 3 (.t p8n85) (.t p8n86))⟩, ⟨(some p8n92), none, (.faddr 0 (.t p8n91))⟩, ⟨none, none, (.st 1 (.t p8n92) (.t p8n90))⟩]) (.seq (.reg [⟨(some p8n94), none, (.bin .eql (.t p8n68) (.c (.int .i64 (.ofNat 2))))⟩, ⟨(some p8n93), none, (.mv (.t p8n94))⟩]) (.cond (.t p8n93) (.reg [⟨(some p8n95), none, (.mv (.t p8n9))⟩, ⟨(some p8n96), none, (.mv (.t p8n10))⟩, ⟨(some p8n97), none, (.buildS 1 3 (.str []) [(0, (.c (.str [120]))), (1, (.c (.str [46, 120]))), (2, (.c (.str [88])))])⟩, ⟨(some p8n98), none, (.mv (.t p8n4))⟩, ⟨(some p8n99), none, (.bin .rem (.t p8n98) (.c (.int .i64 (.ofNat 3))))⟩, ⟨(some p8n100), none, (.iaddr 1 (.t p8n97) (.t p8n99))⟩, ⟨(some p8n101), none, (.ld1 (.t p8n100))⟩, ⟨(some p8n102), none, (.iaddr 3 (.t p8n95) (.t p8n96))⟩, ⟨(some p8n103), none, (.faddr 1 (.t p8n102))⟩, ⟨none, none, (.st 1 (.t p8n103) (.t p8n101))⟩]) (.seq (.reg [⟨(some p8n105), none, (.bin .eql (.t p8n68) (.c (.int .i64 (.ofNat 3))))⟩, ⟨(some p8n104), none, (.mv (.t p8n105))⟩]) (.cond (.t p8n104) (.regd [(.pure, ⟨(some p8n106), none, (.mv (.t p8n9))⟩), (.pure, ⟨(some p8n107), none, (.mv (.t p8n10))⟩), (.pure, ⟨(some p8n108), none, (.mv (.t p8n9))⟩), (.pure, ⟨(some p8n109), none, (.mv (.t p8n10))⟩), (.pure, ⟨(some p8n110), none, (.iaddr 3 (.t p8n108) (.t p8n109))⟩), (.pure, ⟨(some p8n111), none, (.faddr 2 (.t p8n110))⟩), (.load, ⟨(some p8n112), none, (.ld1 (.t p8n111))⟩), (.pure, ⟨(some p8n113), none, (.buildS 1 3 (.str []) [(0, (.c (.str [58]))), (1, (.c (.str [64]))), (2, (.c (.str [59])))])⟩), (.pure, ⟨(some p8n114), none, (.mv (.t p8n4))⟩), (.pure, ⟨(some p8n115), none, (.bin .rem (.t p8n114) (.c (.int .i64 (.ofNat 3))))⟩), (.pure, ⟨(some p8n116), none, (.iaddr 1 (.t p8n113) (.t p8n115))⟩), (.load, ⟨(some p8n117), none, (.ld1 (.t p8n116))⟩), (.pure, ⟨(some p8n118), none, (.build [(.int .i64 (.ofNat 0)), (.str []), (.int .i64 (.ofNat 0)), (.int .i64 (.ofNat 0))] [(0, (1, (.c (.int .i64 (.ofNat 3))))), (1, (1, (.t p8n117)))])⟩), (.pure, ⟨(some p8n119), none, (.buildS 4 1 (.agg [(.int .i64 (.ofNat 0)), (.str []), (.int .i64 (.ofNat 0)), (.int .i64 (.ofNat 0))]) [(0, (.t p8n118))])⟩)] [⟨(some p8n120), none, (.app 4 40 (.agg [(.int .i64 (.ofNat 0)), (.str []), (.int .i64 (.ofNat 0)), (.int .i64 (.ofNat 0))]) (.t p8n112) (.t p8n119))⟩, ⟨(some p8n121), none, (.iaddr 3 (.t p8n106) (.t p8n107))⟩, ⟨(some p8n122), none, (.faddr 2 (.t p8n121))⟩, ⟨none, none, (.st 1 (.t p8n122) (.t p8n120))⟩]) (.reg [⟨(some p8n69), none, (.mv (.t p8n9))⟩, ⟨(some p8n70), none, (.mv (.t p8n10))⟩, ⟨(some p8n71), none, (.iaddr 3 (.t p8n69) (.t p8n70))⟩, ⟨(some p8n72), none, (.faddr 2 (.t p8n71))⟩, ⟨none, none, (.st 1 (.t p8n72) (.c .nils))⟩]))))))))))) (.reg [⟨(some p8n123), none, (.mv (.t p8n3))⟩, ⟨(some p8n124), none, (.mv (.t p8n9))⟩, ⟨(some p8n125), none, (.buildS 1 1 .nils [(0, (.t p8n124))])⟩, ⟨(some p8n126), none, (.app 1 24 .nils (.t p8n123) (.t p8n125))⟩, ⟨(some p8n3), none, (.mv (.t p8n126))⟩]))))) (.reg [⟨(some p8n54), none, (.mv (.t p8n8))⟩, ⟨(some p8n55), none, (.bin .add (.t p8n54) (.c (.int .i64 (.ofNat 1))))⟩, ⟨(some p8n8), none, (.mv (.t p8n55))⟩]))))))))))) (.reg [⟨(some p8n30), none, (.mv (.t p8n4))⟩, ⟨(some p8n31), none, (.bin .add (.t p8n30) (.c (.int .i64 (.ofNat 1))))⟩, ⟨(some p8n4), none, (.mv (.t p8n31))⟩])))))) (.seq (.reg [⟨(some p8n127), none, (.mv (.t p8n3))⟩, ⟨(some p8n2), none, (.mv (.t p8n127))⟩]) .ret)))))⟩

end M2
end
