/- General ground for the statement: an abstract machine that the program's code is shown to follow, and the contracts of the functions that the law reaches. Part 3. -/
import Derived.Test.YtbhcijlhcgnliaaDoorA2
import Derived.ProofKit
import Derived.OpenShut
import Derived.Attr
set_option linter.unusedVariables false
set_option linter.unusedSimpArgs false
section
namespace M2
open Go
noncomputable section

section
variable {tbl : Nat → Option AFunc} {d : Nat} {ms : List Nat} {bx : List Bool} {t0 : T} {D0 E0 : List Nat}
variable {env : List AV} {H H' : Heap} {O O' : Rows} {F F' F2 : Fr} {t t' : T} {lg : Log} {sl sl' : SLog}

/-- the kinds are such as may be -/
def KOK (dr : Bool) (L : List Itm) : Prop := ∀ e ∈ L, koks e.1 e.2.1.op ∧ (dr = false → e.1 = none)

theorem KOK.left {dr : Bool} {a b : List Itm} (h : KOK dr (a ++ b)) : KOK dr a := fun e he => h e (List.mem_append.mpr (.inl he))
theorem KOK.right {dr : Bool} {a b : List Itm} (h : KOK dr (a ++ b)) : KOK dr b := fun e he => h e (List.mem_append.mpr (.inr he))
theorem KOK.hd {dr : Bool} {e : Itm} {b : List Itm} (h : KOK dr (e :: b)) : koks e.1 e.2.1.op ∧ (dr = false → e.1 = none) := h e List.mem_cons_self
theorem KOK.tl {dr : Bool} {e : Itm} {b : List Itm} (h : KOK dr (e :: b)) : KOK dr b := fun x hx => h x (List.mem_cons_of_mem _ hx)

theorem slog_one {e : Itm} {sl sl' : SLog} (h : slogL [e] sl = some sl') : slog1 e.1 e.2.2 sl = some sl' := by
  simp only [slogL] at h
  cases hs : slog1 e.1 e.2.2 sl with
  | none => rw [hs] at h; cases h
  | some s => rw [hs] at h; exact h
theorem slog_cons {e : Itm} {l : List Itm} {sl sl' : SLog} (h : slogL (e :: l) sl = some sl') : ∃ s1, slog1 e.1 e.2.2 sl = some s1 ∧ slogL l s1 = some sl' := by
  simp only [slogL] at h
  cases hs : slog1 e.1 e.2.2 sl with
  | none => rw [hs] at h; cases h
  | some s => rw [hs] at h; exact ⟨s, rfl, h⟩

theorem headD_getD (os : List Opd) : os.headD hh = os.getD 0 hh := by cases os <;> rfl

theorem nm_lt {k : Nat} (h : nm d ms k = true) : k < 2 ^ d := by simp only [nm, Bool.and_eq_true, decide_eq_true_eq] at h; exact h.1

/-- a value taken into a name -/
theorem one_mv {dr : Bool} (hms : ∀ m ∈ ms, m < 2 ^ d) {g : Guard} {c' : Nat} (hn : nm d ms c' = true) {o : Opd} {k : Option DK} (hk : koks k (.mv o)) (hd : dr = false → k = none)
    (hS : Sim d ms bx t0 D0 E0 env H O F t) (hI : LogI d ms bx env H F t lg sl) (hl : lets d F g true) (hs : slog1 k none sl = some sl') {v : AV} (hv : o.get F = v) :
    ∃ F' lg', Run1 tbl [(k, (⟨some (pth d c'), gd d g, .mv o⟩, none))] F t lg F' t lg' ∧ Sim d ms bx t0 D0 E0 env H O F' t ∧ LogI d ms bx env H F' t lg' sl' ∧ Agr d ms c' F F' ∧ F'.get (pth d c') = v :=
  one_free (tbl := tbl) (o := .mv hh) (os := [o]) hms hn rfl rfl hk hd hS hI hl hs (by show some (o.get F) = some v; rw [hv])

theorem pureV_ext (l : List AV) (i : Nat) : pureV (.ext hh i) [.tup l] = l[i]? := by
  show (OR.ofOption (⟨0, [], []⟩ : T) l[i]?).val = l[i]?
  cases l[i]? <;> rfl

theorem extsSim {dr : Bool} (hms : ∀ m ∈ ms, m < 2 ^ d) {g : Guard} {p : Nat} {l : List AV} (hpd : p < 2 ^ d) : ∀ (is : List Nat) (c : Nat) (ws : List AV) (L : List Itm) (F : Fr) (lg : Log) (sl sl' : SLog), p < c → GOK d g c → (∀ i, i < is.length → nm d ms (c + i) = true) → L.map (·.2) = exts d p g is c → KOK dr L →
    slogL L sl = some sl' → Sim d ms bx t0 D0 E0 env H O F t → LogI d ms bx env H F t lg sl → lets d F g true → F.get (pth d p) = .tup l → extL l is = some ws →
    ∃ F' lg', Run1 tbl L F t lg F' t lg' ∧ Sim d ms bx t0 D0 E0 env H O F' t ∧ LogI d ms bx env H F' t lg' sl' ∧ Agr d ms c F F' ∧ VRs d ms bx env F' (c + is.length) (extOs d is c) ws (is.map fun _ => none)
  | [], c, ws, L, F, lg, sl, sl', _, _, _, hL, _, hs, hS, hI, _, _, he => by
    cases L with
    | nil => cases hs; cases he; exact ⟨F, lg, .refl _ _ _, hS, hI, .refl _ _, .nil⟩
    | cons _ _ => cases hL
  | i :: is, c, ws, L, F, lg, sl, sl', hpc, hg, hn, hL, hk, hs, hS, hI, hl, hF, he => by
    obtain ⟨k, L', rfl, hL'⟩ := cons_item hL
    obtain ⟨s1, hs1, hs2⟩ := slog_cons hs
    simp only [extL] at he
    cases hv : l[i]? with
    | none => rw [hv] at he; cases he
    | some v =>
      rw [hv] at he
      simp only at he
      cases hr : extL l is with
      | none => rw [hr] at he; cases he
      | some vs =>
        rw [hr] at he
        cases he
        obtain ⟨F1, lg1, r1, S1, I1, a1, e1⟩ := one_free (tbl := tbl) (o := .ext hh i) (os := [.t (pth d p)]) hms (hn 0 (by simp)) rfl rfl hk.hd.1 hk.hd.2 hS hI hl hs1 (v := v) (by
          show pureV (.ext hh i) [F.get (pth d p)] = some v
          rw [hF, pureV_ext, hv])
        have hF1 : F1.get (pth d p) = .tup l := by rw [a1.2 p (by simpa using hpc) hpd]; exact hF
        obtain ⟨F2, lg2, r2, S2, I2, a2, V2⟩ := extsSim hms hpd is (c + 1) vs L' F1 lg1 s1 sl' (by omega) (hg.le (Nat.le_succ _)) (fun j hj => by have := hn (j + 1) (by simpa using hj); rwa [Nat.add_assoc, Nat.add_comm 1]) hL' hk.tl hs2 S1 I1 (lets_agr hg a1 hl) hF1 hr
        refine ⟨F2, lg2, Run1.trans r1 r2, S2, I2, a1.trans a2 (Nat.le_succ _), .cons (.inr ⟨c, by simp, (hn 0 (by simp)), rfl⟩) ?_ (by rw [List.length_cons, show c + (is.length + 1) = c + 1 + is.length by omega]; exact V2)⟩
        show F2.get (pth d c) = v
        rw [a2.2 c (Nat.lt_succ_self _) (nm_lt (hn 0 (by simp)))]
        exact e1

theorem hread_at {o : AOp} {os : List Opd} {vs : List AV} {dr : Bool} {Q : AV → Heap → Rows → Prop} (hv : os.map (·.get F) = vs) (hw : wpo tbl dr o vs H O Q) : ∀ a, accO o = some a → atO bx d ms env H F a (o.fill os) := by
  have g' : ∀ i, vs.getD i .und = (os.getD i hh).get F := by
    intro i
    rw [← hv]
    simp only [List.getD_eq_getElem?_getD, List.getElem?_map]
    cases os[i]? <;> rfl
  intro a ha
  cases o with
  | ld1 x =>
    cases ha
    intro y off hy
    simp only [wpo, g', hread, hy] at hw
    cases hl : look y H with
    | none => rw [hl] at hw; exact hw.elim
    | some c => exact look_ids hl
  | ldA n x =>
    cases ha
    intro y off hy
    simp only [wpo, g', hread, hy] at hw
    cases hl : look y H with
    | none => rw [hl] at hw; exact hw.elim
    | some c => exact look_ids hl
  | st n x y =>
    cases ha
    intro z off hy
    simp only [wpo, g', wSt, hy] at hw
    cases hl : look z H with
    | none => rw [hl] at hw; exact hw.elim
    | some c => exact look_ids hl
  | _ => cases ha

theorem vals_none {c : Nat} {os : List Opd} {vs : List AV} {axs : List (Option Nat)} (h : VRs d ms bx env F c os vs axs) : ∀ (o : AOp), clsOK o axs = true → ldO o = true ∨ (∃ n a b, o = .st n a b) ∨ tfree o = false → os.map (·.get F) = vs := by
  intro o ho hc
  refine h.plain ?_
  cases o <;> first | exact ho | (rcases hc with hc | ⟨_, _, _, hc⟩ | hc <;> cases hc)

end

end

end M2
end
section
namespace M2
open Go
noncomputable section

section
variable {tbl : Nat → Option AFunc} {d : Nat} {ms : List Nat} {bx : List Bool} {t0 : T} {D0 E0 : List Nat}
variable {env : List AV}

theorem fill_pick (a b c x y z : Opd) : (AOp.pick a b c).fill [x, y, z] = .pick x y z := rfl

theorem single {os : List Opd} {vs : List AV} {F : Fr} {c : Nat} {axs : List (Option Nat)} (h : VRs d ms bx env F c os vs axs) (ha : (axs == [none]) = true) : (os.headD hh).get F = vs.headD .und ∧ OpOK d ms c (os.headD hh) := by
  have ha : axs = [none] := by
    cases axs with
    | nil => cases ha
    | cons a l => cases a <;> cases l <;> first | rfl | cases ha
  subst ha
  cases h with
  | cons ho h t => exact ⟨h, ho⟩

def AdrR (ms : List Nat) (bx : List Bool) (d : Nat) (env : List AV) (F : Fr) (v v' : AV) (a : Option Nat) : Prop :=
  match a with
  | none => v' = v
  | some j => j < ms.length ∧ bx.getD j false = true ∧ alloc env j ∧ ∃ off x, v = .ptr j off ∧ v' = .ptr x off ∧ F.get (slot d ms j) = .ptr x 0

theorem pureV_faddr (off x o : Nat) : pureV (.faddr off hh) [.ptr x o] = some (.ptr x (o + off)) := rfl
theorem pureV_faddr' (off : Nat) (y : Opd) (vs : List AV) : pureV (.faddr off y) vs = pureV (.faddr off hh) [vs.getD 0 .und] := by
  unfold pureV
  show (opFaddr off ((vs.map Opd.c).getD 0 hh) noCall .nil ⟨0, [], []⟩).val = (opFaddr off (.c (vs.getD 0 .und)) noCall .nil ⟨0, [], []⟩).val
  unfold opFaddr
  rw [show ((vs.map Opd.c).getD 0 hh).get .nil = vs.getD 0 .und from by cases vs <;> rfl]
  rfl
theorem pureV_iaddrA' (n e : Nat) (a b : Opd) (vs : List AV) : pureV (.iaddrA n e a b) vs = pureV (.iaddrA n e hh hh) [vs.getD 0 .und, vs.getD 1 .und] := by
  unfold pureV
  show (opIaddrA n e ((vs.map Opd.c).getD 0 hh) ((vs.map Opd.c).getD 1 hh) noCall .nil ⟨0, [], []⟩).val = (opIaddrA n e (.c (vs.getD 0 .und)) (.c (vs.getD 1 .und)) noCall .nil ⟨0, [], []⟩).val
  unfold opIaddrA
  rw [show ((vs.map Opd.c).getD 0 hh).get .nil = vs.getD 0 .und from by cases vs <;> rfl, show ((vs.map Opd.c).getD 1 hh).get .nil = vs.getD 1 .und from by cases vs with | nil => rfl | cons _ l => cases l <;> rfl]
  rfl
theorem pureV_iaddrA_ptr (n e x o : Nat) (i : AV) : pureV (.iaddrA n e hh hh) [.ptr x o, i] = match i with | .int _ m => if 0 ≤ m ∧ m < n then some (.ptr x (o + m.toNat * e)) else none | _ => none := by
  show (opIaddrA n e (.c (.ptr x o)) (.c i) noCall .nil ⟨0, [], []⟩).val = _
  unfold opIaddrA
  show (match i with | .int _ m => if 0 ≤ m ∧ m < n then OR.ok (.ptr x (o + m.toNat * e)) ⟨0, [], []⟩ else .fail | _ => .fail).val = _
  cases i <;> first | rfl | (simp only; split <;> rfl)

theorem op_addr {o : AOp} (ho : (∃ off y, o = .faddr off y) ∨ ∃ n e a b, o = .iaddrA n e a b) {os : List Opd} {vs : List AV} {axs : List (Option Nat)} {F : Fr} {c : Nat} (h : VRs d ms bx env F c os vs axs) (hc : clsOK o axs = true) {v : AV} (hv : pureV o vs = some v) :
    ∃ v', pureV o (os.map (·.get F)) = some v' ∧ AdrR ms bx d env F v v' (axs.headD none) := by
  have h0 := h.at 0
  have g' : ∀ i, (os.map (·.get F)).getD i .und = (os.getD i hh).get F := by
    intro i
    simp only [List.getD_eq_getElem?_getD, List.getElem?_map]
    cases os[i]? <;> rfl
  have ha : axs.headD none = axs.getD 0 none := by cases axs <;> rfl
  rcases ho with ⟨off, y, rfl⟩ | ⟨n, e, a, b, rfl⟩
  · rw [pureV_faddr'] at hv ⊢
    rw [g', ha]
    cases hcl : axs.getD 0 none with
    | none =>
      have h1 := h0.2
      rw [hcl] at h1
      rw [show (os.getD 0 hh).get F = vs.getD 0 .und from h1]
      exact ⟨v, hv, rfl⟩
    | some j =>
      have h1 := h0.2
      rw [hcl] at h1
      obtain ⟨h2, h3, h4, o1, x, h5, h6, h7⟩ := h1
      rw [h5, pureV_faddr] at hv
      cases hv
      rw [h6, pureV_faddr]
      exact ⟨_, rfl, h2, h3, h4, _, x, rfl, rfl, h7⟩
  · rw [pureV_iaddrA'] at hv ⊢
    rw [g', g', ha]
    have h1 := h.at 1
    have hn : axs.getD 1 none = none := by
      simp only [clsOK, Bool.and_eq_true] at hc
      have := hc.2
      match axs, hc.1 with
      | [x, y], _ => simpa using this
    rw [hn] at h1
    rw [show (os.getD 1 hh).get F = vs.getD 1 .und from h1.2]
    cases hcl : axs.getD 0 none with
    | none =>
      have h1 := h0.2
      rw [hcl] at h1
      rw [show (os.getD 0 hh).get F = vs.getD 0 .und from h1]
      exact ⟨v, hv, rfl⟩
    | some j =>
      have h1 := h0.2
      rw [hcl] at h1
      obtain ⟨h2, h3, h4, o1, x, h5, h6, h7⟩ := h1
      rw [h5, pureV_iaddrA_ptr] at hv
      rw [h6, pureV_iaddrA_ptr]
      split at hv
      · rename_i m hm
        split at hv
        · rename_i hmm
          cases hv
          rw [if_pos hmm]
          exact ⟨_, rfl, h2, h3, h4, _, x, rfl, rfl, h7⟩
        · cases hv
      · cases hv

theorem one_ld {o : AOp} (ho : ldO o = true) {os : List Opd} {F : Fr} {t : T} {cs : List AV} {v : AV} (hr : t.read ((os.getD 0 hh).get F) = some cs) (hv : lvV o cs = some v) {k : Option DK} (hk : koks k (o.fill os)) (call : CallF) : opKV k (o.fill os) call F t = some (v, t) := by
  have hkk : k = none ∨ k = some .load ∨ ∃ i m, k = some (.loadm i m) := by
    rcases hk with rfl | hk
    · exact .inl rfl
    · cases o <;> first | exact .inr hk | cases ho
  cases o with
  | ld1 x =>
    refine kv_ld (fun c t => ld1_view _ F c t) ?_ k hkk
    show opLd1 (os.getD 0 hh) call F t = _
    unfold opLd1
    rw [hr]
    cases cs with
    | nil => cases hv
    | cons a l => cases hv; rfl
  | ldA n x =>
    refine kv_ld (fun c t => ldA_view _ _ F c t) ?_ k hkk
    show opLdA n (os.getD 0 hh) call F t = _
    unfold opLdA
    rw [hr]
    simp only [lvV] at hv
    split at hv
    · rename_i hle
      cases hv
      simp only
      rw [Nat.ble_eq_true_of_le hle]
    · cases hv
  | _ => cases ho

theorem simX {dr : Bool} (hms : ∀ m ∈ ms, m < 2 ^ d) : ∀ (x : X) (g : Guard) (c : Nat) (L : List Itm) (sl sl' : SLog) (H : Heap) (O : Rows) (F : Fr) (t : T) (lg : Log) (Q : List AV → Heap → Rows → Prop),
    GOK d g c → wfX d ms bx x c = true → L.map (·.2) = (flatX d ms x g c).ops → KOK dr L → slogL L sl = some sl' → Sim d ms bx t0 D0 E0 env H O F t → LogI d ms bx env H F t lg sl → lets d F g true → wpx tbl dr env x H O Q →
    ∃ vs H' O' F' t' lg', Run1 tbl L F t lg F' t' lg' ∧ Sim d ms bx t0 D0 E0 env H' O' F' t' ∧ LogI d ms bx env H' F' t' lg' sl' ∧ Agr d ms c F F' ∧ VRs d ms bx env F' (cX x c) (flatX d ms x g c).os vs (clsX x) ∧ Q vs H' O' := by
  have nilL : ∀ (L : List Itm) (sl sl' : SLog), L.map (·.2) = [] → slogL L sl = some sl' → L = [] ∧ sl = sl' := by
    intro L sl sl' h hs
    cases L with
    | nil => cases hs; exact ⟨rfl, rfl⟩
    | cons _ _ => cases h
  intro x
  induction x with
  | nil =>
    intro g c L sl sl' H O F t lg Q hg hw hL hk hs hS hI hl hq
    obtain ⟨rfl, rfl⟩ := nilL L sl sl' hL hs
    exact ⟨[], H, O, F, t, lg, .refl _ _ _, hS, hI, .refl _ _, .nil, hq⟩
  | v j =>
    intro g c L sl sl' H O F t lg Q hg hw hL hk hs hS hI hl hq
    obtain ⟨rfl, rfl⟩ := nilL L sl sl' hL hs
    simp only [wfX, vOK, Bool.and_eq_true, decide_eq_true_eq, Bool.not_eq_true'] at hw
    exact ⟨_, H, O, F, t, lg, .refl _ _ _, hS, hI, .refl _ _, .cons (.inl ⟨j, hw.1, rfl⟩) (hS.pl j hw.1 hw.2) .nil, hq⟩
  | c a =>
    intro g c L sl sl' H O F t lg Q hg hw hL hk hs hS hI hl hq
    obtain ⟨rfl, rfl⟩ := nilL L sl sl' hL hs
    exact ⟨_, H, O, F, t, lg, .refl _ _ _, hS, hI, .refl _ _, .cons trivial rfl .nil, hq⟩
  | adr j =>
    intro g c L sl sl' H O F t lg Q hg hw hL hk hs hS hI hl hq
    obtain ⟨rfl, rfl⟩ := nilL L sl sl' hL hs
    simp only [wfX, bOK, Bool.and_eq_true, decide_eq_true_eq] at hw
    obtain ⟨ha, hq⟩ := hq
    obtain ⟨cs, hcs⟩ : ∃ cs, nth env j = .agg cs := by
      revert ha
      cases nth env j <;> intro h <;> first | exact ⟨_, rfl⟩ | cases h
    obtain ⟨x, h1, -⟩ := hS.bo j hw.1 hw.2 cs hcs
    exact ⟨_, H, O, F, t, lg, .refl _ _ _, hS, hI, .refl _ _, .cons (.inl ⟨j, hw.1, rfl⟩) ⟨hw.1, hw.2, ⟨cs, hcs⟩, 0, x, rfl, h1, h1⟩ .nil, hq⟩
  | m j =>
    intro g c L sl sl' H O F t lg Q hg hw hL hk hs hS hI hl hq
    obtain ⟨k, rfl⟩ := one_item hL
    simp only [wfX, vOK, Bool.and_eq_true, decide_eq_true_eq, Bool.not_eq_true'] at hw
    obtain ⟨F1, lg1, r1, S1, I1, a1, e1⟩ := one_mv (tbl := tbl) hms hw.2 hk.hd.1 hk.hd.2 hS hI hl (slog_one hs) (hS.pl j hw.1.1 hw.1.2)
    exact ⟨_, H, O, F1, t, lg1, r1, S1, I1, a1, .cons (.inr ⟨c, Nat.lt_succ_self _, hw.2, rfl⟩) e1 .nil, hq⟩
  | cm a =>
    intro g c L sl sl' H O F t lg Q hg hw hL hk hs hS hI hl hq
    obtain ⟨k, rfl⟩ := one_item hL
    obtain ⟨F1, lg1, r1, S1, I1, a1, e1⟩ := one_mv (tbl := tbl) (v := a) hms hw hk.hd.1 hk.hd.2 hS hI hl (slog_one hs) rfl
    exact ⟨_, H, O, F1, t, lg1, r1, S1, I1, a1, .cons (.inr ⟨c, Nat.lt_succ_self _, hw, rfl⟩) e1 .nil, hq⟩
  | cons x xs h1 h2 =>
    intro g c L sl sl' H O F t lg Q hg hw hL hk hs hS hI hl hq
    simp only [wfX, Bool.and_eq_true] at hw
    simp only [flatX, flat_c] at hL
    obtain ⟨L1, L2, rfl, hL1, hL2⟩ := split_items hL
    obtain ⟨s1, hs1, hs2⟩ := slogL_append _ _ _ _ hs
    have hc := cX_le _ _ _ _ _ hw.1
    have hc2 := cX_le _ _ _ _ _ hw.2
    obtain ⟨vs, H1, O1, F1, t1, lg1, r1, S1, I1, a1, V1, q1⟩ := h1 g c L1 sl s1 H O F t lg _ hg hw.1 hL1 hk.left hs1 hS hI hl hq
    obtain ⟨ws, H2, O2, F2, t2, lg2, r2, S2, I2, a2, V2, q2⟩ := h2 g _ L2 s1 sl' H1 O1 F1 t1 lg1 _ (hg.le hc) hw.2 hL2 hk.right hs2 S1 I1 (lets_agr hg a1 hl) q1
    refine ⟨_, H2, O2, F2, t2, lg2, r1.trans r2, S2, I2, a1.trans a2 hc, ?_, q2⟩
    simp only [flatX, flat_c]
    exact (V1.agr a2 hc2).append V2
  | op o xs ih =>
    intro g c L sl sl' H O F t lg Q hg hw hL hk hs hS hI hl hq
    simp only [wfX, Bool.and_eq_true] at hw
    simp only [flatX, flat_c] at hL
    obtain ⟨L1, L2, rfl, hL1, hL2⟩ := split_items hL
    obtain ⟨k, rfl⟩ := one_item hL2
    obtain ⟨s1, hs1, hs2⟩ := slogL_append _ _ _ _ hs
    have hc := cX_le _ _ _ _ _ hw.1.1.1
    obtain ⟨vs, H1, O1, F1, t1, lg1, r1, S1, I1, a1, V1, q1⟩ := ih g c L1 sl s1 H O F t lg _ hg hw.1.1.1 hL1 hk.left hs1 hS hI hl hq
    have hl1 := lets_agr hg a1 hl
    have hkk := hk.right.hd
    have plain : (flatX d ms xs g c).os.map (·.get F1) = vs → clsX (.op o xs) = [none] → ∃ vs H' O' F' t' lg', Run1 tbl (L1 ++ [(k, (⟨some (pth d (cX xs c)), gd d g, o.fill (flatX d ms xs g c).os⟩, accO o))]) F t lg F' t' lg' ∧ Sim d ms bx t0 D0 E0 env H' O' F' t' ∧ LogI d ms bx env H' F' t' lg' sl' ∧ Agr d ms c F F' ∧
        VRs d ms bx env F' (cX (.op o xs) c) (flatX d ms (.op o xs) g c).os vs (clsX (.op o xs)) ∧ Q vs H' O' := by
      intro hv hcl
      rw [← hv] at q1
      obtain ⟨v, H2, O2, F2, t2, lg2, r2, S2, I2, a2, e2, q2⟩ := one_op (tbl := tbl) hms hw.1.1.2 hw.1.2 hkk.1 hkk.2 S1 I1 hl1 (slog_one hs2) (hread_at rfl q1) q1
      refine ⟨[v], H2, O2, F2, t2, lg2, r1.trans r2, S2, I2, a1.trans a2 hc, ?_, q2⟩
      rw [hcl]
      simp only [flatX, flat_c]
      exact .cons (.inr ⟨_, Nat.lt_succ_self _, hw.1.1.2, rfl⟩) e2 .nil
    by_cases hfa : (∃ off y, o = .faddr off y) ∨ ∃ n e a b, o = .iaddrA n e a b
    · have htf : tfree o = true := by rcases hfa with ⟨off, y, rfl⟩ | ⟨n, e, a, b, rfl⟩ <;> rfl
      have hacc : accO o = none := by rcases hfa with ⟨off, y, rfl⟩ | ⟨n, e, a, b, rfl⟩ <;> rfl
      have hcl : clsX (.op o xs) = [(clsX xs).headD none] := by rcases hfa with ⟨off, y, rfl⟩ | ⟨n, e, a, b, rfl⟩ <;> rfl
      rw [wpo_pure htf] at q1
      cases hv : pureV o vs with
      | none => rw [hv] at q1; exact q1.elim
      | some v =>
        rw [hv] at q1
        obtain ⟨v', hv', hR⟩ := op_addr hfa V1 hw.2 hv
        obtain ⟨F2, lg2, r2, S2, I2, a2, e2⟩ := one_free (tbl := tbl) hms hw.1.1.2 hw.1.2 htf hkk.1 hkk.2 S1 I1 hl1 (by have := slog_one hs2; rw [hacc] at this; exact this) hv'
        rw [hacc]
        refine ⟨[v], H1, O1, F2, t1, lg2, r1.trans r2, S2, I2, a1.trans a2 hc, ?_, q1⟩
        rw [hcl]
        simp only [flatX, flat_c]
        refine .cons (.inr ⟨_, Nat.lt_succ_self _, hw.1.1.2, rfl⟩) ?_ .nil
        cases ha : (clsX xs).headD none with
        | none => rw [ha] at hR; exact e2.trans hR
        | some j =>
          rw [ha] at hR
          obtain ⟨h1, h2, h3, off, x, h4, h5, h6⟩ := hR
          exact ⟨h1, h2, h3, off, x, h4, e2.trans h5, (a2.1 j h1).trans h6⟩
    · have hcl : clsX (.op o xs) = [none] := by
        cases o <;> first | rfl | exact absurd (.inl ⟨_, _, rfl⟩) hfa | exact absurd (.inr ⟨_, _, _, _, rfl⟩) hfa
      have hall : (clsX xs).all Option.isNone = true := by
        have := hw.2
        cases o <;> first | exact this | exact absurd (.inl ⟨_, _, rfl⟩) hfa | exact absurd (.inr ⟨_, _, _, _, rfl⟩) hfa
      exact plain (V1.plain hall) hcl
  | mr x ih =>
    intro g c L sl sl' H O F t lg Q hg hw hL hk hs hS hI hl hq
    simp only [wfX, Bool.and_eq_true] at hw
    simp only [flatX, flat_c] at hL
    obtain ⟨L1, L2, rfl, hL1, hL2⟩ := split_items hL
    obtain ⟨k, rfl⟩ := one_item hL2
    obtain ⟨s1, hs1, hs2⟩ := slogL_append _ _ _ _ hs
    obtain ⟨vs, H1, O1, F1, t1, lg1, r1, S1, I1, a1, V1, q1⟩ := ih g (c + 1) L1 sl s1 H O F t lg _ (hg.le (Nat.le_succ _)) hw.1.1 hL1 hk.left hs1 hS hI hl hq
    have hl1 := lets_agr (hg.le (Nat.le_succ _)) a1 hl
    have hkk := hk.right.hd
    have hc := cX_le _ _ _ _ _ hw.1.1
    obtain ⟨F2, lg2, r2, S2, I2, a2, e2⟩ := one_mv (tbl := tbl) hms hw.1.2 hkk.1 hkk.2 S1 I1 hl1 (slog_one hs2) (single V1 hw.2).1
    have hcl : clsX x = [none] := by
      have := hw.2
      revert this
      generalize clsX x = l
      cases l with
      | nil => intro h; cases h
      | cons a l => cases a <;> cases l <;> intro h <;> first | rfl | cases h
    refine ⟨[vs.headD .und], H1, O1, F2, t1, lg2, r1.trans r2, S2, I2, (a1.le (Nat.le_succ _)).trans a2 (Nat.le_refl _), ?_, q1⟩
    simp only [flatX, clsX, hcl]
    exact .cons (.inr ⟨c, (by simp only [cX]; omega), hw.1.2, rfl⟩) e2 .nil
  | tup is x ih =>
    intro g c L sl sl' H O F t lg Q hg hw hL hk hs hS hI hl hq
    simp only [wfX, Bool.and_eq_true] at hw
    simp only [flatX, flat_c] at hL
    obtain ⟨L1, L2, rfl, hL1, hL2⟩ := split_items hL
    obtain ⟨k, L3, rfl, hL3⟩ := cons_item hL2
    obtain ⟨s1, hs1, hs2⟩ := slogL_append _ _ _ _ hs
    obtain ⟨s2, hs2, hs3⟩ := slog_cons hs2
    have hc := cX_le _ _ _ _ _ hw.1.1.1
    obtain ⟨vs, H1, O1, F1, t1, lg1, r1, S1, I1, a1, V1, q1⟩ := ih g (c + 1) L1 sl s1 H O F t lg _ (hg.le (Nat.le_succ _)) hw.1.1.1 hL1 hk.left hs1 hS hI hl hq
    have hl1 := lets_agr (hg.le (Nat.le_succ _)) a1 hl
    have hkk := hk.right.hd
    obtain ⟨F2, lg2, r2, S2, I2, a2, e2⟩ := one_mv (tbl := tbl) hms hw.1.1.2 hkk.1 hkk.2 S1 I1 hl1 hs2 (single V1 hw.1.2).1
    have hl2 := lets_agr hg a2 hl1
    cases hv : vs.headD .und with
    | tup l =>
      rw [hv] at q1 e2
      simp only [tupL] at q1
      cases hx : extL l is with
      | none => rw [hx] at q1; exact q1.elim
      | some ws =>
        rw [hx] at q1
        obtain ⟨F3, lg3, r3, S3, I3, a3, V3⟩ := extsSim (tbl := tbl) hms (nm_lt hw.1.1.2) is _ ws L3 F2 lg2 s2 sl' (by omega) (hg.le (by omega)) (fun i hi => List.all_eq_true.mp hw.2 i (List.mem_range.mpr hi)) hL3 hk.right.tl hs3 S2 I2 hl2 e2 hx
        refine ⟨ws, H1, O1, F3, t1, lg3, r1.trans (Run1.trans r2 r3), S3, I3, ((a1.le (Nat.le_succ _)).trans a2 (Nat.le_refl _)).trans a3 (by omega), ?_, q1⟩
        simp only [flatX, flat_c]
        exact V3
    | _ => rw [hv] at q1; exact q1.elim
  | or x y h1 h2 =>
    intro g c L sl sl' H O F t lg Q hg hw hL hk hs hS hI hl hq
    simp only [wfX, Bool.and_eq_true] at hw
    simp only [flatX, flat_c] at hL
    obtain ⟨L1, L2, rfl, hL1, hL2⟩ := split_items hL
    obtain ⟨k, L3, rfl, hL3⟩ := cons_item hL2
    obtain ⟨L4, L5, rfl, hL4, hL5⟩ := split_items hL3
    obtain ⟨k5, rfl⟩ := one_item hL5
    obtain ⟨s1, hs1, hs2⟩ := slogL_append _ _ _ _ hs
    obtain ⟨s2, hs2, hs3⟩ := slog_cons hs2
    obtain ⟨s3, hs3, hs4⟩ := slogL_append _ _ _ _ hs3
    have hc := cX_le _ _ _ _ _ hw.1.1.1.1.1
    have hc2 := cX_le _ _ _ _ _ hw.1.1.2
    obtain ⟨vs, H1, O1, F1, t1, lg1, r1, S1, I1, a1, V1, q1⟩ := h1 g c L1 sl s1 H O F t lg _ hg hw.1.1.1.1.1 hL1 hk.left hs1 hS hI hl hq
    have hl1 := lets_agr hg a1 hl
    obtain ⟨F2, lg2, r2, S2, I2, a2, e2⟩ := one_mv (tbl := tbl) hms hw.1.1.1.2 hk.right.hd.1 hk.right.hd.2 S1 I1 hl1 hs2 (single V1 hw.1.1.1.1.2).1
    have hl2 := lets_agr (hg.le hc) a2 hl1
    have hlt : cX x c < 2 ^ d := nm_lt hw.1.1.1.2
    have hk4 := hk.right.tl.left
    have hk5 := hk.right.tl.right.hd
    cases hv : vs.headD .und with
    | bool b =>
      rw [hv] at q1 e2
      have hgin : GOK d (some (cX x c, false)) (cX x c + 1) := fun k b e => by cases e; exact ⟨Nat.lt_succ_self _, hlt⟩
      have hin : lets d F2 (some (cX x c, false)) (b == false) := by
        show wantedA F2 (some (pth d (cX x c), false)) = some (b == false)
        unfold wantedA
        simp only
        rw [e2]
      cases b with
      | true =>
        obtain ⟨F3, r3, a3⟩ := skipX (tbl := tbl) hms y _ _ L4 F2 hgin hw.1.1.2 hL4 hin t1 lg2
        have hl3 := lets_agr (hg.le (by omega : c ≤ cX x c + 1)) a3 hl2
        have e3 : F3.get (pth d (cX x c)) = .bool true := by rw [a3.2 _ (Nat.lt_succ_self _) hlt]; exact e2
        have I3 : LogI d ms bx env H1 F3 t1 lg2 s3 := (I2.agr a3).sub (slogL_sub hs3)
        obtain ⟨F4, lg4, r4, S4, I4, a4, e4⟩ := one_free (tbl := tbl) (o := .pick hh hh hh) (os := [.t (pth d (cX x c)), .c (.bool true), (flatX d ms y (some (cX x c, false)) (cX x c + 1)).os.headD hh]) (v := .bool true) hms hw.2 rfl rfl hk5.1 hk5.2 (S2.agr a3) I3 hl3 (slog_one hs4) (by
          show pureV (.pick hh hh hh) [F3.get (pth d (cX x c)), .bool true, _] = _
          rw [e3]; rfl)
        refine ⟨[.bool true], H1, O1, F4, t1, lg4, r1.trans (Run1.trans r2 (r3.trans r4)), S4, I4, ((a1.trans a2 hc).trans a3 (by omega)).trans a4 (by omega), ?_, q1⟩
        simp only [flatX, flat_c]
        exact .cons (.inr ⟨_, Nat.lt_succ_self _, hw.2, rfl⟩) e4 .nil
      | false =>
        obtain ⟨ws, H3, O3, F3, t3, lg3, r3, S3, I3, a3, V3, q3⟩ := h2 (some (cX x c, false)) (cX x c + 1) L4 s2 s3 H1 O1 F2 t1 lg2 _ hgin hw.1.1.2 hL4 hk4 hs3 S2 I2 hin q1
        have hl3 := lets_agr (hg.le (by omega : c ≤ cX x c + 1)) a3 hl2
        have e3 : F3.get (pth d (cX x c)) = .bool false := by rw [a3.2 _ (Nat.lt_succ_self _) hlt]; exact e2
        obtain ⟨F4, lg4, r4, S4, I4, a4, e4⟩ := one_free (tbl := tbl) (o := .pick hh hh hh) (os := [.t (pth d (cX x c)), .c (.bool true), (flatX d ms y (some (cX x c, false)) (cX x c + 1)).os.headD hh]) (v := ws.headD .und) hms hw.2 rfl rfl hk5.1 hk5.2 S3 I3 hl3 (slog_one hs4) (by
          show pureV (.pick hh hh hh) [F3.get (pth d (cX x c)), .bool true, ((flatX d ms y (some (cX x c, false)) (cX x c + 1)).os.headD hh).get F3] = _
          rw [e3, (single V3 hw.1.2).1]; rfl)
        refine ⟨[ws.headD .und], H3, O3, F4, t3, lg4, r1.trans (Run1.trans r2 (r3.trans r4)), S4, I4, ((a1.trans a2 hc).trans a3 (by omega)).trans a4 (by omega), ?_, q3⟩
        simp only [flatX, flat_c]
        exact .cons (.inr ⟨_, Nat.lt_succ_self _, hw.2, rfl⟩) e4 .nil
    | _ => rw [hv] at q1; exact q1.elim
  | and x y h1 h2 =>
    intro g c L sl sl' H O F t lg Q hg hw hL hk hs hS hI hl hq
    simp only [wfX, Bool.and_eq_true] at hw
    simp only [flatX, flat_c] at hL
    obtain ⟨L1, L2, rfl, hL1, hL2⟩ := split_items hL
    obtain ⟨k, L3, rfl, hL3⟩ := cons_item hL2
    obtain ⟨L4, L5, rfl, hL4, hL5⟩ := split_items hL3
    obtain ⟨k5, rfl⟩ := one_item hL5
    obtain ⟨s1, hs1, hs2⟩ := slogL_append _ _ _ _ hs
    obtain ⟨s2, hs2, hs3⟩ := slog_cons hs2
    obtain ⟨s3, hs3, hs4⟩ := slogL_append _ _ _ _ hs3
    have hc := cX_le _ _ _ _ _ hw.1.1.1.1.1
    have hc2 := cX_le _ _ _ _ _ hw.1.1.2
    obtain ⟨vs, H1, O1, F1, t1, lg1, r1, S1, I1, a1, V1, q1⟩ := h1 g c L1 sl s1 H O F t lg _ hg hw.1.1.1.1.1 hL1 hk.left hs1 hS hI hl hq
    have hl1 := lets_agr hg a1 hl
    obtain ⟨F2, lg2, r2, S2, I2, a2, e2⟩ := one_mv (tbl := tbl) hms hw.1.1.1.2 hk.right.hd.1 hk.right.hd.2 S1 I1 hl1 hs2 (single V1 hw.1.1.1.1.2).1
    have hl2 := lets_agr (hg.le hc) a2 hl1
    have hlt : cX x c < 2 ^ d := nm_lt hw.1.1.1.2
    have hk4 := hk.right.tl.left
    have hk5 := hk.right.tl.right.hd
    cases hv : vs.headD .und with
    | bool b =>
      rw [hv] at q1 e2
      have hgin : GOK d (some (cX x c, true)) (cX x c + 1) := fun k b e => by cases e; exact ⟨Nat.lt_succ_self _, hlt⟩
      have hin : lets d F2 (some (cX x c, true)) (b == true) := by
        show wantedA F2 (some (pth d (cX x c), true)) = some (b == true)
        unfold wantedA
        simp only
        rw [e2]
      cases b with
      | false =>
        obtain ⟨F3, r3, a3⟩ := skipX (tbl := tbl) hms y _ _ L4 F2 hgin hw.1.1.2 hL4 hin t1 lg2
        have hl3 := lets_agr (hg.le (by omega : c ≤ cX x c + 1)) a3 hl2
        have e3 : F3.get (pth d (cX x c)) = .bool false := by rw [a3.2 _ (Nat.lt_succ_self _) hlt]; exact e2
        have I3 : LogI d ms bx env H1 F3 t1 lg2 s3 := (I2.agr a3).sub (slogL_sub hs3)
        obtain ⟨F4, lg4, r4, S4, I4, a4, e4⟩ := one_free (tbl := tbl) (o := .pick hh hh hh) (os := [.t (pth d (cX x c)), (flatX d ms y (some (cX x c, true)) (cX x c + 1)).os.headD hh, .c (.bool false)]) (v := .bool false) hms hw.2 rfl rfl hk5.1 hk5.2 (S2.agr a3) I3 hl3 (slog_one hs4) (by
          show pureV (.pick hh hh hh) [F3.get (pth d (cX x c)), _, .bool false] = _
          rw [e3]; rfl)
        refine ⟨[.bool false], H1, O1, F4, t1, lg4, r1.trans (Run1.trans r2 (r3.trans r4)), S4, I4, ((a1.trans a2 hc).trans a3 (by omega)).trans a4 (by omega), ?_, q1⟩
        simp only [flatX, flat_c]
        exact .cons (.inr ⟨_, Nat.lt_succ_self _, hw.2, rfl⟩) e4 .nil
      | true =>
        obtain ⟨ws, H3, O3, F3, t3, lg3, r3, S3, I3, a3, V3, q3⟩ := h2 (some (cX x c, true)) (cX x c + 1) L4 s2 s3 H1 O1 F2 t1 lg2 _ hgin hw.1.1.2 hL4 hk4 hs3 S2 I2 hin q1
        have hl3 := lets_agr (hg.le (by omega : c ≤ cX x c + 1)) a3 hl2
        have e3 : F3.get (pth d (cX x c)) = .bool true := by rw [a3.2 _ (Nat.lt_succ_self _) hlt]; exact e2
        obtain ⟨F4, lg4, r4, S4, I4, a4, e4⟩ := one_free (tbl := tbl) (o := .pick hh hh hh) (os := [.t (pth d (cX x c)), (flatX d ms y (some (cX x c, true)) (cX x c + 1)).os.headD hh, .c (.bool false)]) (v := ws.headD .und) hms hw.2 rfl rfl hk5.1 hk5.2 S3 I3 hl3 (slog_one hs4) (by
          show pureV (.pick hh hh hh) [F3.get (pth d (cX x c)), ((flatX d ms y (some (cX x c, true)) (cX x c + 1)).os.headD hh).get F3, .bool false] = _
          rw [e3, (single V3 hw.1.2).1]; rfl)
        refine ⟨[ws.headD .und], H3, O3, F4, t3, lg4, r1.trans (Run1.trans r2 (r3.trans r4)), S4, I4, ((a1.trans a2 hc).trans a3 (by omega)).trans a4 (by omega), ?_, q3⟩
        simp only [flatX, flat_c]
        exact .cons (.inr ⟨_, Nat.lt_succ_self _, hw.2, rfl⟩) e4 .nil
    | _ => rw [hv] at q1; exact q1.elim
  | lv o x ih =>
    intro g c L sl sl' H O F t lg Q hg hw hL hk hs hS hI hl hq
    simp only [wfX, Bool.and_eq_true] at hw
    simp only [flatX, flat_c] at hL
    obtain ⟨L1, L2, rfl, hL1, hL2⟩ := split_items hL
    obtain ⟨k, rfl⟩ := one_item hL2
    obtain ⟨s1, hs1, hs2⟩ := slogL_append _ _ _ _ hs
    have hc := cX_le _ _ _ _ _ hw.1.1.1
    obtain ⟨vs, H1, O1, F1, t1, lg1, r1, S1, I1, a1, V1, q1⟩ := ih g c L1 sl s1 H O F t lg _ hg hw.1.1.1 hL1 hk.left hs1 hS hI hl hq
    have hl1 := lets_agr hg a1 hl
    have hkk := hk.right.hd
    obtain ⟨j, hcl⟩ : ∃ j, clsX x = [some j] := by
      have := hw.2
      revert this
      generalize clsX x = l
      cases l with
      | nil => intro h; cases h
      | cons a l => cases a <;> cases l <;> intro h <;> first | exact ⟨_, rfl⟩ | cases h
    have h0 := V1.at 0
    rw [hcl] at h0
    obtain ⟨-, hj, hb, hal, off, y, hv0, ho0, hF0⟩ := h0
    have hv0' : vs.headD .und = .ptr j off := by rw [← hv0]; cases vs <;> rfl
    rw [hv0'] at q1
    obtain ⟨cs, hcs⟩ := hal
    simp only [lva, hcs] at q1
    obtain ⟨y', hy1, hy2, -⟩ := S1.bo j hj hb cs hcs
    rw [hF0] at hy1; cases hy1
    have hrd : t1.read (((flatX d ms x g c).os.getD 0 hh).get F1) = some (cs.drop off) := by
      rw [ho0]
      unfold T.read
      simp only
      rw [hy2]
    simp only [opt] at q1
    cases hvv : lvV o (cs.drop off) with
    | none => rw [hvv] at q1; exact q1.elim
    | some v =>
      rw [hvv] at q1
      have hat : atO bx d ms env H1 F1 (some j) (o.fill (flatX d ms x g c).os) := by
        have hA : At bx d ms env H1 F1 (some j) (((flatX d ms x g c).os.getD 0 hh).get F1) := ⟨hj, hb, ⟨cs, hcs⟩, y, off, ho0, hF0⟩
        have := hw.1.2
        cases o <;> first | exact hA | cases this
      obtain ⟨lg2, hlg, I2⟩ := log_step S1 I1 hkk.1 (slog_one hs2) (fun a e => by
        have : a = some j := by rw [hcl] at e; cases e; rfl
        rw [this]; exact hat)
      have hA := Agr.put hms hw.1.1.2 (Nat.le_refl _) F1 v
      refine ⟨[v], H1, O1, F1.put (pth d (cX x c)) v, t1, lg2, r1.trans ⟨0, fun n _ rest => ?_⟩, S1.agr hA, I2.agr hA, a1.trans hA hc, ?_, q1⟩
      · show runL ((k, (⟨some (pth d (cX x c)), gd d g, o.fill (flatX d ms x g c).os⟩ : AO)) :: rest) _ F1 t1 lg1 = _
        rw [runL]
        rw [show wantedA F1 (gd d g) = some true from hl1]
        simp only
        rw [hlg]
        simp only
        rw [one_ld hw.1.2 hrd hvv hkk.1]
        rfl
      · simp only [flatX, flat_c]
        exact .cons (.inr ⟨_, Nat.lt_succ_self _, hw.1.1.2, rfl⟩) (Fr.get_put_same _ _ _) .nil
  | «at» n x ih =>
    intro g c L sl sl' H O F t lg Q hg hw hL hk hs hS hI hl hq
    simp only [wfX, Bool.and_eq_true, decide_eq_true_eq] at hw
    obtain ⟨vs, H1, O1, F1, t1, lg1, r1, S1, I1, a1, V1, q1⟩ := ih g n L sl sl' H O F t lg Q (hg.le hw.1) hw.2 hL hk hs hS hI hl hq
    exact ⟨vs, H1, O1, F1, t1, lg1, r1, S1, I1, a1.le hw.1, V1, q1⟩

end

end

end M2
end
section
namespace M2
open Go
noncomputable section

/-! ### Statements: what they come to -/

inductive XR where
  | norm (env : List AV) (H : Heap) (O : Rows)
  | exit (id : Nat) (env : List AV) (H : Heap) (O : Rows)
  | ret (env : List AV) (H : Heap) (O : Rows)

def put (env : List AV) (j : Nat) (v : AV) : List AV := env.set j v

/-- a store into a variable in memory of its own -/
def bst (a : AV) (off n : Nat) (v : AV) : Option AV :=
  match a with
  | .agg cs => match v.known && v.cells.all AV.isCell && Nat.beq v.cells.length n && Nat.ble (off + n) cs.length with
    | true => some (.agg (putAt cs off v.cells))
    | false => none
  | _ => none
def aggL (a : AV) : Option (List AV) :=
  match a with
  | .agg cs => some cs
  | _ => none
def bstp (env : List AV) (a : AV) (n : Nat) (v : AV) (Q : List AV → Prop) : Prop :=
  match a with
  | .ptr j off => opt (bst (nth env j) off n v) fun b => Q (put env j b)
  | _ => False

section
variable (tbl : Nat → Option AFunc)

def wpW (dr : Bool) (vs : List AV) : List W → List AV → Heap → Rows → (List AV → Heap → Rows → Prop) → Prop
  | [], env, H, O, K => K env H O
  | .wo j o ks :: ws, env, H, O, K => wpo tbl dr o (ks.map (nth vs)) H O fun v H O => wpW dr vs ws (put env j v) H O K
  | .wx o ks :: ws, env, H, O, K => wpo tbl dr o (ks.map (nth vs)) H O fun _ H O => wpW dr vs ws env H O K
  | .ba j z :: ws, env, H, O, K => wpW dr vs ws (put env j (.agg z)) H O K
  | .bb j k :: ws, env, H, O, K => (nth vs k).known = true ∧ wpW dr vs ws (put env j (.agg (nth vs k).cells)) H O K
  | .bs n j k :: ws, env, H, O, K => opt (bst (nth env j) 0 n (nth vs k)) fun a => wpW dr vs ws (put env j a) H O K
  | .bt n ka k :: ws, env, H, O, K => bstp env (nth vs ka) n (nth vs k) fun env => wpW dr vs ws env H O K
  | .bl j o ka :: ws, env, H, O, K => opt (lva env (nth vs ka)) fun cs => opt (lvV o cs) fun v => wpW dr vs ws (put env j v) H O K
  | .br j o b :: ws, env, H, O, K => opt (aggL (nth env b)) fun cs => opt (lvV o cs) fun v => wpW dr vs ws (put env j v) H O K

def wpG (dr : Bool) : List Grp → List AV → Heap → Rows → (List AV → Heap → Rows → Prop) → Prop
  | [], env, H, O, K => K env H O
  | g :: gs, env, H, O, K => wpx tbl dr env g.xs H O fun vs H O => wpW tbl dr vs g.ws env H O fun env H O => wpG dr gs env H O K

def seqK (wb : List AV → Heap → Rows → (XR → Prop) → Prop) (Q : XR → Prop) (r : XR) : Prop :=
  match r with
  | .norm env H O => wb env H O Q
  | .exit id env H O => Q (.exit id env H O)
  | .ret env H O => Q (.ret env H O)
def blkK (id : Nat) (Q : XR → Prop) (r : XR) : Prop :=
  match r with
  | .norm env H O => Q (.norm env H O)
  | .exit i env H O => match Nat.beq i id with
    | true => Q (.norm env H O)
    | false => Q (.exit i env H O)
  | .ret env H O => Q (.ret env H O)
def loopK (I : List AV → Heap → Rows → Prop) (Q : XR → Prop) (r : XR) : Prop :=
  match r with
  | .norm env H O => I env H O
  | .exit id env H O => Q (.exit id env H O)
  | .ret env H O => Q (.ret env H O)
def wLoop (wb : List AV → Heap → Rows → (XR → Prop) → Prop) (env : List AV) (H : Heap) (O : Rows) (Q : XR → Prop) : Prop :=
  ∀ I : List AV → Heap → Rows → Prop, (∀ env H O, wb env H O (loopK I Q) → I env H O) → I env H O

def wpc : XC → List AV → Heap → Rows → (XR → Prop) → Prop
  | .skip, env, H, O, Q => Q (.norm env H O)
  | .ret, env, H, O, Q => Q (.ret env H O)
  | .exit id, env, H, O, Q => Q (.exit id env H O)
  | .reg gs, env, H, O, Q => wpG tbl false gs env H O fun env H O => Q (.norm env H O)
  | .regd _ _ gs, env, H, O, Q => wpG tbl true gs env H O fun env H O => Q (.norm env H O)
  | .ife gs _ x a b, env, H, O, Q => wpG tbl false gs env H O fun env H O => wpx tbl false env x H O fun vs H O => bcase (vs.headD .und) (wpc a env H O Q) (wpc b env H O Q)
  | .ifd _ _ gs _ x a b, env, H, O, Q => wpG tbl true gs env H O fun env H O => wpx tbl true env x H O fun vs H O => bcase (vs.headD .und) (wpc a env H O Q) (wpc b env H O Q)
  | .cnd j a b, env, H, O, Q => bcase (nth env j) (wpc a env H O Q) (wpc b env H O Q)
  | .seq a b, env, H, O, Q => wpc a env H O (seqK (wpc b) Q)
  | .block id b, env, H, O, Q => wpc b env H O (blkK id Q)
  | .loop b, env, H, O, Q => wLoop (wpc b) env H O Q

end

/-! ### Which are well made -/

/-- for each value: a variable that it is, as it stands -/
def dirX : X → List (Option Nat)
  | .nil => []
  | .cons x xs => dirX x ++ dirX xs
  | .v j => [some j]
  | .m _ | .c _ | .cm _ => [none]
  | .op _ _ => [none]
  | .mr _ => [none]
  | .tup is _ => is.map fun _ => none
  | .or _ _ | .and _ _ => [none]
  | .adr _ => [none]
  | .lv _ _ => [none]
  | .at _ x => dirX x

section
variable (d : Nat) (ms : List Nat) (bx : List Bool) (cs dirs : List (Option Nat))

/-- a value that may be used behind some turns -/
def useK (mod : List Nat) (k : Nat) : Bool :=
  match dirs.getD k none with
  | some j => !mod.contains j
  | none => true
def noA (o : AOp) : Bool :=
  match o with
  | .faddr _ _ | .iaddrA _ _ _ _ => false
  | _ => true

def wfW : List Nat → List W → Bool
  | _, [] => true
  | mod, .wo j o ks :: ws => vOK ms bx j && placeOK o && noA o && ks.all (fun k => useK dirs mod k && (cs.getD k none).isNone) && wfW (j :: mod) ws
  | mod, .wx o ks :: ws => placeOK o && noA o && ks.all (fun k => useK dirs mod k && (cs.getD k none).isNone) && wfW mod ws
  | mod, .ba j z :: ws => bOK ms bx j && cs.all Option.isNone && wfW mod ws
  | mod, .bb j k :: ws => bOK ms bx j && cs.all Option.isNone && useK dirs mod k && wfW mod ws
  | mod, .bs _ j k :: ws => bOK ms bx j && useK dirs mod k && (cs.getD k none).isNone && wfW mod ws
  | mod, .bt _ ka k :: ws => (cs.getD ka none).isSome && useK dirs mod ka && useK dirs mod k && (cs.getD k none).isNone && wfW mod ws
  | mod, .bl j o ka :: ws => vOK ms bx j && ldO o && (cs.getD ka none).isSome && useK dirs mod ka && wfW (j :: mod) ws
  | mod, .br j o b :: ws => vOK ms bx j && bOK ms bx b && ldO o && wfW (j :: mod) ws

def wfG : List Grp → Bool
  | [] => true
  | g :: gs => wfX d ms bx g.xs g.n && wfW ms bx (clsX g.xs) (dirX g.xs) [] g.ws && wfG gs

/-- the items of a region: of one in order, of one that draws -/
def itmN (l : List (AO × Acc)) : List Itm := l.map fun o => (none, o)
def itmD (mk : List Nat) (st : Bool) : Nat → Nat → List (AO × Acc) → List Itm
  | _, _, [] => []
  | 0, _, l => itmN l
  | r + 1, i, o :: l => (some ((kindAt mk st i o.1.op).getD .pure), o) :: itmD mk st r (i + 1) l
def itmR (r : Nat) (mk : List Nat) (l : List (AO × Acc)) : List Itm := itmD mk (((l.take r).map Prod.fst).any fun a => isSt a.op) r 0 l

/-- none of those that are drawn writes rows -/
def memFree (r : Nat) (l : List (AO × Acc)) : Bool := (l.take r).all fun o => !isMem o.1.op

def wfC : XC → Bool
  | .skip | .ret | .exit _ => true
  | .reg gs => wfG d ms bx gs
  | .regd r mk gs => wfG d ms bx gs && (slogL (itmR r mk (flatG d ms gs)) []).isSome && memFree r (flatG d ms gs)
  | .ife gs n x a b => wfG d ms bx gs && wfX d ms bx x n && clsX x == [none] && wfC a && wfC b
  | .ifd r mk gs n x a b => wfG d ms bx gs && wfX d ms bx x n && clsX x == [none] && wfC a && wfC b && (slogL (itmR r mk (flatG d ms gs ++ (flatX d ms x none n).ops)) []).isSome && memFree r (flatG d ms gs ++ (flatX d ms x none n).ops)
  | .cnd j a b => vOK ms bx j && wfC a && wfC b
  | .seq a b => wfC a && wfC b
  | .block _ b => wfC b
  | .loop b => wfC b

end

def wfF (x : XF) : Bool :=
  x.ms.Nodup && x.ms.all (fun m => decide (m < 2 ^ x.depth)) && decide (x.ms.take x.np = List.range x.np) && (List.range x.np).all (fun j => !x.bx.getD j false) && x.res.all (fun r => decide (r.1 < x.ms.length) && (r.2.isSome || !x.bx.getD r.1 false)) && wfC x.depth x.ms x.bx x.body

/-- results -/
def resC (n : Nat) (ag : Bool) (cs : List AV) : Option AV :=
  match ag with
  | true => if n ≤ cs.length then some (.agg (cs.take n)) else none
  | false => cs.head?
def resX (bx : List Bool) (env : List AV) (H : Heap) (r : Nat × Option (Nat × Bool)) : Option AV :=
  match r.2 with
  | none => some (nth env r.1)
  | some (n, ag) => match bx.getD r.1 false with
    | true => match nth env r.1 with
      | .agg cs => resC n ag cs
      | _ => none
    | false => match hread H (nth env r.1) with
      | some cs => resC n ag cs
      | none => none
def resL (bx : List Bool) (env : List AV) (H : Heap) : List (Nat × Option (Nat × Bool)) → Option (List AV)
  | [] => some []
  | r :: rs => match resX bx env H r with
    | some v => match resL bx env H rs with
      | some vs => some (v :: vs)
      | none => none
    | none => none

/-- what is handed back, and what is still seen of the memory then -/
def wRet (x : XF) (H0 : Heap) (O0 : Rows) (Q : AV → Heap → Rows → Prop) (env : List AV) (H : Heap) (O : Rows) : Prop :=
  opt (resL x.bx env H x.res) fun vs => ∃ H' O', (∀ p ∈ H', p ∈ H ∧ (x.keep = true ∨ p.1 ∈ ids H0)) ∧ (ids H').Nodup ∧ (∀ p ∈ O', p ∈ O ∧ (p.1 ∈ (packed vs).tops ∨ p.1 ∈ ids O0)) ∧ (ids O').Nodup ∧ Q (packed vs) H' O'
def retK (x : XF) (H0 : Heap) (O0 : Rows) (Q : AV → Heap → Rows → Prop) (r : XR) : Prop :=
  match r with
  | .norm env H O => wRet x H0 O0 Q env H O
  | .ret env H O => wRet x H0 O0 Q env H O
  | .exit _ _ _ _ => False
def wpF (tbl : Nat → Option AFunc) (x : XF) (args : List AV) (H : Heap) (O : Rows) (Q : AV → Heap → Rows → Prop) : Prop :=
  wpc tbl x.body (args ++ List.replicate (x.ms.length - x.np) .und) H O (retK x H O Q)

/-! ### More is as good -/

section
variable {tbl : Nat → Option AFunc}

theorem opt_mono {α : Type} {x : Option α} {P Q : α → Prop} (h : opt x P) (k : ∀ a, P a → Q a) : opt x Q := by
  cases x with
  | none => exact h
  | some a => exact k a h

theorem Fn.mono {lk : Bool} {f : Nat} {vs : List AV} {H : Heap} {O : Rows} {P Q : AV → Heap → Rows → Prop} (h : Fn tbl lk f vs H O P) (k : ∀ v H O, P v H O → Q v H O) : Fn tbl lk f vs H O Q := by
  intro t ht
  obtain ⟨v, t', H', O', N, h1, h2, h3⟩ := h t ht
  exact ⟨v, t', H', O', N, h1, h2, k _ _ _ h3⟩

theorem wCall_mono {dr : Bool} {f : Nat} {vs : List AV} {H : Heap} {O : Rows} {P Q : AV → Heap → Rows → Prop} (h : wCall tbl dr f vs H O P) (k : ∀ v H O, P v H O → Q v H O) : wCall tbl dr f vs H O Q := by
  cases dr with
  | false => exact Fn.mono h k
  | true => exact Fn.mono h fun v _ O h => k v _ O h

theorem wpo_mono {dr : Bool} {o : AOp} {vs : List AV} {H : Heap} {O : Rows} {P Q : AV → Heap → Rows → Prop} (h : wpo tbl dr o vs H O P) (k : ∀ v H O, P v H O → Q v H O) : wpo tbl dr o vs H O Q := by
  cases ht : tfree o with
  | true =>
    rw [wpo_pure ht] at h ⊢
    exact opt_mono h fun v => k v H O
  | false =>
    cases o with
    | alloc z => exact fun x hx => k _ _ _ (h x hx)
    | box x => exact ⟨h.1, fun x hx => k _ _ _ (h.2 x hx)⟩
    | ld1 x => exact opt_mono h fun cs h => opt_mono h fun v => k v H O
    | ldA n x => exact opt_mono h fun cs h => ⟨h.1, k _ _ _ h.2⟩
    | st n a v =>
      simp only [wpo] at h ⊢
      unfold wSt at h ⊢
      split at h
      · split at h
        · exact ⟨h.1, k _ _ _ h.2⟩
        · exact h.elim
      · exact h.elim
    | buildS e n z ps => exact opt_mono h fun l h id => k _ _ _ (h id)
    | buildSo e n z ps => exact opt_mono h fun l h id hid => k _ _ _ (h id hid)
    | mkS e b z x y =>
      simp only [wpo] at h ⊢
      unfold wMkS at h ⊢
      split at h
      · exact ⟨h.1, fun id hid => k _ _ _ (h.2 id hid)⟩
      · exact h.elim
    | mark x =>
      simp only [wpo] at h ⊢
      unfold wMark at h ⊢
      split at h
      · exact opt_mono h fun r h => k _ _ _ h
      · exact h.elim
    | app e b z x y =>
      simp only [wpo] at h ⊢
      unfold wApp at h ⊢
      refine opt_mono h fun ys h => ?_
      cases ys with
      | nil => exact ⟨h.1, k _ _ _ h.2⟩
      | cons y ys =>
        simp only at h ⊢
        unfold wApp1 at h ⊢
        split at h
        · exact ⟨h.1, fun id hid => k _ _ _ (h.2 id hid)⟩
        · exact ⟨h.1, fun id hid => k _ _ _ (h.2 id hid)⟩
        · rename_i fl _ _ _
          refine ⟨h.1, ?_⟩
          have h2 := h.2
          cases fl with
          | false => exact fun id hid => k _ _ _ (h2 id hid)
          | true => exact opt_mono h2 fun r h => ⟨h.1, fun id hid => k _ _ _ (h.2 id hid)⟩
        · exact h.elim
    | mem mk xs =>
      simp only [wpo] at h ⊢
      unfold wMem at h ⊢
      split at h
      · unfold wMapp at h ⊢
        refine opt_mono h fun r h => ?_
        obtain ⟨n, ys⟩ := r
        cases n with
        | zero => exact ⟨h.1, k _ _ _ h.2⟩
        | succ n => exact opt_mono h fun o h => ⟨h.1, fun id hid => k _ _ _ (h.2 id hid)⟩
      · exact opt_mono h fun es h => ⟨h.1, fun id hid => k _ _ _ (h.2 id hid)⟩
      · exact opt_mono h fun es h => k _ _ _ h
      · unfold wMmk at h ⊢
        split at h
        · exact ⟨h.1, fun id hid => k _ _ _ (h.2 id hid)⟩
        · exact h.elim
      · unfold wS2b at h ⊢
        split at h
        · exact fun id hid => k _ _ _ (h id hid)
        · exact h.elim
      · cases hk : memPu mk with
        | false => rw [hk] at h; exact h.elim
        | true =>
          rw [hk] at h
          exact opt_mono h fun v h => k _ _ _ h
    | call f xs => exact wCall_mono h k
    | calld f xs =>
      simp only [wpo] at h ⊢
      unfold wCalld at h ⊢
      split at h
      · exact wCall_mono h k
      · exact h.elim
    | _ => cases ht

theorem bcase_mono {a : AV} {P R P' R' : Prop} (h : bcase a P R) (hp : P → P') (hr : R → R') : bcase a P' R' := by
  unfold bcase at h ⊢
  split at h
  · split at h
    · exact hp h
    · exact hr h
  · exact h.elim

theorem wpx_mono {dr : Bool} {env : List AV} : ∀ (x : X) {H : Heap} {O : Rows} {P Q : List AV → Heap → Rows → Prop}, wpx tbl dr env x H O P → (∀ v H O, P v H O → Q v H O) → wpx tbl dr env x H O Q := by
  intro x
  induction x with
  | nil | v | m | c | cm => intro H O P Q h k; exact k _ _ _ h
  | cons x xs h1 h2 => intro H O P Q h k; exact h1 h fun vs H O h => h2 h fun ws H O h => k _ _ _ h
  | op o xs ih => intro H O P Q h k; exact ih h fun vs H O h => wpo_mono h fun v H O h => k _ _ _ h
  | mr x ih => intro H O P Q h k; exact ih h fun vs H O h => k _ _ _ h
  | tup is x ih => intro H O P Q h k; exact ih h fun vs H O h => opt_mono h fun ws h => k _ _ _ h
  | or x y h1 h2 => intro H O P Q h k; exact h1 h fun vs H O h => bcase_mono h (k _ _ _) fun h => h2 h fun ws H O h => k _ _ _ h
  | and x y h1 h2 => intro H O P Q h k; exact h1 h fun vs H O h => bcase_mono h (fun h => h2 h fun ws H O h => k _ _ _ h) (k _ _ _)
  | adr j => intro H O P Q h k; exact ⟨h.1, k _ _ _ h.2⟩
  | lv o x ih => intro H O P Q h k; exact ih h fun vs H O h => opt_mono h fun cs h => opt_mono h fun v h => k _ _ _ h
  | «at» n x ih => intro H O P Q h k; exact ih h k

theorem wpW_mono {dr : Bool} {vs : List AV} : ∀ (ws : List W) {env : List AV} {H : Heap} {O : Rows} {P Q : List AV → Heap → Rows → Prop}, wpW tbl dr vs ws env H O P → (∀ v H O, P v H O → Q v H O) → wpW tbl dr vs ws env H O Q
  | [], _, _, _, _, _, h, k => k _ _ _ h
  | .wo j o ks :: ws, _, _, _, _, _, h, k => wpo_mono (o := o) h fun v H O h => wpW_mono ws h k
  | .wx o ks :: ws, _, _, _, _, _, h, k => wpo_mono (o := o) h fun v H O h => wpW_mono ws h k
  | .ba j z :: ws, _, _, _, _, _, h, k => wpW_mono ws (show wpW tbl dr vs ws _ _ _ _ from h) k
  | .bb j z :: ws, _, _, _, _, _, h, k => ⟨h.1, wpW_mono ws h.2 k⟩
  | .bs n j z :: ws, _, _, _, _, _, h, k => opt_mono h fun a h => wpW_mono ws h k
  | .bt n ka z :: ws, env, _, _, _, _, h, k => by
    simp only [wpW] at h ⊢
    unfold bstp at h ⊢
    split at h
    · exact opt_mono h fun a h => wpW_mono ws h k
    · exact h.elim
  | .bl j o ka :: ws, _, _, _, _, _, h, k => opt_mono h fun a h => opt_mono h fun v h => wpW_mono ws h k
  | .br j o b :: ws, _, _, _, _, _, h, k => opt_mono h fun a h => opt_mono h fun v h => wpW_mono ws h k

theorem wpG_mono {dr : Bool} : ∀ (gs : List Grp) {env : List AV} {H : Heap} {O : Rows} {P Q : List AV → Heap → Rows → Prop}, wpG tbl dr gs env H O P → (∀ v H O, P v H O → Q v H O) → wpG tbl dr gs env H O Q
  | [], _, _, _, _, _, h, k => k _ _ _ h
  | g :: gs, _, _, _, _, _, h, k => wpx_mono g.xs h fun vs H O h => wpW_mono g.ws h fun env H O h => wpG_mono gs h k

theorem wpc_mono : ∀ (c : XC) {env : List AV} {H : Heap} {O : Rows} {P Q : XR → Prop}, wpc tbl c env H O P → (∀ r, P r → Q r) → wpc tbl c env H O Q := by
  intro c
  induction c with
  | skip | ret | exit => intro env H O P Q h k; exact k _ h
  | reg gs => intro env H O P Q h k; exact wpG_mono gs h fun _ _ _ h => k _ h
  | regd r mk gs => intro env H O P Q h k; exact wpG_mono gs h fun _ _ _ h => k _ h
  | ife gs n x a b h1 h2 => intro env H O P Q h k; exact wpG_mono gs h fun _ _ _ h => wpx_mono x h fun _ _ _ h => bcase_mono h (fun h => h1 h k) fun h => h2 h k
  | ifd r mk gs n x a b h1 h2 => intro env H O P Q h k; exact wpG_mono gs h fun _ _ _ h => wpx_mono x h fun _ _ _ h => bcase_mono h (fun h => h1 h k) fun h => h2 h k
  | cnd j a b h1 h2 => intro env H O P Q h k; exact bcase_mono h (fun h => h1 h k) fun h => h2 h k
  | seq a b h1 h2 =>
    intro env H O P Q h k
    refine h1 h fun r h => ?_
    cases r with
    | norm env H O => exact h2 h k
    | exit id env H O => exact k _ h
    | ret env H O => exact k _ h
  | block id b ih =>
    intro env H O P Q h k
    refine ih h fun r h => ?_
    cases r with
    | norm env H O => exact k _ h
    | exit i env H O =>
      unfold blkK at h ⊢
      simp only at h ⊢
      split at h <;> exact k _ h
    | ret env H O => exact k _ h
  | loop b ih =>
    intro env H O P Q h k I hI
    refine h I fun env H O hb => hI env H O (ih hb fun r h => ?_)
    cases r with
    | norm env H O => exact h
    | exit i env H O => exact k _ h
    | ret env H O => exact k _ h

theorem loopK_mono {I J : List AV → Heap → Rows → Prop} {Q : XR → Prop} (h : ∀ env H O, I env H O → J env H O) : ∀ r, loopK I Q r → loopK J Q r := by
  intro r hr
  cases r with
  | norm env H O => exact h _ _ _ hr
  | exit i env H O => exact hr
  | ret env H O => exact hr

/-- a loop is one round, and the loop -/
theorem wLoop_of {b : XC} {env : List AV} {H : Heap} {O : Rows} {Q : XR → Prop} (h : wpc tbl b env H O (loopK (fun env H O => wLoop (wpc tbl b) env H O Q) Q)) : wLoop (wpc tbl b) env H O Q :=
  fun I hI => hI env H O (wpc_mono b h (loopK_mono fun env H O hw => hw I hI))

/-- the same, with the round's code written out -/
theorem wLoop_eq {b c : XC} (hb : b = c) {env : List AV} {H : Heap} {O : Rows} {Q : XR → Prop} (h : wpc tbl c env H O (loopK (fun env H O => wLoop (wpc tbl b) env H O Q) Q)) : wLoop (wpc tbl b) env H O Q := by
  subst hb; exact wLoop_of h

end

end

end M2
end
section
namespace M2
open Go
noncomputable section

section
variable {tbl : Nat → Option AFunc} {d : Nat} {ms : List Nat} {bx : List Bool} {t0 : T} {D0 E0 : List Nat}
variable {env : List AV} {H H' : Heap} {O O' : Rows} {F F' F2 : Fr} {t t' : T} {lg : Log} {sl sl' : SLog}

/-! ### Operands, by what they are -/

def OpD (d : Nat) (ms : List Nat) (c : Nat) (o : Opd) (dir cl : Option Nat) : Prop :=
  match o with
  | .c _ => True
  | .t p => (∃ k, k < c ∧ nm d ms k = true ∧ p = pth d k) ∨ ∃ j, j < ms.length ∧ p = slot d ms j ∧ (dir = some j ∨ cl = some j)

inductive OpDs (d : Nat) (ms : List Nat) (c : Nat) : List Opd → List (Option Nat) → List (Option Nat) → Prop where
  | nil : OpDs d ms c [] [] []
  | cons {o : Opd} {a b : Option Nat} {os : List Opd} {axs bs : List (Option Nat)} (h : OpD d ms c o a b) (t : OpDs d ms c os axs bs) : OpDs d ms c (o :: os) (a :: axs) (b :: bs)

theorem OpD.le {c c' : Nat} {o : Opd} {a b : Option Nat} (h : OpD d ms c o a b) (hc : c ≤ c') : OpD d ms c' o a b := by
  cases o with
  | c v => trivial
  | t p =>
    rcases h with ⟨k, h1, h2⟩ | h
    · exact .inl ⟨k, by omega, h2⟩
    · exact .inr h
theorem OpDs.le {c c' : Nat} {os : List Opd} {axs bs : List (Option Nat)} (h : OpDs d ms c os axs bs) (hc : c ≤ c') : OpDs d ms c' os axs bs := by
  induction h with
  | nil => exact .nil
  | cons h t ih => exact .cons (h.le hc) ih
theorem OpDs.append {c : Nat} {os os' : List Opd} {axs as' bs bs' : List (Option Nat)} (h : OpDs d ms c os axs bs) (k : OpDs d ms c os' as' bs') : OpDs d ms c (os ++ os') (axs ++ as') (bs ++ bs') := by
  induction h with
  | nil => exact k
  | cons h t ih => exact .cons h ih
theorem OpDs.at {c : Nat} {os : List Opd} {axs bs : List (Option Nat)} (h : OpDs d ms c os axs bs) : ∀ i, OpD d ms c (os.getD i hh) (axs.getD i none) (bs.getD i none) := by
  induction h with
  | nil => intro i; trivial
  | cons h t ih => intro i; cases i with
    | zero => exact h
    | succ i => exact ih i

theorem extOs_D : ∀ (is : List Nat) (c : Nat), (∀ i, i < is.length → nm d ms (c + i) = true) → OpDs d ms (c + is.length) (extOs d is c) (is.map fun _ => none) (is.map fun _ => none)
  | [], c, _ => .nil
  | i :: is, c, hn => .cons (.inl ⟨c, by simp, hn 0 (by simp), rfl⟩) (by
      have := extOs_D is (c + 1) (fun j hj => by have := hn (j + 1) (by simpa using hj); rwa [Nat.add_assoc, Nat.add_comm 1])
      rwa [List.length_cons, show c + (is.length + 1) = c + 1 + is.length by omega])

theorem opDs (d : Nat) (ms : List Nat) (bx : List Bool) : ∀ (x : X) (g : Guard) (c : Nat), wfX d ms bx x c = true → OpDs d ms (cX x c) (flatX d ms x g c).os (dirX x) (clsX x) := by
  intro x
  induction x with
  | nil => intro g c h; exact .nil
  | v j => intro g c h; simp only [wfX, vOK, Bool.and_eq_true, decide_eq_true_eq] at h; exact .cons (.inr ⟨j, h.1, rfl, .inl rfl⟩) .nil
  | m j => intro g c h; simp only [wfX, Bool.and_eq_true] at h; exact .cons (.inl ⟨c, Nat.lt_succ_self _, h.2, rfl⟩) .nil
  | c a => intro g c h; exact .cons trivial .nil
  | cm a => intro g c h; exact .cons (.inl ⟨c, Nat.lt_succ_self _, h, rfl⟩) .nil
  | adr j => intro g c h; simp only [wfX, bOK, Bool.and_eq_true, decide_eq_true_eq] at h; exact .cons (.inr ⟨j, h.1, rfl, .inr rfl⟩) .nil
  | cons x xs h1 h2 =>
    intro g c h
    simp only [wfX, Bool.and_eq_true] at h
    simp only [flatX, flat_c]
    exact ((h1 g c h.1).le (cX_le _ _ _ _ _ h.2)).append (h2 g _ h.2)
  | op o xs ih =>
    intro g c h
    simp only [wfX, Bool.and_eq_true] at h
    simp only [flatX, flat_c]
    have : ∃ a, clsX (.op o xs) = [a] := by cases o <;> exact ⟨_, rfl⟩
    obtain ⟨a, ha⟩ := this
    rw [ha]
    exact .cons (.inl ⟨_, Nat.lt_succ_self _, h.1.1.2, rfl⟩) .nil
  | mr x ih =>
    intro g c h
    simp only [wfX, Bool.and_eq_true] at h
    have hc := cX_le _ _ _ _ _ h.1.1
    have hcl : clsX x = [none] := by
      have := h.2
      revert this
      generalize clsX x = l
      cases l with
      | nil => intro h; cases h
      | cons a l => cases a <;> cases l <;> intro h <;> first | rfl | cases h
    simp only [flatX, clsX, hcl]
    exact .cons (.inl ⟨c, (by simp only [cX]; omega), h.1.2, rfl⟩) .nil
  | tup is x ih =>
    intro g c h
    simp only [wfX, Bool.and_eq_true] at h
    simp only [flatX, flat_c]
    exact extOs_D is _ (fun i hi => List.all_eq_true.mp h.2 i (List.mem_range.mpr hi))
  | or x y h1 h2 =>
    intro g c h
    simp only [wfX, Bool.and_eq_true] at h
    simp only [flatX, flat_c]
    exact .cons (.inl ⟨_, Nat.lt_succ_self _, h.2, rfl⟩) .nil
  | and x y h1 h2 =>
    intro g c h
    simp only [wfX, Bool.and_eq_true] at h
    simp only [flatX, flat_c]
    exact .cons (.inl ⟨_, Nat.lt_succ_self _, h.2, rfl⟩) .nil
  | lv o x ih =>
    intro g c h
    simp only [wfX, Bool.and_eq_true] at h
    simp only [flatX, flat_c]
    exact .cons (.inl ⟨_, Nat.lt_succ_self _, h.1.1.2, rfl⟩) .nil
  | «at» n x ih =>
    intro g c h
    simp only [wfX, Bool.and_eq_true, decide_eq_true_eq] at h
    exact ih g n h.2

theorem VRs.ofAt {c : Nat} {os : List Opd} {vs : List AV} {axs : List (Option Nat)} (h : VRs d ms bx env F c os vs axs) (k : Nat) : VR1 d ms bx env F (os.getD k hh) (nth vs k) (axs.getD k none) := (h.at k).2

/-! ### Turns of variables -/

theorem slot_inj (hms : ∀ m ∈ ms, m < 2 ^ d) (hnd : ms.Nodup) {j k : Nat} (hj : j < ms.length) (hk : k < ms.length) (h : slot d ms j = slot d ms k) : j = k := by
  have h1 : ms.getD j 0 ∈ ms := by rw [List.getD_eq_getElem?_getD, List.getElem?_eq_getElem hj]; exact List.getElem_mem hj
  have h2 : ms.getD k 0 ∈ ms := by rw [List.getD_eq_getElem?_getD, List.getElem?_eq_getElem hk]; exact List.getElem_mem hk
  have h3 := pth_inj d _ _ (hms _ h1) (hms _ h2) h
  rw [List.getD_eq_getElem?_getD, List.getD_eq_getElem?_getD, List.getElem?_eq_getElem hj, List.getElem?_eq_getElem hk] at h3
  simp only [Option.getD_some] at h3
  rcases Nat.lt_trichotomy j k with h4 | h4 | h4
  · exact absurd h3 (List.pairwise_iff_getElem.mp hnd j k hj hk h4)
  · exact h4
  · exact absurd h3.symm (List.pairwise_iff_getElem.mp hnd k j hk hj h4)

theorem slot_nm (hms : ∀ m ∈ ms, m < 2 ^ d) {j k : Nat} (hj : j < ms.length) (hk : nm d ms k = true) : slot d ms j ≠ pth d k := by
  intro e
  have h1 : ms.getD j 0 ∈ ms := by rw [List.getD_eq_getElem?_getD, List.getElem?_eq_getElem hj]; exact List.getElem_mem hj
  simp only [nm, Bool.and_eq_true, decide_eq_true_eq, Bool.not_eq_true', List.contains_eq_mem, decide_eq_false_iff_not] at hk
  have := pth_inj d _ _ (hms _ h1) hk.1 e
  exact hk.2 (this ▸ h1)

theorem nth_put (env : List AV) (j k : Nat) (v : AV) (hj : j < env.length) : nth (put env j v) k = if k = j then v else nth env k := by
  unfold nth put
  rw [List.getD_eq_getElem?_getD, List.getElem?_set]
  by_cases h : j = k
  · subst h; simp [hj]
  · rw [if_neg h, if_neg (fun e => h e.symm), List.getD_eq_getElem?_getD]

/-- the values that may still be used -/
def WR (d : Nat) (ms : List Nat) (bx : List Bool) (env : List AV) (F : Fr) (os : List Opd) (vs : List AV) (cs dirs : List (Option Nat)) (mod : List Nat) : Prop :=
  ∀ k, (∀ j, dirs.getD k none = some j → j ∉ mod) → VR1 d ms bx env F (os.getD k hh) (nth vs k) (cs.getD k none)

theorem WR.use {os : List Opd} {vs : List AV} {cs dirs : List (Option Nat)} {mod : List Nat} (h : WR d ms bx env F os vs cs dirs mod) {k : Nat} (hk : useK dirs mod k = true) : VR1 d ms bx env F (os.getD k hh) (nth vs k) (cs.getD k none) := by
  refine h k fun j hj hm => ?_
  unfold useK at hk
  rw [hj] at hk
  simp at hk
  exact hk hm

theorem WR.uses {os : List Opd} {vs : List AV} {cs dirs : List (Option Nat)} {mod : List Nat} (h : WR d ms bx env F os vs cs dirs mod) : ∀ {ks : List Nat}, ks.all (fun k => useK dirs mod k && (cs.getD k none).isNone) = true → (ks.map fun k => os.getD k hh).map (·.get F) = ks.map (nth vs)
  | [], _ => rfl
  | k :: ks, hk => by
    simp only [List.all_cons, Bool.and_eq_true] at hk
    have h1 := h.use hk.1.1
    have hn : cs.getD k none = none := by
      have := hk.1.2
      revert this
      cases cs.getD k none <;> intro h <;> first | rfl | cases h
    rw [hn] at h1
    simp only [List.map_cons]
    rw [show (os.getD k hh).get F = nth vs k from h1]
    have := WR.uses h (ks := ks) hk.2
    rw [← this]

theorem slotne (hms : ∀ m ∈ ms, m < 2 ^ d) (hnd : ms.Nodup) {j k : Nat} (hj : j < ms.length) (hk : k < ms.length) (h : j ≠ k) (F : Fr) (v : AV) : (F.put (slot d ms j) v).get (slot d ms k) = F.get (slot d ms k) :=
  Fr.get_put_ne _ _ _ _ fun e => h (slot_inj hms hnd hj hk e)

/-- a plain variable turned: what values still say -/
theorem WR.setv (hms : ∀ m ∈ ms, m < 2 ^ d) (hnd : ms.Nodup) {os : List Opd} {vs : List AV} {cs dirs : List (Option Nat)} {mod : List Nat} {c : Nat} (hlen : env.length = ms.length) (hD : OpDs d ms c os dirs cs) (h : WR d ms bx env F os vs cs dirs mod) {j : Nat} (hj : j < ms.length) (hb : bx.getD j false = false) (v : AV) :
    WR d ms bx (put env j v) (F.put (slot d ms j) v) os vs cs dirs (j :: mod) := by
  intro k hk
  have h1 := h k fun i hi hm => hk i hi (List.mem_cons_of_mem _ hm)
  have h2 := hD.at k
  have h3 : (os.getD k hh).get (F.put (slot d ms j) v) = (os.getD k hh).get F := by
    cases ho : os.getD k hh with
    | c a => rfl
    | t p =>
      rw [ho] at h2
      rcases h2 with ⟨n, -, hn, rfl⟩ | ⟨i, hi, rfl, hd⟩
      · exact Fr.get_put_ne _ _ _ _ (slot_nm hms hj hn)
      · refine slotne hms hnd hj hi (fun e => ?_) F v
        subst e
        rcases hd with hd | hd
        · exact hk _ hd List.mem_cons_self
        · rw [hd] at h1
          obtain ⟨-, h5, -⟩ := h1
          rw [hb] at h5; cases h5
  cases hc : cs.getD k none with
  | none => rw [hc] at h1; exact h3.trans h1
  | some i =>
    rw [hc] at h1
    obtain ⟨h5, h6, ⟨cs', h7⟩, off, x, h8, h9, h10⟩ := h1
    have hij : i ≠ j := fun e => by subst e; rw [hb] at h6; cases h6
    refine ⟨h5, h6, ⟨cs', by rw [nth_put _ _ _ _ (by omega), if_neg hij]; exact h7⟩, off, x, h8, h3.trans h9, ?_⟩
    rw [slotne hms hnd hj h5 (Ne.symm hij)]
    exact h10

theorem Sim.setv (hms : ∀ m ∈ ms, m < 2 ^ d) (hnd : ms.Nodup) (h : Sim d ms bx t0 D0 E0 env H O F t) {j : Nat} (hj : j < ms.length) (hb : bx.getD j false = false) (v : AV) : Sim d ms bx t0 D0 E0 (put env j v) H O (F.put (slot d ms j) v) t := by
  have hal : ∀ k, k < ms.length → bx.getD k false = true → nth (put env j v) k = nth env k ∧ (F.put (slot d ms j) v).get (slot d ms k) = F.get (slot d ms k) := by
    intro k hk hbk
    have hne : j ≠ k := fun e => by subst e; rw [hb] at hbk; cases hbk
    exact ⟨by rw [nth_put _ _ _ _ (by rw [h.len]; exact hj), if_neg (Ne.symm hne)], slotne hms hnd hj hk hne F v⟩
  refine ⟨by unfold put; rw [List.length_set]; exact h.len, ?_, ?_, ?_, h.pre, h.kp, h.hd, h.od⟩
  · intro k hk hbk
    rw [nth_put _ _ _ _ (by rw [h.len]; exact hj)]
    by_cases e : k = j
    · subst e; rw [if_pos rfl, Fr.get_put_same]
    · rw [if_neg e, slotne hms hnd hj hk (Ne.symm e)]
      exact h.pl k hk hbk
  · intro k hk hbk cs hcs
    obtain ⟨h1, h2⟩ := hal k hk hbk
    rw [h1] at hcs; rw [h2]
    exact h.bo k hk hbk cs hcs
  · intro k l x hk hl hbk hbl ak al h1 h2
    obtain ⟨e1, e2⟩ := hal k hk hbk
    obtain ⟨e3, e4⟩ := hal l hl hbl
    rw [e2] at h1; rw [e4] at h2
    unfold alloc at ak al
    rw [e1] at ak; rw [e3] at al
    exact h.inj k l x hk hl hbk hbl ak al h1 h2

theorem LogI.setv (hms : ∀ m ∈ ms, m < 2 ^ d) (hnd : ms.Nodup) (hlen : env.length = ms.length) (h : LogI d ms bx env H F t lg sl) {j : Nat} (hj : j < ms.length) (hb : bx.getD j false = false) (v : AV) : LogI d ms bx (put env j v) H (F.put (slot d ms j) v) t lg sl := by
  intro e he
  obtain ⟨a, h1, h2, h3, h4⟩ := h e he
  refine ⟨a, h1, h2, h3, fun k hk hbk hak hne => ?_⟩
  have hjk : j ≠ k := fun e => by subst e; rw [hb] at hbk; cases hbk
  rw [slotne hms hnd hj hk hjk]
  unfold alloc at hak
  rw [nth_put _ _ _ _ (by omega), if_neg (Ne.symm hjk)] at hak
  exact h4 k hk hbk hak hne

/-- a variable in memory of its own, laid anew -/
theorem Sim.setb (hms : ∀ m ∈ ms, m < 2 ^ d) (hnd : ms.Nodup) (h : Sim d ms bx t0 D0 E0 env H O F t) {j : Nat} (hj : j < ms.length) (hb : bx.getD j false = true) (cs : List AV) :
    Sim d ms bx t0 D0 E0 (put env j (.agg cs)) H O (F.put (slot d ms j) (.ptr t.n 0)) (t.newV (.cells cs)) := by
  have g := Gd.newV h.pre (.cells cs)
  have hlt : j < env.length := by rw [h.len]; exact hj
  have hpre : Pre H O (t.newV (.cells cs)) := ⟨g.wf, ⟨h.pre.see.hk, fun x o hm => g.see.hv x o (List.mem_cons_of_mem _ hm), h.pre.see.ok, g.see.ov⟩, (g.pre h.pre).v0, (g.pre h.pre).i0⟩
  refine ⟨by unfold put; rw [List.length_set]; exact h.len, ?_, ?_, ?_, hpre, ?_, h.hd, h.od⟩
  · intro k hk hbk
    have hne : j ≠ k := fun e => by subst e; rw [hb] at hbk; cases hbk
    rw [nth_put _ _ _ _ hlt, if_neg (Ne.symm hne), slotne hms hnd hj hk hne]
    exact h.pl k hk hbk
  · intro k hk hbk cs' hcs
    rw [nth_put _ _ _ _ hlt] at hcs
    by_cases e : k = j
    · subst e
      rw [if_pos rfl] at hcs
      cases hcs
      refine ⟨t.n, Fr.get_put_same _ _ _, ?_, h.pre.newx, h.kp.n⟩
      show look2 t.n (push (t.n, .cells cs) t.vs) = _
      rw [look2_push, if_pos rfl]
    · rw [if_neg e] at hcs
      obtain ⟨x, h1, h2, h3, h4⟩ := h.bo k hk hbk cs' hcs
      have hx := h.pre.wf.lookv h2
      refine ⟨x, by rw [slotne hms hnd hj hk (Ne.symm e)]; exact h1, ?_, h3, h4⟩
      show look2 x (push (t.n, .cells cs) t.vs) = _
      rw [look2_push, if_neg (by simp only; omega)]
      exact h2
  · have hnew : ∀ k x, k < ms.length → bx.getD k false = true → k ≠ j → alloc (put env j (.agg cs)) k → (F.put (slot d ms j) (.ptr t.n 0)).get (slot d ms k) = .ptr x 0 → x < t.n ∧ alloc env k ∧ F.get (slot d ms k) = .ptr x 0 := by
      intro k x hk hbk hkj ak h1
      unfold alloc at ak
      rw [nth_put _ _ _ _ hlt, if_neg hkj] at ak
      rw [slotne hms hnd hj hk (Ne.symm hkj)] at h1
      obtain ⟨c', hc'⟩ := ak
      obtain ⟨y, h2, h3, -⟩ := h.bo k hk hbk c' hc'
      rw [h1] at h2; cases h2
      exact ⟨h.pre.wf.lookv h3, ⟨c', hc'⟩, h1⟩
    intro k l x hk hl hbk hbl ak al h1 h2
    by_cases ek : k = j
    · by_cases el : l = j
      · rw [ek, el]
      · subst ek
        rw [Fr.get_put_same] at h1
        cases h1
        have := (hnew l _ hl hbl el al h2).1
        omega
    · by_cases el : l = j
      · subst el
        rw [Fr.get_put_same] at h2
        cases h2
        have := (hnew k _ hk hbk ek ak h1).1
        omega
      · obtain ⟨-, a1, f1⟩ := hnew k x hk hbk ek ak h1
        obtain ⟨-, a2, f2⟩ := hnew l x hl hbl el al h2
        exact h.inj k l x hk hl hbk hbl a1 a2 f1 f2
  · refine h.kp.trans (D1 := ids H) (E1 := ids O) ?_ ?_ ?_
    · exact g.keep
    · intro x hx
      obtain ⟨p, hp, rfl⟩ := List.mem_map.mp hx
      exact h.hd p hp
    · intro x hx
      obtain ⟨p, hp, rfl⟩ := List.mem_map.mp hx
      exact h.od p hp

theorem LogI.setb (hms : ∀ m ∈ ms, m < 2 ^ d) (hnd : ms.Nodup) (hlen : env.length = ms.length) (h : LogI d ms bx env H F t lg sl) {j : Nat} (hj : j < ms.length) (cs : List AV) : LogI d ms bx (put env j (.agg cs)) H (F.put (slot d ms j) (.ptr t.n 0)) (t.newV (.cells cs)) lg sl := by
  intro e he
  obtain ⟨a, h1, h2, h3, h4⟩ := h e he
  refine ⟨a, h1, Nat.lt_succ_of_lt h2, h3, fun k hk hbk hak hne => ?_⟩
  by_cases ek : k = j
  · subst ek
    rw [Fr.get_put_same]
    intro e0; injection e0 with e1; omega
  · rw [slotne hms hnd hj hk (Ne.symm ek)]
    unfold alloc at hak
    rw [nth_put _ _ _ _ (by omega), if_neg ek] at hak
    exact h4 k hk hbk hak hne

/-- a variable in memory of its own, stored into -/
theorem Sim.sets (h : Sim d ms bx t0 D0 E0 env H O F t) {j x : Nat} (hj : j < ms.length) (hb : bx.getD j false = true) {cs0 : List AV} (ha : nth env j = .agg cs0) (hF : F.get (slot d ms j) = .ptr x 0) (cs : List AV) :
    Sim d ms bx t0 D0 E0 (put env j (.agg cs)) H O F ⟨t.n, upd2 x (.cells cs) t.vs, t.is⟩ := by
  have hlt : j < env.length := by rw [h.len]; exact hj
  obtain ⟨y, hy1, hy2, hy3, hy4⟩ := h.bo j hj hb cs0 ha
  rw [hF] at hy1; cases hy1
  have hal : ∀ k, alloc (put env j (.agg cs)) k → alloc env k := by
    intro k hk
    unfold alloc at hk ⊢
    rw [nth_put _ _ _ _ hlt] at hk
    by_cases e : k = j
    · subst e; exact ⟨cs0, ha⟩
    · rwa [if_neg e] at hk
  refine ⟨by unfold put; rw [List.length_set]; exact h.len, ?_, ?_, ?_, ?_, ?_, h.hd, h.od⟩
  · intro k hk hbk
    have hne : k ≠ j := fun e => by subst e; rw [hb] at hbk; cases hbk
    rw [nth_put _ _ _ _ hlt, if_neg hne]
    exact h.pl k hk hbk
  · intro k hk hbk cs' hcs
    rw [nth_put _ _ _ _ hlt] at hcs
    by_cases e : k = j
    · subst e
      rw [if_pos rfl] at hcs; cases hcs
      refine ⟨x, hF, ?_, hy3, hy4⟩
      show look2 x (upd2 x _ t.vs) = _
      rw [look2_upd2, if_pos rfl, hy2]; rfl
    · rw [if_neg e] at hcs
      obtain ⟨z, h1, h2, h3, h4⟩ := h.bo k hk hbk cs' hcs
      refine ⟨z, h1, ?_, h3, h4⟩
      show look2 z (upd2 x _ t.vs) = _
      rw [look2_upd2, if_neg, h2]
      intro ez; subst ez
      exact e (h.inj k j z hk hj hbk hb ⟨cs', hcs⟩ ⟨cs0, ha⟩ h1 hF)
  · intro k l z hk hl hbk hbl ak al h1 h2
    exact h.inj k l z hk hl hbk hbl (hal k ak) (hal l al) h1 h2
  · refine ⟨h.pre.wf.upd x _, ⟨h.pre.see.hk, fun z o hm => ?_, h.pre.see.ok, h.pre.see.ov⟩, ?_, h.pre.i0⟩
    · show look2 z (upd2 x _ t.vs) = _
      rw [look2_upd2, if_neg, h.pre.see.hv z o hm]
      intro ez; subst ez
      exact hy3 (List.mem_map.mpr ⟨_, hm, rfl⟩)
    · show upd2 x _ t.vs ≠ []
      intro e0
      have := h.pre.v0
      cases hv : t.vs with
      | nil => exact this hv
      | cons s l => rw [hv] at e0; cases e0
  · refine h.kp.trans (D1 := [x]) (E1 := []) ⟨[], [], fun p => some (Bool.rec p (p.1, VObj.cells cs) (Nat.beq p.1 x)), fun _ => true, ⟨Nat.le_refl _, by rw [addTop_nil, map_fmap]; rfl, by rw [map_filter_id, addTop_nil], ?_, ?_, fun _ _ _ => rfl, (fun p h => nomatch h), (fun p h => nomatch h)⟩, fun _ => rfl⟩ ?_ (fun x hx => nomatch hx)
    · intro p q h; cases h; cases Nat.beq p.1 x <;> rfl
    · intro p _ hp
      rw [beq_false fun e => hp (by rw [e]; exact List.mem_singleton_self x)]
    · intro z hz
      rw [List.mem_singleton.mp hz]
      exact .inr hy4

theorem LogI.sets (hlen : env.length = ms.length) (h : LogI d ms bx env H F t lg sl) {j : Nat} (hj : j < ms.length) (ha : alloc env j) (cs : List AV) (x : Nat) : LogI d ms bx (put env j (.agg cs)) H F ⟨t.n, upd2 x (.cells cs) t.vs, t.is⟩ lg sl := by
  intro e he
  obtain ⟨a, h1, h2, h3, h4⟩ := h e he
  refine ⟨a, h1, h2, h3, fun k hk hbk hak hne => h4 k hk hbk ?_ hne⟩
  unfold alloc at hak ⊢
  rw [nth_put _ _ _ _ (by omega)] at hak
  by_cases ek : k = j
  · subst ek; exact ha
  · rwa [if_neg ek] at hak

theorem WR.sets {os : List Opd} {vs : List AV} {cs dirs : List (Option Nat)} {mod : List Nat} (hlen : env.length = ms.length) (h : WR d ms bx env F os vs cs dirs mod) {j : Nat} (hj : j < ms.length) (ha : alloc env j) (c : List AV) : WR d ms bx (put env j (.agg c)) F os vs cs dirs mod := by
  intro k hk
  have h1 := h k hk
  cases hc : cs.getD k none with
  | none => rw [hc] at h1; exact h1
  | some i =>
    rw [hc] at h1
    obtain ⟨h5, h6, h7, h8⟩ := h1
    refine ⟨h5, h6, ?_, h8⟩
    unfold alloc
    rw [nth_put _ _ _ _ (by omega)]
    by_cases e : i = j
    · rw [if_pos e]; exact ⟨c, rfl⟩
    · rw [if_neg e]; exact h7

theorem WR.setb (hms : ∀ m ∈ ms, m < 2 ^ d) (hnd : ms.Nodup) {os : List Opd} {vs : List AV} {cs dirs : List (Option Nat)} {mod : List Nat} {c : Nat} (hD : OpDs d ms c os dirs cs) (hpl : ∀ k j, dirs.getD k none = some j → bx.getD j false = false) (hall : cs.all Option.isNone = true) (h : WR d ms bx env F os vs cs dirs mod) {j : Nat} (hj : j < ms.length) (hb : bx.getD j false = true) (v : AV) (env' : List AV) :
    WR d ms bx env' (F.put (slot d ms j) v) os vs cs dirs mod := by
  intro k hk
  have h1 := h k hk
  have hcn : cs.getD k none = none := by
    rw [List.getD_eq_getElem?_getD]
    cases hc : cs[k]? with
    | none => rfl
    | some a =>
      have := List.all_eq_true.mp hall a (List.mem_of_getElem? hc)
      cases a with
      | none => rfl
      | some _ => cases this
  rw [hcn] at h1 ⊢
  have h2 := hD.at k
  rw [hcn] at h2
  refine Eq.trans ?_ h1
  cases ho : os.getD k hh with
  | c a => rfl
  | t p =>
    rw [ho] at h2
    rcases h2 with ⟨n, -, hn, rfl⟩ | ⟨i, hi, rfl, hd⟩
    · exact Fr.get_put_ne _ _ _ _ (slot_nm hms hj hn)
    · refine slotne hms hnd hj hi (fun e => ?_) F v
      subst e
      rcases hd with hd | hd
      · have := hpl k _ hd; rw [hb] at this; cases this
      · cases hd

end

end

end M2
end
section
namespace M2
open Go
noncomputable section

section
variable {tbl : Nat → Option AFunc} {d : Nat} {ms : List Nat} {bx : List Bool} {t0 : T} {D0 E0 : List Nat}

theorem dir_plain (d : Nat) (ms : List Nat) (bx : List Bool) : ∀ (x : X) (c : Nat), wfX d ms bx x c = true → ∀ j, some j ∈ dirX x → bx.getD j false = false := by
  intro x
  induction x with
  | v j =>
    intro c h k hk
    simp only [wfX, vOK, Bool.and_eq_true, Bool.not_eq_true'] at h
    simp only [dirX, List.mem_singleton, Option.some.injEq] at hk
    subst hk; exact h.2
  | cons x xs h1 h2 =>
    intro c h k hk
    simp only [wfX, Bool.and_eq_true] at h
    rcases List.mem_append.mp hk with hk | hk
    · exact h1 c h.1 k hk
    · exact h2 _ h.2 k hk
  | «at» n x ih =>
    intro c h k hk
    simp only [wfX, Bool.and_eq_true] at h
    exact ih n h.2 k hk
  | nil => intro c h k hk; cases hk
  | tup is x ih =>
    intro c h k hk
    simp only [dirX, List.mem_map] at hk
    obtain ⟨_, _, h⟩ := hk; cases h
  | _ => intros; simp_all [dirX]

theorem getD_mem {α : Type} {l : List (Option α)} {k : Nat} {a : α} (h : l.getD k none = some a) : some a ∈ l := by
  rw [List.getD_eq_getElem?_getD] at h
  cases hk : l[k]? with
  | none => rw [hk] at h; cases h
  | some b => rw [hk] at h; cases h; exact List.mem_of_getElem? hk

theorem kv_st {n : Nat} {a v : Opd} {F : Fr} {t : T} {x off : Nat} {cs : List AV} (ha : a.get F = .ptr x off) (hl : look2 x t.vs = some (.cells cs))
    (hc : ((v.get F).known && (v.get F).cells.all AV.isCell && Nat.beq (v.get F).cells.length n && Nat.ble (off + n) cs.length) = true) {k : Option DK} (hk : koks k (.st n a v)) (call : CallF) :
    opKV k (.st n a v) call F t = some (undefA, ⟨t.n, upd2 x (.cells (putAt cs off (v.get F).cells)) t.vs, t.is⟩) := by
  have hrun : ∀ (u : T), u.vs = t.vs → (AOp.st n a v).run call F u = .ok undefA ⟨u.n, upd2 x (.cells (putAt cs off (v.get F).cells)) u.vs, u.is⟩ := by
    intro u hu
    show opSt n a v call F u = _
    unfold opSt
    rw [ha]
    simp only
    rw [hu, hl]
    simp only
    rw [hc]
  rcases hk with rfl | ⟨i, m, rfl⟩
  · simp only [opKV, hrun t rfl, OR.opt]
  · simp only [opKV]
    rw [hrun (viewD (.sto i m) t) rfl]
    rfl

theorem run_kv {k : Option DK} {o : AO} {acc : Acc} {F : Fr} {t t' : T} {lg lg1 : Log} {v : AV} (hg : o.guard = none) (hl : lgK k o.op F lg = some lg1) (h : ∀ call, opKV k o.op call F t = some (v, t')) : Run1 tbl [(k, o, acc)] F t lg (F.putO? o.dst v) t' lg1 := by
  refine ⟨0, fun n _ rest => ?_⟩
  show runL ((k, o) :: rest) _ F t lg = _
  rw [runL, hg]
  simp only [wantedA]
  rw [hl]
  simp only
  rw [h]

theorem isNone_eq {α : Type} {a : Option α} (h : a.isNone = true) : a = none := by cases a <;> first | rfl | cases h

theorem simW {dr : Bool} (hms : ∀ m ∈ ms, m < 2 ^ d) (hnd : ms.Nodup) {os : List Opd} {vs : List AV} {cs dirs : List (Option Nat)} {c : Nat} (hD : OpDs d ms c os dirs cs) (hpl : ∀ k j, dirs.getD k none = some j → bx.getD j false = false) :
    ∀ (ws : List W) (mod : List Nat) (L : List Itm) (sl sl' : SLog) (env : List AV) (H : Heap) (O : Rows) (F : Fr) (t : T) (lg : Log) (K : List AV → Heap → Rows → Prop), wfW ms bx cs dirs mod ws = true → L.map (·.2) = ws.map (flatW d ms os cs) → KOK dr L → slogL L sl = some sl' →
    Sim d ms bx t0 D0 E0 env H O F t → LogI d ms bx env H F t lg sl → WR d ms bx env F os vs cs dirs mod → wpW tbl dr vs ws env H O K →
    ∃ env' H' O' F' t' lg', Run1 tbl L F t lg F' t' lg' ∧ Sim d ms bx t0 D0 E0 env' H' O' F' t' ∧ LogI d ms bx env' H' F' t' lg' sl' ∧ K env' H' O' := by
  intro ws
  induction ws with
  | nil =>
    intro mod L sl sl' env H O F t lg K hw hL hk hs hS hI hR hq
    cases L with
    | nil => cases hs; exact ⟨env, H, O, F, t, lg, .refl _ _ _, hS, hI, hq⟩
    | cons _ _ => cases hL
  | cons w ws ih =>
    intro mod L sl sl' env H O F t lg K hw hL hk hs hS hI hR hq
    obtain ⟨k, L', rfl, hL'⟩ := cons_item hL
    obtain ⟨s1, hs1, hs2⟩ := slog_cons hs
    have hkk := hk.hd
    have hlen := hS.len
    cases w with
    | wo j o ks =>
      simp only [wfW, Bool.and_eq_true] at hw
      obtain ⟨⟨⟨⟨hv, hp⟩, ha⟩, hks⟩, hw'⟩ := hw
      simp only [vOK, Bool.and_eq_true, decide_eq_true_eq, Bool.not_eq_true'] at hv
      simp only [wpW] at hq
      rw [← hR.uses hks] at hq
      obtain ⟨lg1, h1, h2⟩ := log_step hS hI hkk.1 hs1 (hread_at rfl hq)
      obtain ⟨v, t', H', O', h3, h4, h5⟩ := run_one (tbl := tbl) (acc := accO o) (o := ⟨some (slot d ms j), none, o.fill (ks.map fun k => os.getD k hh)⟩) rfl h1 (op_step hp k hkk.1 hkk.2 hS.pre hq)
      obtain ⟨env2, H2, O2, F2, t2, lg2, r2, S2, I2, q2⟩ := ih (j :: mod) L' s1 sl' (put env j v) H' O' (F.put (slot d ms j) v) t' lg1 K hw' hL' hk.tl hs2 ((hS.step h4).setv hms hnd hv.1 hv.2 v) ((h2.step h4).setv hms hnd hlen hv.1 hv.2 v) (hR.setv hms hnd hlen hD hv.1 hv.2 v) h5
      exact ⟨env2, H2, O2, F2, t2, lg2, Run1.trans h3 r2, S2, I2, q2⟩
    | wx o ks =>
      simp only [wfW, Bool.and_eq_true] at hw
      obtain ⟨⟨⟨hp, ha⟩, hks⟩, hw'⟩ := hw
      simp only [wpW] at hq
      rw [← hR.uses hks] at hq
      obtain ⟨lg1, h1, h2⟩ := log_step hS hI hkk.1 hs1 (hread_at rfl hq)
      obtain ⟨v, t', H', O', h3, h4, h5⟩ := run_one (tbl := tbl) (acc := accO o) (o := ⟨none, none, o.fill (ks.map fun k => os.getD k hh)⟩) rfl h1 (op_step hp k hkk.1 hkk.2 hS.pre hq)
      obtain ⟨env2, H2, O2, F2, t2, lg2, r2, S2, I2, q2⟩ := ih mod L' s1 sl' env H' O' F t' lg1 K hw' hL' hk.tl hs2 (hS.step h4) (h2.step h4) hR h5
      exact ⟨env2, H2, O2, F2, t2, lg2, Run1.trans h3 r2, S2, I2, q2⟩
    | ba j z =>
      simp only [wfW, Bool.and_eq_true] at hw
      obtain ⟨⟨hv, hall⟩, hw'⟩ := hw
      simp only [bOK, Bool.and_eq_true, decide_eq_true_eq] at hv
      simp only [wpW] at hq
      obtain ⟨lg1, h1, h2⟩ := log_step hS hI (o := .alloc z) hkk.1 hs1 (fun a e => by cases e)
      have r1 := run_kv (tbl := tbl) (t := t) (acc := none) (o := ⟨some (slot d ms j), none, .alloc z⟩) rfl h1 (fun call => kv_newV (ob := .cells z) (fun t => rfl) k hkk.1)
      obtain ⟨env2, H2, O2, F2, t2, lg2, r2, S2, I2, q2⟩ := ih mod L' s1 sl' (put env j (.agg z)) H O (F.put (slot d ms j) (.ptr t.n 0)) (t.newV (.cells z)) lg1 K hw' hL' hk.tl hs2 (hS.setb hms hnd hv.1 hv.2 z) (h2.setb hms hnd hlen hv.1 z) (hR.setb hms hnd hD hpl hall hv.1 hv.2 _ _) hq
      exact ⟨env2, H2, O2, F2, t2, lg2, Run1.trans r1 r2, S2, I2, q2⟩
    | bb j z =>
      simp only [wfW, Bool.and_eq_true] at hw
      obtain ⟨⟨⟨hv, hall⟩, huse⟩, hw'⟩ := hw
      simp only [bOK, Bool.and_eq_true, decide_eq_true_eq] at hv
      simp only [wpW] at hq
      obtain ⟨hkn, hq⟩ := hq
      have hval : (os.getD z hh).get F = nth vs z := by
        have h0 := hR.use huse
        have hcn : cs.getD z none = none := by
          cases hc : cs.getD z none with
          | none => rfl
          | some a =>
            have := List.all_eq_true.mp hall _ (getD_mem hc)
            cases this
        rw [hcn] at h0; exact h0
      obtain ⟨lg1, h1, h2⟩ := log_step hS hI (o := .box (os.getD z hh)) hkk.1 hs1 (fun a e => by cases e)
      have r1 := run_kv (tbl := tbl) (t := t) (acc := none) (o := ⟨some (slot d ms j), none, .box (os.getD z hh)⟩) rfl h1 (fun call => kv_newV (ob := .cells (nth vs z).cells) (fun t => by
        show opBox (os.getD z hh) call F t = _
        unfold opBox
        rw [hval, hkn]) k hkk.1)
      obtain ⟨env2, H2, O2, F2, t2, lg2, r2, S2, I2, q2⟩ := ih mod L' s1 sl' _ H O _ _ lg1 K hw' hL' hk.tl hs2 (hS.setb hms hnd hv.1 hv.2 _) (h2.setb hms hnd hlen hv.1 _) (hR.setb hms hnd hD hpl hall hv.1 hv.2 _ _) hq
      exact ⟨env2, H2, O2, F2, t2, lg2, Run1.trans r1 r2, S2, I2, q2⟩
    | bs n j z =>
      simp only [wfW, Bool.and_eq_true] at hw
      obtain ⟨⟨⟨hv, huse⟩, hcn⟩, hw'⟩ := hw
      simp only [bOK, Bool.and_eq_true, decide_eq_true_eq] at hv
      have hval : (os.getD z hh).get F = nth vs z := by
        have h0 := hR.use huse
        rw [isNone_eq hcn] at h0; exact h0
      simp only [wpW] at hq
      cases hb : bst (nth env j) 0 n (nth vs z) with
      | none => rw [hb] at hq; exact hq.elim
      | some b =>
        rw [hb] at hq
        unfold bst at hb
        split at hb
        · rename_i c0 hc0
          split at hb
          · rename_i hcond
            cases hb
            obtain ⟨x, hx1, hx2, hx3, hx4⟩ := hS.bo j hv.1 hv.2 c0 hc0
            obtain ⟨lg1, h1, h2⟩ := log_step hS hI (o := .st n (.t (slot d ms j)) (os.getD z hh)) hkk.1 hs1 (fun a e => by cases e; exact ⟨hv.1, hv.2, ⟨c0, hc0⟩, x, 0, hx1, hx1⟩)
            have r1 := run_kv (tbl := tbl) (acc := some (some j)) (o := ⟨none, none, .st n (.t (slot d ms j)) (os.getD z hh)⟩) rfl h1 (fun call => kv_st (a := .t (slot d ms j)) (F := F) hx1 hx2 (by rw [hval]; exact hcond) hkk.1 call)
            rw [hval] at r1
            obtain ⟨env2, H2, O2, F2, t2, lg2, r2, S2, I2, q2⟩ := ih mod L' s1 sl' _ H O F _ lg1 K hw' hL' hk.tl hs2 (hS.sets hv.1 hv.2 hc0 hx1 _) (h2.sets hlen hv.1 ⟨c0, hc0⟩ _ x) (hR.sets hlen hv.1 ⟨c0, hc0⟩ _) hq
            exact ⟨env2, H2, O2, F2, t2, lg2, Run1.trans r1 r2, S2, I2, q2⟩
          · cases hb
        · cases hb
    | bt n ka z =>
      simp only [wfW, Bool.and_eq_true] at hw
      obtain ⟨⟨⟨⟨hcs, huka⟩, huse⟩, hcn⟩, hw'⟩ := hw
      have hval : (os.getD z hh).get F = nth vs z := by
        have h0 := hR.use huse
        rw [isNone_eq hcn] at h0; exact h0
      have ha := hR.use huka
      cases hcj : cs.getD ka none with
      | none => rw [hcj] at hcs; cases hcs
      | some j =>
        rw [hcj] at ha
        obtain ⟨hj, hb, ⟨c0, hc0⟩, off, x, h8, h9, h10⟩ := ha
        simp only [wpW] at hq
        rw [h8] at hq
        simp only [bstp] at hq
        cases hbb : bst (nth env j) off n (nth vs z) with
        | none => rw [hbb] at hq; exact hq.elim
        | some b =>
          rw [hbb] at hq
          unfold bst at hbb
          rw [hc0] at hbb
          simp only at hbb
          split at hbb
          · rename_i hcond
            cases hbb
            obtain ⟨y, hx1, hx2, hx3, hx4⟩ := hS.bo j hj hb c0 hc0
            rw [h10] at hx1; cases hx1
            obtain ⟨lg1, h1, h2⟩ := log_step hS hI (o := .st n (os.getD ka hh) (os.getD z hh)) hkk.1 hs1 (fun a e => by
              have ea : a = some j := by
                have e' : some (cs.getD ka none) = some a := e
                rw [hcj] at e'; cases e'; rfl
              rw [ea]; exact ⟨hj, hb, ⟨c0, hc0⟩, x, off, h9, h10⟩)
            have r1 := run_kv (tbl := tbl) (acc := some (cs.getD ka none)) (o := ⟨none, none, .st n (os.getD ka hh) (os.getD z hh)⟩) rfl h1 (fun call => kv_st h9 hx2 (by rw [hval]; exact hcond) hkk.1 call)
            rw [hval] at r1
            obtain ⟨env2, H2, O2, F2, t2, lg2, r2, S2, I2, q2⟩ := ih mod L' s1 sl' _ H O F _ lg1 K hw' hL' hk.tl hs2 (hS.sets hj hb hc0 h10 _) (h2.sets hlen hj ⟨c0, hc0⟩ _ x) (hR.sets hlen hj ⟨c0, hc0⟩ _) hq
            exact ⟨env2, H2, O2, F2, t2, lg2, Run1.trans r1 r2, S2, I2, q2⟩
          · cases hbb
    | bl j o ka =>
      simp only [wfW, Bool.and_eq_true] at hw
      obtain ⟨⟨⟨⟨hv, ho⟩, hcs⟩, huka⟩, hw'⟩ := hw
      simp only [vOK, Bool.and_eq_true, decide_eq_true_eq, Bool.not_eq_true'] at hv
      have ha := hR.use huka
      cases hcj : cs.getD ka none with
      | none => rw [hcj] at hcs; cases hcs
      | some i =>
        rw [hcj] at ha
        obtain ⟨hj, hb, ⟨c0, hc0⟩, off, x, h8, h9, h10⟩ := ha
        simp only [wpW] at hq
        rw [h8] at hq
        simp only [lva, hc0, opt] at hq
        cases hvv : lvV o (c0.drop off) with
        | none => rw [hvv] at hq; exact hq.elim
        | some v =>
          rw [hvv] at hq
          obtain ⟨y, hx1, hx2, hx3, hx4⟩ := hS.bo i hj hb c0 hc0
          rw [h10] at hx1; cases hx1
          have hrd : t.read (([os.getD ka hh].getD 0 hh).get F) = some (c0.drop off) := by
            rw [show [os.getD ka hh].getD 0 hh = os.getD ka hh from rfl, h9]
            unfold T.read
            simp only
            rw [hx2]
          have hat : atO bx d ms env H F (some i) (o.fill [os.getD ka hh]) := by
            have hA : At bx d ms env H F (some i) ((os.getD ka hh).get F) := ⟨hj, hb, ⟨c0, hc0⟩, x, off, h9, h10⟩
            cases o <;> first | exact hA | cases ho
          obtain ⟨lg1, h1, h2⟩ := log_step hS hI hkk.1 hs1 (fun a e => by
            have ea : a = some i := by
              have e' : some (cs.getD ka none) = some a := e
              rw [hcj] at e'; cases e'; rfl
            rw [ea]; exact hat)
          have r1 := run_kv (tbl := tbl) (acc := some (cs.getD ka none)) (o := ⟨some (slot d ms j), none, o.fill [os.getD ka hh]⟩) rfl h1 (fun call => one_ld ho hrd hvv hkk.1 call)
          obtain ⟨env2, H2, O2, F2, t2, lg2, r2, S2, I2, q2⟩ := ih (j :: mod) L' s1 sl' (put env j v) H O (F.put (slot d ms j) v) t lg1 K hw' hL' hk.tl hs2 (hS.setv hms hnd hv.1 hv.2 v) (h2.setv hms hnd hlen hv.1 hv.2 v) (hR.setv hms hnd hlen hD hv.1 hv.2 v) hq
          exact ⟨env2, H2, O2, F2, t2, lg2, Run1.trans r1 r2, S2, I2, q2⟩
    | br j o b =>
      simp only [wfW, Bool.and_eq_true] at hw
      obtain ⟨⟨⟨hv, hbo⟩, ho⟩, hw'⟩ := hw
      simp only [vOK, Bool.and_eq_true, decide_eq_true_eq, Bool.not_eq_true'] at hv
      simp only [bOK, Bool.and_eq_true, decide_eq_true_eq] at hbo
      simp only [wpW] at hq
      cases hag : aggL (nth env b) with
      | none => rw [hag] at hq; exact hq.elim
      | some c0 =>
        rw [hag] at hq
        have hc0 : nth env b = .agg c0 := by
          unfold aggL at hag
          split at hag
          · rename_i h; rw [h]; cases hag; rfl
          · cases hag
        simp only [opt] at hq
        cases hvv : lvV o c0 with
        | none => rw [hvv] at hq; exact hq.elim
        | some v =>
          rw [hvv] at hq
          obtain ⟨x, hx1, hx2, hx3, hx4⟩ := hS.bo b hbo.1 hbo.2 c0 hc0
          have hrd : t.read (([.t (slot d ms b)].getD 0 hh : Opd).get F) = some (c0.drop 0) := by
            show t.read (F.get (slot d ms b)) = _
            rw [hx1]
            unfold T.read
            simp only
            rw [hx2]
          have hat : atO bx d ms env H F (some b) (o.fill [.t (slot d ms b)]) := by
            have hA : At bx d ms env H F (some b) ((Opd.t (slot d ms b)).get F) := ⟨hbo.1, hbo.2, ⟨c0, hc0⟩, x, 0, hx1, hx1⟩
            cases o <;> first | exact hA | cases ho
          obtain ⟨lg1, h1, h2⟩ := log_step hS hI hkk.1 hs1 (fun a e => by cases e; exact hat)
          have r1 := run_kv (tbl := tbl) (acc := some (some b)) (o := ⟨some (slot d ms j), none, o.fill [.t (slot d ms b)]⟩) rfl h1 (fun call => one_ld ho hrd (show lvV o (c0.drop 0) = some v from hvv) hkk.1 call)
          obtain ⟨env2, H2, O2, F2, t2, lg2, r2, S2, I2, q2⟩ := ih (j :: mod) L' s1 sl' (put env j v) H O (F.put (slot d ms j) v) t lg1 K hw' hL' hk.tl hs2 (hS.setv hms hnd hv.1 hv.2 v) (h2.setv hms hnd hlen hv.1 hv.2 v) (hR.setv hms hnd hlen hD hv.1 hv.2 v) hq
          exact ⟨env2, H2, O2, F2, t2, lg2, Run1.trans r1 r2, S2, I2, q2⟩

theorem simG {dr : Bool} (hms : ∀ m ∈ ms, m < 2 ^ d) (hnd : ms.Nodup) : ∀ (gs : List Grp) (L : List Itm) (sl sl' : SLog) (env : List AV) (H : Heap) (O : Rows) (F : Fr) (t : T) (lg : Log) (K : List AV → Heap → Rows → Prop), wfG d ms bx gs = true → L.map (·.2) = flatG d ms gs → KOK dr L → slogL L sl = some sl' →
    Sim d ms bx t0 D0 E0 env H O F t → LogI d ms bx env H F t lg sl → wpG tbl dr gs env H O K →
    ∃ env' H' O' F' t' lg', Run1 tbl L F t lg F' t' lg' ∧ Sim d ms bx t0 D0 E0 env' H' O' F' t' ∧ LogI d ms bx env' H' F' t' lg' sl' ∧ K env' H' O'
  | [], L, sl, sl', env, H, O, F, t, lg, K, hw, hL, hk, hs, hS, hI, hq => by
    cases L with
    | nil => cases hs; exact ⟨env, H, O, F, t, lg, .refl _ _ _, hS, hI, hq⟩
    | cons _ _ => cases hL
  | g :: gs, L, sl, sl', env, H, O, F, t, lg, K, hw, hL, hk, hs, hS, hI, hq => by
    simp only [wfG, Bool.and_eq_true] at hw
    obtain ⟨⟨hwx, hww⟩, hwg⟩ := hw
    simp only [flatG] at hL
    obtain ⟨L1, L23, rfl, hL1, hL23⟩ := split_items hL
    obtain ⟨L2, L3, rfl, hL2, hL3⟩ := split_items hL23
    obtain ⟨s1, hs1, hs23⟩ := slogL_append _ _ _ _ hs
    obtain ⟨s2, hs2, hs3⟩ := slogL_append _ _ _ _ hs23
    obtain ⟨vs, H1, O1, F1, t1, lg1, r1, S1, I1, a1, V1, q1⟩ := simX (tbl := tbl) hms g.xs none g.n L1 sl s1 H O F t lg _ (fun k b e => by cases e) hwx hL1 hk.left hs1 hS hI rfl hq
    obtain ⟨env2, H2, O2, F2, t2, lg2, r2, S2, I2, q2⟩ := simW (tbl := tbl) hms hnd (opDs d ms bx g.xs none g.n hwx) (fun k j hj => dir_plain d ms bx g.xs g.n hwx j (getD_mem hj)) g.ws [] L2 s1 s2 env H1 O1 F1 t1 lg1 _ hww hL2 hk.right.left hs2 S1 I1 (fun k _ => V1.ofAt k) q1
    obtain ⟨env3, H3, O3, F3, t3, lg3, r3, S3, I3, q3⟩ := simG hms hnd gs L3 s2 sl' env2 H2 O2 F2 t2 lg2 K hwg hL3 hk.right.right hs3 S2 I2 q2
    exact ⟨env3, H3, O3, F3, t3, lg3, r1.trans (r2.trans r3), S3, I3, q3⟩

end

end

end M2
end
section
namespace M2
open Go
noncomputable section

section
variable {tbl : Nat → Option AFunc} {d : Nat} {ms : List Nat} {bx : List Bool} {t0 : T} {D0 E0 : List Nat}

theorem slog_itmN : ∀ (l : List (AO × Acc)) (sl : SLog), slogL (itmN l) sl = some sl
  | [], sl => rfl
  | o :: l, sl => by
    show (match slog1 none o.2 sl with | some s1 => slogL (itmN l) s1 | none => none) = _
    exact slog_itmN l sl

theorem kok_itmN (dr : Bool) (l : List (AO × Acc)) : KOK dr (itmN l) := by
  intro e he
  obtain ⟨o, _, rfl⟩ := List.mem_map.mp he
  exact ⟨.inl rfl, fun _ => rfl⟩

theorem snd_itmN (l : List (AO × Acc)) : (itmN l).map (·.2) = l := by simp [itmN, List.map_map, Function.comp_def]
theorem kd_itmN (l : List (AO × Acc)) : kd (itmN l) = (l.map Prod.fst).map fun o => (none, o) := by simp [kd, itmN, List.map_map, Function.comp_def]

theorem snd_itmD (mk : List Nat) (st : Bool) : ∀ (r i : Nat) (l : List (AO × Acc)), (itmD mk st r i l).map (·.2) = l
  | r, i, [] => by cases r <;> rfl
  | 0, i, o :: l => snd_itmN _
  | r + 1, i, o :: l => by
    show o :: (itmD mk st r (i + 1) l).map (·.2) = _
    rw [snd_itmD mk st r (i + 1) l]

theorem kd_itmD (mk : List Nat) (st : Bool) : ∀ (r i : Nat) (l : List (AO × Acc)), kd (itmD mk st r i l) = (kindsOf mk st ((l.map Prod.fst).take r) i).map (fun o => (some o.1, o.2)) ++ ((l.map Prod.fst).drop r).map fun o => (none, o)
  | r, i, [] => by cases r <;> rfl
  | 0, i, o :: l => by show kd (itmN (o :: l)) = _; rw [kd_itmN]; rfl
  | r + 1, i, o :: l => by
    show (some ((kindAt mk st i o.1.op).getD .pure), o.1) :: kd (itmD mk st r (i + 1) l) = _
    rw [kd_itmD mk st r (i + 1) l]; rfl

theorem kok_itmD (mk : List Nat) (st : Bool) : ∀ (r i : Nat) (l : List (AO × Acc)), memFree r l = true → KOK true (itmD mk st r i l)
  | r, i, [], _ => by cases r <;> exact fun e he => nomatch he
  | 0, i, o :: l, _ => kok_itmN true _
  | r + 1, i, o :: l, h => by
    have h' : (!isMem o.1.op) = true ∧ memFree r l = true := by
      unfold memFree at h ⊢
      rw [List.take_succ_cons, List.all_cons, Bool.and_eq_true] at h
      exact h
    intro e he
    cases he with
    | head => exact ⟨koks_of _ _ _ _ (by simpa using h'.1), nofun⟩
    | tail _ he => exact kok_itmD mk st r (i + 1) l h'.2 e he

theorem drawn_eq (r : Nat) (mk : List Nat) (l : List (AO × Acc)) (call : CallF) (F : Fr) (t : T) (tb : Nat → Option AFunc) (n : Nat) :
    ev tb (n + 1) (drawn r mk (l.map Prod.fst)) F t = runL (kd (itmR r mk l)) (callA tb (ev tb n)) F t [] := by
  unfold itmR drawn
  rw [kd_itmD, List.map_take]
  exact runD_L (callA tb (ev tb n)) _ _ F t []

theorem reg_eq (l : List (AO × Acc)) (F : Fr) (t : T) (tb : Nat → Option AFunc) (n : Nat) : ev tb (n + 1) (.reg (l.map Prod.fst)) F t = runL (kd (itmN l)) (callA tb (ev tb n)) F t [] := by
  rw [kd_itmN]
  exact runOps_L (callA tb (ev tb n)) _ F t []

theorem LogI.nil {env : List AV} {H : Heap} {F : Fr} {t : T} {sl : SLog} : LogI d ms bx env H F t [] sl := fun e he => nomatch he

def RelR (d : Nat) (ms : List Nat) (bx : List Bool) (t0 : T) (D0 E0 : List Nat) (Q : XR → Prop) (r : RR) : Prop :=
  match r with
  | .fail => False
  | .norm F t => ∃ env H O, Sim d ms bx t0 D0 E0 env H O F t ∧ Q (.norm env H O)
  | .exit id F t => ∃ env H O, Sim d ms bx t0 D0 E0 env H O F t ∧ Q (.exit id env H O)
  | .ret F t => ∃ env H O, Sim d ms bx t0 D0 E0 env H O F t ∧ Q (.ret env H O)

def Goes2 (tbl : Nat → Option AFunc) (d : Nat) (ms : List Nat) (bx : List Bool) (t0 : T) (D0 E0 : List Nat) (c : Cd) (F : Fr) (t : T) (Q : XR → Prop) : Prop :=
  ∃ N r, (∀ n, N ≤ n → ev tbl n c F t = r) ∧ RelR d ms bx t0 D0 E0 Q r

theorem succ_of {N n : Nat} (h : N + 1 ≤ n) : ∃ m, n = m + 1 ∧ N ≤ m := ⟨n - 1, by omega, by omega⟩

theorem simR {dr : Bool} (hms : ∀ m ∈ ms, m < 2 ^ d) (hnd : ms.Nodup) (gs : List Grp) (hwg : wfG d ms bx gs = true) {L : List Itm} (hL : L.map (·.2) = flatG d ms gs) (hk : KOK dr L) {sl' : SLog} (hs : slogL L [] = some sl') {env : List AV} {H : Heap} {O : Rows} {F : Fr} {t : T} {K : List AV → Heap → Rows → Prop}
    (hS : Sim d ms bx t0 D0 E0 env H O F t) (hq : wpG tbl dr gs env H O K) {c : Cd} (hc : ∀ n, ev tbl (n + 1) c F t = runL (kd L) (callA tbl (ev tbl n)) F t []) {Q : XR → Prop} (hK : ∀ env H O, K env H O → Q (.norm env H O)) : Goes2 tbl d ms bx t0 D0 E0 c F t Q := by
  obtain ⟨env', H', O', F', t', lg', ⟨N, hr⟩, hS', -, hq'⟩ := simG (tbl := tbl) hms hnd gs L [] sl' env H O F t [] K hwg hL hk hs hS LogI.nil hq
  refine ⟨N + 1, .norm F' t', fun n hn => ?_, env', H', O', hS', hK _ _ _ hq'⟩
  obtain ⟨m, rfl, hm⟩ := succ_of hn
  rw [hc m]
  have := hr m hm []
  rw [List.append_nil] at this
  exact this

/-- a region with a value at its end -/
theorem simRX {dr : Bool} (hms : ∀ m ∈ ms, m < 2 ^ d) (hnd : ms.Nodup) (gs : List Grp) (n : Nat) (x : X) (hwg : wfG d ms bx gs = true) (hwx : wfX d ms bx x n = true) (hcl : (clsX x == [none]) = true) {L : List Itm} (hL : L.map (·.2) = flatG d ms gs ++ (flatX d ms x none n).ops) (hk : KOK dr L) {sl' : SLog} (hs : slogL L [] = some sl')
    {env : List AV} {H : Heap} {O : Rows} {F : Fr} {t : T} {P R : List AV → Heap → Rows → Prop} (hS : Sim d ms bx t0 D0 E0 env H O F t) (hq : wpG tbl dr gs env H O fun env H O => wpx tbl dr env x H O fun vs H O => bcase (vs.headD .und) (P env H O) (R env H O)) :
    ∃ b env' H' O' F' t' N, (∀ m, N ≤ m → runL (kd L) (callA tbl (ev tbl m)) F t [] = .norm F' t') ∧ Sim d ms bx t0 D0 E0 env' H' O' F' t' ∧ ((flatX d ms x none n).os.headD hh).get F' = .bool b ∧ (if b then P env' H' O' else R env' H' O') := by
  obtain ⟨L1, L2, rfl, hL1, hL2⟩ := split_items hL
  obtain ⟨s1, hs1, hs2⟩ := slogL_append _ _ _ _ hs
  obtain ⟨env1, H1, O1, F1, t1, lg1, r1, S1, I1, q1⟩ := simG (tbl := tbl) hms hnd gs L1 [] s1 env H O F t [] _ hwg hL1 hk.left hs1 hS LogI.nil hq
  obtain ⟨vs, H2, O2, F2, t2, lg2, r2, S2, I2, a2, V2, q2⟩ := simX (tbl := tbl) hms x none n L2 s1 sl' H1 O1 F1 t1 lg1 _ (fun k b e => by cases e) hwx hL2 hk.right hs2 S1 I1 rfl q1
  obtain ⟨N, hr⟩ := r1.trans r2
  have hv := (single V2 hcl).1
  cases hb : vs.headD .und with
  | bool b =>
    rw [hb] at q2 hv
    refine ⟨b, env1, H2, O2, F2, t2, N, fun m hm => ?_, S2, hv, ?_⟩
    · have := hr m hm []
      rw [List.append_nil] at this
      exact this
    · cases b
      · exact q2
      · exact q2
  | _ => rw [hb] at q2; exact q2.elim

theorem ev_seq (n : Nat) (a b : Cd) (F : Fr) (t : T) : ev tbl (n + 1) (.seq a b) F t = RR.rec (motive := fun _ => RR) .fail (ev tbl n b) RR.exit RR.ret (ev tbl n a F t) := rfl
theorem ev_block (n id : Nat) (b : Cd) (F : Fr) (t : T) : ev tbl (n + 1) (.block id b) F t = RR.rec (motive := fun _ => RR) .fail RR.norm (fun i f t => Bool.rec (motive := fun _ => RR) (.exit i f t) (.norm f t) (Nat.beq i id)) RR.ret (ev tbl n b F t) := rfl
theorem ev_loop (n : Nat) (b : Cd) (F : Fr) (t : T) : ev tbl (n + 1) (.loop b) F t = RR.rec (motive := fun _ => RR) .fail (ev tbl n (.loop b)) RR.exit RR.ret (ev tbl n b F t) := rfl
theorem ev_cond (n : Nat) (c : Opd) (a b : Cd) (F : Fr) (t : T) {x : Bool} (hc : c.get F = .bool x) : ev tbl (n + 1) (.cond c a b) F t = if x then ev tbl n a F t else ev tbl n b F t := by
  show cCond c a b (fun _ _ _ _ => .fail) (fun _ _ _ _ => .fail) tbl (ev tbl n) F t = _
  unfold cCond
  rw [hc]
  cases x <;> rfl

theorem Goes2.cond {a b : Cd} {c : Opd} {F : Fr} {t : T} {Q : XR → Prop} {x : Bool} (hc : c.get F = .bool x) (h : Goes2 tbl d ms bx t0 D0 E0 (if x then a else b) F t Q) : Goes2 tbl d ms bx t0 D0 E0 (.cond c a b) F t Q := by
  obtain ⟨N, r, h1, h2⟩ := h
  refine ⟨N + 1, r, fun n hn => ?_, h2⟩
  obtain ⟨m, rfl, hm⟩ := succ_of hn
  rw [ev_cond m c a b F t hc]
  cases x <;> exact h1 m hm

theorem Goes2.seq {a b : Cd} {F : Fr} {t : T} {Q : XR → Prop} {R : List AV → Heap → Rows → Prop} (h : Goes2 tbl d ms bx t0 D0 E0 a F t (fun r => match r with | .norm env H O => R env H O | .exit id env H O => Q (.exit id env H O) | .ret env H O => Q (.ret env H O)))
    (k : ∀ env H O F t, Sim d ms bx t0 D0 E0 env H O F t → R env H O → Goes2 tbl d ms bx t0 D0 E0 b F t Q) : Goes2 tbl d ms bx t0 D0 E0 (.seq a b) F t Q := by
  obtain ⟨N, r, h1, h2⟩ := h
  cases r with
  | fail => exact h2.elim
  | norm F1 t1 =>
    obtain ⟨env, H, O, hS, hR⟩ := h2
    obtain ⟨M, r, k1, k2⟩ := k env H O F1 t1 hS hR
    refine ⟨max N M + 1, r, fun n hn => ?_, k2⟩
    obtain ⟨m, rfl, hm⟩ := succ_of hn
    rw [ev_seq, h1 m (by omega)]
    exact k1 m (by omega)
  | exit id F1 t1 =>
    refine ⟨N + 1, .exit id F1 t1, fun n hn => ?_, h2⟩
    obtain ⟨m, rfl, hm⟩ := succ_of hn
    rw [ev_seq, h1 m (by omega)]
  | ret F1 t1 =>
    refine ⟨N + 1, .ret F1 t1, fun n hn => ?_, h2⟩
    obtain ⟨m, rfl, hm⟩ := succ_of hn
    rw [ev_seq, h1 m (by omega)]

theorem simC (hms : ∀ m ∈ ms, m < 2 ^ d) (hnd : ms.Nodup) : ∀ (c : XC) (env : List AV) (H : Heap) (O : Rows) (F : Fr) (t : T) (Q : XR → Prop), wfC d ms bx c = true → Sim d ms bx t0 D0 E0 env H O F t → wpc tbl c env H O Q → Goes2 tbl d ms bx t0 D0 E0 (flatC d ms c) F t Q := by
  intro c
  induction c with
  | skip => intro env H O F t Q hw hS hq; exact ⟨1, .norm F t, fun n hn => by obtain ⟨m, rfl, -⟩ := succ_of (N := 0) hn; rfl, env, H, O, hS, hq⟩
  | ret => intro env H O F t Q hw hS hq; exact ⟨1, .ret F t, fun n hn => by obtain ⟨m, rfl, -⟩ := succ_of (N := 0) hn; rfl, env, H, O, hS, hq⟩
  | exit id => intro env H O F t Q hw hS hq; exact ⟨1, .exit id F t, fun n hn => by obtain ⟨m, rfl, -⟩ := succ_of (N := 0) hn; rfl, env, H, O, hS, hq⟩
  | reg gs =>
    intro env H O F t Q hw hS hq
    exact simR (dr := false) hms hnd gs hw (snd_itmN _) (kok_itmN _ _) (slog_itmN _ _) hS hq (fun n => reg_eq _ F t tbl n) fun _ _ _ h => h
  | regd r mk gs =>
    intro env H O F t Q hw hS hq
    simp only [wfC, Bool.and_eq_true] at hw
    obtain ⟨⟨hwg, hsl⟩, hmf⟩ := hw
    obtain ⟨sl', hs⟩ := Option.isSome_iff_exists.mp hsl
    exact simR (dr := true) hms hnd gs hwg (snd_itmD _ _ _ _ _) (kok_itmD _ _ _ _ _ hmf) hs hS hq (fun n => drawn_eq r mk _ (callA tbl (ev tbl n)) F t tbl n) fun _ _ _ h => h
  | ife gs n x a b h1 h2 =>
    intro env H O F t Q hw hS hq
    simp only [wfC, Bool.and_eq_true] at hw
    obtain ⟨⟨⟨⟨hwg, hwx⟩, hcl⟩, hwa⟩, hwb⟩ := hw
    obtain ⟨v, env', H', O', F', t', N, hr, hS', hv, hq'⟩ := simRX (tbl := tbl) (dr := false) hms hnd gs n x hwg hwx hcl (snd_itmN _) (kok_itmN _ _) (slog_itmN _ _) hS hq
    have hc : Goes2 tbl d ms bx t0 D0 E0 (.cond ((flatX d ms x none n).os.headD hh) (flatC d ms a) (flatC d ms b)) F' t' Q := by
      refine Goes2.cond hv ?_
      cases v
      · exact h2 env' H' O' F' t' Q hwb hS' hq'
      · exact h1 env' H' O' F' t' Q hwa hS' hq'
    obtain ⟨M, r, k1, k2⟩ := hc
    refine ⟨max N M + 2, r, fun m hm => ?_, k2⟩
    obtain ⟨m, rfl⟩ : ∃ k, m = k + 2 := ⟨m - 2, by omega⟩
    show ev tbl (m + 1 + 1) (.seq _ _) F t = r
    rw [ev_seq, reg_eq, hr m (by omega)]
    exact k1 _ (by omega)
  | ifd r mk gs n x a b h1 h2 =>
    intro env H O F t Q hw hS hq
    simp only [wfC, Bool.and_eq_true] at hw
    obtain ⟨⟨⟨⟨⟨⟨hwg, hwx⟩, hcl⟩, hwa⟩, hwb⟩, hsl⟩, hmf⟩ := hw
    obtain ⟨sl', hs⟩ := Option.isSome_iff_exists.mp hsl
    obtain ⟨v, env', H', O', F', t', N, hr, hS', hv, hq'⟩ := simRX (tbl := tbl) (dr := true) hms hnd gs n x hwg hwx hcl (snd_itmD _ _ _ _ _) (kok_itmD _ _ _ _ _ hmf) hs hS hq
    have hc : Goes2 tbl d ms bx t0 D0 E0 (.cond ((flatX d ms x none n).os.headD hh) (flatC d ms a) (flatC d ms b)) F' t' Q := by
      refine Goes2.cond hv ?_
      cases v
      · exact h2 env' H' O' F' t' Q hwb hS' hq'
      · exact h1 env' H' O' F' t' Q hwa hS' hq'
    obtain ⟨M, r', k1, k2⟩ := hc
    refine ⟨max N M + 2, r', fun m hm => ?_, k2⟩
    obtain ⟨m, rfl⟩ : ∃ k, m = k + 2 := ⟨m - 2, by omega⟩
    show ev tbl (m + 1 + 1) (.seq _ _) F t = r'
    rw [ev_seq, drawn_eq r mk _ (callA tbl (ev tbl m)) F t tbl m, show runL (kd (itmR r mk (flatG d ms gs ++ (flatX d ms x none n).ops))) (callA tbl (ev tbl m)) F t [] = _ from hr m (by omega)]
    exact k1 _ (by omega)
  | cnd j a b h1 h2 =>
    intro env H O F t Q hw hS hq
    simp only [wfC, Bool.and_eq_true, vOK, decide_eq_true_eq, Bool.not_eq_true'] at hw
    obtain ⟨⟨⟨hj, hb⟩, hwa⟩, hwb⟩ := hw
    have hF := hS.pl j hj hb
    cases hv : nth env j with
    | bool v =>
      refine Goes2.cond (x := v) (hF.trans hv) ?_
      simp only [wpc] at hq
      rw [hv] at hq
      cases v
      · exact h2 env H O F t Q hwb hS hq
      · exact h1 env H O F t Q hwa hS hq
    | _ => simp only [wpc] at hq; rw [hv] at hq; exact hq.elim
  | seq a b h1 h2 =>
    intro env H O F t Q hw hS hq
    simp only [wfC, Bool.and_eq_true] at hw
    have h := h1 env H O F t _ hw.1 hS hq
    refine Goes2.seq (R := fun env H O => wpc tbl b env H O Q) ?_ fun env H O F t hS hR => h2 env H O F t Q hw.2 hS hR
    obtain ⟨N, r, k1, k2⟩ := h
    refine ⟨N, r, k1, ?_⟩
    cases r <;> exact k2
  | block id b ih =>
    intro env H O F t Q hw hS hq
    obtain ⟨N, r, k1, k2⟩ := ih env H O F t _ hw hS hq
    cases r with
    | fail => exact k2.elim
    | norm F1 t1 =>
      refine ⟨N + 1, .norm F1 t1, fun n hn => ?_, k2⟩
      obtain ⟨m, rfl, hm⟩ := succ_of hn
      show ev tbl (m + 1) (.block id _) F t = _
      rw [ev_block, k1 m hm]
    | ret F1 t1 =>
      refine ⟨N + 1, .ret F1 t1, fun n hn => ?_, k2⟩
      obtain ⟨m, rfl, hm⟩ := succ_of hn
      show ev tbl (m + 1) (.block id _) F t = _
      rw [ev_block, k1 m hm]
    | exit i F1 t1 =>
      obtain ⟨env1, H1, O1, S1, q1⟩ := k2
      simp only [blkK] at q1
      cases hb : Nat.beq i id with
      | true =>
        rw [hb] at q1
        refine ⟨N + 1, .norm F1 t1, fun n hn => ?_, env1, H1, O1, S1, q1⟩
        obtain ⟨m, rfl, hm⟩ := succ_of hn
        show ev tbl (m + 1) (.block id _) F t = _
        rw [ev_block, k1 m hm]
        show Bool.rec (motive := fun _ => RR) (.exit i F1 t1) (.norm F1 t1) (Nat.beq i id) = _
        rw [hb]
      | false =>
        rw [hb] at q1
        refine ⟨N + 1, .exit i F1 t1, fun n hn => ?_, env1, H1, O1, S1, q1⟩
        obtain ⟨m, rfl, hm⟩ := succ_of hn
        show ev tbl (m + 1) (.block id _) F t = _
        rw [ev_block, k1 m hm]
        show Bool.rec (motive := fun _ => RR) (.exit i F1 t1) (.norm F1 t1) (Nat.beq i id) = _
        rw [hb]
  | loop b ih =>
    intro env H O F t Q hw hS hq
    refine hq (fun env H O => ∀ F t, Sim d ms bx t0 D0 E0 env H O F t → Goes2 tbl d ms bx t0 D0 E0 (.loop (flatC d ms b)) F t Q) ?_ F t hS
    intro env H O hb F t hS
    obtain ⟨N, r, k1, k2⟩ := ih env H O F t _ hw hS hb
    cases r with
    | fail => exact k2.elim
    | norm F1 t1 =>
      obtain ⟨env1, H1, O1, S1, q1⟩ := k2
      obtain ⟨M, r, m1, m2⟩ := q1 F1 t1 S1
      refine ⟨max N M + 1, r, fun n hn => ?_, m2⟩
      obtain ⟨m, rfl, hm⟩ := succ_of hn
      rw [ev_loop, k1 m (by omega)]
      exact m1 m (by omega)
    | exit i F1 t1 =>
      refine ⟨N + 1, .exit i F1 t1, fun n hn => ?_, k2⟩
      obtain ⟨m, rfl, hm⟩ := succ_of hn
      rw [ev_loop, k1 m hm]
    | ret F1 t1 =>
      refine ⟨N + 1, .ret F1 t1, fun n hn => ?_, k2⟩
      obtain ⟨m, rfl, hm⟩ := succ_of hn
      rw [ev_loop, k1 m hm]

end

end

end M2
end
section
namespace M2
open Go Go.ChangeShapes Go.WideShapes Go.ChangeAt Go.RowKit

/-- what a run of ours says of the program's call, where all that stands is left alone -/
theorem link {P : Program} {M : Maps} {im : FuncId → Option Nat} {tbl : Nat → Option AFunc} (hmix : P.follows .mixedOrders = true) (him : ∀ f x, im f = some x → M.fm x = f) (ht : Table P M im tbl)
    {n id : Nat} {avs : List AV} {args : Array Value} {t t' : T} {g : G} (hoth : ∀ b, b < g.w.heap.size → g.μ b = .oth) (hS : SR M g t) (hsz : args.size = avs.length)
    (hv : ∀ i (h : i < avs.length), VR M g avs[i] (args.getD i undef)) (hrun : callA tbl (ev tbl n) id avs t = .ok (.bool true) t') :
    Calls P (M.fm id) args g.w fun e w' => e = .returned (.bool true) ∧ Below g.w.heap.size g.w w' := by
  obtain ⟨-, h⟩ := call_sound hmix him ht n id avs t _ t' hrun
  refine (h g args hS hsz hv).mono ?_
  rintro e w' ⟨v, g', rfl, rfl, hle, hvr, -⟩
  cases hvr
  exact ⟨rfl, hle.os, hle.tape, hle.output, hle.size, fun k hk => (hle.oth k hk (by rw [hoth k hk]; rfl)).2⟩

/-- a law of one argument: what the row asks of its call -/
theorem law_calls {P : Program} {H : Type} {enc : TypeId × Value → H} {f : Func} {s : ChangeSpec} {fid : FuncId} {t bt : TypeId} (hparams : f.params.toList = [t]) (hres : f.resultTypes = #[bt])
    (hbt : P.underlying bt = some .bool) (hvars : s.vars = []) (hfn : ∀ d, s.fn H [d] = { results := [.lit (.bool true)], args := [d] }) (hl : laidOutB P = true) (hr : P.readableRec t = true)
    (hrow : t < P.types.size) {W : World} {args : Array Value} {ds gs : List (DataW H)} {before : List MemPlace} (hW : DataW.Whole enc P f.params.toList s.vars false W args.toList ds gs before)
    (hcalls : ∀ v d p, args = #[v] → ds = [d] → gs = [] → DataW.Trod enc P W 0 (fun _ => true) true t v d p → Calls P fid args W fun e W' => e = .returned (.bool true) ∧ Below W.heap.size W W') :
    Calls P fid args W fun e W' => ∃ v, e = .returned v ∧ s.post enc P f false true false false W args v W' := by
  have hW' := hW
  obtain ⟨p, q, hA, hV, rfl, hfz, hnd⟩ := hW
  rw [hparams] at hA
  obtain ⟨v0, vs0, d0, ds0, p0, q0, hargs, rfl, rfl, h0, r0⟩ := trodAll_cons hA
  obtain ⟨rfl, rfl, rfl⟩ := trodAll_nil r0
  obtain rfl : args = #[v0] := by cases args; simp_all
  rw [hvars] at hV
  obtain ⟨rfl, rfl⟩ := trodVars_none hV
  refine (hcalls v0 d0 p0 rfl rfl rfl h0).mono ?_
  rintro e W' ⟨rfl, hb⟩
  refine ⟨_, rfl, [d0], [], _, [], p0 ++ [], [], hW', ?_, ?_, ?_, hb.frame _, fun h => by cases h⟩
  · rw [List.append_nil, hfn, hres]
    exact trodAll_mk1 (shut_bool hbt _)
  · rw [List.append_nil [d0], hfn, hparams]
    exact ⟨p0, [], Below.trod hl hr hrow h0 hb (fun x hx => by simpa using hW'.lt x (by simpa using hx)), rfl, rfl⟩
  · rw [List.append_nil [d0], hfn, hvars]
    rfl

end M2
end
section
namespace M2
open Go

/-! #### what a reading of an argument is, ascs a value of ours -/

/-- fields side by side from a place on; the place behind them -/
def tiles (P : Program) : List Field → Nat → Option Nat
  | [], off => some off
  | f :: fs, off => if f.offset = off then tiles P fs (off + P.cellsOf f.type) else none

/-- types that are read so -/
def argT (P : Program) : Nat → TypeId → Bool
  | 0, _ => false
  | n + 1, t =>
    match P.underlying t with
    | some .bool => true
    | some (.int _) => true
    | some .string => true
    | some (.slice e) => Nat.ble 1 (P.cellsOf e) && argT P n e
    | some (.struct fs) => (tiles P fs.toList 0 == some (P.cellsOf t)) && fs.toList.all (fun f => argT P n f.type)
    | some (.array k e) => (k * P.cellsOf e == P.cellsOf t) && argT P n e
    | _ => false

def isAg (P : Program) (t : TypeId) : Bool :=
  match P.underlying t with
  | some (.struct _) => true
  | some (.array ..) => true
  | _ => false

/-- an element out of its cells -/
def elemA (ag : Bool) (cs : List AV) : AV := if ag then .agg cs else cs.headD .und

def DA {H : Type} (P : Program) : Nat → TypeId → DataW H → List AV → Prop
  | 0, _, _, _ => False
  | n + 1, t, d, ascs =>
    match P.underlying t with
    | some .bool => ∃ b, d = .lit (.bool b) ∧ ascs = [.bool b]
    | some (.int k) => ∃ v, d = .lit (.int k v) ∧ (Lit.int k v).wf = true ∧ ascs = [.int k v]
    | some .string => ∃ s, d = .lit (.string s) ∧ s.length ≤ maxLen ∧ ascs = [.str s]
    | some (.slice e) => (d = .nil ∧ ascs = [.nils]) ∨
        ∃ elems spare es, d = .slice elems spare ∧ es.length = elems.length ∧ elems.length + spare.length ≤ maxLen ∧
          (∀ i (h : i < elems.length) (h' : i < es.length), ∃ cs, cs.length = P.cellsOf e ∧ DA P n e elems[i] cs ∧ es[i] = elemA (isAg P e) cs) ∧
          ((elems.length + spare.length = 0 ∧ ascs = [.sl0]) ∨ ∃ id pos, ascs = [.sl id (P.cellsOf e) pos (elems.length + spare.length) false 0 es])
    | some (.struct fs) => ∃ ps, d = .agg ps ∧ ps.length = fs.size ∧ ascs.length = P.cellsOf t ∧
        ∀ i (h : i < fs.size) (h' : i < ps.length), DA P n fs[i].type ps[i] ((ascs.drop fs[i].offset).take (P.cellsOf fs[i].type))
    | some (.array _ _) => (∃ ps, d = .agg ps) ∧ ascs.length = P.cellsOf t
    | _ => False

/-- a world of which nothing may change -/
def argG (W : World) (n K : Nat) : G := { n := n, ok := fun i => i < n, ρ := fun i => ⟨i / K, i % K, 0⟩, ν := fun _ => 0, μ := fun _ => .oth, w := W }

theorem argG_sr (M : Maps) (W : World) (n K : Nat) (hk : ∀ b o v, M.kb b o = some v → W.cell? ⟨b, o, none⟩ = some v ∧ csize W b ≤ M.tm b) : SR M (argG W n K) ⟨n, [], []⟩ :=
  { n := rfl, wf := ⟨by simp, fun p hp => by simp at hp, by simp, fun p hp => by simp at hp⟩, okn := fun _ h => h,
    var := fun x o hx => by simp [look2_nil] at hx, inj := fun x y o o' hx => by simp [look2_nil] at hx,
    ids := fun i en e hx => by simp [look2_nil] at hx, idinj := fun i j a b hx => by simp [look2_nil] at hx,
    kept := fun b o v hb => ⟨World.block_lt_of_cell? _ _ (hk b o v hb).1, rfl, hk b o v hb⟩ }

theorem size_bound (W : World) : ∃ K, 0 < K ∧ ∀ (b : Nat) (c : Array Value) (ty : TypeId) (fz : Nat × Nat), W.heap[b]? = some (.cells c ty fz) → c.size < K := by
  have key : ∀ l : List Obj, ∃ K, 0 < K ∧ ∀ (c : Array Value) (ty : TypeId) (fz : Nat × Nat), Obj.cells c ty fz ∈ l → c.size < K := by
    intro l
    induction l with
    | nil => exact ⟨1, by omega, fun c ty fz h => by cases h⟩
    | cons o l ih =>
      obtain ⟨K, hK, h⟩ := ih
      cases o with
      | cells c0 ty0 fz0 =>
        refine ⟨K + c0.size + 1, by omega, fun c ty fz hm => ?_⟩
        cases hm with
        | head => omega
        | tail _ hm => have := h c ty fz hm; omega
      | _ =>
        refine ⟨K, hK, fun c ty fz hm => ?_⟩
        cases hm with
        | tail _ hm => exact h c ty fz hm
  obtain ⟨K, hK, h⟩ := key W.heap.toList
  refine ⟨K, hK, fun b c ty fz hb => h c ty fz ?_⟩
  exact Array.mem_toList_iff.mpr (Array.mem_of_getElem? hb)

theorem choose_list {α : Type} {p : Nat → α → Prop} : ∀ n, (∀ i, i < n → ∃ x, p i x) → ∃ l : List α, l.length = n ∧ ∀ i (h : i < l.length), p i l[i] := by
  intro n
  induction n with
  | zero => intro _; exact ⟨[], rfl, fun i h => absurd h (by simp)⟩
  | succ n ih =>
    intro h
    obtain ⟨l, h1, h2⟩ := ih (fun i hi => h i (by omega))
    obtain ⟨x, hx⟩ := h n (by omega)
    refine ⟨l ++ [x], by simp [h1], fun i hi => ?_⟩
    by_cases e : i < l.length
    · rw [List.getElem_append_left e]; exact h2 i e
    · have : i = n := by simp at hi; omega
      subst this
      rw [List.getElem_append_right (by omega)]
      simpa [h1] using hx

theorem cells_ok {W : World} {a : Addr} {n : Nat} {l : List Value} (h : W.cells? 0 a n = some l) : l.length = n ∧ ∀ j (hj : j < l.length), W.cell? (a.add j) = some l[j] := by
  unfold World.cells? at h
  rw [if_pos (Nat.zero_le _)] at h
  obtain ⟨h1, h2⟩ := mapM_get _ _ _ h
  have h1' : l.length = n := by simpa using h1
  refine ⟨h1', fun j hj => ?_⟩
  have := h2 j (by simpa [h1'] using hj) hj
  simpa using this

section
variable {H : Type} {enc : TypeId × Value → H} {P : Program} {M : Maps} {W : World} {K : Nat}

theorem one_cell {g : G} {v : Value} {a : AV} (h : VR M g a v) : ∀ i (hi : i < [a].length), VR M g [a][i] ([v].getD i undef) := by
  intro i hi
  have : i = 0 := by simpa using hi
  subst this
  simpa using h

theorem headD_get (l : List AV) (h : 0 < l.length) : l.headD .und = l[0] := by
  cases l with
  | nil => simp at h
  | cons y ys => simp

theorem getD_part (cs : List Value) (off size j : Nat) (h : j < size) : ((cs.drop off).take size).getD j undef = cs.getD (off + j) undef := by
  simp [List.getD_eq_getElem?_getD, List.getElem?_drop, h]

theorem tile_join (g : G) (cs : List Value) : ∀ (l : List Field) (off tot : Nat), tiles P l off = some tot → ∀ ys : List (List AV), ys.length = l.length →
    (∀ i (h : i < l.length) (h' : i < ys.length), ys[i].length = P.cellsOf l[i].type ∧ ∀ j (hj : j < ys[i].length), VR M g ys[i][j] (((cs.drop l[i].offset).take (P.cellsOf l[i].type)).getD j undef)) →
    ys.flatten.length + off = tot ∧ (∀ i (h : i < l.length) (h' : i < ys.length), off ≤ l[i].offset ∧ (ys.flatten.drop (l[i].offset - off)).take (P.cellsOf l[i].type) = ys[i]) ∧
      ∀ j (hj : j < ys.flatten.length), VR M g ys.flatten[j] (cs.getD (off + j) undef) := by
  intro l
  induction l with
  | nil =>
    intro off tot ht ys hl _
    have : ys = [] := by simpa using hl
    subst this
    simp only [tiles, Option.some.injEq] at ht
    exact ⟨by simp [ht], fun i h => absurd h (by simp), fun j hj => absurd hj (by simp)⟩
  | cons f l ih =>
    intro off tot ht ys hl hy
    cases ys with
    | nil => simp at hl
    | cons y ys =>
      unfold tiles at ht
      split at ht
      · rename_i hoff
        have h0 := hy 0 (by simp) (by simp)
        simp only [List.getElem_cons_zero] at h0
        obtain ⟨y1, y2⟩ := h0
        obtain ⟨r1, r2, r3⟩ := ih _ _ ht ys (by simpa using hl) (fun i h h' => hy (i + 1) (Nat.succ_lt_succ h) (Nat.succ_lt_succ h'))
        refine ⟨by rw [List.flatten_cons, List.length_append]; omega, fun i h h' => ?_, fun j hj => ?_⟩
        · cases i with
          | zero =>
            simp only [List.getElem_cons_zero, List.flatten_cons]
            refine ⟨by omega, ?_⟩
            rw [hoff, Nat.sub_self, List.drop_zero, ← y1]
            simp
          | succ i =>
            obtain ⟨q1, q2⟩ := r2 i (by simpa using h) (by simpa using h')
            simp only [List.getElem_cons_succ, List.flatten_cons]
            refine ⟨by omega, ?_⟩
            rw [← q2, List.drop_append, List.drop_of_length_le (by omega), List.nil_append]
            congr 2
            omega
        · by_cases e : j < y.length
          · have := y2 j e
            rw [getD_part _ _ _ _ (by omega), hoff] at this
            simp only [List.flatten_cons]
            rw [List.getElem_append_left e]
            exact this
          · simp only [List.flatten_cons] at hj ⊢
            rw [List.getElem_append_right (by omega)]
            have := r3 (j - y.length) (by simp at hj; simp; omega)
            have e2 : off + P.cellsOf f.type + (j - y.length) = off + j := by omega
            rw [e2] at this
            exact this
      · cases ht

theorem trod_vr (hK0 : 0 < K) (hK : ∀ (b : Nat) (c : Array Value) (ty : TypeId) (fz : Nat × Nat), W.heap[b]? = some (.cells c ty fz) → c.size < K) :
    ∀ (fuel tf : Nat) (t : TypeId) (cs : List Value) (x : DataW H × List MemPlace), argT P tf t = true → DataW.trod enc P W 0 (fun _ => true) true fuel t cs = some x →
      ∃ ascs, DA P tf t x.1 ascs ∧ ascs.length = cs.length ∧ (∀ i (h : i < ascs.length), VR M (argG W (W.heap.size * K) K) ascs[i] (cs.getD i undef)) ∧
        (isAg P t = true ∨ (isAg P t = false ∧ ∃ v, cs = [v] ∧ v.cells = #[v])) := by
  intro fuel
  induction fuel with
  | zero => intro tf t cs x _ h; simp [DataW.trod] at h
  | succ fuel ih =>
    intro tf t cs x ha h
    cases tf with
    | zero => simp [argT] at ha
    | succ tf =>
      unfold argT at ha
      split at ha
      · rename_i hu
        obtain ⟨b, rfl, rfl⟩ := DataW.trod_bool hu h
        exact ⟨[.bool b], by simp [DA, hu], rfl, one_cell (.bool b), .inr ⟨by simp [isAg, hu], _, rfl, rfl⟩⟩
      · rename_i k hu
        obtain ⟨n, rfl, rfl, hw⟩ := DataW.trod_int hu h
        exact ⟨[.int k n], by simp [DA, hu, hw], rfl, one_cell (.int k n), .inr ⟨by simp [isAg, hu], _, rfl, rfl⟩⟩
      · rename_i hu
        obtain ⟨s, rfl, rfl, hw⟩ := DataW.trod_string hu h
        refine ⟨[.str s.data.toList], ?_, rfl, one_cell ?_, .inr ⟨by simp [isAg, hu], _, rfl, rfl⟩⟩
        · simp only [DA, hu]
          exact ⟨_, rfl, by simpa using hw, rfl⟩
        · have : VR M (argG W (W.heap.size * K) K) (.str s.data.toList) (.string ⟨s.data.toList.toArray⟩) := .str _
          simpa using this
      · rename_i e hu
        simp only [Bool.and_eq_true] at ha
        obtain ⟨he1, hae⟩ := ha
        have he1 := Nat.le_of_ble_eq_true he1
        have hag : isAg P t = false := by simp [isAg, hu]
        rcases DataW.trod_slice hu h with ⟨rfl, rfl⟩ | ⟨a, len, cap, elems, rest, n, hn, rfl, rfl, -, hlc, hcm, hel, hE, hR, -⟩
        · exact ⟨[.nils], by simp [DA, hu], rfl, one_cell .nils, .inr ⟨hag, _, rfl, rfl⟩⟩
        · have hn : fuel = n := by omega
          subst hn
          obtain ⟨hrl, hR⟩ := hR rfl
          have hex : ∀ i, i < len → ∃ q : List AV × List Value, q.1.length = P.cellsOf e ∧ q.2.length = P.cellsOf e ∧ (∀ j (hj : j < q.2.length), W.cell? ((a.add (i * P.cellsOf e)).add j) = some q.2[j]) ∧
              (∀ h : i < elems.length, DA P tf e elems[i].1 q.1) ∧ (∀ j (hj : j < q.1.length), VR M (argG W (W.heap.size * K) K) q.1[j] (q.2.getD j undef)) ∧
              (isAg P e = true ∨ (isAg P e = false ∧ ∃ v, q.2 = [v] ∧ v.cells = #[v])) := by
            intro i hi
            have := hE i hi
            rw [List.getElem?_eq_getElem (by omega), Option.bind_eq_some_iff] at this
            obtain ⟨l, hl, ht⟩ := this
            obtain ⟨l1, l2⟩ := cells_ok hl
            obtain ⟨ascs, d1, d2, d3, d4⟩ := ih tf e l _ hae ht
            exact ⟨(ascs, l), by show ascs.length = _; omega, l1, l2, fun _ => d1, d3, d4⟩
          obtain ⟨qs, hql, hq⟩ := choose_list len hex
          by_cases hc0 : cap = 0
          · have hl0 : len = 0 := by omega
            have hel0 : elems = [] := by apply List.eq_nil_of_length_eq_zero; omega
            have hrl0 : rest = [] := by apply List.eq_nil_of_length_eq_zero; omega
            subst hel0 hrl0
            obtain ⟨b, off, sp⟩ := a
            rw [hc0, hl0]
            refine ⟨[.sl0], ?_, rfl, one_cell (.sl0 b off sp), .inr ⟨hag, _, rfl, rfl⟩⟩
            simp only [DA, hu]
            exact .inr ⟨[], [], [], rfl, rfl, by simp, fun i h => absurd h (by simp), .inl (by simp)⟩
          · -- the first cell is there
            have hfirst : ∃ v, W.cell? a = some v := by
              by_cases hl0 : len = 0
              · have := hR 0 (by omega)
                rw [List.getElem?_eq_getElem (by omega), Option.bind_eq_some_iff] at this
                obtain ⟨l, hl, -⟩ := this
                obtain ⟨l1, l2⟩ := cells_ok hl
                have := l2 0 (by omega)
                rw [hl0] at this
                simp [Addr.add] at this
                exact ⟨_, this⟩
              · have hq0 := hq 0 (by omega)
                have := hq0.2.2.1 0 (by have := hq0.2.1; omega)
                simp [Addr.add] at this
                exact ⟨_, this⟩
            obtain ⟨v0, hv0⟩ := hfirst
            obtain ⟨b, off, sp⟩ := a
            unfold World.cell? at hv0
            simp only at hv0
            split at hv0
            · rename_i c cty fz hb
              split at hv0
              · cases hv0
              · rename_i hsp
                have hsp : sp = none := by cases sp with
                  | none => rfl
                  | some _ => exact absurd rfl hsp
                subst hsp
                have hoff : off < c.size := (Array.getElem?_eq_some_iff.mp hv0).1
                have hoK : off < K := Nat.lt_trans hoff (hK b c cty fz hb)
                have hbb : b < W.heap.size := (Array.getElem?_eq_some_iff.mp hb).1
                have hid : b * K + off < W.heap.size * K := by
                  have : (b + 1) * K ≤ W.heap.size * K := Nat.mul_le_mul_right K hbb
                  rw [Nat.succ_mul] at this
                  omega
                have hρ : (argG W (W.heap.size * K) K).ρ (b * K + off) = ⟨b, off, 0⟩ := by
                  simp only [argG]
                  rw [Nat.mul_comm b K, Nat.mul_add_div hK0, Nat.mul_add_mod, Nat.div_eq_of_lt hoK, Nat.mod_eq_of_lt hoK, Nat.add_zero]
                refine ⟨[.sl (b * K + off) (P.cellsOf e) 0 cap false 0 (qs.map fun q => elemA (isAg P e) q.1)], ?_, rfl, one_cell ?_, .inr ⟨hag, _, rfl, rfl⟩⟩
                · simp only [DA, hu]
                  refine .inr ⟨elems.map (·.1), rest.map (·.1), qs.map fun q => elemA (isAg P e) q.1, rfl, by simp [hql, hel], by simp; omega, fun i h h' => ?_, .inr ⟨b * K + off, 0, by simp only [List.length_map]; rw [show elems.length + rest.length = cap by omega]⟩⟩
                  have hi : i < qs.length := by simpa using h'
                  obtain ⟨q1, q2, q3, q4, -⟩ := hq i hi
                  exact ⟨qs[i].1, q1, by simpa using q4 (by simpa using h), by simp⟩
                · have hvr := VR.sl (M := M) (g := argG W (W.heap.size * K) K) (b * K + off) (P.cellsOf e) 0 cap false 0 (qs.map fun q => elemA (isAg P e) q.1) b off cap
                    (fun i => if isAg P e then .agg (qs.getD i ([], [])).2.toArray else (qs.getD i ([], [])).2.headD undef) hid (by simp) (by rw [hρ]) (by rw [hρ]; simp) (by simp; omega) ?_ ?_ ?_ ⟨hbb, trivial⟩
                  · simpa [hql] using hvr
                  · intro i hi
                    have hi' : i < qs.length := by simpa using hi
                    obtain ⟨q1, q2, q3, q4, q5, q6⟩ := hq i hi'
                    have eq : qs.getD i ([], []) = qs[i] := by simp [List.getD, hi']
                    simp only [List.getElem_map, eq]
                    rcases q6 with q6 | ⟨q6, v, q7, q8⟩
                    · simp only [elemA, q6, if_true]
                      refine .agg _ _ (by simp; omega) (fun j hj => ?_)
                      have := q5 j hj
                      simpa [Array.getD_eq_getD_getElem?, List.getD_eq_getElem?_getD] using this
                    · simp only [elemA, q6, Bool.false_eq_true, if_false, q7, List.headD_cons]
                      have hl1 : P.cellsOf e = 1 := by rw [← q2, q7]; rfl
                      have := q5 0 (by omega)
                      rw [q7] at this
                      have hh : qs[i].1.headD .und = qs[i].1[0]'(by omega) := headD_get _ (by omega)
                      rw [hh]
                      simpa using this
                  · intro i hi
                    have hi' : i < qs.length := by simpa using hi
                    obtain ⟨q1, q2, q3, q4, q5, q6⟩ := hq i hi'
                    have eq : qs.getD i ([], []) = qs[i] := by simp [List.getD, hi']
                    simp only [eq]
                    rcases q6 with q6 | ⟨q6, v, q7, q8⟩
                    · simp only [q6, if_true]
                      simp [Value.cells, q2]
                    · simp only [q6, Bool.false_eq_true, if_false, q7, List.headD_cons, q8]
                      rw [← q2, q7]
                      rfl
                  · intro i j hi hj
                    have hi' : i < qs.length := by simpa using hi
                    obtain ⟨q1, q2, q3, q4, q5, q6⟩ := hq i hi'
                    have eq : qs.getD i ([], []) = qs[i] := by simp [List.getD, hi']
                    have hcell := q3 j (by omega)
                    rw [addr_add, addr_add] at hcell
                    simp only [eq]
                    show W.cell? _ = _
                    rw [hcell]
                    rcases q6 with q6 | ⟨q6, v, q7, q8⟩
                    · simp only [q6, if_true]
                      simp [Value.cells, show j < qs[i].2.length by omega]
                    · have hl1 : P.cellsOf e = 1 := by rw [← q2, q7]; rfl
                      have hj0 : j = 0 := by omega
                      subst hj0
                      simp only [q6, Bool.false_eq_true, if_false, q7, List.headD_cons, q8]
                      simp
            · cases hv0
      · rename_i fs hu
        simp only [Bool.and_eq_true, beq_iff_eq, List.all_eq_true] at ha
        obtain ⟨ht, hfa⟩ := ha
        obtain ⟨xs, n, hn, rfl, hlen, hxl, hx⟩ := DataW.trod_struct hu h
        have hn : fuel = n := by omega
        subst hn
        have hex : ∀ i, i < fs.size → ∃ q : List AV, ∀ (h : i < fs.size) (h' : i < xs.length), DA P tf fs[i].type xs[i].1 q ∧ q.length = ((cs.drop fs[i].offset).take (P.cellsOf fs[i].type)).length ∧
            ∀ j (hj : j < q.length), VR M (argG W (W.heap.size * K) K) q[j] (((cs.drop fs[i].offset).take (P.cellsOf fs[i].type)).getD j undef) := by
          intro i hi
          have := hx i fs[i] (by simp [hi])
          rw [List.getElem?_eq_getElem (by omega)] at this
          obtain ⟨ascs, d1, d2, d3, -⟩ := ih tf _ _ _ (hfa fs[i] (by simp)) this
          exact ⟨ascs, fun _ _ => ⟨d1, d2, d3⟩⟩
        obtain ⟨qs, hql, hq⟩ := choose_list fs.size hex
        have hcov : ∀ (l : List Field) (off tot : Nat), tiles P l off = some tot → off ≤ tot ∧ ∀ f, f ∈ l → f.offset + P.cellsOf f.type ≤ tot := by
          intro l
          induction l with
          | nil => intro off tot h; simp only [tiles, Option.some.injEq] at h; exact ⟨by omega, fun f h => by cases h⟩
          | cons f l ihl =>
            intro off tot h
            unfold tiles at h
            split at h
            · obtain ⟨a1, a2⟩ := ihl _ _ h
              refine ⟨by omega, fun f' hf' => ?_⟩
              cases hf' with
              | head => omega
              | tail _ hf' => exact a2 f' hf'
            · cases h
        obtain ⟨-, hcv⟩ := hcov _ _ _ ht
        obtain ⟨t1, t2, t3⟩ := tile_join (argG W (W.heap.size * K) K) cs fs.toList 0 _ ht qs (by simp [hql]) (fun i h h' => by
          have hi : i < fs.size := by simpa using h
          obtain ⟨-, d2, d3⟩ := hq i h' hi (by omega)
          have hle := hcv fs[i] (by simp)
          simp only [Array.getElem_toList]
          refine ⟨?_, d3⟩
          rw [d2, List.length_take, List.length_drop]
          omega)
        refine ⟨qs.flatten, ?_, by omega, fun j hj => by simpa using t3 j hj, .inl (by simp [isAg, hu])⟩
        simp only [DA, hu]
        refine ⟨xs.map (·.1), rfl, by simp [hxl], by omega, fun i h h' => ?_⟩
        obtain ⟨-, e2⟩ := t2 i (by simpa using h) (by omega)
        simp only [Array.getElem_toList, Nat.sub_zero] at e2
        rw [e2]
        simpa using (hq i (by omega) h (by omega)).1
      · rename_i cnt e hu
        simp only [Bool.and_eq_true, beq_iff_eq] at ha
        obtain ⟨ht, hae⟩ := ha
        obtain ⟨xs, n, hn, rfl, hlen, hxl, hx⟩ := DataW.trod_array hu h
        have hn : fuel = n := by omega
        subst hn
        have hex : ∀ i, i < cnt → ∃ q : List AV, q.length = ((cs.drop (i * P.cellsOf e)).take (P.cellsOf e)).length ∧
            ∀ j (hj : j < q.length), VR M (argG W (W.heap.size * K) K) q[j] (((cs.drop (i * P.cellsOf e)).take (P.cellsOf e)).getD j undef) := by
          intro i hi
          have := hx i hi
          rw [List.getElem?_eq_getElem (by omega)] at this
          obtain ⟨ascs, -, d2, d3, -⟩ := ih tf e _ _ hae this
          exact ⟨ascs, d2, d3⟩
        obtain ⟨qs, hql, hq⟩ := choose_list cnt hex
        have hsz : cs.length = cnt * P.cellsOf e := by omega
        refine ⟨(List.range cs.length).map fun j => ((qs.getD (j / P.cellsOf e) []).getD (j % P.cellsOf e) .und), ?_, by simp, fun j hj => ?_, .inl (by simp [isAg, hu])⟩
        · simp only [DA, hu]
          exact ⟨⟨_, rfl⟩, by simp [hlen]⟩
        · have hj' : j < cs.length := by simpa using hj
          have hs : 0 < P.cellsOf e := by
            rcases Nat.eq_zero_or_pos (P.cellsOf e) with h0 | h0
            · rw [h0, Nat.mul_zero] at hsz; omega
            · exact h0
          have hi : j / P.cellsOf e < cnt := by
            rw [Nat.div_lt_iff_lt_mul hs]; omega
          have hm : j % P.cellsOf e < P.cellsOf e := Nat.mod_lt _ hs
          have hdm : j / P.cellsOf e * P.cellsOf e + j % P.cellsOf e = j := by rw [Nat.mul_comm]; exact Nat.div_add_mod j _
          obtain ⟨q1, q2⟩ := hq (j / P.cellsOf e) (by omega)
          have hle : (j / P.cellsOf e + 1) * P.cellsOf e ≤ cnt * P.cellsOf e := Nat.mul_le_mul_right _ hi
          rw [Nat.succ_mul] at hle
          have hl : (qs[j / P.cellsOf e]'(by omega)).length = P.cellsOf e := by
            rw [q1, List.length_take, List.length_drop]; omega
          have h3 := q2 (j % P.cellsOf e) (by omega)
          rw [getD_part _ _ _ _ hm, hdm] at h3
          simp only [List.getElem_map, List.getElem_range]
          have e1 : qs.getD (j / P.cellsOf e) [] = qs[j / P.cellsOf e]'(by omega) := by simp [List.getD, show j / P.cellsOf e < qs.length by omega]
          rw [e1]
          have e2 : (qs[j / P.cellsOf e]'(by omega)).getD (j % P.cellsOf e) .und = (qs[j / P.cellsOf e]'(by omega))[j % P.cellsOf e]'(by omega) := by simp [List.getD, show j % P.cellsOf e < (qs[j / P.cellsOf e]'(by omega)).length by omega]
          rw [e2]
          exact h3
      · cases ha

end

end M2
end
section
namespace M2
open Go

def p0n0 : Bits := .e
def p1n0 : Bits := .z p0n0
def p1n1 : Bits := .o p0n0
def p2n0 : Bits := .z p1n0
def p2n1 : Bits := .o p1n0
def p2n2 : Bits := .z p1n1
def p2n3 : Bits := .o p1n1
def p3n0 : Bits := .z p2n0
def p3n1 : Bits := .o p2n0
def p3n2 : Bits := .z p2n1
def p3n3 : Bits := .o p2n1
def p3n4 : Bits := .z p2n2
def p3n5 : Bits := .o p2n2
def p3n6 : Bits := .z p2n3
def p3n7 : Bits := .o p2n3
def p4n0 : Bits := .z p3n0
def p4n1 : Bits := .o p3n0
def p4n2 : Bits := .z p3n1
def p4n3 : Bits := .o p3n1
def p4n4 : Bits := .z p3n2
def p4n5 : Bits := .o p3n2
def p4n6 : Bits := .z p3n3
def p4n7 : Bits := .o p3n3
def p4n8 : Bits := .z p3n4
def p4n9 : Bits := .o p3n4
def p4n10 : Bits := .z p3n5
def p4n11 : Bits := .o p3n5
def p4n12 : Bits := .z p3n6
def p4n13 : Bits := .o p3n6
def p4n14 : Bits := .z p3n7
def p4n15 : Bits := .o p3n7
def p5n0 : Bits := .z p4n0
def p5n1 : Bits := .o p4n0
def p5n2 : Bits := .z p4n1
def p5n3 : Bits := .o p4n1
def p5n4 : Bits := .z p4n2
def p5n5 : Bits := .o p4n2
def p5n6 : Bits := .z p4n3
def p5n7 : Bits := .o p4n3
def p5n8 : Bits := .z p4n4
def p5n9 : Bits := .o p4n4
def p5n10 : Bits := .z p4n5
def p5n11 : Bits := .o p4n5
def p5n12 : Bits := .z p4n6
def p5n13 : Bits := .o p4n6
def p5n14 : Bits := .z p4n7
def p5n15 : Bits := .o p4n7
def p5n16 : Bits := .z p4n8
def p5n17 : Bits := .o p4n8
def p5n18 : Bits := .z p4n9
def p5n19 : Bits := .o p4n9
def p5n20 : Bits := .z p4n10
def p5n21 : Bits := .o p4n10
def p5n22 : Bits := .z p4n11
def p5n23 : Bits := .o p4n11
def p5n24 : Bits := .z p4n12
def p5n25 : Bits := .o p4n12
def p5n26 : Bits := .z p4n13
def p5n27 : Bits := .o p4n13
def p5n28 : Bits := .z p4n14
def p5n29 : Bits := .o p4n14
def p5n30 : Bits := .z p4n15
def p5n31 : Bits := .o p4n15
def p6n0 : Bits := .z p5n0
def p6n1 : Bits := .o p5n0
def p6n2 : Bits := .z p5n1
def p6n3 : Bits := .o p5n1
def p6n4 : Bits := .z p5n2
def p6n5 : Bits := .o p5n2
def p6n6 : Bits := .z p5n3
def p6n7 : Bits := .o p5n3
def p6n8 : Bits := .z p5n4
def p6n9 : Bits := .o p5n4
def p6n10 : Bits := .z p5n5
def p6n11 : Bits := .o p5n5
def p6n12 : Bits := .z p5n6
def p6n13 : Bits := .o p5n6
def p6n14 : Bits := .z p5n7
def p6n15 : Bits := .o p5n7
def p6n16 : Bits := .z p5n8
def p6n17 : Bits := .o p5n8
def p6n18 : Bits := .z p5n9
def p6n19 : Bits := .o p5n9
def p6n20 : Bits := .z p5n10
def p6n21 : Bits := .o p5n10
def p6n22 : Bits := .z p5n11
def p6n23 : Bits := .o p5n11
def p6n24 : Bits := .z p5n12
def p6n25 : Bits := .o p5n12
def p6n26 : Bits := .z p5n13
def p6n27 : Bits := .o p5n13
def p6n28 : Bits := .z p5n14
def p6n29 : Bits := .o p5n14
def p6n30 : Bits := .z p5n15
def p6n31 : Bits := .o p5n15
def p6n32 : Bits := .z p5n16
def p6n33 : Bits := .o p5n16
def p6n34 : Bits := .z p5n17
def p6n35 : Bits := .o p5n17
def p6n36 : Bits := .z p5n18
def p6n37 : Bits := .o p5n18
def p6n38 : Bits := .z p5n19
def p6n39 : Bits := .o p5n19
def p6n40 : Bits := .z p5n20
def p6n41 : Bits := .o p5n20
def p6n42 : Bits := .z p5n21
def p6n43 : Bits := .o p5n21
def p6n44 : Bits := .z p5n22
def p6n45 : Bits := .o p5n22
def p6n46 : Bits := .z p5n23
def p6n47 : Bits := .o p5n23
def p6n48 : Bits := .z p5n24
def p6n49 : Bits := .o p5n24
def p6n50 : Bits := .z p5n25
def p6n51 : Bits := .o p5n25
def p6n52 : Bits := .z p5n26
def p6n53 : Bits := .o p5n26
def p6n54 : Bits := .z p5n27
def p6n55 : Bits := .o p5n27
def p6n56 : Bits := .z p5n28
def p6n57 : Bits := .o p5n28
def p6n58 : Bits := .z p5n29
def p6n59 : Bits := .o p5n29
def p6n60 : Bits := .z p5n30
def p6n61 : Bits := .o p5n30
def p6n62 : Bits := .z p5n31
def p6n63 : Bits := .o p5n31
def p7n0 : Bits := .z p6n0
def p7n1 : Bits := .o p6n0
def p7n2 : Bits := .z p6n1
def p7n3 : Bits := .o p6n1
def p7n4 : Bits := .z p6n2
def p7n5 : Bits := .o p6n2
def p7n6 : Bits := .z p6n3
def p7n7 : Bits := .o p6n3
def p7n8 : Bits := .z p6n4
def p7n9 : Bits := .o p6n4
def p7n10 : Bits := .z p6n5
def p7n11 : Bits := .o p6n5
def p7n12 : Bits := .z p6n6
def p7n13 : Bits := .o p6n6
def p7n14 : Bits := .z p6n7
def p7n15 : Bits := .o p6n7
def p7n16 : Bits := .z p6n8
def p7n17 : Bits := .o p6n8
def p7n18 : Bits := .z p6n9
def p7n19 : Bits := .o p6n9
def p7n20 : Bits := .z p6n10
def p7n21 : Bits := .o p6n10
def p7n22 : Bits := .z p6n11
def p7n23 : Bits := .o p6n11
def p7n24 : Bits := .z p6n12
def p7n25 : Bits := .o p6n12
def p7n26 : Bits := .z p6n13
def p7n27 : Bits := .o p6n13
def p7n28 : Bits := .z p6n14
def p7n29 : Bits := .o p6n14
def p7n30 : Bits := .z p6n15
def p7n31 : Bits := .o p6n15
def p7n32 : Bits := .z p6n16
def p7n33 : Bits := .o p6n16
def p7n34 : Bits := .z p6n17
def p7n35 : Bits := .o p6n17
def p7n36 : Bits := .z p6n18
def p7n37 : Bits := .o p6n18
def p7n38 : Bits := .z p6n19
def p7n39 : Bits := .o p6n19
def p7n40 : Bits := .z p6n20
def p7n41 : Bits := .o p6n20
def p7n42 : Bits := .z p6n21
def p7n43 : Bits := .o p6n21
def p7n44 : Bits := .z p6n22
def p7n45 : Bits := .o p6n22
def p7n46 : Bits := .z p6n23
def p7n47 : Bits := .o p6n23
def p7n48 : Bits := .z p6n24
def p7n49 : Bits := .o p6n24
def p7n50 : Bits := .z p6n25
def p7n51 : Bits := .o p6n25
def p7n52 : Bits := .z p6n26
def p7n53 : Bits := .o p6n26
def p7n54 : Bits := .z p6n27
def p7n55 : Bits := .o p6n27
def p7n56 : Bits := .z p6n28
def p7n57 : Bits := .o p6n28
def p7n58 : Bits := .z p6n29
def p7n59 : Bits := .o p6n29
def p7n60 : Bits := .z p6n30
def p7n61 : Bits := .o p6n30
def p7n62 : Bits := .z p6n31
def p7n63 : Bits := .o p6n31
def p7n64 : Bits := .z p6n32
def p7n65 : Bits := .o p6n32
def p7n66 : Bits := .z p6n33
def p7n67 : Bits := .o p6n33
def p7n68 : Bits := .z p6n34
def p7n69 : Bits := .o p6n34
def p7n70 : Bits := .z p6n35
def p7n71 : Bits := .o p6n35
def p7n72 : Bits := .z p6n36
def p7n73 : Bits := .o p6n36
def p7n74 : Bits := .z p6n37
def p7n75 : Bits := .o p6n37
def p7n76 : Bits := .z p6n38
def p7n77 : Bits := .o p6n38
def p7n78 : Bits := .z p6n39
def p7n79 : Bits := .o p6n39
def p7n80 : Bits := .z p6n40
def p7n81 : Bits := .o p6n40
def p7n82 : Bits := .z p6n41
def p7n83 : Bits := .o p6n41
def p7n84 : Bits := .z p6n42
def p7n85 : Bits := .o p6n42
def p7n86 : Bits := .z p6n43
def p7n87 : Bits := .o p6n43
def p7n88 : Bits := .z p6n44
def p7n89 : Bits := .o p6n44
def p7n90 : Bits := .z p6n45
def p7n91 : Bits := .o p6n45
def p7n92 : Bits := .z p6n46
def p7n93 : Bits := .o p6n46
def p7n94 : Bits := .z p6n47
def p7n95 : Bits := .o p6n47
def p7n96 : Bits := .z p6n48
def p7n97 : Bits := .o p6n48
def p7n98 : Bits := .z p6n49
def p7n99 : Bits := .o p6n49
def p7n100 : Bits := .z p6n50
def p7n101 : Bits := .o p6n50
def p7n102 : Bits := .z p6n51
def p7n103 : Bits := .o p6n51
def p7n104 : Bits := .z p6n52
def p7n105 : Bits := .o p6n52
def p7n106 : Bits := .z p6n53
def p7n107 : Bits := .o p6n53
def p7n108 : Bits := .z p6n54
def p7n109 : Bits := .o p6n54
def p7n110 : Bits := .z p6n55
def p7n111 : Bits := .o p6n55
def p7n112 : Bits := .z p6n56
def p7n113 : Bits := .o p6n56
def p7n114 : Bits := .z p6n57
def p7n115 : Bits := .o p6n57
def p7n116 : Bits := .z p6n58
def p7n117 : Bits := .o p6n58
def p7n118 : Bits := .z p6n59
def p7n119 : Bits := .o p6n59
def p7n120 : Bits := .z p6n60
def p7n121 : Bits := .o p6n60
def p7n122 : Bits := .z p6n61
def p7n123 : Bits := .o p6n61
def p7n124 : Bits := .z p6n62
def p7n125 : Bits := .o p6n62
def p7n126 : Bits := .z p6n63
def p7n127 : Bits := .o p6n63
def p8n0 : Bits := .z p7n0
def p8n1 : Bits := .o p7n0
def p8n2 : Bits := .z p7n1
def p8n3 : Bits := .o p7n1
def p8n4 : Bits := .z p7n2
def p8n5 : Bits := .o p7n2
def p8n6 : Bits := .z p7n3
def p8n7 : Bits := .o p7n3
def p8n8 : Bits := .z p7n4
def p8n9 : Bits := .o p7n4
def p8n10 : Bits := .z p7n5
def p8n11 : Bits := .o p7n5
def p8n12 : Bits := .z p7n6
def p8n13 : Bits := .o p7n6
def p8n14 : Bits := .z p7n7
def p8n15 : Bits := .o p7n7
def p8n16 : Bits := .z p7n8
def p8n17 : Bits := .o p7n8
def p8n18 : Bits := .z p7n9
def p8n19 : Bits := .o p7n9
def p8n20 : Bits := .z p7n10
def p8n21 : Bits := .o p7n10
def p8n22 : Bits := .z p7n11
def p8n23 : Bits := .o p7n11
def p8n24 : Bits := .z p7n12
def p8n25 : Bits := .o p7n12
def p8n26 : Bits := .z p7n13
def p8n27 : Bits := .o p7n13
def p8n28 : Bits := .z p7n14
def p8n29 : Bits := .o p7n14
def p8n30 : Bits := .z p7n15
def p8n31 : Bits := .o p7n15
def p8n32 : Bits := .z p7n16
def p8n33 : Bits := .o p7n16
def p8n34 : Bits := .z p7n17
def p8n35 : Bits := .o p7n17
def p8n36 : Bits := .z p7n18
def p8n37 : Bits := .o p7n18
def p8n38 : Bits := .z p7n19
def p8n39 : Bits := .o p7n19
def p8n40 : Bits := .z p7n20
def p8n41 : Bits := .o p7n20
def p8n42 : Bits := .z p7n21
def p8n43 : Bits := .o p7n21
def p8n44 : Bits := .z p7n22
def p8n45 : Bits := .o p7n22
def p8n46 : Bits := .z p7n23
def p8n47 : Bits := .o p7n23
def p8n48 : Bits := .z p7n24
def p8n49 : Bits := .o p7n24
def p8n50 : Bits := .z p7n25
def p8n51 : Bits := .o p7n25
def p8n52 : Bits := .z p7n26
def p8n53 : Bits := .o p7n26
def p8n54 : Bits := .z p7n27
def p8n55 : Bits := .o p7n27
def p8n56 : Bits := .z p7n28
def p8n57 : Bits := .o p7n28
def p8n58 : Bits := .z p7n29
def p8n59 : Bits := .o p7n29
def p8n60 : Bits := .z p7n30
def p8n61 : Bits := .o p7n30
def p8n62 : Bits := .z p7n31
def p8n63 : Bits := .o p7n31
def p8n64 : Bits := .z p7n32
def p8n65 : Bits := .o p7n32
def p8n66 : Bits := .z p7n33
def p8n67 : Bits := .o p7n33
def p8n68 : Bits := .z p7n34
def p8n69 : Bits := .o p7n34
def p8n70 : Bits := .z p7n35
def p8n71 : Bits := .o p7n35
def p8n72 : Bits := .z p7n36
def p8n73 : Bits := .o p7n36
def p8n74 : Bits := .z p7n37
def p8n75 : Bits := .o p7n37
def p8n76 : Bits := .z p7n38
def p8n77 : Bits := .o p7n38
def p8n78 : Bits := .z p7n39
def p8n79 : Bits := .o p7n39
def p8n80 : Bits := .z p7n40
def p8n81 : Bits := .o p7n40
def p8n82 : Bits := .z p7n41
def p8n83 : Bits := .o p7n41
def p8n84 : Bits := .z p7n42
def p8n85 : Bits := .o p7n42
def p8n86 : Bits := .z p7n43
def p8n87 : Bits := .o p7n43
def p8n88 : Bits := .z p7n44
def p8n89 : Bits := .o p7n44
def p8n90 : Bits := .z p7n45
def p8n91 : Bits := .o p7n45
def p8n92 : Bits := .z p7n46
def p8n93 : Bits := .o p7n46
def p8n94 : Bits := .z p7n47
def p8n95 : Bits := .o p7n47
def p8n96 : Bits := .z p7n48
def p8n97 : Bits := .o p7n48
def p8n98 : Bits := .z p7n49
def p8n99 : Bits := .o p7n49
def p8n100 : Bits := .z p7n50
def p8n101 : Bits := .o p7n50
def p8n102 : Bits := .z p7n51
def p8n103 : Bits := .o p7n51
def p8n104 : Bits := .z p7n52
def p8n105 : Bits := .o p7n52
def p8n106 : Bits := .z p7n53
def p8n107 : Bits := .o p7n53
def p8n108 : Bits := .z p7n54
def p8n109 : Bits := .o p7n54
def p8n110 : Bits := .z p7n55
def p8n111 : Bits := .o p7n55
def p8n112 : Bits := .z p7n56
def p8n113 : Bits := .o p7n56
def p8n114 : Bits := .z p7n57
def p8n115 : Bits := .o p7n57
def p8n116 : Bits := .z p7n58
def p8n117 : Bits := .o p7n58
def p8n118 : Bits := .z p7n59
def p8n119 : Bits := .o p7n59
def p8n120 : Bits := .z p7n60
def p8n121 : Bits := .o p7n60
def p8n122 : Bits := .z p7n61
def p8n123 : Bits := .o p7n61
def p8n124 : Bits := .z p7n62
def p8n125 : Bits := .o p7n62
def p8n126 : Bits := .z p7n63
def p8n127 : Bits := .o p7n63
def p8n128 : Bits := .z p7n64
def p8n129 : Bits := .o p7n64
def p8n130 : Bits := .z p7n65
def p8n131 : Bits := .o p7n65
def p8n132 : Bits := .z p7n66
def p8n133 : Bits := .o p7n66
def p8n134 : Bits := .z p7n67
def p8n135 : Bits := .o p7n67
def p8n136 : Bits := .z p7n68
def p8n137 : Bits := .o p7n68
def p8n138 : Bits := .z p7n69
def p8n139 : Bits := .o p7n69
def p8n140 : Bits := .z p7n70
def p8n141 : Bits := .o p7n70
def p8n142 : Bits := .z p7n71
def p8n143 : Bits := .o p7n71
def p8n144 : Bits := .z p7n72
def p8n145 : Bits := .o p7n72
def p8n146 : Bits := .z p7n73
def p8n147 : Bits := .o p7n73
def p8n148 : Bits := .z p7n74
def p8n149 : Bits := .o p7n74
def p8n150 : Bits := .z p7n75
def p8n151 : Bits := .o p7n75
def p8n152 : Bits := .z p7n76
def p8n153 : Bits := .o p7n76
def p8n154 : Bits := .z p7n77
def p8n155 : Bits := .o p7n77
def p8n156 : Bits := .z p7n78
def p8n157 : Bits := .o p7n78
def p8n158 : Bits := .z p7n79
def p8n159 : Bits := .o p7n79
def p8n160 : Bits := .z p7n80
def p8n161 : Bits := .o p7n80
def p8n162 : Bits := .z p7n81
def p8n163 : Bits := .o p7n81
def p8n164 : Bits := .z p7n82
def p8n165 : Bits := .o p7n82
def p8n166 : Bits := .z p7n83
def p8n167 : Bits := .o p7n83
def p8n168 : Bits := .z p7n84
def p8n169 : Bits := .o p7n84
def p8n170 : Bits := .z p7n85
def p8n171 : Bits := .o p7n85
def p8n172 : Bits := .z p7n86
def p8n173 : Bits := .o p7n86
def p8n174 : Bits := .z p7n87
def p8n175 : Bits := .o p7n87
def p8n176 : Bits := .z p7n88
def p8n177 : Bits := .o p7n88
def p8n178 : Bits := .z p7n89
def p8n179 : Bits := .o p7n89
def p8n180 : Bits := .z p7n90
def p8n181 : Bits := .o p7n90
def p8n182 : Bits := .z p7n91
def p8n183 : Bits := .o p7n91
def p8n184 : Bits := .z p7n92
def p8n185 : Bits := .o p7n92
def p8n186 : Bits := .z p7n93
def p8n187 : Bits := .o p7n93
def p8n188 : Bits := .z p7n94
def p8n189 : Bits := .o p7n94
def p8n190 : Bits := .z p7n95
def p8n191 : Bits := .o p7n95
def p8n192 : Bits := .z p7n96
def p8n193 : Bits := .o p7n96
def p8n194 : Bits := .z p7n97
def p8n195 : Bits := .o p7n97
def p8n196 : Bits := .z p7n98
def p8n197 : Bits := .o p7n98
def p8n198 : Bits := .z p7n99
def p8n199 : Bits := .o p7n99
def p8n200 : Bits := .z p7n100
def p8n201 : Bits := .o p7n100
def p8n202 : Bits := .z p7n101
def p8n203 : Bits := .o p7n101
def p8n204 : Bits := .z p7n102
def p8n205 : Bits := .o p7n102
def p8n206 : Bits := .z p7n103
def p8n207 : Bits := .o p7n103
def p8n208 : Bits := .z p7n104
def p8n209 : Bits := .o p7n104
def p8n210 : Bits := .z p7n105
def p8n211 : Bits := .o p7n105
def p8n212 : Bits := .z p7n106
def p8n213 : Bits := .o p7n106
def p8n214 : Bits := .z p7n107
def p8n215 : Bits := .o p7n107
def p8n216 : Bits := .z p7n108
def p8n217 : Bits := .o p7n108
def p8n218 : Bits := .z p7n109
def p8n219 : Bits := .o p7n109
def p8n220 : Bits := .z p7n110
def p8n221 : Bits := .o p7n110
def p8n222 : Bits := .z p7n111
def p8n223 : Bits := .o p7n111
def p8n224 : Bits := .z p7n112
def p8n225 : Bits := .o p7n112
def p8n226 : Bits := .z p7n113
def p8n227 : Bits := .o p7n113
def p8n228 : Bits := .z p7n114
def p8n229 : Bits := .o p7n114
def p8n230 : Bits := .z p7n115
def p8n231 : Bits := .o p7n115
def p8n232 : Bits := .z p7n116
def p8n233 : Bits := .o p7n116
def p8n234 : Bits := .z p7n117
def p8n235 : Bits := .o p7n117
def p8n236 : Bits := .z p7n118
def p8n237 : Bits := .o p7n118
def p8n238 : Bits := .z p7n119
def p8n239 : Bits := .o p7n119
def p8n240 : Bits := .z p7n120
def p8n241 : Bits := .o p7n120
def p8n242 : Bits := .z p7n121
def p8n243 : Bits := .o p7n121
def p8n244 : Bits := .z p7n122
def p8n245 : Bits := .o p7n122
def p8n246 : Bits := .z p7n123
def p8n247 : Bits := .o p7n123
def p8n248 : Bits := .z p7n124
def p8n249 : Bits := .o p7n124
def p8n250 : Bits := .z p7n125
def p8n251 : Bits := .o p7n125
def p8n252 : Bits := .z p7n126
def p8n253 : Bits := .o p7n126
def p8n254 : Bits := .z p7n127
def p8n255 : Bits := .o p7n127
def p9n0 : Bits := .z p8n0
def p9n1 : Bits := .o p8n0
def p9n2 : Bits := .z p8n1
def p9n3 : Bits := .o p8n1
def p9n4 : Bits := .z p8n2
def p9n5 : Bits := .o p8n2
def p9n6 : Bits := .z p8n3
def p9n7 : Bits := .o p8n3
def p9n8 : Bits := .z p8n4
def p9n9 : Bits := .o p8n4
def p9n10 : Bits := .z p8n5
def p9n11 : Bits := .o p8n5
def p9n12 : Bits := .z p8n6
def p9n13 : Bits := .o p8n6
def p9n14 : Bits := .z p8n7
def p9n15 : Bits := .o p8n7
def p9n16 : Bits := .z p8n8
def p9n17 : Bits := .o p8n8
def p9n18 : Bits := .z p8n9
def p9n19 : Bits := .o p8n9
def p9n20 : Bits := .z p8n10
def p9n21 : Bits := .o p8n10
def p9n22 : Bits := .z p8n11
def p9n23 : Bits := .o p8n11
def p9n24 : Bits := .z p8n12
def p9n25 : Bits := .o p8n12
def p9n26 : Bits := .z p8n13
def p9n27 : Bits := .o p8n13
def p9n28 : Bits := .z p8n14
def p9n29 : Bits := .o p8n14
def p9n30 : Bits := .z p8n15
def p9n31 : Bits := .o p8n15
def p9n32 : Bits := .z p8n16
def p9n33 : Bits := .o p8n16
def p9n34 : Bits := .z p8n17
def p9n35 : Bits := .o p8n17
def p9n36 : Bits := .z p8n18
def p9n37 : Bits := .o p8n18
def p9n38 : Bits := .z p8n19
def p9n39 : Bits := .o p8n19
def p9n40 : Bits := .z p8n20
def p9n41 : Bits := .o p8n20
def p9n42 : Bits := .z p8n21
def p9n43 : Bits := .o p8n21
def p9n44 : Bits := .z p8n22
def p9n45 : Bits := .o p8n22
def p9n46 : Bits := .z p8n23
def p9n47 : Bits := .o p8n23
def p9n48 : Bits := .z p8n24
def p9n49 : Bits := .o p8n24
def p9n50 : Bits := .z p8n25
def p9n51 : Bits := .o p8n25
def p9n52 : Bits := .z p8n26
def p9n53 : Bits := .o p8n26
def p9n54 : Bits := .z p8n27
def p9n55 : Bits := .o p8n27
def p9n56 : Bits := .z p8n28
def p9n57 : Bits := .o p8n28
def p9n58 : Bits := .z p8n29
def p9n59 : Bits := .o p8n29
def p9n60 : Bits := .z p8n30
def p9n61 : Bits := .o p8n30
def p9n62 : Bits := .z p8n31
def p9n63 : Bits := .o p8n31
def p9n64 : Bits := .z p8n32
def p9n65 : Bits := .o p8n32
def p9n66 : Bits := .z p8n33
def p9n67 : Bits := .o p8n33
def p9n68 : Bits := .z p8n34
def p9n69 : Bits := .o p8n34
def p9n70 : Bits := .z p8n35
def p9n71 : Bits := .o p8n35
def p9n72 : Bits := .z p8n36
def p9n73 : Bits := .o p8n36
def p9n74 : Bits := .z p8n37
def p9n75 : Bits := .o p8n37
def p9n76 : Bits := .z p8n38
def p9n77 : Bits := .o p8n38
def p9n78 : Bits := .z p8n39
def p9n79 : Bits := .o p8n39
def p9n80 : Bits := .z p8n40
def p9n81 : Bits := .o p8n40
def p9n82 : Bits := .z p8n41
def p9n83 : Bits := .o p8n41
def p9n84 : Bits := .z p8n42
def p9n85 : Bits := .o p8n42
def p9n86 : Bits := .z p8n43
def p9n87 : Bits := .o p8n43
def p9n88 : Bits := .z p8n44
def p9n89 : Bits := .o p8n44
def p9n90 : Bits := .z p8n45
def p9n91 : Bits := .o p8n45
def p9n92 : Bits := .z p8n46
def p9n93 : Bits := .o p8n46
def p9n94 : Bits := .z p8n47
def p9n95 : Bits := .o p8n47
def p9n96 : Bits := .z p8n48
def p9n97 : Bits := .o p8n48
def p9n98 : Bits := .z p8n49
def p9n99 : Bits := .o p8n49
def p9n100 : Bits := .z p8n50
def p9n101 : Bits := .o p8n50
def p9n102 : Bits := .z p8n51
def p9n103 : Bits := .o p8n51
def p9n104 : Bits := .z p8n52
def p9n105 : Bits := .o p8n52
def p9n106 : Bits := .z p8n53
def p9n107 : Bits := .o p8n53
def p9n108 : Bits := .z p8n54
def p9n109 : Bits := .o p8n54
def p9n110 : Bits := .z p8n55
def p9n111 : Bits := .o p8n55
def p9n112 : Bits := .z p8n56
def p9n113 : Bits := .o p8n56
def p9n114 : Bits := .z p8n57
def p9n115 : Bits := .o p8n57
def p9n116 : Bits := .z p8n58
def p9n117 : Bits := .o p8n58
def p9n118 : Bits := .z p8n59
def p9n119 : Bits := .o p8n59
def p9n120 : Bits := .z p8n60
def p9n121 : Bits := .o p8n60
def p9n122 : Bits := .z p8n61
def p9n123 : Bits := .o p8n61
def p9n124 : Bits := .z p8n62
def p9n125 : Bits := .o p8n62
def p9n126 : Bits := .z p8n63
def p9n127 : Bits := .o p8n63
def p9n128 : Bits := .z p8n64
def p9n129 : Bits := .o p8n64
def p9n130 : Bits := .z p8n65
def p9n131 : Bits := .o p8n65
def p9n132 : Bits := .z p8n66
def p9n133 : Bits := .o p8n66
def p9n134 : Bits := .z p8n67
def p9n135 : Bits := .o p8n67
def p9n136 : Bits := .z p8n68
def p9n137 : Bits := .o p8n68
def p9n138 : Bits := .z p8n69
def p9n139 : Bits := .o p8n69
def p9n140 : Bits := .z p8n70
def p9n141 : Bits := .o p8n70
def p9n142 : Bits := .z p8n71
def p9n143 : Bits := .o p8n71
def p9n144 : Bits := .z p8n72
def p9n145 : Bits := .o p8n72
def p9n146 : Bits := .z p8n73
def p9n147 : Bits := .o p8n73
def p9n148 : Bits := .z p8n74
def p9n149 : Bits := .o p8n74
def p9n150 : Bits := .z p8n75
def p9n151 : Bits := .o p8n75
def p9n152 : Bits := .z p8n76
def p9n153 : Bits := .o p8n76
def p9n154 : Bits := .z p8n77
def p9n155 : Bits := .o p8n77
def p9n156 : Bits := .z p8n78
def p9n157 : Bits := .o p8n78
def p9n158 : Bits := .z p8n79
def p9n159 : Bits := .o p8n79
def p9n160 : Bits := .z p8n80
def p9n161 : Bits := .o p8n80
def p9n162 : Bits := .z p8n81
def p9n163 : Bits := .o p8n81
def p9n164 : Bits := .z p8n82
def p9n165 : Bits := .o p8n82
def p9n166 : Bits := .z p8n83
def p9n167 : Bits := .o p8n83
def p9n168 : Bits := .z p8n84
def p9n169 : Bits := .o p8n84
def p9n170 : Bits := .z p8n85
def p9n171 : Bits := .o p8n85
def p9n172 : Bits := .z p8n86
def p9n173 : Bits := .o p8n86
def p9n174 : Bits := .z p8n87
def p9n175 : Bits := .o p8n87
def p9n176 : Bits := .z p8n88
def p9n177 : Bits := .o p8n88
def p9n178 : Bits := .z p8n89
def p9n179 : Bits := .o p8n89
def p9n180 : Bits := .z p8n90
def p9n181 : Bits := .o p8n90
def p9n182 : Bits := .z p8n91
def p9n183 : Bits := .o p8n91
def p9n184 : Bits := .z p8n92
def p9n185 : Bits := .o p8n92
def p9n186 : Bits := .z p8n93
def p9n187 : Bits := .o p8n93
def p9n188 : Bits := .z p8n94
def p9n189 : Bits := .o p8n94
def p9n190 : Bits := .z p8n95
def p9n191 : Bits := .o p8n95
def p9n192 : Bits := .z p8n96
def p9n193 : Bits := .o p8n96
def p9n194 : Bits := .z p8n97
def p9n195 : Bits := .o p8n97
def p9n196 : Bits := .z p8n98
def p9n197 : Bits := .o p8n98
def p9n198 : Bits := .z p8n99
def p9n199 : Bits := .o p8n99
def p9n200 : Bits := .z p8n100
def p9n201 : Bits := .o p8n100
def p9n202 : Bits := .z p8n101
def p9n203 : Bits := .o p8n101
def p9n204 : Bits := .z p8n102
def p9n205 : Bits := .o p8n102
def p9n206 : Bits := .z p8n103
def p9n207 : Bits := .o p8n103
def p9n208 : Bits := .z p8n104
def p9n209 : Bits := .o p8n104
def p9n210 : Bits := .z p8n105
def p9n211 : Bits := .o p8n105
def p9n212 : Bits := .z p8n106
def p9n213 : Bits := .o p8n106
def p9n214 : Bits := .z p8n107
def p9n215 : Bits := .o p8n107
def p9n216 : Bits := .z p8n108
def p9n217 : Bits := .o p8n108
def p9n218 : Bits := .z p8n109
def p9n219 : Bits := .o p8n109
def p9n220 : Bits := .z p8n110
def p9n221 : Bits := .o p8n110
def p9n222 : Bits := .z p8n111
def p9n223 : Bits := .o p8n111
def p9n224 : Bits := .z p8n112
def p9n225 : Bits := .o p8n112
def p9n226 : Bits := .z p8n113
def p9n227 : Bits := .o p8n113
def p9n228 : Bits := .z p8n114
def p9n229 : Bits := .o p8n114
def p9n230 : Bits := .z p8n115
def p9n231 : Bits := .o p8n115
def p9n232 : Bits := .z p8n116
def p9n233 : Bits := .o p8n116
def p9n234 : Bits := .z p8n117
def p9n235 : Bits := .o p8n117
def p9n236 : Bits := .z p8n118
def p9n237 : Bits := .o p8n118
def p9n238 : Bits := .z p8n119
def p9n239 : Bits := .o p8n119
def p9n240 : Bits := .z p8n120
def p9n241 : Bits := .o p8n120
def p9n242 : Bits := .z p8n121
def p9n243 : Bits := .o p8n121
def p9n244 : Bits := .z p8n122
def p9n245 : Bits := .o p8n122
def p9n246 : Bits := .z p8n123
def p9n247 : Bits := .o p8n123
def p9n248 : Bits := .z p8n124
def p9n249 : Bits := .o p8n124
def p9n250 : Bits := .z p8n125
def p9n251 : Bits := .o p8n125
def p9n252 : Bits := .z p8n126
def p9n253 : Bits := .o p8n126
def p9n254 : Bits := .z p8n127
def p9n255 : Bits := .o p8n127
def p9n256 : Bits := .z p8n128
def p9n257 : Bits := .o p8n128
def p9n258 : Bits := .z p8n129
def p9n259 : Bits := .o p8n129
def p9n260 : Bits := .z p8n130
def p9n261 : Bits := .o p8n130
def p9n262 : Bits := .z p8n131
def p9n263 : Bits := .o p8n131
def p9n264 : Bits := .z p8n132
def p9n265 : Bits := .o p8n132
def p9n266 : Bits := .z p8n133
def p9n267 : Bits := .o p8n133
def p9n268 : Bits := .z p8n134
def p9n269 : Bits := .o p8n134
def p9n270 : Bits := .z p8n135
def p9n271 : Bits := .o p8n135
def p9n272 : Bits := .z p8n136
def p9n273 : Bits := .o p8n136
def p9n274 : Bits := .z p8n137
def p9n275 : Bits := .o p8n137
def p9n276 : Bits := .z p8n138
def p9n277 : Bits := .o p8n138
def p9n278 : Bits := .z p8n139
def p9n279 : Bits := .o p8n139
def p9n280 : Bits := .z p8n140
def p9n281 : Bits := .o p8n140
def p9n282 : Bits := .z p8n141
def p9n283 : Bits := .o p8n141
def p9n284 : Bits := .z p8n142
def p9n285 : Bits := .o p8n142
def p9n286 : Bits := .z p8n143
def p9n287 : Bits := .o p8n143
def p9n288 : Bits := .z p8n144
def p9n289 : Bits := .o p8n144
def p9n290 : Bits := .z p8n145
def p9n291 : Bits := .o p8n145
def p9n292 : Bits := .z p8n146
def p9n293 : Bits := .o p8n146
def p9n294 : Bits := .z p8n147
def p9n295 : Bits := .o p8n147
def p9n296 : Bits := .z p8n148
def p9n297 : Bits := .o p8n148
def p9n298 : Bits := .z p8n149
def p9n299 : Bits := .o p8n149
def p9n300 : Bits := .z p8n150
def p9n301 : Bits := .o p8n150
def p9n302 : Bits := .z p8n151
def p9n303 : Bits := .o p8n151
def p9n304 : Bits := .z p8n152
def p9n305 : Bits := .o p8n152
def p9n306 : Bits := .z p8n153
def p9n307 : Bits := .o p8n153
def p9n308 : Bits := .z p8n154
def p9n309 : Bits := .o p8n154
def p9n310 : Bits := .z p8n155
def p9n311 : Bits := .o p8n155
def p9n312 : Bits := .z p8n156
def p9n313 : Bits := .o p8n156
def p9n314 : Bits := .z p8n157
def p9n315 : Bits := .o p8n157
def p9n316 : Bits := .z p8n158
def p9n317 : Bits := .o p8n158
def p9n318 : Bits := .z p8n159
def p9n319 : Bits := .o p8n159
def p9n320 : Bits := .z p8n160
def p9n321 : Bits := .o p8n160
def p9n322 : Bits := .z p8n161
def p9n323 : Bits := .o p8n161
def p9n324 : Bits := .z p8n162
def p9n325 : Bits := .o p8n162
def p9n326 : Bits := .z p8n163
def p9n327 : Bits := .o p8n163
def p9n328 : Bits := .z p8n164
def p9n329 : Bits := .o p8n164
def p9n330 : Bits := .z p8n165
def p9n331 : Bits := .o p8n165
def p9n332 : Bits := .z p8n166
def p9n333 : Bits := .o p8n166
def p9n334 : Bits := .z p8n167
def p9n335 : Bits := .o p8n167
def p9n336 : Bits := .z p8n168
def p9n337 : Bits := .o p8n168
def p9n338 : Bits := .z p8n169
def p9n339 : Bits := .o p8n169
def p9n340 : Bits := .z p8n170
def p9n341 : Bits := .o p8n170
def p9n342 : Bits := .z p8n171
def p9n343 : Bits := .o p8n171
def p9n344 : Bits := .z p8n172
def p9n345 : Bits := .o p8n172
def p9n346 : Bits := .z p8n173
def p9n347 : Bits := .o p8n173
def p9n348 : Bits := .z p8n174
def p9n349 : Bits := .o p8n174
def p9n350 : Bits := .z p8n175
def p9n351 : Bits := .o p8n175
def p9n352 : Bits := .z p8n176
def p9n353 : Bits := .o p8n176
def p9n354 : Bits := .z p8n177
def p9n355 : Bits := .o p8n177
def p9n356 : Bits := .z p8n178
def p9n357 : Bits := .o p8n178
def p9n358 : Bits := .z p8n179
def p9n359 : Bits := .o p8n179
def p9n360 : Bits := .z p8n180
def p9n361 : Bits := .o p8n180
def p9n362 : Bits := .z p8n181
def p9n363 : Bits := .o p8n181
def p9n364 : Bits := .z p8n182
def p9n365 : Bits := .o p8n182
def p9n366 : Bits := .z p8n183
def p9n367 : Bits := .o p8n183
def p9n368 : Bits := .z p8n184
def p9n369 : Bits := .o p8n184
def p9n370 : Bits := .z p8n185
def p9n371 : Bits := .o p8n185
def p9n372 : Bits := .z p8n186
def p9n373 : Bits := .o p8n186
def p9n374 : Bits := .z p8n187
def p9n375 : Bits := .o p8n187
def p9n376 : Bits := .z p8n188
def p9n377 : Bits := .o p8n188
def p9n378 : Bits := .z p8n189
def p9n379 : Bits := .o p8n189
def p9n380 : Bits := .z p8n190
def p9n381 : Bits := .o p8n190
def p9n382 : Bits := .z p8n191
def p9n383 : Bits := .o p8n191
def p9n384 : Bits := .z p8n192
def p9n385 : Bits := .o p8n192
def p9n386 : Bits := .z p8n193
def p9n387 : Bits := .o p8n193
def p9n388 : Bits := .z p8n194
def p9n389 : Bits := .o p8n194
def p9n390 : Bits := .z p8n195
def p9n391 : Bits := .o p8n195
def p9n392 : Bits := .z p8n196
def p9n393 : Bits := .o p8n196
def p9n394 : Bits := .z p8n197
def p9n395 : Bits := .o p8n197
def p9n396 : Bits := .z p8n198
def p9n397 : Bits := .o p8n198
def p9n398 : Bits := .z p8n199
def p9n399 : Bits := .o p8n199
def p9n400 : Bits := .z p8n200
def p9n401 : Bits := .o p8n200
def p9n402 : Bits := .z p8n201
def p9n403 : Bits := .o p8n201
def p9n404 : Bits := .z p8n202
def p9n405 : Bits := .o p8n202
def p9n406 : Bits := .z p8n203
def p9n407 : Bits := .o p8n203
def p9n408 : Bits := .z p8n204
def p9n409 : Bits := .o p8n204
def p9n410 : Bits := .z p8n205
def p9n411 : Bits := .o p8n205
def p9n412 : Bits := .z p8n206
def p9n413 : Bits := .o p8n206
def p9n414 : Bits := .z p8n207
def p9n415 : Bits := .o p8n207
def p9n416 : Bits := .z p8n208
def p9n417 : Bits := .o p8n208
def p9n418 : Bits := .z p8n209
def p9n419 : Bits := .o p8n209
def p9n420 : Bits := .z p8n210
def p9n421 : Bits := .o p8n210
def p9n422 : Bits := .z p8n211
def p9n423 : Bits := .o p8n211
def p9n424 : Bits := .z p8n212
def p9n425 : Bits := .o p8n212
def p9n426 : Bits := .z p8n213
def p9n427 : Bits := .o p8n213
def p9n428 : Bits := .z p8n214
def p9n429 : Bits := .o p8n214
def p9n430 : Bits := .z p8n215
def p9n431 : Bits := .o p8n215
def p9n432 : Bits := .z p8n216
def p9n433 : Bits := .o p8n216
def p9n434 : Bits := .z p8n217
def p9n435 : Bits := .o p8n217
def p9n436 : Bits := .z p8n218
def p9n437 : Bits := .o p8n218
def p9n438 : Bits := .z p8n219
def p9n439 : Bits := .o p8n219
def p9n440 : Bits := .z p8n220
def p9n441 : Bits := .o p8n220
def p9n442 : Bits := .z p8n221
def p9n443 : Bits := .o p8n221
def p9n444 : Bits := .z p8n222
def p9n445 : Bits := .o p8n222
def p9n446 : Bits := .z p8n223
def p9n447 : Bits := .o p8n223
def p9n448 : Bits := .z p8n224
def p9n449 : Bits := .o p8n224
def p9n450 : Bits := .z p8n225
def p9n451 : Bits := .o p8n225
def p9n452 : Bits := .z p8n226
def p9n453 : Bits := .o p8n226
def p9n454 : Bits := .z p8n227
def p9n455 : Bits := .o p8n227
def p9n456 : Bits := .z p8n228
def p9n457 : Bits := .o p8n228
def p9n458 : Bits := .z p8n229
def p9n459 : Bits := .o p8n229
def p9n460 : Bits := .z p8n230
def p9n461 : Bits := .o p8n230
def p9n462 : Bits := .z p8n231
def p9n463 : Bits := .o p8n231
def p9n464 : Bits := .z p8n232
def p9n465 : Bits := .o p8n232
def p9n466 : Bits := .z p8n233
def p9n467 : Bits := .o p8n233
def p9n468 : Bits := .z p8n234
def p9n469 : Bits := .o p8n234
def p9n470 : Bits := .z p8n235
def p9n471 : Bits := .o p8n235
def p9n472 : Bits := .z p8n236
def p9n473 : Bits := .o p8n236
def p9n474 : Bits := .z p8n237
def p9n475 : Bits := .o p8n237
def p9n476 : Bits := .z p8n238
def p9n477 : Bits := .o p8n238
def p9n478 : Bits := .z p8n239
def p9n479 : Bits := .o p8n239
def p9n480 : Bits := .z p8n240
def p9n481 : Bits := .o p8n240
def p9n482 : Bits := .z p8n241
def p9n483 : Bits := .o p8n241
def p9n484 : Bits := .z p8n242
def p9n485 : Bits := .o p8n242
def p9n486 : Bits := .z p8n243
def p9n487 : Bits := .o p8n243
def p9n488 : Bits := .z p8n244
def p9n489 : Bits := .o p8n244
def p9n490 : Bits := .z p8n245
def p9n491 : Bits := .o p8n245
def p9n492 : Bits := .z p8n246
def p9n493 : Bits := .o p8n246
def p9n494 : Bits := .z p8n247
def p9n495 : Bits := .o p8n247
def p9n496 : Bits := .z p8n248
def p9n497 : Bits := .o p8n248
def p9n498 : Bits := .z p8n249
def p9n499 : Bits := .o p8n249
def p9n500 : Bits := .z p8n250
def p9n501 : Bits := .o p8n250
def p9n502 : Bits := .z p8n251
def p9n503 : Bits := .o p8n251
def p9n504 : Bits := .z p8n252
def p9n505 : Bits := .o p8n252
def p9n506 : Bits := .z p8n253
def p9n507 : Bits := .o p8n253
def p9n508 : Bits := .z p8n254
def p9n509 : Bits := .o p8n254
def p9n510 : Bits := .z p8n255
def p9n511 : Bits := .o p8n255

inductive Tr where
  | leaf
  | node (k : Nat) (a : AFunc) (l r : Tr)

noncomputable def Tr.goN (x : Nat) (k : Nat) (a : AFunc) (_ _ : Tr) (l r : Option AFunc) : Option AFunc :=
  Bool.rec (motive := fun _ => Option AFunc) (Bool.rec (motive := fun _ => Option AFunc) r l (Nat.blt x k)) (some a) (Nat.beq x k)
noncomputable def Tr.get (t : Tr) (x : Nat) : Option AFunc := Tr.rec (motive := fun _ => Option AFunc) none (Tr.goN x) t
def Tr.list : Tr → List (Nat × AFunc)
  | .leaf => []
  | .node k a l r => (k, a) :: (l.list ++ r.list)

theorem Tr.get_mem (t : Tr) (x : Nat) (a : AFunc) (h : t.get x = some a) : (x, a) ∈ t.list := by
  induction t with
  | leaf => cases h
  | node k b l r ihl ihr =>
    change Tr.goN x k b l r (l.get x) (r.get x) = some a at h
    unfold Tr.goN at h
    cases hb : Nat.beq x k with
    | true =>
      rw [hb] at h
      cases h
      have := Nat.eq_of_beq_eq_true hb
      subst this
      exact List.mem_cons_self
    | false =>
      rw [hb] at h
      cases hl : Nat.blt x k with
      | true =>
        rw [hl] at h
        exact List.mem_cons_of_mem _ (List.mem_append_left _ (ihl h))
      | false =>
        rw [hl] at h
        exact List.mem_cons_of_mem _ (List.mem_append_right _ (ihr h))

end M2
end
section
namespace M2
open Go Go.ChangeShapes Go.WideShapes Go.ChangeAt Go.RowKit

/-- a law's call, by a run of ours that is right of every argument that reads so -/
theorem law_run {P : Program} {M : Maps} {im : FuncId → Option Nat} {tbl : Nat → Option AFunc} (hmix : P.follows .mixedOrders = true) (him : ∀ f x, im f = some x → M.fm x = f) (ht : Table P M im tbl)
    {H : Type} {enc : TypeId × Value → H} {W : World} {base id tf : Nat} {t : TypeId} {fs : Array Field} (hu : P.underlying t = some (.struct fs)) (ha : argT P tf t = true) {v : Value} {d : DataW H} {p : List MemPlace}
    (hval : Value.okWide P W .any base t v) (htr : DataW.Trod enc P W 0 (fun _ => true) true t v d p)
    (hrun : ∀ ascs m, DA P tf t d ascs → ∃ n t', callA tbl (ev tbl n) id [.agg ascs] ⟨m, [], []⟩ = .ok (.bool true) t') (hkb : ∀ b o v, M.kb b o = some v → W.cell? ⟨b, o, none⟩ = some v ∧ csize W b ≤ M.tm b := by exact fun _ _ _ h => nomatch (show (none : Option Value) = some _ from h)) :
    Calls P (M.fm id) #[v] W fun e W' => e = .returned (.bool true) ∧ Below W.heap.size W W' := by
  obtain ⟨K, hK0, hK⟩ := size_bound W
  obtain ⟨fuel, htr⟩ := htr
  unfold Value.okWide at hval
  rw [hu] at hval
  obtain ⟨cs, rfl, hcs, -⟩ := hval
  obtain ⟨ascs, h1, h2, h3, -⟩ := trod_vr (M := M) hK0 hK fuel tf t _ _ ha htr
  obtain ⟨n, t', hr⟩ := hrun ascs (W.heap.size * K) h1
  refine link (g := argG W (W.heap.size * K) K) hmix him ht (fun _ _ => rfl) (argG_sr M W _ K hkb) rfl (fun i hi => ?_) hr
  have hi0 : i = 0 := by simpa using hi
  subst hi0
  simp only [List.getElem_cons_zero]
  have hl : ascs.length = cs.size := by simpa [Value.cells] using h2
  refine .agg ascs cs hl.symm (fun j hj => ?_)
  have := h3 j hj
  simpa [Value.cells, Array.getD_eq_getD_getElem?, List.getD_eq_getElem?_getD] using this

/-- the table, function by function -/
theorem table_of {P : Program} {M : Maps} {im : FuncId → Option Nat} {tab : Tr} (h : ∀ p, p ∈ tab.list → (∃ gf, P.funcs[M.fm p.1]? = some gf ∧ cmpF P im p.2.depth p.2.keep gf = some p.2) ∨ (p.2.depth = 77 ∧ PrimAt P M p.1 p.2) ∨ (∃ gf d, P.funcs[M.fm p.1]? = some gf ∧ cmpS P im d p.2.keep gf = some p.2)) : Table P M im tab.get := by
  intro f fn hf
  exact h (f, fn) (Tr.get_mem tab f fn hf)

inductive TrOK (Q : Nat → AFunc → Prop) : Tr → Prop where
  | leaf : TrOK Q .leaf
  | node {k : Nat} {a : AFunc} {l r : Tr} (h : Q k a) (hl : TrOK Q l) (hr : TrOK Q r) : TrOK Q (.node k a l r)

theorem TrOK.list {Q : Nat → AFunc → Prop} {t : Tr} (h : TrOK Q t) : ∀ p, p ∈ t.list → Q p.1 p.2 := by
  induction h with
  | leaf => intro p hp; cases hp
  | node h hl hr ihl ihr =>
    intro p hp
    simp only [Tr.list, List.mem_cons, List.mem_append] at hp
    rcases hp with rfl | hp | hp
    · exact h
    · exact ihl p hp
    · exact ihr p hp

def Here (P : Program) (M : Maps) (im : FuncId → Option Nat) (i : Nat) (a : AFunc) : Prop := (∃ gf, P.funcs[M.fm i]? = some gf ∧ cmpF P im a.depth a.keep gf = some a) ∨ (a.depth = 77 ∧ PrimAt P M i a) ∨ (∃ gf d, P.funcs[M.fm i]? = some gf ∧ cmpS P im d a.keep gf = some a)
theorem Here.scope {P : Program} {M : Maps} {im : FuncId → Option Nat} {i : Nat} {a : AFunc} (gf : Func) (d : Nat) (h : P.funcs[M.fm i]? = some gf) (hc : cmpS P im d a.keep gf = some a) : Here P M im i a := .inr (.inr ⟨gf, d, h, hc⟩)
theorem Here.of {P : Program} {M : Maps} {im : FuncId → Option Nat} {i : Nat} {a : AFunc} (gf : Func) (h : P.funcs[M.fm i]? = some gf) (hc : cmpF P im a.depth a.keep gf = some a) : Here P M im i a := .inl ⟨gf, h, hc⟩

theorem table_ok {P : Program} {M : Maps} {im : FuncId → Option Nat} {tab : Tr} (h : TrOK (Here P M im) tab) : Table P M im tab.get := table_of (TrOK.list h)

/-- numbers there and back -/
def maps (ims : List Nat) : Maps := ⟨fun x => (ims.idxOf? x).getD 0, fun x => x, fun _ _ => none⟩
def mapsT (ims : List Nat) (kb : Nat → Nat → Option Value) (tm : Nat → Nat) : Maps := ⟨fun x => (ims.idxOf? x).getD 0, tm, kb⟩
def mapsK (ims : List Nat) (kb : Nat → Nat → Option Value) : Maps := ⟨fun x => (ims.idxOf? x).getD 0, fun x => x, kb⟩
theorem him_of {ims : List Nat} (hn : ims.Nodup) : ∀ f x, ims[f]? = some x → (maps ims).fm x = f := by
  intro f x h
  obtain ⟨hf, rfl⟩ := List.getElem?_eq_some_iff.mp h
  show (ims.idxOf? ims[f]).getD 0 = f
  rw [show ims.idxOf? ims[f] = some f from ?_]
  · rfl
  · rw [List.idxOf?_eq_some_iff]
    refine ⟨hf, by simp, fun j hj => ?_⟩
    intro e
    exact List.pairwise_iff_getElem.mp hn j f (by omega) hf hj (by simpa using e)

theorem him_ofK {ims : List Nat} (kb : Nat → Nat → Option Value) (hn : ims.Nodup) : ∀ f x, ims[f]? = some x → (mapsK ims kb).fm x = f := him_of hn

end M2
end
section
namespace M2
open Go Go.ChangeShapes Go.WideShapes Go.ChangeAt Go.RowKit
noncomputable section

theorem tops_filter (r : AV) (hi : IScope) : hi.filter (fun p => r.tops.any (Nat.beq p.1)) = hi.filter fun p => (fun x => r.tops.any (Nat.beq x)) p.1 := rfl

theorem look2_none {α : Type} {n x : Nat} (hx : x < n) (a : List (Nat × α)) (ha : ∀ p ∈ a, n ≤ p.1) (l : List (List (Nat × α))) : look2 x (a :: l) = look2 x l := by
  rw [look2_cons, look_new hx a ha]; rfl

theorem resultOf_cells {F : Fr} {t : T} {p : Bits} {n : Nat} {ag : Bool} {cs : List AV} {v : AV} (hr : t.read (F.get p) = some cs) (hv : resC n ag cs = some v) : resultOf F t (p, some (n, ag)) = some v := by
  unfold resultOf
  simp only
  rw [hr]
  simp only
  unfold resC at hv
  cases ag with
  | true =>
    simp only at hv ⊢
    split at hv
    · rename_i hle'
      cases hv
      rw [Nat.ble_eq_true_of_le hle']
    · cases hv
  | false => exact hv

theorem fn_of_wp {tbl : Nat → Option AFunc} {f : Nat} {x : XF} (hf : tbl f = some (flatF x)) (hw : wfF x = true) {args : List AV} (hl : args.length = x.np) {H : Heap} {O : Rows} {Q : AV → Heap → Rows → Prop} (hq : wpF tbl x args H O Q) : Fn tbl x.keep f args H O Q := by
  intro t ht
  simp only [wfF, Bool.and_eq_true, decide_eq_true_eq] at hw
  obtain ⟨⟨⟨⟨⟨hnd, hms⟩, hnp⟩, hpl⟩, hres⟩, hwc⟩ := hw
  have hms' : ∀ m ∈ x.ms, m < 2 ^ x.depth := fun m hm => by simpa using List.all_eq_true.mp hms m hm
  have hnd' : x.ms.Nodup := hnd
  have hle : x.np ≤ x.ms.length := by
    have := congrArg List.length hnp
    simp at this
    omega
  have hslot : ∀ j, j < x.np → slot x.depth x.ms j = pth x.depth j := by
    intro j hj
    unfold slot
    have h1 : x.ms[j]? = (List.range x.np)[j]? := by rw [← hnp, List.getElem?_take, if_pos hj]
    rw [List.getD_eq_getElem?_getD, h1, List.getElem?_range hj]
    rfl
  have hnp2 : x.np ≤ 2 ^ x.depth ∨ x.np = 0 := by
    by_cases h0 : x.np = 0
    · exact .inr h0
    · left
      have hj : x.np - 1 < x.ms.length := by omega
      have h1 : x.ms[x.np - 1]? = some (x.np - 1) := by
        have h2 : x.ms[x.np - 1]? = (List.range x.np)[x.np - 1]? := by rw [← hnp, List.getElem?_take, if_pos (by omega)]
        rw [h2, List.getElem?_range (by omega)]
      have := hms' _ (List.mem_of_getElem? h1)
      omega
  have hpt : ((List.range x.np).map (pth x.depth)).Nodup := by
    rw [List.Nodup, List.pairwise_iff_getElem]
    intro i j hi hj hij
    simp only [List.length_map, List.length_range] at hi hj
    simp only [List.getElem_map, List.getElem_range]
    intro e
    have := pth_inj x.depth i j (by omega) (by omega) e
    omega
  -- the call's own slots
  obtain ⟨F, hF⟩ : ∃ F, argsIn ((List.range x.np).map (pth x.depth)) args .nil = some F := by
    have : ∀ (ps : List Bits) (vs : List AV) (f : Fr), ps.length = vs.length → ∃ F, argsIn ps vs f = some F := by
      intro ps
      induction ps with
      | nil => intro vs f h; cases vs with
        | nil => exact ⟨f, rfl⟩
        | cons _ _ => cases h
      | cons p ps ih => intro vs f h; cases vs with
        | nil => cases h
        | cons v vs => exact ih vs _ (by simpa using h)
    exact this _ _ _ (by simp [hl])
  have hFg := (argsIn_ok _ _ _ _ hF hpt).2
  have hget : ∀ j, j < x.ms.length → F.get (slot x.depth x.ms j) = nth (args ++ List.replicate (x.ms.length - x.np) .und) j := by
    intro j hj
    have hsl : slot x.depth x.ms j = pth x.depth (x.ms.getD j 0) := rfl
    have hm : x.ms.getD j 0 ∈ x.ms := by rw [List.getD_eq_getElem?_getD, List.getElem?_eq_getElem hj]; exact List.getElem_mem hj
    rw [hFg, hsl, idx_pth (hnp2.elim id fun h => by rw [h]; exact Nat.zero_le _) (hms' _ hm)]
    unfold nth
    by_cases hjp : j < x.np
    · have : x.ms.getD j 0 = j := by
        have h1 : x.ms[j]? = (List.range x.np)[j]? := by rw [← hnp, List.getElem?_take, if_pos hjp]
        rw [List.getD_eq_getElem?_getD, h1, List.getElem?_range hjp]; rfl
      rw [this, if_pos hjp]
      simp only
      rw [List.getD_eq_getElem?_getD, List.getD_eq_getElem?_getD, List.getElem?_append_left (by omega)]
    · have hge : ¬ x.ms.getD j 0 < x.np := by
        intro hlt
        have h1 : x.ms[x.ms.getD j 0]? = (List.range x.np)[x.ms.getD j 0]? := by rw [← hnp, List.getElem?_take, if_pos hlt]
        rw [List.getElem?_range hlt] at h1
        obtain ⟨hh1, hh2⟩ := List.getElem?_eq_some_iff.mp h1
        have h3 : x.ms[j] = x.ms.getD j 0 := by rw [List.getD_eq_getElem?_getD, List.getElem?_eq_getElem hj]; rfl
        rcases Nat.lt_trichotomy j (x.ms.getD j 0) with h4 | h4 | h4
        · exact List.pairwise_iff_getElem.mp hnd' j _ hj hh1 h4 (by rw [hh2, h3])
        · omega
        · exact List.pairwise_iff_getElem.mp hnd' _ j hh1 hj h4 (by rw [hh2, h3])
      rw [if_neg hge]
      simp only
      rw [Fr.get_nil, List.getD_eq_getElem?_getD, List.getElem?_append_right (by omega), List.getElem?_replicate]
      split <;> rfl
  have hund : ∀ j, j < x.ms.length → x.bx.getD j false = true → nth (args ++ List.replicate (x.ms.length - x.np) .und) j = .und := by
    intro j hj hb
    have hjp : x.np ≤ j := by
      apply Nat.le_of_not_lt
      intro hlt
      have := List.all_eq_true.mp hpl j (List.mem_range.mpr hlt)
      rw [hb] at this; cases this
    unfold nth
    rw [List.getD_eq_getElem?_getD, List.getElem?_append_right (by omega), List.getElem?_replicate]
    split <;> rfl
  have hS : Sim x.depth x.ms x.bx t (ids H) (ids O) (args ++ List.replicate (x.ms.length - x.np) .und) H O F t.enter := by
    refine ⟨by simp [hl]; omega, fun j hj _ => hget j hj, ?_, ?_, ⟨?_, ⟨ht.see.hk, fun y o hm => ?_, ht.see.ok, fun y r hm => ?_⟩, by simp [T.enter], by simp [T.enter]⟩, Keeps.refl _ _ _ _, fun p hp => .inl (List.mem_map.mpr ⟨p, hp, rfl⟩), fun p hp => .inl (List.mem_map.mpr ⟨p, hp, rfl⟩)⟩
    · intro j hj hb cs hcs
      rw [hund j hj hb] at hcs; cases hcs
    · intro j k y hj hk hb hb' ha
      obtain ⟨cs, hcs⟩ := ha
      rw [hund j hj hb] at hcs; cases hcs
    · exact ht.wf.sub rfl (List.Sublist.refl _) (List.Sublist.refl _)
    · exact ht.see.hv y o hm
    · exact ht.see.ov y r hm
  obtain ⟨N, r, k1, k2⟩ := simC (tbl := tbl) hms' hnd' x.body _ H O F t.enter _ hwc hS hq
  -- the results
  have fin : ∀ F1 t1 env1 H1 O1, Sim x.depth x.ms x.bx t (ids H) (ids O) env1 H1 O1 F1 t1 → wRet x H O Q env1 H1 O1 →
      ∃ v t' H' O', afterBody (flatF x) F1 t1 = .ok v t' ∧ Gd x.keep H O t H' O' t' ∧ Q v H' O' := by
    intro F1 t1 env1 H1 O1 S1 hr
    have hres' : ∀ (l : List (Nat × Option (Nat × Bool))) (vs : List AV), (∀ r ∈ l, r.1 < x.ms.length ∧ (r.2.isSome = true ∨ x.bx.getD r.1 false = false)) → resL x.bx env1 H1 l = some vs →
        resultsOf F1 t1 (l.map fun r => (slot x.depth x.ms r.1, r.2)) = some vs := by
      intro l
      induction l with
      | nil => intro vs _ h; cases h; rfl
      | cons r l ih =>
        intro vs hb h
        simp only [resL] at h
        cases h1 : resX x.bx env1 H1 r with
        | none => rw [h1] at h; cases h
        | some v =>
          rw [h1] at h
          simp only at h
          cases h2 : resL x.bx env1 H1 l with
          | none => rw [h2] at h; cases h
          | some vs' =>
            rw [h2] at h
            cases h
            have hr1 : resultOf F1 t1 (slot x.depth x.ms r.1, r.2) = some v := by
              obtain ⟨hj, hbb⟩ := hb r List.mem_cons_self
              unfold resX at h1
              cases hr2 : r.2 with
              | none =>
                rw [hr2] at h1 hbb
                simp only at h1
                show some (F1.get (slot x.depth x.ms r.1)) = _
                rw [S1.pl r.1 hj (by simpa using hbb)]
                exact h1
              | some p =>
                obtain ⟨n, ag⟩ := p
                rw [hr2] at h1
                simp only at h1
                cases hbx : x.bx.getD r.1 false with
                | true =>
                  rw [hbx] at h1
                  simp only at h1
                  split at h1
                  · rename_i cs hcs
                    obtain ⟨y, hy1, hy2, -⟩ := S1.bo r.1 hj hbx cs hcs
                    refine resultOf_cells (cs := cs) ?_ h1
                    rw [hy1]
                    unfold T.read
                    simp only
                    rw [hy2]
                    rfl
                  · cases h1
                | false =>
                  rw [hbx] at h1
                  simp only at h1
                  split at h1
                  · rename_i cs hcs
                    refine resultOf_cells (cs := cs) ?_ h1
                    rw [S1.pl r.1 hj hbx]
                    exact S1.pre.hread hcs
                  · cases h1
            simp only [List.map_cons, resultsOf]
            rw [hr1, ih vs' (fun r hr => hb r (List.mem_cons_of_mem _ hr)) h2]
    unfold wRet at hr
    cases hrl : resL x.bx env1 H1 x.res with
    | none => rw [hrl] at hr; exact hr.elim
    | some vs =>
      rw [hrl] at hr
      obtain ⟨H', O', hH', hHn, hO', hOn, hQ⟩ := hr
      have hro := hres' x.res vs (fun r hr => by
        have := List.all_eq_true.mp hres r hr
        simp only [Bool.and_eq_true, decide_eq_true_eq, Bool.or_eq_true, Bool.not_eq_true'] at this
        exact this) hrl
      obtain ⟨nv, ni, φ, ψ, hc, -⟩ := S1.kp
      obtain ⟨s, l, hvs⟩ : ∃ s l, t.vs = s :: l := by
        cases hv : t.vs with
        | nil => exact absurd hv ht.v0
        | cons s l => exact ⟨s, l, rfl⟩
      obtain ⟨si, li, his⟩ : ∃ s l, t.is = s :: l := by
        cases hv : t.is with
        | nil => exact absurd hv ht.i0
        | cons s l => exact ⟨s, l, rfl⟩
      have hvs1 : t1.vs = nv :: t.vs.map (List.filterMap φ) := by
        rw [hc.vs]
        show addTop nv (([] :: t.vs).map (List.filterMap φ)) = _
        simp [addTop]
      have his1 : t1.is = ni :: t.is.map (List.filter fun p => ψ p.1) := by
        rw [hc.is]
        show addTop ni (([] :: t.is).map (List.filter fun p => ψ p.1)) = _
        simp [addTop]
      let v := packed vs
      have hlv : leaveVs x.keep t1.vs = addTop (if x.keep then nv else []) (t.vs.map (List.filterMap φ)) := by
        rw [hvs1, hvs]
        cases x.keep <;> rfl
      have hli : leaveIs x.keep v t1.is = addTop (ni.filter fun p => x.keep || v.tops.any (Nat.beq p.1)) (t.is.map (List.filter fun p => ψ p.1)) := by
        rw [his1, his]
        cases x.keep with
        | true =>
          have e1 : ni.filter (fun p => true || v.tops.any (Nat.beq p.1)) = ni := List.filter_eq_self.mpr fun _ _ => rfl
          rw [e1]; rfl
        | false => rfl
      have hwf : (t1.leave x.keep v).WF := S1.pre.wf.sub rfl (leaveVs_sub _ _) (leaveIs_sub _ _ _)
      refine ⟨v, t1.leave x.keep v, H', O', ?_, ⟨hwf, ⟨hHn, ?_, hOn, ?_⟩, ⟨if x.keep then nv else [], _, φ, ψ, ⟨hc.n, hlv, hli, hc.fk, hc.fo, hc.go, ?_, ?_⟩, ?_⟩, ?_, ?_⟩, hQ⟩
      · unfold afterBody
        rw [show resultsOf F1 t1 (flatF x).results = some vs from hro]
        rfl
      · intro y o hm
        obtain ⟨h1, h2⟩ := hH' _ hm
        have h3 := S1.pre.see.hv y o h1
        show look2 y (leaveVs x.keep t1.vs) = some o
        rw [hlv]
        rw [hvs1] at h3
        cases hk : x.keep with
        | true =>
          rw [hvs] at h3 ⊢
          simp only [if_true, List.map_cons, addTop, look2_cons, look_append] at h3 ⊢
          rw [← h3]
          cases look y nv <;> rfl
        | false =>
          simp only [Bool.false_eq_true, if_false, addTop_nil]
          rcases h2 with h2 | h2
          · rw [hk] at h2; cases h2
          · rw [look2_none (ht.see.ltv ht.wf h2) nv hc.nvn] at h3
            exact h3
      · intro y r hm
        obtain ⟨h1, h2⟩ := hO' _ hm
        have h3 := S1.pre.see.ov y r h1
        show look2 y (leaveIs x.keep v t1.is) = some r
        rw [hli]
        rw [his1] at h3
        rw [his] at h3 ⊢
        simp only [List.map_cons, addTop, look2_cons, look_append] at h3 ⊢
        rcases h2 with h2 | h2
        · have : look y (ni.filter fun p => x.keep || v.tops.any (Nat.beq p.1)) = look y ni := look_filter (ψ := fun z => x.keep || v.tops.any (Nat.beq z)) (by
            simp only [Bool.or_eq_true]
            right
            rw [List.any_eq_true]
            exact ⟨y, h2, beq_true rfl⟩) ni
          rw [this, ← h3]
          cases look y ni <;> rfl
        · have hlt := ht.see.lti ht.wf h2
          rw [look_new hlt ni hc.nin] at h3
          rw [look_new hlt _ (fun p hp => hc.nin p (List.mem_filter.mp hp).1)]
          exact h3
      · intro p hp
        cases hk : x.keep with
        | true => rw [hk] at hp; exact hc.nvn p hp
        | false => rw [hk] at hp; cases hp
      · exact fun p hp => hc.nin p (List.mem_filter.mp hp).1
      · intro hk; rw [hk]; rfl
      · intro p hp
        obtain ⟨h1, h2⟩ := hH' _ hp
        exact S1.hd p h1
      · intro p hp
        obtain ⟨h1, h2⟩ := hO' _ hp
        exact S1.od p h1
  have callEq : ∀ n, callA tbl (ev tbl n) f args t = match ev tbl n (flatF x).body F t.enter with
      | .norm f t => afterBody (flatF x) f t
      | .ret f t => afterBody (flatF x) f t
      | _ => .fail := by
    intro n
    unfold callA
    rw [hf]
    simp only
    rw [show argsIn (flatF x).params args .nil = some F from hF]
    rfl
  cases r with
  | fail => exact k2.elim
  | norm F1 t1 =>
    obtain ⟨env1, H1, O1, S1, hr⟩ := k2
    obtain ⟨v, t', H', O', h1, h2, h3⟩ := fin F1 t1 env1 H1 O1 S1 hr
    exact ⟨v, t', H', O', N, fun n hn => by rw [callEq, show ev tbl n (flatF x).body F t.enter = _ from k1 n hn]; exact h1, h2, h3⟩
  | ret F1 t1 =>
    obtain ⟨env1, H1, O1, S1, hr⟩ := k2
    obtain ⟨v, t', H', O', h1, h2, h3⟩ := fin F1 t1 env1 H1 O1 S1 hr
    exact ⟨v, t', H', O', N, fun n hn => by rw [callEq, show ev tbl n (flatF x).body F t.enter = _ from k1 n hn]; exact h1, h2, h3⟩
  | exit id F1 t1 =>
    obtain ⟨env1, H1, O1, S1, hr⟩ := k2
    exact hr.elim

end

end M2
end
section
namespace M2
open Go Go.ChangeShapes Go.WideShapes Go.ChangeAt Go.RowKit

/-- a law's call, by what it comes to at every argument that reads so -/
theorem law_fn {P : Program} {M : Maps} {im : FuncId → Option Nat} {tbl : Nat → Option AFunc} (hmix : P.follows .mixedOrders = true) (him : ∀ f x, im f = some x → M.fm x = f) (ht : Table P M im tbl)
    {H : Type} {enc : TypeId × Value → H} {W : World} {base id tf : Nat} {t : TypeId} {fs : Array Field} (hu : P.underlying t = some (.struct fs)) (ha : argT P tf t = true) {v : Value} {d : DataW H} {p : List MemPlace}
    (hval : Value.okWide P W .any base t v) (htr : DataW.Trod enc P W 0 (fun _ => true) true t v d p)
    (hrun : ∀ axs, DA P tf t d axs → Fn tbl false id [.agg axs] [] [] fun v _ _ => v = .bool true) (hkb : ∀ b o v, M.kb b o = some v → W.cell? ⟨b, o, none⟩ = some v ∧ csize W b ≤ M.tm b := by exact fun _ _ _ h => nomatch (show (none : Option Value) = some _ from h)) :
    Calls P (M.fm id) #[v] W fun e W' => e = .returned (.bool true) ∧ Below W.heap.size W W' := by
  obtain ⟨K, hK0, hK⟩ := size_bound W
  obtain ⟨fuel, htr⟩ := htr
  unfold Value.okWide at hval
  rw [hu] at hval
  obtain ⟨cs, rfl, hcs, -⟩ := hval
  obtain ⟨axs, h1, h2, h3, -⟩ := trod_vr (M := M) hK0 hK fuel tf t _ _ ha htr
  have hSR : SR M (argG W (W.heap.size * K) K) ⟨W.heap.size * K, [[]], [[]]⟩ := (argG_sr M W _ K hkb).fewer rfl (List.Sublist.refl _) (List.Sublist.refl _)
  obtain ⟨v', t', H', O', N, hr, -, rfl⟩ := hrun axs h1 ⟨W.heap.size * K, [[]], [[]]⟩ ⟨hSR.wf, ⟨List.nodup_nil, nofun, List.nodup_nil, nofun⟩, by simp, by simp⟩
  refine link (g := argG W (W.heap.size * K) K) hmix him ht (fun _ _ => rfl) hSR rfl (fun i hi => ?_) (hr N (Nat.le_refl _))
  have hi0 : i = 0 := by simpa using hi
  subst hi0
  simp only [List.getElem_cons_zero]
  have hl : axs.length = cs.size := by simpa [Value.cells] using h2
  refine .agg axs cs hl.symm (fun j hj => ?_)
  have := h3 j hj
  simpa [Value.cells, Array.getD_eq_getD_getElem?, List.getD_eq_getElem?_getD] using this

end M2
end
section
namespace M2
open Go
noncomputable section

/-! ### Short words for code, and rules by which it is gone through -/

def X.k (n : Nat) : X := .c (.int .i64 (.ofNat n))
def X.b (o : BinOp) (x y : X) : X := .op (.bin o hh hh) (.cons x y)
def X.ln (s : Bool) (x : X) : X := .op (.len s hh) x
def X.ix (o : AOp) (e : Nat) (x i : X) : X := .op o (.op (.iaddr e hh hh) (.cons x i))
def X.pf (o : AOp) (off : Nat) (x : X) : X := .op o (.op (.faddr off hh) (.op (.nilck hh) x))
def X.lf (o : AOp) (off j : Nat) : X := .lv o (.op (.faddr off hh) (.adr j))
def X.lw (o : AOp) (j : Nat) : X := .lv o (.adr j)
def X.ca (f : Nat) (xs : X) : X := .op (.call f []) xs
def X.ap (e b : Nat) (z : AV) (x y : X) : X := .op (.app e b z hh hh) (.cons x (.op (.buildS e 1 z [(0, hh)]) y))
def X.u (o : UnOp) (x : X) : X := .op (.un o hh) x
def X.cv (k : CK) (x : X) : X := .op (.cv k hh) x
def W.mv (j k : Nat) : W := .wo j (.mv hh) [k]

/-- an element of a slice -/
def ixv (o : AOp) (e : Nat) (a i : AV) (H : Heap) (Q : AV → Prop) : Prop :=
  opt (pureV (.iaddr e hh hh) [a, i]) fun p => opt (hread H p) fun cs => opt (lvV o cs) Q
/-- a field behind a pointer -/
def pfv (o : AOp) (off : Nat) (a : AV) (H : Heap) (Q : AV → Prop) : Prop :=
  match a with
  | .ptr x n => match look x H with
    | some (.cells cs) => opt (lvV o (cs.drop (n + off))) Q
    | _ => False
  | .eptr cs => opt (lvV o (cs.drop off)) Q
  | _ => False
/-- a field of a variable in memory of its own -/
def lfv (o : AOp) (off : Nat) (a : AV) (Q : AV → Prop) : Prop :=
  match a with
  | .agg cs => opt (lvV o (cs.drop off)) Q
  | _ => False

/-! what comes behind is gone into only when one comes there -/
@[congr] theorem opt_congr {α : Type} {x y : Option α} (Q : α → Prop) (h : x = y) : opt x Q = opt y Q := by rw [h]
@[congr] theorem bcase_congr {a b : AV} (P R : Prop) (h : a = b) : bcase a P R = bcase b P R := by rw [h]
@[congr] theorem wCall_congr {tbl : Nat → Option AFunc} {d : Bool} {f : Nat} {vs ws : List AV} (H : Heap) (O : Rows) (Q : AV → Heap → Rows → Prop) (h : vs = ws) : wCall tbl d f vs H O Q = wCall tbl d f ws H O Q := by rw [h]
@[congr] theorem wCalld_congr {tbl : Nat → Option AFunc} {d : Bool} {a b : AV} {vs ws : List AV} (H : Heap) (O : Rows) (Q : AV → Heap → Rows → Prop) (ha : a = b) (h : vs = ws) : wCalld tbl d a vs H O Q = wCalld tbl d b ws H O Q := by rw [ha, h]
@[congr] theorem ixv_congr {o : AOp} {e : Nat} {a b i j : AV} (H : Heap) (Q : AV → Prop) (ha : a = b) (hi : i = j) : ixv o e a i H Q = ixv o e b j H Q := by rw [ha, hi]
@[congr] theorem pfv_congr {o : AOp} {off : Nat} {a b : AV} {H H' : Heap} (Q : AV → Prop) (ha : a = b) (hh : H = H') : pfv o off a H Q = pfv o off b H' Q := by rw [ha, hh]
@[congr] theorem lfv_congr {o : AOp} {off : Nat} {a b : AV} (Q : AV → Prop) (ha : a = b) : lfv o off a Q = lfv o off b Q := by rw [ha]
@[congr] theorem wApp_congr {e b : Nat} {z x y x' y' : AV} (H : Heap) (O : Rows) (Q : AV → Heap → Rows → Prop) (hx : x = x') (hy : y = y') : wApp e b z x y H O Q = wApp e b z x' y' H O Q := by rw [hx, hy]
@[congr] theorem wNew_congr {z z' : List AV} (H : Heap) (O : Rows) (Q : AV → Heap → Rows → Prop) (h : z = z') : wNew z H O Q = wNew z' H O Q := by rw [h]
@[congr] theorem wSt_congr {n : Nat} {a v a' v' : AV} (H : Heap) (O : Rows) (Q : AV → Heap → Rows → Prop) (h : a = a') (k : v = v') : wSt n a v H O Q = wSt n a' v' H O Q := by rw [h, k]
@[congr] theorem bstp_congr {env : List AV} {n : Nat} {a v a' v' : AV} (Q : List AV → Prop) (h : a = a') (k : v = v') : bstp env a n v Q = bstp env a' n v' Q := by rw [h, k]

section
variable {tbl : Nat → Option AFunc} {dr : Bool} {env : List AV} {H : Heap} {O : Rows} {Q : List AV → Heap → Rows → Prop}

@[go_sem] theorem wx_nil : wpx tbl dr env .nil H O Q = Q [] H O := rfl
@[go_sem] theorem wx_cons (x xs : X) : wpx tbl dr env (.cons x xs) H O Q = wpx tbl dr env x H O fun vs H O => wpx tbl dr env xs H O fun ws H O => Q (vs ++ ws) H O := rfl
@[go_sem] theorem wx_v (j : Nat) : wpx tbl dr env (.v j) H O Q = Q [nth env j] H O := rfl
@[go_sem] theorem wx_m (j : Nat) : wpx tbl dr env (.m j) H O Q = Q [nth env j] H O := rfl
@[go_sem] theorem wx_c (a : AV) : wpx tbl dr env (.c a) H O Q = Q [a] H O := rfl
@[go_sem] theorem wx_k (n : Nat) : wpx tbl dr env (.k n) H O Q = Q [.int .i64 n] H O := rfl
@[go_sem] theorem wx_cm (a : AV) : wpx tbl dr env (.cm a) H O Q = Q [a] H O := rfl
@[go_sem] theorem wx_op (o : AOp) (xs : X) : wpx tbl dr env (.op o xs) H O Q = wpx tbl dr env xs H O fun vs H O => wpo tbl dr o vs H O fun v H O => Q [v] H O := rfl
@[go_sem] theorem wx_mr (x : X) : wpx tbl dr env (.mr x) H O Q = wpx tbl dr env x H O fun vs H O => Q [vs.headD .und] H O := rfl
@[go_sem] theorem wx_tup (is : List Nat) (x : X) : wpx tbl dr env (.tup is x) H O Q = wpx tbl dr env x H O fun vs H O => opt (tupL (vs.headD .und) is) fun ws => Q ws H O := rfl
@[go_sem] theorem wx_or (x y : X) : wpx tbl dr env (.or x y) H O Q = wpx tbl dr env x H O fun vs H O => bcase (vs.headD .und) (Q [.bool true] H O) (wpx tbl dr env y H O fun ws H O => Q [ws.headD .und] H O) := rfl
@[go_sem] theorem wx_and (x y : X) : wpx tbl dr env (.and x y) H O Q = wpx tbl dr env x H O fun vs H O => bcase (vs.headD .und) (wpx tbl dr env y H O fun ws H O => Q [ws.headD .und] H O) (Q [.bool false] H O) := rfl
@[go_sem] theorem wx_adr (j : Nat) : wpx tbl dr env (.adr j) H O Q = (isAgg (nth env j) = true ∧ Q [.ptr j 0] H O) := rfl
@[go_sem] theorem wx_lv (o : AOp) (x : X) : wpx tbl dr env (.lv o x) H O Q = wpx tbl dr env x H O fun vs H O => opt (lva env (vs.headD .und)) fun cs => opt (lvV o cs) fun v => Q [v] H O := rfl
@[go_sem] theorem wx_at (n : Nat) (x : X) : wpx tbl dr env (.at n x) H O Q = wpx tbl dr env x H O Q := rfl
@[go_sem] theorem wx_b (o : BinOp) (x y : X) : wpx tbl dr env (.b o x y) H O Q = wpx tbl dr env x H O fun vs H O => wpx tbl dr env y H O fun ws H O => opt (pureV (.bin o hh hh) (vs ++ ws)) fun v => Q [v] H O := rfl
@[go_sem] theorem wx_ln (s : Bool) (x : X) : wpx tbl dr env (.ln s x) H O Q = wpx tbl dr env x H O fun vs H O => opt (pureV (.len s hh) vs) fun v => Q [v] H O := rfl
@[go_sem] theorem wx_u (o : UnOp) (x : X) : wpx tbl dr env (.u o x) H O Q = wpx tbl dr env x H O fun vs H O => opt (pureV (.un o hh) vs) fun v => Q [v] H O := rfl
@[go_sem] theorem wx_cv (o : CK) (x : X) : wpx tbl dr env (.cv o x) H O Q = wpx tbl dr env x H O fun vs H O => opt (pureV (.cv o hh) vs) fun v => Q [v] H O := rfl
@[go_sem] theorem wx_ca (f : Nat) (xs : X) : wpx tbl dr env (.ca f xs) H O Q = wpx tbl dr env xs H O fun vs H O => wCall tbl dr f vs H O fun v H O => Q [v] H O := rfl
@[go_sem] theorem wx_ap (e b : Nat) (z : AV) (x y : X) : wpx tbl dr env (.ap e b z x y) H O Q = wpx tbl dr env x H O fun vs H O => wpx tbl dr env y H O fun ws H O => opt (fillS .nil e [z] (fillP2 [(0, hh)] (ws.map .c))) fun l => ∀ id, wApp e b z ((vs ++ [AV.sl id e 0 1 false 0 l]).getD 0 .und) ((vs ++ [AV.sl id e 0 1 false 0 l]).getD 1 .und) H O fun v H O => Q [v] H O := rfl

section
variable {vs : List AV} {P : AV → Heap → Rows → Prop} (a b c : Opd) (n m e : Nat)
@[go_sem] theorem wo_eqs (ty : ETy) (g : Bool) : wpo tbl dr (.eqs ty g a b) vs H O P = opt (pureV (.eqs ty g a b) vs) fun v => P v H O := rfl
@[go_sem] theorem wo_eqk (k : EK) (g : Bool) : wpo tbl dr (.eqk k g a b) vs H O P = opt (pureV (.eqk k g a b) vs) fun v => P v H O := rfl
@[go_sem] theorem wo_mv : wpo tbl dr (.mv a) vs H O P = opt (pureV (.mv a) vs) fun v => P v H O := rfl
@[go_sem] theorem wo_build (z : List AV) (ps : List (Nat × Nat × Opd)) : wpo tbl dr (.build z ps) vs H O P = opt (pureV (.build z ps) vs) fun v => P v H O := rfl
@[go_sem] theorem wo_nilck : wpo tbl dr (.nilck a) vs H O P = opt (pureV (.nilck a) vs) fun v => P v H O := rfl
@[go_sem] theorem wo_bin (o : BinOp) : wpo tbl dr (.bin o a b) vs H O P = opt (pureV (.bin o a b) vs) fun v => P v H O := rfl
@[go_sem] theorem wo_mkfn (l l' : List Opd) : wpo tbl dr (.mkfn n l l') vs H O P = opt (pureV (.mkfn n l l') vs) fun v => P v H O := rfl
@[go_sem] theorem wo_slS (l h : Option Opd) : wpo tbl dr (.slS a l h) vs H O P = opt (pureV (.slS a l h) vs) fun v => P v H O := rfl
@[go_sem] theorem wo_slL (l h x : Option Opd) : wpo tbl dr (.slL e a l h x) vs H O P = opt (pureV (.slL e a l h x) vs) fun v => P v H O := rfl
@[go_sem] theorem wo_faddr : wpo tbl dr (.faddr n a) vs H O P = opt (pureV (.faddr n a) vs) fun v => P v H O := rfl
@[go_sem] theorem wo_iaddr : wpo tbl dr (.iaddr e a b) vs H O P = opt (pureV (.iaddr e a b) vs) fun v => P v H O := rfl
@[go_sem] theorem wo_iaddrA : wpo tbl dr (.iaddrA n e a b) vs H O P = opt (pureV (.iaddrA n e a b) vs) fun v => P v H O := rfl
@[go_sem] theorem wo_fld1 : wpo tbl dr (.fld1 n a) vs H O P = opt (pureV (.fld1 n a) vs) fun v => P v H O := rfl
@[go_sem] theorem wo_fldA : wpo tbl dr (.fldA n m a) vs H O P = opt (pureV (.fldA n m a) vs) fun v => P v H O := rfl
@[go_sem] theorem wo_idxS : wpo tbl dr (.idxS a b) vs H O P = opt (pureV (.idxS a b) vs) fun v => P v H O := rfl
@[go_sem] theorem wo_idx1 : wpo tbl dr (.idx1 n a b) vs H O P = opt (pureV (.idx1 n a b) vs) fun v => P v H O := rfl
@[go_sem] theorem wo_idxA : wpo tbl dr (.idxA n e a b) vs H O P = opt (pureV (.idxA n e a b) vs) fun v => P v H O := rfl
@[go_sem] theorem wo_ext : wpo tbl dr (.ext a n) vs H O P = opt (pureV (.ext a n) vs) fun v => P v H O := rfl
@[go_sem] theorem wo_len (g : Bool) : wpo tbl dr (.len g a) vs H O P = opt (pureV (.len g a) vs) fun v => P v H O := rfl
@[go_sem] theorem wo_cv (k : CK) : wpo tbl dr (.cv k a) vs H O P = opt (pureV (.cv k a) vs) fun v => P v H O := rfl
@[go_sem] theorem wo_un (k : UnOp) : wpo tbl dr (.un k a) vs H O P = opt (pureV (.un k a) vs) fun v => P v H O := rfl
@[go_sem] theorem wo_cpx : wpo tbl dr (.cpx a b) vs H O P = opt (pureV (.cpx a b) vs) fun v => P v H O := rfl
@[go_sem] theorem wo_re : wpo tbl dr (.re a) vs H O P = opt (pureV (.re a) vs) fun v => P v H O := rfl
@[go_sem] theorem wo_im : wpo tbl dr (.im a) vs H O P = opt (pureV (.im a) vs) fun v => P v H O := rfl
@[go_sem] theorem wo_mnx (g : Bool) : wpo tbl dr (.mnx g a b) vs H O P = opt (pureV (.mnx g a b) vs) fun v => P v H O := rfl
@[go_sem] theorem wo_ixb : wpo tbl dr (.ixb a b) vs H O P = opt (pureV (.ixb a b) vs) fun v => P v H O := rfl
@[go_sem] theorem wo_call (l : List Opd) : wpo tbl dr (.call n l) vs H O P = wCall tbl dr n vs H O P := rfl
@[go_sem] theorem wo_calld (l : List Opd) : wpo tbl dr (.calld a l) vs H O P = wCalld tbl dr (vs.getD 0 .und) vs.tail H O P := rfl
@[go_sem] theorem wo_app (z : AV) : wpo tbl dr (.app e n z a b) vs H O P = wApp e n z (vs.getD 0 .und) (vs.getD 1 .und) H O P := rfl
@[go_sem] theorem wo_box : wpo tbl dr (.box a) vs H O P = ((vs.getD 0 .und).known = true ∧ wNew (vs.getD 0 .und).cells H O P) := rfl
@[go_sem] theorem wo_alloc (z : List AV) : wpo tbl dr (.alloc z) vs H O P = wNew z H O P := rfl
@[go_sem] theorem wo_st : wpo tbl dr (.st n a b) vs H O P = wSt n (vs.getD 0 .und) (vs.getD 1 .und) H O P := rfl
@[go_sem] theorem wo_buildS (z : AV) (ps : List (Nat × Opd)) : wpo tbl dr (.buildS e n z ps) vs H O P = opt (fillS .nil e (List.replicate n z) (fillP2 ps (vs.map .c))) fun l => ∀ id, P (.sl id e 0 n false 0 l) H O := rfl
@[go_sem] theorem wCalld_fn (f : Nat) (l l' ws : List AV) : wCalld tbl dr (.fn f l l') ws H O P = wCall tbl dr f (l ++ ws ++ l') H O P := rfl
end
@[go_sem] theorem pureV_mv (a : AV) : pureV (.mv hh) [a] = some a := rfl
@[go_sem] theorem pureV_extv (i : Nat) (l : List AV) : pureV (.ext hh i) [.tup l] = l[i]? := pureV_ext l i

theorem pureV_iaddr1 (e : Nat) (vs : List AV) : pureV (.iaddr e hh hh) vs = pureV (.iaddr e hh hh) [vs.getD 0 .und, vs.getD 1 .und] := by
  show (opIaddr e ((vs.map Opd.c).getD 0 hh) ((vs.map Opd.c).getD 1 hh) noCall .nil ⟨0, [], []⟩).val = (opIaddr e (.c (vs.getD 0 .und)) (.c (vs.getD 1 .und)) noCall .nil ⟨0, [], []⟩).val
  unfold opIaddr
  rw [show ((vs.map Opd.c).getD 0 hh).get .nil = vs.getD 0 .und from by cases vs <;> rfl, show ((vs.map Opd.c).getD 1 hh).get .nil = vs.getD 1 .und from by cases vs with | nil => rfl | cons _ l => cases l <;> rfl]
  rfl

theorem opt_opt {α β : Type} (x : Option α) (f : α → Option β) (P : β → Prop) : opt (x.bind f) P = opt x fun a => opt (f a) P := by cases x <;> rfl

theorem ld1_opt (H : Heap) (p : AV) (P : AV → Heap → Rows → Prop) : (wpo tbl dr (.ld1 hh) [p] H O P) = opt (hread H p) fun cs => opt (lvV (.ld1 hh) cs) fun v => P v H O := rfl
theorem ldA_opt (n : Nat) (H : Heap) (p : AV) (P : AV → Heap → Rows → Prop) : (wpo tbl dr (.ldA n hh) [p] H O P) = opt (hread H p) fun cs => opt (lvV (.ldA n hh) cs) fun v => P v H O := by
  show opt (hread H p) (fun cs => n ≤ cs.length ∧ P (.agg (cs.take n)) H O) = _
  congr 1
  funext cs
  simp only [lvV]
  split
  · rename_i h; simp [opt, h]
  · rename_i h; simp [opt, h]

@[go_sem] theorem wx_ix1 (e : Nat) (x i : X) : wpx tbl dr env (.ix (.ld1 hh) e x i) H O Q = wpx tbl dr env x H O fun vs H O => wpx tbl dr env i H O fun ws H O => ixv (.ld1 hh) e ((vs ++ ws).getD 0 .und) ((vs ++ ws).getD 1 .und) H fun v => Q [v] H O := by
  show wpx tbl dr env x H O _ = _
  congr 1; funext vs H O
  show wpx tbl dr env i H O _ = _
  congr 1; funext ws H O
  show opt (pureV (.iaddr e hh hh) (vs ++ ws)) _ = _
  rw [pureV_iaddr1]
  rfl
@[go_sem] theorem wx_ixA (n e : Nat) (x i : X) : wpx tbl dr env (.ix (.ldA n hh) e x i) H O Q = wpx tbl dr env x H O fun vs H O => wpx tbl dr env i H O fun ws H O => ixv (.ldA n hh) e ((vs ++ ws).getD 0 .und) ((vs ++ ws).getD 1 .und) H fun v => Q [v] H O := by
  show wpx tbl dr env x H O _ = _
  congr 1; funext vs H O
  show wpx tbl dr env i H O _ = _
  congr 1; funext ws H O
  show opt (pureV (.iaddr e hh hh) (vs ++ ws)) _ = _
  rw [pureV_iaddr1]
  unfold ixv
  congr 1
  funext p
  exact ldA_opt n H p _

theorem pureV_nilck (vs : List AV) : pureV (.nilck hh) vs = match vs.getD 0 .und with | .ptr y o => some (.ptr y o) | .eptr cs => some (.eptr cs) | .fn g a b => some (.fn g a b) | _ => none := by
  show (opNilck ((vs.map Opd.c).getD 0 hh) noCall .nil ⟨0, [], []⟩).val = _
  unfold opNilck
  rw [show ((vs.map Opd.c).getD 0 hh).get .nil = vs.getD 0 .und from by cases vs <;> rfl]
  cases vs.getD 0 .und <;> rfl

theorem pureV_faddr_e (off : Nat) (cs : List AV) : pureV (.faddr off hh) [.eptr cs] = match cs.drop off with | [] => none | c :: l => some (.eptr (c :: l)) := by
  show (opFaddr off (.c (.eptr cs)) noCall .nil ⟨0, [], []⟩).val = _
  unfold opFaddr
  show (match cs.drop off with | [] => OR.fail | c :: cs' => .ok (.eptr (c :: cs')) ⟨0, [], []⟩).val = _
  cases cs.drop off <;> rfl

theorem pf_eq {o : AOp} (ho : ∀ p P, (wpo tbl dr o [p] H O P) = opt (hread H p) fun cs => opt (lvV o cs) fun v => P v H O) (hn : lvV o [] = none) (off : Nat) (vs : List AV) (P : AV → Heap → Rows → Prop) :
    (opt (pureV (.nilck hh) vs) fun a => opt (pureV (.faddr off hh) [a]) fun p => wpo tbl dr o [p] H O P) = pfv o off (vs.headD .und) H fun v => P v H O := by
  rw [pureV_nilck, show vs.getD 0 .und = vs.headD .und from by cases vs <;> rfl]
  cases vs.headD .und with
  | ptr y n =>
    show (wpo tbl dr o [.ptr y (n + off)] H O P) = _
    rw [ho]
    simp only [hread, pfv]
    cases hl : look y H with
    | none => rfl
    | some c => cases c <;> rfl
  | eptr cs =>
    show (opt (pureV (.faddr off hh) [.eptr cs]) fun p => wpo tbl dr o [p] H O P) = _
    rw [pureV_faddr_e]
    simp only [pfv]
    cases hd : cs.drop off with
    | nil => simp only [opt]; rw [hn]
    | cons c l => show (wpo tbl dr o [.eptr (c :: l)] H O P) = _; rw [ho]; rfl
  | fn f a b => rfl
  | _ => rfl

@[go_sem] theorem wx_pf1 (off : Nat) (x : X) : wpx tbl dr env (.pf (.ld1 hh) off x) H O Q = wpx tbl dr env x H O fun vs H O => pfv (.ld1 hh) off (vs.headD .und) H fun v => Q [v] H O := by
  show wpx tbl dr env x H O _ = _
  congr 1; funext vs H O
  exact pf_eq (fun p P => rfl) rfl off vs _
@[go_sem] theorem wx_pfA (n off : Nat) (x : X) (hn : n ≠ 0) : wpx tbl dr env (.pf (.ldA n hh) off x) H O Q = wpx tbl dr env x H O fun vs H O => pfv (.ldA n hh) off (vs.headD .und) H fun v => Q [v] H O := by
  show wpx tbl dr env x H O _ = _
  congr 1; funext vs H O
  exact pf_eq (fun p P => ldA_opt n H p P) (by simp [lvV, hn]) off vs _

@[go_sem] theorem opt_some {α : Type} (a : α) (Q : α → Prop) : opt (some a) Q = Q a := propext ⟨fun h => h, fun h => h⟩
theorem lva_agg {env : List AV} {j off : Nat} {cs : List AV} (h : nth env j = .agg cs) : lva env (.ptr j off) = some (cs.drop off) := by
  unfold lva
  simp only
  rw [h]

@[go_sem] theorem wx_lw (o : AOp) (j : Nat) : wpx tbl dr env (.lw o j) H O Q = lfv o 0 (nth env j) fun v => Q [v] H O := by
  show (isAgg (nth env j) = true ∧ opt (lva env (.ptr j 0)) fun cs => opt (lvV o cs) fun v => Q [v] H O) = _
  cases h : nth env j with
  | agg cs => exact propext ⟨fun hh => by have h2 := hh.2; rw [lva_agg h] at h2; exact h2, fun hh => ⟨rfl, by rw [lva_agg h]; exact hh⟩⟩
  | _ => exact propext ⟨fun hh => (nomatch hh.1), fun hh => hh.elim⟩
@[go_sem] theorem wx_lf (o : AOp) (off j : Nat) : wpx tbl dr env (.lf o off j) H O Q = lfv o off (nth env j) fun v => Q [v] H O := by
  show (isAgg (nth env j) = true ∧ opt (pureV (.faddr off hh) [.ptr j 0]) fun a => opt (lva env a) fun cs => opt (lvV o cs) fun v => Q [v] H O) = _
  rw [show pureV (.faddr off hh) [.ptr j 0] = some (.ptr j (0 + off)) from rfl]
  cases h : nth env j with
  | agg cs => exact propext ⟨fun hh => by have h2 := hh.2; rw [opt_some, lva_agg h, Nat.zero_add] at h2; exact h2, fun hh => ⟨rfl, by rw [opt_some, lva_agg h, Nat.zero_add]; exact hh⟩⟩
  | _ => exact propext ⟨fun hh => (nomatch hh.1), fun hh => hh.elim⟩

end

section
variable {tbl : Nat → Option AFunc} {dr : Bool} {vs : List AV} {env : List AV} {H : Heap} {O : Rows} {K : List AV → Heap → Rows → Prop} {Q : XR → Prop}

@[go_sem] theorem ww_nil : wpW tbl dr vs [] env H O K = K env H O := rfl
@[go_sem] theorem ww_mv (j k : Nat) (ws : List W) : wpW tbl dr vs (.mv j k :: ws) env H O K = wpW tbl dr vs ws (put env j (nth vs k)) H O K := rfl
@[go_sem] theorem ww_wo (j : Nat) (o : AOp) (ks : List Nat) (ws : List W) : wpW tbl dr vs (.wo j o ks :: ws) env H O K = wpo tbl dr o (ks.map (nth vs)) H O fun v H O => wpW tbl dr vs ws (put env j v) H O K := rfl
@[go_sem] theorem ww_wx (o : AOp) (ks : List Nat) (ws : List W) : wpW tbl dr vs (.wx o ks :: ws) env H O K = wpo tbl dr o (ks.map (nth vs)) H O fun _ H O => wpW tbl dr vs ws env H O K := rfl
@[go_sem] theorem ww_ba (j : Nat) (z : List AV) (ws : List W) : wpW tbl dr vs (.ba j z :: ws) env H O K = wpW tbl dr vs ws (put env j (.agg z)) H O K := rfl
@[go_sem] theorem ww_bb (j k : Nat) (ws : List W) : wpW tbl dr vs (.bb j k :: ws) env H O K = ((nth vs k).known = true ∧ wpW tbl dr vs ws (put env j (.agg (nth vs k).cells)) H O K) := rfl
@[go_sem] theorem ww_bs (n j k : Nat) (ws : List W) : wpW tbl dr vs (.bs n j k :: ws) env H O K = opt (bst (nth env j) 0 n (nth vs k)) fun a => wpW tbl dr vs ws (put env j a) H O K := rfl
@[go_sem] theorem ww_bt (n ka k : Nat) (ws : List W) : wpW tbl dr vs (.bt n ka k :: ws) env H O K = bstp env (nth vs ka) n (nth vs k) fun env => wpW tbl dr vs ws env H O K := rfl
@[go_sem] theorem ww_bl (j : Nat) (o : AOp) (ka : Nat) (ws : List W) : wpW tbl dr vs (.bl j o ka :: ws) env H O K = opt (lva env (nth vs ka)) fun cs => opt (lvV o cs) fun v => wpW tbl dr vs ws (put env j v) H O K := rfl
@[go_sem] theorem ww_br (j : Nat) (o : AOp) (b : Nat) (ws : List W) : wpW tbl dr vs (.br j o b :: ws) env H O K = opt (aggL (nth env b)) fun cs => opt (lvV o cs) fun v => wpW tbl dr vs ws (put env j v) H O K := rfl
@[go_sem] theorem wg_nil : wpG tbl dr [] env H O K = K env H O := rfl
@[go_sem] theorem wg_cons (n : Nat) (xs : X) (ws : List W) (gs : List Grp) : wpG tbl dr (⟨n, xs, ws⟩ :: gs) env H O K = wpx tbl dr env xs H O fun vs H O => wpW tbl dr vs ws env H O fun env H O => wpG tbl dr gs env H O K := rfl

@[go_sem] theorem wc_skip : wpc tbl .skip env H O Q = Q (.norm env H O) := rfl
@[go_sem] theorem wc_ret : wpc tbl .ret env H O Q = Q (.ret env H O) := rfl
@[go_sem] theorem wc_exit (id : Nat) : wpc tbl (.exit id) env H O Q = Q (.exit id env H O) := rfl
@[go_sem] theorem wc_reg (gs : List Grp) : wpc tbl (.reg gs) env H O Q = wpG tbl false gs env H O fun env H O => Q (.norm env H O) := rfl
@[go_sem] theorem wc_regd (r : Nat) (mk : List Nat) (gs : List Grp) : wpc tbl (.regd r mk gs) env H O Q = wpG tbl true gs env H O fun env H O => Q (.norm env H O) := rfl
@[go_sem] theorem wc_ife (gs : List Grp) (n : Nat) (x : X) (a b : XC) : wpc tbl (.ife gs n x a b) env H O Q = wpG tbl false gs env H O fun env H O => wpx tbl false env x H O fun vs H O => bcase (vs.headD .und) (wpc tbl a env H O Q) (wpc tbl b env H O Q) := rfl
@[go_sem] theorem wc_ifd (r : Nat) (mk : List Nat) (gs : List Grp) (n : Nat) (x : X) (a b : XC) : wpc tbl (.ifd r mk gs n x a b) env H O Q = wpG tbl true gs env H O fun env H O => wpx tbl true env x H O fun vs H O => bcase (vs.headD .und) (wpc tbl a env H O Q) (wpc tbl b env H O Q) := rfl
@[go_sem] theorem wc_cnd (j : Nat) (a b : XC) : wpc tbl (.cnd j a b) env H O Q = bcase (nth env j) (wpc tbl a env H O Q) (wpc tbl b env H O Q) := rfl
@[go_sem] theorem wc_seq (a b : XC) : wpc tbl (.seq a b) env H O Q = wpc tbl a env H O (seqK (wpc tbl b) Q) := rfl
@[go_sem] theorem wc_block (id : Nat) (b : XC) : wpc tbl (.block id b) env H O Q = wpc tbl b env H O (blkK id Q) := rfl
@[go_sem] theorem wc_loop (b : XC) : wpc tbl (.loop b) env H O Q = wLoop (wpc tbl b) env H O Q := rfl

@[go_sem] theorem seqK_norm (wb : List AV → Heap → Rows → (XR → Prop) → Prop) : seqK wb Q (.norm env H O) = wb env H O Q := rfl
@[go_sem] theorem seqK_exit (wb : List AV → Heap → Rows → (XR → Prop) → Prop) (i : Nat) : seqK wb Q (.exit i env H O) = Q (.exit i env H O) := rfl
@[go_sem] theorem seqK_ret (wb : List AV → Heap → Rows → (XR → Prop) → Prop) : seqK wb Q (.ret env H O) = Q (.ret env H O) := rfl
@[go_sem] theorem blkK_norm (id : Nat) : blkK id Q (.norm env H O) = Q (.norm env H O) := rfl
@[go_sem] theorem blkK_exit (id i : Nat) : blkK id Q (.exit i env H O) = if i = id then Q (.norm env H O) else Q (.exit i env H O) := by
  unfold blkK
  by_cases h : i = id
  · simp only; rw [beq_true h, if_pos h]
  · simp only; rw [beq_false h, if_neg h]
@[go_sem] theorem blkK_ret (id : Nat) : blkK id Q (.ret env H O) = Q (.ret env H O) := rfl
@[go_sem] theorem loopK_norm (I : List AV → Heap → Rows → Prop) : loopK I Q (.norm env H O) = I env H O := rfl
@[go_sem] theorem loopK_exit (I : List AV → Heap → Rows → Prop) (i : Nat) : loopK I Q (.exit i env H O) = Q (.exit i env H O) := rfl
@[go_sem] theorem loopK_ret (I : List AV → Heap → Rows → Prop) : loopK I Q (.ret env H O) = Q (.ret env H O) := rfl
@[go_sem] theorem retK_norm (x : XF) (H0 : Heap) (O0 : Rows) (P : AV → Heap → Rows → Prop) : retK x H0 O0 P (.norm env H O) = wRet x H0 O0 P env H O := rfl
@[go_sem] theorem retK_ret (x : XF) (H0 : Heap) (O0 : Rows) (P : AV → Heap → Rows → Prop) : retK x H0 O0 P (.ret env H O) = wRet x H0 O0 P env H O := rfl
@[go_sem] theorem retK_exit (x : XF) (H0 : Heap) (O0 : Rows) (P : AV → Heap → Rows → Prop) (i : Nat) : retK x H0 O0 P (.exit i env H O) = False := rfl

end

@[go_sem] theorem opt_none {α : Type} (Q : α → Prop) : opt none Q = False := rfl
@[go_sem] theorem bcase_bool (b : Bool) (P R : Prop) : bcase (.bool b) P R = ((b = true → P) ∧ (b = false → R)) := by cases b <;> simp [bcase]
@[go_sem] theorem nth_cons_zero (a : AV) (l : List AV) : nth (a :: l) 0 = a := rfl
@[go_sem] theorem nth_cons_succ (a : AV) (l : List AV) (n : Nat) : nth (a :: l) (n + 1) = nth l n := rfl
@[go_sem] theorem put_cons_zero (a v : AV) (l : List AV) : put (a :: l) 0 v = v :: l := rfl
@[go_sem] theorem put_cons_succ (a v : AV) (l : List AV) (n : Nat) : put (a :: l) (n + 1) v = a :: put l n v := rfl
@[go_sem] theorem pureV_bin (o : BinOp) (a b : AV) : pureV (.bin o hh hh) [a, b] = avBin o a b := by
  show (OR.ofOption (⟨0, [], []⟩ : T) (avBin o a b)).val = _
  cases avBin o a b <;> rfl
@[go_sem] theorem pureV_un (o : UnOp) (a : AV) : pureV (.un o hh) [a] = avUn o a := by
  show (OR.ofOption (⟨0, [], []⟩ : T) (avUn o a)).val = _
  cases avUn o a <;> rfl
@[go_sem] theorem pureV_cv (o : CK) (a : AV) : pureV (.cv o hh) [a] = avCv o a := by
  show (OR.ofOption (⟨0, [], []⟩ : T) (avCv o a)).val = _
  cases avCv o a <;> rfl
def avLen (s : Bool) (a : AV) : Option AV := (opLen s (.c a) noCall .nil ⟨0, [], []⟩).val
@[go_sem] theorem pureV_len (s : Bool) (a : AV) : pureV (.len s hh) [a] = avLen s a := rfl
@[go_sem] theorem avLen_str (s : List UInt8) : avLen true (.str s) = some (.int .i64 s.length) := rfl

end

end M2
end
section
/- Compiled functions as code over variables, printed by a program of mine. -/
namespace M2
open Go
noncomputable section

def x27l0 : XC := .seq (.ife [] 5 (.b .lss (.m 3) (.ln false (.m 0))) .skip (.exit 0)) (.seq (.block 1 (.reg [⟨11, (.ap 4 40 (.agg [.int .i64 (.ofNat 0), .str [], .int .i64 (.ofNat 0), .int .i64 (.ofNat 0)]) (.m 2) (.ix (.ldA 4 hh) 4 (.m 0) (.m 3))), [.mv 2 0]⟩])) (.reg [⟨9, (.b .add (.m 3) (.k 1)), [.mv 3 0]⟩]))
def x27 : XF := ⟨5, [0, 2, 3, 4], [false, false, false, false], 1, [(1, none)], false, (.seq (.reg [⟨0, (.c .nils), [.mv 1 0]⟩]) (.seq (.reg [⟨0, (.c .nils), [.mv 2 0]⟩]) (.seq (.seq (.reg [⟨0, (.k 0), [.mv 3 0]⟩]) (.block 0 (.loop x27l0))) (.seq (.reg [⟨18, (.m 2), [.mv 1 0]⟩]) .ret))))⟩
theorem w27 : wfF x27 = true := by decide +kernel
def x33l0 : XC := .seq (.ife [] 4 (.and (.b .lss (.m 2) (.ln false (.m 0))) (.b .leq (.m 2) (.k 40))) .skip (.exit 0)) (.seq (.block 1 (.ife [] 14 (.u .not (.ca 56 (.ix (.ldA 4 hh) 4 (.m 0) (.m 2)))) (.seq (.reg [⟨0, (.c (.bool false)), [.mv 1 0]⟩]) .ret) .skip)) (.reg [⟨12, (.b .add (.m 2) (.k 1)), [.mv 2 0]⟩]))
def x33 : XF := ⟨5, [0, 2, 3], [false, false, false], 1, [(1, none)], false, (.seq (.reg [⟨0, (.c (.bool false)), [.mv 1 0]⟩]) (.seq (.seq (.reg [⟨0, (.k 0), [.mv 2 0]⟩]) (.block 0 (.loop x33l0))) (.seq (.reg [⟨20, (.b .leq (.ln false (.m 0)) (.k 40)), [.mv 1 0]⟩]) .ret)))⟩
theorem w33 : wfF x33 = true := by decide +kernel
def x38l0 : XC := .seq (.ife [] 11 (.b .lss (.m 3) (.ln false (.m 0))) .skip (.exit 0)) (.seq (.block 1 (.ifd 8 [] [] 17 (.op (.eqs (.st [(0, (1, (false, .int))), (1, (1, (false, .str))), (2, (1, (false, .int))), (3, (1, (false, .int)))]) true hh hh) (.cons (.ix (.ldA 4 hh) 4 (.m 0) (.m 3)) (.ix (.ldA 4 hh) 4 (.m 1) (.m 3)))) (.seq (.reg [⟨0, (.c (.bool false)), [.mv 2 0]⟩]) .ret) .skip)) (.reg [⟨15, (.b .add (.m 3) (.k 1)), [.mv 3 0]⟩]))
def x38 : XF := ⟨5, [0, 1, 4, 5], [false, false, false, false], 2, [(2, none)], false, (.seq (.reg [⟨0, (.c (.bool false)), [.mv 2 0]⟩]) (.seq (.ife [] 6 (.b .neq (.ln false (.m 0)) (.ln false (.m 1))) (.seq (.reg [⟨0, (.c (.bool false)), [.mv 2 0]⟩]) .ret) .skip) (.seq (.seq (.reg [⟨0, (.k 0), [.mv 3 0]⟩]) (.block 0 (.loop x38l0))) (.seq (.reg [⟨0, (.c (.bool true)), [.mv 2 0]⟩]) .ret))))⟩
theorem w38 : wfF x38 = true := by decide +kernel
def x47l0 : XC := .seq (.ife [] 13 (.and (.b .lss (.m 4) (.ln false (.lf (.ld1 hh) 1 1))) (.b .lss (.m 3) (.k 1048576))) .skip (.exit 0)) (.seq (.block 1 (.reg [⟨24, (.b .add (.m 3) (.ca 59 (.ix (.ld1 hh) 1 (.lf (.ld1 hh) 1 1) (.m 4)))), [.mv 3 0]⟩])) (.reg [⟨22, (.b .add (.m 4) (.k 1)), [.mv 4 0]⟩]))
def x47 : XF := ⟨6, [0, 1, 2, 3, 4], [false, true, false, false, false], 1, [(2, none)], false, (.seq (.reg [⟨0, (.cons (.v 0) (.c (.bool false))), [.bb 1 0, .mv 2 1]⟩]) (.seq (.regd 7 [] [⟨5, (.b .add (.ln false (.lf (.ld1 hh) 1 1)) (.b .quo (.ca 58 (.lf (.ld1 hh) 0 1)) (.k 8))), [.mv 3 0]⟩]) (.seq (.seq (.reg [⟨0, (.k 0), [.mv 4 0]⟩]) (.block 0 (.loop x47l0))) (.seq (.reg [⟨32, (.b .gtr (.m 3) (.k 900)), [.mv 2 0]⟩]) .ret))))⟩
theorem w47 : wfF x47 = true := by decide +kernel
def x48l0 : XC := .seq (.ife [] 10 (.b .lss (.m 4) (.ln true (.m 0))) .skip (.exit 0)) (.seq (.block 1 (.ife [] 16 (.b .eql (.op (.idxS hh hh) (.cons (.m 0) (.m 4))) (.c (.int .u8 (.ofNat 10)))) (.seq (.reg [⟨0, (.cons (.c .nils) (.cons (.k 0) (.k 3))), [.mv 1 0, .mv 2 1, .mv 3 2]⟩]) .ret) .skip)) (.reg [⟨14, (.b .add (.m 4) (.k 1)), [.mv 4 0]⟩]))
def x48l1 : XC := .seq (.ife [] 20 (.and (.b .lss (.m 6) (.ln true (.m 0))) (.b .neq (.op (.idxS hh hh) (.cons (.m 0) (.m 6))) (.c (.int .u8 (.ofNat 59))))) .skip (.exit 2)) (.block 3 (.seq (.ife [] 30 (.or (.b .eql (.op (.idxS hh hh) (.cons (.m 0) (.m 6))) (.c (.int .u8 (.ofNat 32)))) (.b .eql (.op (.idxS hh hh) (.cons (.m 0) (.m 6))) (.c (.int .u8 (.ofNat 9))))) (.seq (.reg [⟨40, (.b .add (.m 6) (.k 1)), [.mv 6 0]⟩]) (.exit 3)) .skip) (.seq (.reg [⟨42, (.tup [0, 1] (.ca 60 (.op (.slS hh (some hh) none) (.cons (.m 0) (.m 6))))), [.ba 7 [.int .i64 (.ofNat 0), .str [], .int .i64 (.ofNat 0), .int .i64 (.ofNat 0)], .bs 4 7 0, .mv 8 1]⟩]) (.seq (.ife [] 49 (.b .eql (.m 8) (.k 0)) (.seq (.reg [⟨51, (.cons (.m 6) (.cons (.c .nils) (.k 3))), [.mv 1 1, .mv 2 0, .mv 3 2]⟩]) .ret) .skip) (.seq (.ife [] 52 (.b .geq (.ln false (.m 5)) (.k 40)) (.seq (.reg [⟨55, (.cons (.m 6) (.cons (.c .nils) (.k 2))), [.mv 1 1, .mv 2 0, .mv 3 2]⟩]) .ret) .skip) (.seq (.reg [⟨56, (.cons (.m 6) (.op (.faddr 3 hh) (.adr 7))), [.bt 1 1 0]⟩]) (.seq (.reg [⟨58, (.ap 4 40 (.agg [.int .i64 (.ofNat 0), .str [], .int .i64 (.ofNat 0), .int .i64 (.ofNat 0)]) (.m 5) (.lw (.ldA 4 hh) 7)), [.mv 5 0]⟩]) (.reg [⟨62, (.b .add (.m 6) (.m 8)), [.mv 6 0]⟩]))))))))
def x48 : XF := ⟨7, [0, 2, 3, 4, 5, 6, 7, 8, 9], [false, false, false, false, false, false, false, true, false], 1, [(1, none), (2, none), (3, none)], false, (.seq (.reg [⟨0, (.cons (.c .nils) (.cons (.k 0) (.k 0))), [.mv 1 0, .mv 2 1, .mv 3 2]⟩]) (.seq (.seq (.reg [⟨0, (.k 0), [.mv 4 0]⟩]) (.block 0 (.loop x48l0))) (.seq (.reg [⟨0, (.c .nils), [.mv 5 0]⟩]) (.seq (.seq (.reg [⟨0, (.k 0), [.mv 6 0]⟩]) (.block 2 (.loop x48l1))) (.seq (.reg [⟨65, (.cons (.m 5) (.cons (.k 0) (.k 0))), [.mv 1 0, .mv 2 1, .mv 3 2]⟩]) .ret)))))⟩
theorem w48 : wfF x48 = true := by decide +kernel
def x51 : XF := ⟨4, [0, 2], [false, false], 1, [(1, none)], false, (.seq (.reg [⟨0, (.c (.bool false)), [.mv 1 0]⟩]) (.seq (.reg [⟨3, (.and (.b .leq (.ln false (.m 0)) (.k 40)) (.u .not (.ca 64 (.cons (.m 0) (.c (.fn 65 [] [])))))), [.mv 1 0]⟩]) .ret))⟩
theorem w51 : wfF x51 = true := by decide +kernel
def x56 : XF := ⟨7, [0, 1, 2, 3, 4, 6, 22], [false, true, false, true, false, false, false], 1, [(2, none)], false, (.seq (.reg [⟨0, (.cons (.v 0) (.c (.bool false))), [.bb 1 0, .mv 2 1]⟩]) (.seq (.seq (.reg [⟨5, (.op (.faddr 0 hh) (.adr 1)), [.bl 5 (.ld1 hh) 0]⟩]) (.block 0 (.ife [] 7 (.mr (.b .eql (.v 5) (.k 2))) (.seq (.reg [⟨9, (.and (.and (.b .eql (.lf (.ld1 hh) 1 1) (.c (.str []))) (.b .geq (.lf (.ld1 hh) 2 1) (.k 0))) (.b .lss (.lf (.ld1 hh) 2 1) (.k 2147483648))), [.mv 2 0]⟩]) .ret) (.seq (.ife [⟨23, (.b .eql (.v 5) (.k 1)), [.mv 6 0]⟩] 0 (.v 6) .skip (.reg [⟨24, (.b .eql (.v 5) (.k 3)), [.mv 6 0]⟩])) (.cnd 6 (.seq (.ife [] 25 (.or (.or (.or (.or (.b .neq (.lf (.ld1 hh) 2 1) (.k 0)) (.b .eql (.lf (.ld1 hh) 1 1) (.c (.str [])))) (.b .eql (.lf (.ld1 hh) 1 1) (.c (.str [59])))) (.b .eql (.op (.idxS hh hh) (.cons (.lf (.ld1 hh) 1 1) (.k 0))) (.c (.int .u8 (.ofNat 32))))) (.b .eql (.op (.idxS hh hh) (.cons (.lf (.ld1 hh) 1 1) (.k 0))) (.c (.int .u8 (.ofNat 9))))) (.seq (.reg [⟨0, (.c (.bool false)), [.mv 2 0]⟩]) .ret) .skip) (.seq (.reg [⟨50, (.tup [0, 1] (.ca 60 (.lf (.ld1 hh) 1 1))), [.ba 3 [.int .i64 (.ofNat 0), .str [], .int .i64 (.ofNat 0), .int .i64 (.ofNat 0)], .bs 4 3 0, .mv 4 1]⟩]) (.seq (.reg [⟨56, (.and (.b .eql (.m 4) (.ln true (.lf (.ld1 hh) 1 1))) (.b .eql (.lf (.ld1 hh) 0 3) (.lf (.ld1 hh) 0 1))), [.mv 2 0]⟩]) .ret))) .skip))))) (.seq (.reg [⟨0, (.c (.bool false)), [.mv 2 0]⟩]) .ret)))⟩
theorem w56 : wfF x56 = true := by decide +kernel
def x58l0 : XC := .seq (.ife [] 7 (.and (.b .lss (.m 3) (.ln false (.m 0))) (.b .lss (.m 2) (.k 1048576))) .skip (.exit 0)) (.seq (.block 1 (.reg [⟨17, (.b .add (.m 2) (.ln true (.ix (.ld1 hh) 1 (.m 0) (.m 3)))), [.mv 2 0]⟩])) (.reg [⟨15, (.b .add (.m 3) (.k 1)), [.mv 3 0]⟩]))
def x58 : XF := ⟨5, [0, 2, 3, 4], [false, false, false, false], 1, [(1, none)], false, (.seq (.reg [⟨0, (.k 0), [.mv 1 0]⟩]) (.seq (.reg [⟨5, (.ln false (.m 0)), [.mv 2 0]⟩]) (.seq (.seq (.reg [⟨0, (.k 0), [.mv 3 0]⟩]) (.block 0 (.loop x58l0))) (.seq (.reg [⟨24, (.m 2), [.mv 1 0]⟩]) .ret))))⟩
theorem w58 : wfF x58 = true := by decide +kernel
def x59l0 : XC := .seq (.ife [] 7 (.and (.b .lss (.m 3) (.ln false (.m 0))) (.b .lss (.m 2) (.k 1048576))) .skip (.exit 0)) (.seq (.block 1 (.reg [⟨17, (.b .add (.m 2) (.b .quo (.ln true (.op (.ld1 hh) (.op (.faddr 1 hh) (.op (.iaddr 4 hh hh) (.cons (.m 0) (.m 3)))))) (.k 4))), [.mv 2 0]⟩])) (.reg [⟨15, (.b .add (.m 3) (.k 1)), [.mv 3 0]⟩]))
def x59 : XF := ⟨5, [0, 2, 3, 4], [false, false, false, false], 1, [(1, none)], false, (.seq (.reg [⟨0, (.k 0), [.mv 1 0]⟩]) (.seq (.reg [⟨5, (.ln false (.m 0)), [.mv 2 0]⟩]) (.seq (.seq (.reg [⟨0, (.k 0), [.mv 3 0]⟩]) (.block 0 (.loop x59l0))) (.seq (.reg [⟨26, (.m 2), [.mv 1 0]⟩]) .ret))))⟩
theorem w59 : wfF x59 = true := by decide +kernel
def x60l0 : XC := .seq (.ife [] 17 (.and (.b .lss (.m 3) (.ln true (.m 0))) (.or (.ca 77 (.op (.idxS hh hh) (.cons (.m 0) (.m 3)))) (.ca 78 (.op (.idxS hh hh) (.cons (.m 0) (.m 3)))))) .skip (.exit 1)) (.block 2 (.reg [⟨33, (.b .add (.m 3) (.k 1)), [.mv 3 0]⟩]))
def x60l1 : XC := .seq (.ife [] 54 (.and (.b .lss (.m 3) (.ln true (.m 0))) (.or (.ca 78 (.op (.idxS hh hh) (.cons (.m 0) (.m 3)))) (.and (.b .eql (.m 5) (.k 16)) (.ca 79 (.op (.idxS hh hh) (.cons (.m 0) (.m 3))))))) .skip (.exit 3)) (.block 4 (.reg [⟨74, (.b .add (.m 3) (.k 1)), [.mv 3 0]⟩]))
def x60l2 : XC := .seq (.reg [⟨0, (.cons (.v 12) (.v 11)), [.wo 13 (.bin .lss hh hh) [0, 1]]⟩]) (.seq (.cnd 13 .skip (.exit 5)) (.seq (.block 6 (.seq (.reg [⟨101, (.ix (.ld1 hh) 1 (.v 10) (.v 12)), [.mv 9 0]⟩]) (.ife [] 103 (.b .eql (.m 9) (.m 4)) (.seq (.reg [⟨106, (.cons (.op (.build [.int .i64 (.ofNat 0), .str [], .int .i64 (.ofNat 0), .int .i64 (.ofNat 0)] [(0, (1, hh)), (1, (1, hh))]) (.cons (.k 3) (.op (.slS hh none (some hh)) (.cons (.m 0) (.k 1))))) (.k 1)), [.bs 4 1 0, .mv 2 1]⟩]) .ret) .skip))) (.reg [⟨109, (.b .add (.v 12) (.k 1)), [.mv 12 0]⟩])))
def x60 : XF := ⟨7, [0, 2, 3, 4, 5, 6, 7, 8, 9, 11, 97, 98, 99, 100], [false, true, false, false, false, false, false, false, false, false, false, false, false, false], 1, [(1, some (4, true)), (2, none)], false, (.seq (.reg [⟨0, (.k 0), [.ba 1 [.int .i64 (.ofNat 0), .str [], .int .i64 (.ofNat 0), .int .i64 (.ofNat 0)], .mv 2 0]⟩]) (.seq (.reg [⟨0, (.k 0), [.mv 3 0]⟩]) (.seq (.reg [⟨12, (.op (.idxS hh hh) (.cons (.m 0) (.k 0))), [.mv 4 0]⟩]) (.seq (.block 0 (.ife [] 14 (.mr (.ca 77 (.m 4))) (.seq (.block 1 (.loop x60l0)) (.seq (.ife [] 35 (.b .gtr (.m 3) (.k 12)) (.seq (.reg [⟨37, (.cons (.op (.build [.int .i64 (.ofNat 0), .str [], .int .i64 (.ofNat 0), .int .i64 (.ofNat 0)] []) .nil) (.k 0)), [.bs 4 1 0, .mv 2 1]⟩]) .ret) .skip) (.seq (.reg [⟨38, (.cons (.op (.build [.int .i64 (.ofNat 0), .str [], .int .i64 (.ofNat 0), .int .i64 (.ofNat 0)] [(0, (1, hh)), (1, (1, hh))]) (.cons (.k 1) (.op (.slS hh none (some hh)) (.cons (.m 0) (.m 3))))) (.m 3)), [.bs 4 1 0, .mv 2 1]⟩]) .ret))) (.ife [] 43 (.mr (.ca 78 (.m 4))) (.seq (.reg [⟨0, (.cons (.k 10) (.k 0)), [.mv 5 0, .mv 6 1]⟩]) (.seq (.ife [] 46 (.and (.b .gtr (.ln true (.m 0)) (.k 1)) (.b .eql (.op (.slS hh none (some hh)) (.cons (.m 0) (.k 2))) (.c (.str [48, 120])))) (.reg [⟨0, (.cons (.k 16) (.cons (.k 2) (.k 2))), [.mv 5 0, .mv 6 1, .mv 3 2]⟩]) .skip) (.seq (.block 3 (.loop x60l1)) (.seq (.reg [⟨76, (.tup [0, 1] (.ca 80 (.cons (.op (.slS hh (some hh) (some hh)) (.cons (.m 0) (.cons (.m 6) (.m 3)))) (.m 5)))), [.mv 7 0, .mv 8 1]⟩]) (.seq (.ife [] 85 (.or (.u .not (.m 8)) (.b .eql (.m 3) (.m 6))) (.seq (.reg [⟨92, (.cons (.op (.build [.int .i64 (.ofNat 0), .str [], .int .i64 (.ofNat 0), .int .i64 (.ofNat 0)] []) .nil) (.k 0)), [.bs 4 1 0, .mv 2 1]⟩]) .ret) .skip) (.seq (.reg [⟨93, (.cons (.op (.build [.int .i64 (.ofNat 0), .str [], .int .i64 (.ofNat 0), .int .i64 (.ofNat 0)] [(0, (1, hh)), (2, (1, hh))]) (.cons (.k 2) (.m 7))) (.m 3)), [.bs 4 1 0, .mv 2 1]⟩]) .ret)))))) .skip))) (.seq (.seq (.reg [⟨96, (.op (.buildSo 1 8 (.int .u8 (.ofNat 0)) [(0, hh), (1, hh), (2, hh), (3, hh), (4, hh), (5, hh), (6, hh), (7, hh)]) (.cons (.c (.int .u8 (.ofNat 44))) (.cons (.c (.int .u8 (.ofNat 58))) (.cons (.c (.int .u8 (.ofNat 43))) (.cons (.c (.int .u8 (.ofNat 45))) (.cons (.c (.int .u8 (.ofNat 42))) (.cons (.c (.int .u8 (.ofNat 40))) (.cons (.c (.int .u8 (.ofNat 41))) (.c (.int .u8 (.ofNat 64))))))))))), [.wo 10 (.mark hh) [0]]⟩, ⟨0, (.cons (.v 10) (.k 0)), [.wo 11 (.len false hh) [0], .mv 12 1]⟩]) (.block 5 (.loop x60l2))) (.seq (.reg [⟨110, (.cons (.op (.build [.int .i64 (.ofNat 0), .str [], .int .i64 (.ofNat 0), .int .i64 (.ofNat 0)] []) .nil) (.k 0)), [.bs 4 1 0, .mv 2 1]⟩]) .ret))))))⟩
theorem w60 : wfF x60 = true := by decide +kernel
def x64 : XF := ⟨4, [0, 1, 4], [false, false, false], 2, [(2, none)], false, (.seq (.reg [⟨0, (.c (.bool false)), [.mv 2 0]⟩]) (.seq (.reg [⟨5, (.b .geq (.ca 84 (.cons (.m 0) (.m 1))) (.k 0)), [.mv 2 0]⟩]) .ret))⟩
theorem w64 : wfF x64 = true := by decide +kernel
def x65 : XF := ⟨3, [0, 1, 2], [false, true, false], 1, [(2, none)], false, (.seq (.reg [⟨0, (.cons (.v 0) (.c (.bool false))), [.bb 1 0, .mv 2 1]⟩]) (.seq (.reg [⟨3, (.u .not (.ca 66 (.lw (.ldA 4 hh) 1))), [.mv 2 0]⟩]) .ret))⟩
theorem w65 : wfF x65 = true := by decide +kernel
def x66 : XF := ⟨7, [0, 1, 2, 4], [false, true, false, false], 1, [(2, none)], false, (.seq (.reg [⟨0, (.cons (.v 0) (.c (.bool false))), [.bb 1 0, .mv 2 1]⟩]) (.seq (.seq (.reg [⟨3, (.op (.faddr 0 hh) (.adr 1)), [.bl 3 (.ld1 hh) 0]⟩]) (.block 0 (.ife [] 5 (.mr (.b .eql (.v 3) (.k 1))) (.seq (.regd 27 [] [⟨7, (.and (.and (.and (.and (.b .eql (.lf (.ld1 hh) 2 1) (.k 0)) (.b .neq (.lf (.ld1 hh) 1 1) (.c (.str [])))) (.b .leq (.ln true (.lf (.ld1 hh) 1 1)) (.k 12))) (.ca 85 (.op (.idxS hh hh) (.cons (.lf (.ld1 hh) 1 1) (.k 0))))) (.b .eql (.ca 86 (.cons (.lf (.ld1 hh) 1 1) (.c (.fn 87 [] [])))) (.ln true (.lf (.ld1 hh) 1 1)))), [.mv 2 0]⟩]) .ret) (.ife [] 36 (.mr (.b .eql (.v 3) (.k 2))) (.seq (.reg [⟨38, (.and (.and (.b .eql (.lf (.ld1 hh) 1 1) (.c (.str []))) (.b .geq (.lf (.ld1 hh) 2 1) (.k 0))) (.b .leq (.lf (.ld1 hh) 2 1) (.k 2147483647))), [.mv 2 0]⟩]) .ret) (.ife [] 51 (.mr (.b .eql (.v 3) (.k 3))) (.seq (.reg [⟨53, (.and (.and (.b .eql (.lf (.ld1 hh) 2 1) (.k 0)) (.b .eql (.ln true (.lf (.ld1 hh) 1 1)) (.k 1))) (.ca 88 (.op (.idxS hh hh) (.cons (.lf (.ld1 hh) 1 1) (.k 0))))), [.mv 2 0]⟩]) .ret) .skip))))) (.seq (.reg [⟨0, (.c (.bool false)), [.mv 2 0]⟩]) .ret)))⟩
theorem w66 : wfF x66 = true := by decide +kernel
def x77 : XF := ⟨5, [0, 2], [false, false], 1, [(1, none)], false, (.seq (.reg [⟨0, (.c (.bool false)), [.mv 1 0]⟩]) (.seq (.reg [⟨3, (.or (.or (.and (.b .geq (.m 0) (.c (.int .u8 (.ofNat 97)))) (.b .leq (.m 0) (.c (.int .u8 (.ofNat 122))))) (.b .eql (.m 0) (.c (.int .u8 (.ofNat 95))))) (.b .eql (.m 0) (.c (.int .u8 (.ofNat 46))))), [.mv 1 0]⟩]) .ret))⟩
theorem w77 : wfF x77 = true := by decide +kernel
def x78 : XF := ⟨4, [0, 2], [false, false], 1, [(1, none)], false, (.seq (.reg [⟨0, (.c (.bool false)), [.mv 1 0]⟩]) (.seq (.reg [⟨3, (.and (.b .geq (.m 0) (.c (.int .u8 (.ofNat 48)))) (.b .leq (.m 0) (.c (.int .u8 (.ofNat 57))))), [.mv 1 0]⟩]) .ret))⟩
theorem w78 : wfF x78 = true := by decide +kernel
def x79 : XF := ⟨4, [0, 2], [false, false], 1, [(1, none)], false, (.seq (.reg [⟨0, (.c (.bool false)), [.mv 1 0]⟩]) (.seq (.reg [⟨3, (.or (.ca 78 (.m 0)) (.and (.b .geq (.m 0) (.c (.int .u8 (.ofNat 97)))) (.b .leq (.m 0) (.c (.int .u8 (.ofNat 102)))))), [.mv 1 0]⟩]) .ret))⟩
theorem w79 : wfF x79 = true := by decide +kernel
def x80l0 : XC := .seq (.ife [] 9 (.b .lss (.m 5) (.ln true (.m 0))) .skip (.exit 0)) (.seq (.block 1 (.seq (.reg [⟨15, (.cv (.int .i64) (.b .sub (.op (.idxS hh hh) (.cons (.m 0) (.m 5))) (.c (.int .u8 (.ofNat 48))))), [.mv 6 0]⟩]) (.seq (.ife [] 20 (.u .not (.ca 78 (.op (.idxS hh hh) (.cons (.m 0) (.m 5))))) (.reg [⟨25, (.b .add (.cv (.int .i64) (.b .sub (.op (.idxS hh hh) (.cons (.m 0) (.m 5))) (.c (.int .u8 (.ofNat 97))))) (.k 10)), [.mv 6 0]⟩]) .skip) (.seq (.reg [⟨31, (.b .add (.b .mul (.m 4) (.m 1)) (.m 6)), [.mv 4 0]⟩]) (.ife [] 36 (.b .geq (.m 4) (.k 2147483648)) (.seq (.reg [⟨0, (.cons (.k 0) (.c (.bool false))), [.mv 2 0, .mv 3 1]⟩]) .ret) .skip))))) (.reg [⟨13, (.b .add (.m 5) (.k 1)), [.mv 5 0]⟩]))
def x80 : XF := ⟨6, [0, 1, 4, 5, 6, 7, 8], [false, false, false, false, false, false, false], 2, [(2, none), (3, none)], false, (.seq (.reg [⟨0, (.cons (.k 0) (.c (.bool false))), [.mv 2 0, .mv 3 1]⟩]) (.seq (.reg [⟨0, (.k 0), [.mv 4 0]⟩]) (.seq (.seq (.reg [⟨0, (.k 0), [.mv 5 0]⟩]) (.block 0 (.loop x80l0))) (.seq (.reg [⟨38, (.cons (.m 4) (.c (.bool true))), [.mv 2 0, .mv 3 1]⟩]) .ret))))⟩
theorem w80 : wfF x80 = true := by decide +kernel
def x84l0 : XC := .seq (.reg [⟨0, (.cons (.v 5) (.v 4)), [.wo 6 (.bin .lss hh hh) [0, 1]]⟩]) (.seq (.cnd 6 .skip (.exit 0)) (.seq (.block 1 (.seq (.reg [⟨10, (.m 5), [.mv 3 0]⟩]) (.ife [] 11 (.op (.calld hh []) (.cons (.m 1) (.ix (.ldA 4 hh) 4 (.m 0) (.m 3)))) (.seq (.reg [⟨17, (.m 3), [.mv 2 0]⟩]) .ret) .skip))) (.reg [⟨18, (.b .add (.v 5) (.k 1)), [.mv 5 0]⟩])))
def x84 : XF := ⟨5, [0, 1, 4, 5, 7, 8, 9], [false, false, false, false, false, false, false], 2, [(2, none)], false, (.seq (.reg [⟨0, (.k 0), [.mv 2 0]⟩]) (.seq (.seq (.reg [⟨6, (.cons (.m 0) (.k 0)), [.wo 4 (.len false hh) [0], .mv 5 1]⟩]) (.block 0 (.loop x84l0))) (.seq (.reg [⟨0, (.c (.int .i64 (.negSucc 0))), [.mv 2 0]⟩]) .ret)))⟩
theorem w84 : wfF x84 = true := by decide +kernel
def x85 : XF := ⟨5, [0, 2], [false, false], 1, [(1, none)], false, (.seq (.reg [⟨0, (.c (.bool false)), [.mv 1 0]⟩]) (.seq (.reg [⟨3, (.or (.or (.b .eql (.m 0) (.c (.int .u8 (.ofNat 95)))) (.b .eql (.m 0) (.c (.int .u8 (.ofNat 46))))) (.and (.b .geq (.m 0) (.c (.int .u8 (.ofNat 97)))) (.b .leq (.m 0) (.c (.int .u8 (.ofNat 122)))))), [.mv 1 0]⟩]) .ret))⟩
theorem w85 : wfF x85 = true := by decide +kernel
def x86l0 : XC := .seq (.ife [] 6 (.and (.b .lss (.m 3) (.ln true (.m 0))) (.op (.calld hh []) (.cons (.m 1) (.op (.idxS hh hh) (.cons (.m 0) (.m 3)))))) .skip (.exit 0)) (.block 1 (.reg [⟨17, (.b .add (.m 3) (.k 1)), [.mv 3 0]⟩]))
def x86 : XF := ⟨5, [0, 1, 4, 5], [false, false, false, false], 2, [(2, none)], false, (.seq (.reg [⟨0, (.k 0), [.mv 2 0]⟩]) (.seq (.reg [⟨0, (.k 0), [.mv 3 0]⟩]) (.seq (.block 0 (.loop x86l0)) (.seq (.reg [⟨19, (.m 3), [.mv 2 0]⟩]) .ret))))⟩
theorem w86 : wfF x86 = true := by decide +kernel
def x87 : XF := ⟨4, [0, 2], [false, false], 1, [(1, none)], false, (.seq (.reg [⟨0, (.c (.bool false)), [.mv 1 0]⟩]) (.seq (.reg [⟨3, (.or (.ca 85 (.m 0)) (.ca 95 (.m 0))), [.mv 1 0]⟩]) .ret))⟩
theorem w87 : wfF x87 = true := by decide +kernel
def x88 : XF := ⟨3, [0, 2], [false, false], 1, [(1, none)], false, (.seq (.reg [⟨0, (.c (.bool false)), [.mv 1 0]⟩]) (.seq (.reg [⟨3, (.b .geq (.ca 96 (.cons (.c (.str [44, 58, 43, 45, 42, 40, 41, 64])) (.m 0))) (.k 0)), [.mv 1 0]⟩]) .ret))⟩
theorem w88 : wfF x88 = true := by decide +kernel
def x95 : XF := ⟨4, [0, 2], [false, false], 1, [(1, none)], false, (.seq (.reg [⟨0, (.c (.bool false)), [.mv 1 0]⟩]) (.seq (.reg [⟨3, (.and (.b .geq (.m 0) (.c (.int .u8 (.ofNat 48)))) (.b .leq (.m 0) (.c (.int .u8 (.ofNat 57))))), [.mv 1 0]⟩]) .ret))⟩
theorem w95 : wfF x95 = true := by decide +kernel
def x96 : XF := ⟨3, [0, 1, 4], [false, false, false], 2, [(2, none)], false, (.seq (.reg [⟨0, (.k 0), [.mv 2 0]⟩]) (.seq (.reg [⟨5, (.ca 99 (.cons (.m 0) (.m 1))), [.mv 2 0]⟩]) .ret))⟩
theorem w96 : wfF x96 = true := by decide +kernel
def x99 : XF := ⟨3, [0, 1, 4], [false, false, false], 2, [(2, none)], false, (.seq (.reg [⟨0, (.k 0), [.mv 2 0]⟩]) (.seq (.reg [⟨5, (.op (.ixb hh hh) (.cons (.m 0) (.m 1))), [.mv 2 0]⟩]) .ret))⟩
theorem w99 : wfF x99 = true := by decide +kernel
def x147l0 : XC := .seq (.ife [] 10 (.b .lss (.m 5) (.ln true (.m 0))) .skip (.exit 0)) (.seq (.block 1 (.ife [] 16 (.b .eql (.op (.idxS hh hh) (.cons (.m 0) (.m 5))) (.c (.int .u8 (.ofNat 10)))) (.seq (.reg [⟨20, (.ap 1 16 (.str []) (.m 3) (.op (.slS hh (some hh) (some hh)) (.cons (.m 0) (.cons (.m 4) (.m 5))))), [.mv 3 0]⟩]) (.reg [⟨27, (.b .add (.m 5) (.k 1)), [.mv 4 0]⟩])) .skip)) (.reg [⟨14, (.b .add (.m 5) (.k 1)), [.mv 5 0]⟩]))
def x147 : XF := ⟨6, [0, 2, 3, 4, 5, 6], [false, false, false, false, false, false], 1, [(1, none), (2, none)], false, (.seq (.reg [⟨0, (.cons (.c .nils) (.c (.bool false))), [.mv 1 0, .mv 2 1]⟩]) (.seq (.ife [] 7 (.b .gtr (.ln true (.m 0)) (.k 4000)) (.seq (.reg [⟨0, (.cons (.c .nils) (.c (.bool false))), [.mv 1 0, .mv 2 1]⟩]) .ret) .skip) (.seq (.reg [⟨0, (.c .nils), [.mv 3 0]⟩]) (.seq (.reg [⟨0, (.k 0), [.mv 4 0]⟩]) (.seq (.seq (.reg [⟨0, (.k 0), [.mv 5 0]⟩]) (.block 0 (.loop x147l0))) (.seq (.reg [⟨29, (.ap 1 16 (.str []) (.m 3) (.op (.slS hh (some hh) none) (.cons (.m 0) (.m 4)))), [.mv 3 0]⟩]) (.seq (.reg [⟨35, (.cons (.m 3) (.b .leq (.ln false (.m 3)) (.k 300))), [.mv 1 0, .mv 2 1]⟩]) .ret)))))))⟩
theorem w147 : wfF x147 = true := by decide +kernel
def x280l0 : XC := .block 1 (.seq (.reg [⟨9, (.b .add (.m 2) (.ca 86 (.cons (.op (.slS hh (some hh) none) (.cons (.m 0) (.m 2))) (.c (.fn 284 [] []))))), [.mv 2 0]⟩]) (.seq (.ife [] 15 (.or (.b .eql (.m 2) (.ln true (.m 0))) (.b .eql (.op (.idxS hh hh) (.cons (.m 0) (.m 2))) (.c (.int .u8 (.ofNat 59))))) (.seq (.reg [⟨25, (.cons (.m 1) (.cons (.k 0) (.k 0))), [.mv 1 0, .mv 2 1, .mv 3 2]⟩]) .ret) .skip) (.seq (.reg [⟨26, (.tup [0, 1] (.ca 285 (.op (.slS hh (some hh) none) (.cons (.m 0) (.m 2))))), [.ba 4 [.int .i64 (.ofNat 0), .str [], .int .i64 (.ofNat 0), .int .i64 (.ofNat 0)], .bs 4 4 0, .mv 5 1]⟩]) (.seq (.block 2 (.ife [] 33 (.mr (.and (.b .gtr (.m 5) (.k 0)) (.b .eql (.ln false (.m 1)) (.k 40)))) (.seq (.reg [⟨41, (.cons (.m 2) (.cons (.c .nils) (.k 2))), [.mv 1 1, .mv 2 0, .mv 3 2]⟩]) .ret) (.ife [] 42 (.mr (.b .eql (.m 5) (.k 0))) (.seq (.reg [⟨45, (.cons (.m 2) (.cons (.c .nils) (.k 3))), [.mv 1 1, .mv 2 0, .mv 3 2]⟩]) .ret) .skip))) (.seq (.reg [⟨46, (.cons (.m 2) (.op (.faddr 3 hh) (.adr 4))), [.bt 1 1 0]⟩]) (.seq (.reg [⟨48, (.ap 4 40 (.agg [.int .i64 (.ofNat 0), .str [], .int .i64 (.ofNat 0), .int .i64 (.ofNat 0)]) (.m 1) (.lw (.ldA 4 hh) 4)), [.mv 1 0]⟩]) (.reg [⟨52, (.b .add (.m 2) (.m 5)), [.mv 2 0]⟩])))))))
def x280 : XF := ⟨6, [0, 2, 3, 4, 5, 6], [false, false, false, false, true, false], 1, [(1, none), (2, none), (3, none)], false, (.seq (.reg [⟨0, (.cons (.c .nils) (.cons (.k 0) (.k 0))), [.mv 1 0, .mv 2 1, .mv 3 2]⟩]) (.seq (.ife [] 7 (.ca 283 (.cons (.m 0) (.c (.str [10])))) (.seq (.reg [⟨0, (.cons (.c .nils) (.cons (.k 0) (.k 3))), [.mv 1 0, .mv 2 1, .mv 3 2]⟩]) .ret) .skip) (.block 0 (.loop x280l0))))⟩
theorem w280 : wfF x280 = true := by decide +kernel
def x281 : XF := ⟨3, [0, 2], [false, false], 1, [(1, none)], false, (.seq (.reg [⟨0, (.k 0), [.mv 1 0]⟩]) (.seq (.reg [⟨3, (.m 0), [.mv 1 0]⟩]) .ret))⟩
theorem w281 : wfF x281 = true := by decide +kernel
def x282 : XF := ⟨6, [0, 1, 2, 3, 4, 5, 6, 9, 10], [false, false, false, false, false, false, false, false, false], 0, [(0, none)], false, (.seq (.reg [⟨0, (.c (.bool false)), [.mv 0 0]⟩]) (.seq (.reg [⟨7, (.ca 280 (.c (.str [97, 58, 32, 108, 105, 32, 114, 49, 44, 32, 48, 120, 49, 48, 32, 59, 32, 115, 111]))), [.mv 6 0]⟩, ⟨8, (.cons (.op (.ext hh 0) (.v 6)) (.cons (.v 6) (.v 6))), [.wo 7 (.ext hh 1) [1], .wo 8 (.ext hh 2) [2], .mv 1 0]⟩, ⟨0, (.cons (.v 7) (.v 8)), [.mv 2 0, .mv 3 1]⟩]) (.seq (.reg [⟨11, (.tup [0, 1] (.ca 286 (.m 1))), [.mv 4 0, .mv 5 1]⟩]) (.seq (.reg [⟨16, (.and (.and (.and (.b .eql (.ca 281 (.m 3)) (.k 0)) (.b .eql (.ca 281 (.m 5)) (.k 0))) (.b .eql (.ln false (.m 1)) (.k 6))) (.b .eql (.m 4) (.c (.str [97, 32, 58, 32, 108, 105, 32, 114, 49, 32, 44, 32, 49, 54])))), [.mv 0 0]⟩]) .ret))))⟩
theorem w282 : wfF x282 = true := by decide +kernel
def x283 : XF := ⟨4, [0, 1, 4], [false, false, false], 2, [(2, none)], false, (.seq (.reg [⟨0, (.c (.bool false)), [.mv 2 0]⟩]) (.seq (.reg [⟨5, (.b .geq (.ca 287 (.cons (.m 0) (.m 1))) (.k 0)), [.mv 2 0]⟩]) .ret))⟩
theorem w283 : wfF x283 = true := by decide +kernel
def x284 : XF := ⟨4, [0, 2], [false, false], 1, [(1, none)], false, (.seq (.reg [⟨0, (.c (.bool false)), [.mv 1 0]⟩]) (.seq (.reg [⟨3, (.or (.b .eql (.m 0) (.c (.int .u8 (.ofNat 32)))) (.b .eql (.m 0) (.c (.int .u8 (.ofNat 9))))), [.mv 1 0]⟩]) .ret))⟩
theorem w284 : wfF x284 = true := by decide +kernel
def x285 : XF := ⟨6, [0, 2, 3, 4, 5, 6, 7], [false, true, false, false, false, false, false], 1, [(1, some (4, true)), (2, none)], false, (.seq (.reg [⟨0, (.k 0), [.ba 1 [.int .i64 (.ofNat 0), .str [], .int .i64 (.ofNat 0), .int .i64 (.ofNat 0)], .mv 2 0]⟩]) (.seq (.seq (.reg [⟨8, (.op (.idxS hh hh) (.cons (.m 0) (.k 0))), [.mv 3 0]⟩]) (.block 0 (.ife [] 10 (.mr (.ca 85 (.m 3))) (.seq (.reg [⟨13, (.ca 86 (.cons (.m 0) (.c (.fn 87 [] [])))), [.mv 4 0]⟩]) (.seq (.ife [] 15 (.b .gtr (.m 4) (.k 12)) (.seq (.reg [⟨17, (.cons (.lw (.ldA 4 hh) 1) (.k 0)), [.bs 4 1 0, .mv 2 1]⟩]) .ret) .skip) (.seq (.reg [⟨18, (.cons (.op (.build [.int .i64 (.ofNat 0), .str [], .int .i64 (.ofNat 0), .int .i64 (.ofNat 0)] [(0, (1, hh)), (1, (1, hh))]) (.cons (.k 1) (.op (.slS hh none (some hh)) (.cons (.m 0) (.m 4))))) (.m 4)), [.bs 4 1 0, .mv 2 1]⟩]) .ret))) (.ife [] 23 (.mr (.ca 95 (.m 3))) (.seq (.reg [⟨26, (.tup [0, 1] (.ca 288 (.m 0))), [.mv 5 0, .mv 6 1]⟩]) (.seq (.reg [⟨31, (.cons (.op (.build [.int .i64 (.ofNat 0), .str [], .int .i64 (.ofNat 0), .int .i64 (.ofNat 0)] [(0, (1, hh)), (2, (1, hh))]) (.cons (.k 2) (.m 5))) (.m 6)), [.bs 4 1 0, .mv 2 1]⟩]) .ret)) (.ife [] 34 (.mr (.ca 88 (.m 3))) (.seq (.reg [⟨37, (.cons (.op (.build [.int .i64 (.ofNat 0), .str [], .int .i64 (.ofNat 0), .int .i64 (.ofNat 0)] [(0, (1, hh)), (1, (1, hh))]) (.cons (.k 3) (.op (.slS hh none (some hh)) (.cons (.m 0) (.k 1))))) (.k 1)), [.bs 4 1 0, .mv 2 1]⟩]) .ret) .skip))))) (.seq (.reg [⟨40, (.cons (.lw (.ldA 4 hh) 1) (.k 0)), [.bs 4 1 0, .mv 2 1]⟩]) .ret)))⟩
theorem w285 : wfF x285 = true := by decide +kernel
def x286l0 : XC := .seq (.reg [⟨0, (.cons (.v 7) (.v 6)), [.wo 8 (.bin .lss hh hh) [0, 1]]⟩]) (.seq (.cnd 8 .skip (.exit 0)) (.seq (.block 1 (.seq (.reg [⟨14, (.ix (.ldA 4 hh) 4 (.v 5) (.v 7)), [.ba 4 [.int .i64 (.ofNat 0), .str [], .int .i64 (.ofNat 0), .int .i64 (.ofNat 0)], .bs 4 4 0]⟩]) (.seq (.ife [] 16 (.b .eql (.lf (.ld1 hh) 0 4) (.k 2)) (.reg [⟨19, (.cons (.ca 289 (.lf (.ld1 hh) 2 4)) (.op (.faddr 1 hh) (.adr 4))), [.bt 1 1 0]⟩]) .skip) (.reg [⟨23, (.ap 1 16 (.str []) (.m 3) (.lf (.ld1 hh) 1 4)), [.mv 3 0]⟩])))) (.reg [⟨28, (.b .add (.v 7) (.k 1)), [.mv 7 0]⟩])))
def x286 : XF := ⟨5, [0, 2, 3, 4, 6, 10, 11, 12, 13], [false, false, false, false, true, false, false, false, false], 1, [(1, none), (2, none)], false, (.seq (.reg [⟨0, (.cons (.c (.str [])) (.k 0)), [.mv 1 0, .mv 2 1]⟩]) (.seq (.ife [] 7 (.u .not (.ca 51 (.m 0))) (.seq (.reg [⟨0, (.cons (.c (.str [])) (.k 1)), [.mv 1 0, .mv 2 1]⟩]) .ret) .skip) (.seq (.reg [⟨0, (.c .nils), [.mv 3 0]⟩]) (.seq (.seq (.reg [⟨0, (.v 0), [.mv 5 0]⟩, ⟨0, (.cons (.v 5) (.k 0)), [.wo 6 (.len false hh) [0], .mv 7 1]⟩]) (.block 0 (.loop x286l0))) (.seq (.reg [⟨29, (.cons (.ca 290 (.cons (.m 3) (.c (.str [32])))) (.k 0)), [.mv 1 0, .mv 2 1]⟩]) .ret)))))⟩
theorem w286 : wfF x286 = true := by decide +kernel
def x287 : XF := ⟨3, [0, 1, 4], [false, false, false], 2, [(2, none)], false, (.seq (.reg [⟨0, (.k 0), [.mv 2 0]⟩]) (.seq (.reg [⟨5, (.ca 291 (.cons (.m 0) (.m 1))), [.mv 2 0]⟩]) .ret))⟩
theorem w287 : wfF x287 = true := by decide +kernel
def x288 : XF := ⟨6, [0, 2, 3, 4, 5, 6, 7], [false, false, false, false, false, false, false], 1, [(1, none), (2, none)], false, (.seq (.reg [⟨0, (.cons (.k 0) (.k 0)), [.mv 1 0, .mv 2 1]⟩]) (.seq (.reg [⟨0, (.cons (.k 10) (.k 0)), [.mv 3 0, .mv 4 1]⟩]) (.seq (.reg [⟨8, (.ca 86 (.cons (.m 0) (.c (.fn 95 [] [])))), [.mv 2 0]⟩]) (.seq (.ife [] 10 (.ca 292 (.cons (.m 0) (.c (.str [48, 120])))) (.seq (.reg [⟨0, (.cons (.k 16) (.k 2)), [.mv 3 0, .mv 4 1]⟩]) (.reg [⟨12, (.b .add (.k 2) (.ca 86 (.cons (.op (.slS hh (some hh) none) (.cons (.m 0) (.k 2))) (.c (.fn 293 [] []))))), [.mv 2 0]⟩])) .skip) (.seq (.reg [⟨16, (.tup [0, 1] (.ca 294 (.cons (.op (.slS hh (some hh) (some hh)) (.cons (.m 0) (.cons (.m 4) (.m 2)))) (.cons (.m 3) (.k 64))))), [.mv 5 0, .mv 6 1]⟩]) (.seq (.ife [] 25 (.or (.op (.eqk .iface true hh hh) (.cons (.m 6) (.c .nili))) (.b .gtr (.m 5) (.k 2147483647))) (.seq (.reg [⟨0, (.cons (.k 0) (.k 0)), [.mv 1 0, .mv 2 1]⟩]) .ret) .skip) (.seq (.reg [⟨31, (.cons (.m 5) (.m 2)), [.mv 1 0, .mv 2 1]⟩]) .ret)))))))⟩
theorem w288 : wfF x288 = true := by decide +kernel
def x291l0 : XC := .seq (.ife [] 57 (.b .lss (.m 6) (.m 7)) .skip (.exit 1)) (.block 2 (.seq (.ife [] 60 (.b .neq (.op (.idxS hh hh) (.cons (.m 0) (.m 6))) (.m 4)) (.seq (.reg [⟨65, (.ca 99 (.cons (.op (.slS hh (some hh) (some hh)) (.cons (.m 0) (.cons (.b .add (.m 6) (.k 1)) (.m 7)))) (.m 4))), [.mv 9 0]⟩]) (.seq (.ife [] 72 (.b .lss (.m 9) (.k 0)) (.seq (.reg [⟨0, (.c (.int .i64 (.negSucc 0))), [.mv 2 0]⟩]) .ret) .skip) (.reg [⟨74, (.b .add (.m 6) (.b .add (.m 9) (.k 1))), [.mv 6 0]⟩]))) .skip) (.seq (.ife [] 78 (.and (.b .eql (.op (.idxS hh hh) (.cons (.m 0) (.b .add (.m 6) (.k 1)))) (.m 5)) (.b .eql (.op (.slS hh (some hh) (some hh)) (.cons (.m 0) (.cons (.m 6) (.b .add (.m 6) (.m 3))))) (.m 1))) (.seq (.reg [⟨94, (.m 6), [.mv 2 0]⟩]) .ret) .skip) (.seq (.reg [⟨95, (.b .add (.m 6) (.k 1)), [.mv 6 0]⟩]) (.seq (.reg [⟨97, (.b .add (.m 8) (.k 1)), [.mv 8 0]⟩]) (.ife [] 99 (.and (.b .leq (.m 3) (.op (.mem .mlen []) .nil)) (.b .gtr (.m 8) (.ca 300 (.m 6)))) (.seq (.reg [⟨108, (.ca 299 (.cons (.op (.slS hh (some hh) none) (.cons (.m 0) (.m 6))) (.m 1))), [.mv 10 0]⟩]) (.seq (.ife [] 113 (.b .geq (.m 10) (.k 0)) (.seq (.reg [⟨115, (.b .add (.m 10) (.m 6)), [.mv 2 0]⟩]) .ret) .skip) (.seq (.reg [⟨0, (.c (.int .i64 (.negSucc 0))), [.mv 2 0]⟩]) .ret))) (.ife [] 118 (.and (.and (.b .gtr (.m 3) (.op (.mem .mlen []) .nil)) (.b .geq (.m 8) (.b .add (.k 4) (.b .shr (.m 6) (.c (.int .u64 (.ofNat 4))))))) (.b .lss (.m 6) (.m 7))) (.seq (.reg [⟨133, (.ca 301 (.cons (.op (.slS hh (some hh) none) (.cons (.m 0) (.m 6))) (.m 1))), [.mv 11 0]⟩]) (.seq (.ife [] 138 (.b .lss (.m 11) (.k 0)) (.seq (.reg [⟨0, (.c (.int .i64 (.negSucc 0))), [.mv 2 0]⟩]) .ret) .skip) (.seq (.reg [⟨140, (.b .add (.m 6) (.m 11)), [.mv 2 0]⟩]) .ret))) .skip)))))))
def x291 : XF := ⟨8, [0, 1, 4, 5, 6, 7, 8, 9, 10, 11, 12, 13], [false, false, false, false, false, false, false, false, false, false, false, false], 2, [(2, none)], false, (.seq (.reg [⟨0, (.k 0), [.mv 2 0]⟩]) (.seq (.reg [⟨14, (.ln true (.m 1)), [.mv 3 0]⟩]) (.seq (.block 0 (.ife [] 16 (.mr (.or (.b .eql (.m 3) (.k 0)) (.b .eql (.m 1) (.m 0)))) (.seq (.reg [⟨0, (.k 0), [.mv 2 0]⟩]) .ret) (.ife [] 24 (.mr (.b .eql (.m 3) (.k 1))) (.seq (.reg [⟨27, (.ca 99 (.cons (.m 0) (.op (.idxS hh hh) (.cons (.m 1) (.k 0))))), [.mv 2 0]⟩]) .ret) (.ife [] 31 (.mr (.b .geq (.m 3) (.ln true (.m 0)))) (.seq (.reg [⟨0, (.c (.int .i64 (.negSucc 0))), [.mv 2 0]⟩]) .ret) (.ife [] 36 (.mr (.and (.b .leq (.m 3) (.op (.mem .mlen []) .nil)) (.b .leq (.ln true (.m 0)) (.k 64)))) (.seq (.reg [⟨45, (.ca 299 (.cons (.m 0) (.m 1))), [.mv 2 0]⟩]) .ret) .skip))))) (.seq (.reg [⟨48, (.op (.idxS hh hh) (.cons (.m 1) (.k 0))), [.mv 4 0]⟩]) (.seq (.reg [⟨50, (.op (.idxS hh hh) (.cons (.m 1) (.k 1))), [.mv 5 0]⟩]) (.seq (.reg [⟨0, (.k 0), [.mv 6 0]⟩]) (.seq (.reg [⟨52, (.b .add (.b .sub (.ln true (.m 0)) (.m 3)) (.k 1)), [.mv 7 0]⟩]) (.seq (.reg [⟨0, (.k 0), [.mv 8 0]⟩]) (.seq (.block 1 (.loop x291l0)) (.seq (.reg [⟨0, (.c (.int .i64 (.negSucc 0))), [.mv 2 0]⟩]) .ret))))))))))⟩
theorem w291 : wfF x291 = true := by decide +kernel
def x292 : XF := ⟨3, [0, 1, 4], [false, false, false], 2, [(2, none)], false, (.seq (.reg [⟨0, (.c (.bool false)), [.mv 2 0]⟩]) (.seq (.reg [⟨5, (.ca 302 (.cons (.m 0) (.m 1))), [.mv 2 0]⟩]) .ret))⟩
theorem w292 : wfF x292 = true := by decide +kernel
def x293 : XF := ⟨4, [0, 2], [false, false], 1, [(1, none)], false, (.seq (.reg [⟨0, (.c (.bool false)), [.mv 1 0]⟩]) (.seq (.reg [⟨3, (.or (.ca 95 (.m 0)) (.and (.b .geq (.m 0) (.c (.int .u8 (.ofNat 97)))) (.b .leq (.m 0) (.c (.int .u8 (.ofNat 102)))))), [.mv 1 0]⟩]) .ret))⟩
theorem w293 : wfF x293 = true := by decide +kernel
def x294 : XF := ⟨5, [0, 1, 2, 6, 7, 8], [false, false, false, false, false, false], 3, [(3, none), (4, none)], false, (.seq (.reg [⟨0, (.cons (.k 0) (.c .nili)), [.mv 3 0, .mv 4 1]⟩]) (.seq (.reg [⟨9, (.tup [0, 1] (.ca 303 (.cons (.m 0) (.cons (.m 1) (.m 2))))), [.mv 5 0, .mv 4 1]⟩]) (.seq (.ife [] 16 (.op (.eqk .iface true hh hh) (.cons (.m 4) (.c .nili))) (.seq (.reg [⟨18, (.cons (.m 5) (.ca 304 (.cons (.c (.str [80, 97, 114, 115, 101, 73, 110, 116])) (.cons (.m 0) (.cons (.m 1) (.cons (.m 2) (.m 4))))))), [.mv 3 0, .mv 4 1]⟩]) .ret) .skip) (.seq (.reg [⟨24, (.cons (.m 5) (.c .nili)), [.mv 3 0, .mv 4 1]⟩]) .ret))))⟩
theorem w294 : wfF x294 = true := by decide +kernel
def x302 : XF := ⟨5, [0, 1, 4], [false, false, false], 2, [(2, none)], false, (.seq (.reg [⟨0, (.c (.bool false)), [.mv 2 0]⟩]) (.seq (.reg [⟨5, (.and (.b .geq (.ln true (.m 0)) (.ln true (.m 1))) (.b .eql (.op (.slS hh none (some hh)) (.cons (.m 0) (.ln true (.m 1)))) (.m 1))), [.mv 2 0]⟩]) .ret))⟩
theorem w302 : wfF x302 = true := by decide +kernel
def x303 : XF := ⟨7, [0, 1, 2, 6, 7, 8, 9, 10, 11, 16], [false, false, false, false, false, false, false, false, false, false], 3, [(3, none), (4, none)], false, (.seq (.reg [⟨0, (.cons (.k 0) (.c .nili)), [.mv 3 0, .mv 4 1]⟩]) (.seq (.ife [] 12 (.b .eql (.m 0) (.c (.str []))) (.seq (.reg [⟨14, (.cons (.op (.mem (.mki 108) []) (.k 2)) (.k 0)), [.mv 3 1, .mv 4 0]⟩]) .ret) .skip) (.seq (.reg [⟨0, (.c (.bool false)), [.mv 5 0]⟩]) (.seq (.seq (.reg [⟨15, (.cons (.m 0) (.k 0)), [.wo 9 (.idxS hh hh) [0, 1]]⟩]) (.block 0 (.ife [] 17 (.mr (.b .eql (.v 9) (.c (.int .u8 (.ofNat 43))))) (.reg [⟨19, (.op (.slS hh (some hh) none) (.cons (.m 0) (.k 1))), [.mv 0 0]⟩]) (.ife [] 21 (.mr (.b .eql (.v 9) (.c (.int .u8 (.ofNat 45))))) (.seq (.reg [⟨23, (.op (.slS hh (some hh) none) (.cons (.m 0) (.k 1))), [.mv 0 0]⟩]) (.reg [⟨0, (.c (.bool true)), [.mv 5 0]⟩])) .skip)))) (.seq (.reg [⟨0, (.c (.int .u64 (.ofNat 0))), [.mv 6 0]⟩]) (.seq (.reg [⟨25, (.tup [0, 1] (.ca 309 (.cons (.m 0) (.cons (.m 1) (.m 2))))), [.mv 6 0, .mv 4 1]⟩]) (.seq (.ife [] 32 (.and (.op (.eqk .iface true hh hh) (.cons (.m 4) (.c .nili))) (.op (.mem (.eqi true [2, 3, 5, 6, 12, 21, 27, 86, 95, 102, 108, 136, 137, 139, 140]) []) (.cons (.m 4) (.op (.mem (.mki 108) []) (.k 1))))) (.seq (.reg [⟨39, (.cons (.m 4) (.k 0)), [.mv 3 1, .mv 4 0]⟩]) .ret) .skip) (.seq (.ife [] 40 (.b .eql (.m 2) (.k 0)) (.reg [⟨0, (.k 64), [.mv 2 0]⟩]) .skip) (.seq (.reg [⟨42, (.b .shl (.c (.int .u64 (.ofNat 1))) (.cv (.int .u64) (.b .sub (.m 2) (.k 1)))), [.mv 7 0]⟩]) (.seq (.ife [] 46 (.and (.u .not (.m 5)) (.b .geq (.m 6) (.m 7))) (.seq (.reg [⟨53, (.cons (.cv (.int .i64) (.b .sub (.m 7) (.c (.int .u64 (.ofNat 1))))) (.op (.mem (.mki 108) []) (.k 1))), [.mv 3 0, .mv 4 1]⟩]) .ret) .skip) (.seq (.ife [] 57 (.and (.m 5) (.b .gtr (.m 6) (.m 7))) (.seq (.reg [⟨63, (.cons (.u .neg (.cv (.int .i64) (.m 7))) (.op (.mem (.mki 108) []) (.k 1))), [.mv 3 0, .mv 4 1]⟩]) .ret) .skip) (.seq (.reg [⟨67, (.cv (.int .i64) (.m 6)), [.mv 8 0]⟩]) (.seq (.ife [] 69 (.m 5) (.reg [⟨70, (.u .neg (.m 8)), [.mv 8 0]⟩]) .skip) (.seq (.reg [⟨72, (.cons (.m 8) (.c .nili)), [.mv 3 0, .mv 4 1]⟩]) .ret))))))))))))))⟩
theorem w303 : wfF x303 = true := by decide +kernel
def x309l0 : XC := .seq (.reg [⟨0, (.cons (.v 17) (.v 16)), [.wo 18 (.bin .lss hh hh) [0, 1]]⟩]) (.seq (.cnd 18 .skip (.exit 3)) (.seq (.block 4 (.seq (.reg [⟨103, (.ix (.ld1 hh) 1 (.v 15) (.v 17)), [.mv 11 0]⟩]) (.seq (.reg [⟨0, (.c (.int .u8 (.ofNat 0))), [.mv 12 0]⟩]) (.seq (.block 5 (.ife [] 106 (.mr (.and (.b .eql (.m 11) (.c (.int .u8 (.ofNat 95)))) (.m 5))) (.seq (.reg [⟨0, (.c (.bool true)), [.mv 9 0]⟩]) (.exit 4)) (.ife [] 112 (.mr (.and (.b .leq (.c (.int .u8 (.ofNat 48))) (.m 11)) (.b .leq (.m 11) (.c (.int .u8 (.ofNat 57)))))) (.reg [⟨119, (.b .sub (.m 11) (.c (.int .u8 (.ofNat 48)))), [.mv 12 0]⟩]) (.ife [] 121 (.mr (.and (.b .leq (.c (.int .u8 (.ofNat 97))) (.ca 320 (.m 11))) (.b .leq (.ca 320 (.m 11)) (.c (.int .u8 (.ofNat 122)))))) (.reg [⟨130, (.b .add (.b .sub (.ca 320 (.m 11)) (.c (.int .u8 (.ofNat 97)))) (.c (.int .u8 (.ofNat 10)))), [.mv 12 0]⟩]) (.seq (.reg [⟨105, (.cons (.op (.mem (.mki 108) []) (.k 2)) (.c (.int .u64 (.ofNat 0)))), [.mv 3 1, .mv 4 0]⟩]) .ret))))) (.seq (.ife [] 134 (.b .geq (.m 12) (.cv (.int .u8) (.m 1))) (.seq (.reg [⟨138, (.cons (.op (.mem (.mki 108) []) (.k 2)) (.c (.int .u64 (.ofNat 0)))), [.mv 3 1, .mv 4 0]⟩]) .ret) .skip) (.seq (.ife [] 139 (.b .geq (.m 10) (.m 7)) (.seq (.reg [⟨142, (.cons (.m 8) (.op (.mem (.mki 108) []) (.k 1))), [.mv 3 0, .mv 4 1]⟩]) .ret) .skip) (.seq (.reg [⟨144, (.b .mul (.m 10) (.cv (.int .u64) (.m 1))), [.mv 10 0]⟩]) (.seq (.reg [⟨148, (.b .add (.m 10) (.cv (.int .u64) (.m 12))), [.mv 13 0]⟩]) (.seq (.ife [] 152 (.or (.b .lss (.m 13) (.m 10)) (.b .gtr (.m 13) (.m 8))) (.seq (.reg [⟨160, (.cons (.m 8) (.op (.mem (.mki 108) []) (.k 1))), [.mv 3 0, .mv 4 1]⟩]) .ret) .skip) (.reg [⟨162, (.m 13), [.mv 10 0]⟩])))))))))) (.reg [⟨163, (.b .add (.v 17) (.k 1)), [.mv 17 0]⟩])))
def x309 : XF := ⟨8, [0, 1, 2, 6, 7, 8, 9, 10, 11, 12, 13, 15, 16, 17, 85, 99, 100, 101, 102], [false, false, false, false, false, false, false, false, false, false, false, false, false, false, false, false, false, false, false], 3, [(3, none), (4, none)], false, (.seq (.reg [⟨0, (.cons (.c (.int .u64 (.ofNat 0))) (.c .nili)), [.mv 3 0, .mv 4 1]⟩]) (.seq (.ife [] 18 (.b .eql (.m 0) (.c (.str []))) (.seq (.reg [⟨20, (.cons (.op (.mem (.mki 108) []) (.k 2)) (.c (.int .u64 (.ofNat 0)))), [.mv 3 1, .mv 4 0]⟩]) .ret) .skip) (.seq (.reg [⟨21, (.b .eql (.m 1) (.k 0)), [.mv 5 0]⟩]) (.seq (.reg [⟨23, (.m 0), [.mv 6 0]⟩]) (.seq (.block 0 (.ife [] 25 (.mr (.and (.b .leq (.k 2) (.m 1)) (.b .leq (.m 1) (.k 36)))) .skip (.ife [] 32 (.mr (.b .eql (.m 1) (.k 0))) (.seq (.reg [⟨0, (.k 10), [.mv 1 0]⟩]) (.ife [] 35 (.b .eql (.op (.idxS hh hh) (.cons (.m 0) (.k 0))) (.c (.int .u8 (.ofNat 48)))) (.block 1 (.ife [] 40 (.mr (.and (.b .geq (.ln true (.m 0)) (.k 3)) (.b .eql (.ca 320 (.op (.idxS hh hh) (.cons (.m 0) (.k 1)))) (.c (.int .u8 (.ofNat 98)))))) (.seq (.reg [⟨0, (.k 2), [.mv 1 0]⟩]) (.reg [⟨50, (.op (.slS hh (some hh) none) (.cons (.m 0) (.k 2))), [.mv 0 0]⟩])) (.ife [] 52 (.mr (.and (.b .geq (.ln true (.m 0)) (.k 3)) (.b .eql (.ca 320 (.op (.idxS hh hh) (.cons (.m 0) (.k 1)))) (.c (.int .u8 (.ofNat 111)))))) (.seq (.reg [⟨0, (.k 8), [.mv 1 0]⟩]) (.reg [⟨62, (.op (.slS hh (some hh) none) (.cons (.m 0) (.k 2))), [.mv 0 0]⟩])) (.ife [] 64 (.mr (.and (.b .geq (.ln true (.m 0)) (.k 3)) (.b .eql (.ca 320 (.op (.idxS hh hh) (.cons (.m 0) (.k 1)))) (.c (.int .u8 (.ofNat 120)))))) (.seq (.reg [⟨0, (.k 16), [.mv 1 0]⟩]) (.reg [⟨74, (.op (.slS hh (some hh) none) (.cons (.m 0) (.k 2))), [.mv 0 0]⟩])) (.seq (.reg [⟨0, (.k 8), [.mv 1 0]⟩]) (.reg [⟨38, (.op (.slS hh (some hh) none) (.cons (.m 0) (.k 1))), [.mv 0 0]⟩])))))) .skip)) (.seq (.reg [⟨24, (.cons (.op (.mem (.mki 108) []) (.k 3)) (.c (.int .u64 (.ofNat 0)))), [.mv 3 1, .mv 4 0]⟩]) .ret)))) (.seq (.ife [] 76 (.b .eql (.m 2) (.k 0)) (.reg [⟨0, (.k 64), [.mv 2 0]⟩]) (.ife [] 78 (.or (.b .lss (.m 2) (.k 0)) (.b .gtr (.m 2) (.k 64))) (.seq (.reg [⟨84, (.cons (.op (.mem (.mki 108) []) (.k 4)) (.c (.int .u64 (.ofNat 0)))), [.mv 3 1, .mv 4 0]⟩]) .ret) .skip)) (.seq (.reg [⟨0, (.c (.int .u64 (.ofNat 0))), [.mv 7 0]⟩]) (.seq (.seq (.reg [⟨0, (.v 1), [.mv 14 0]⟩]) (.block 2 (.ife [] 90 (.mr (.b .eql (.v 14) (.k 10))) (.reg [⟨0, (.c (.int .u64 (.ofNat 1844674407370955162))), [.mv 7 0]⟩]) (.ife [] 92 (.mr (.b .eql (.v 14) (.k 16))) (.reg [⟨0, (.c (.int .u64 (.ofNat 1152921504606846976))), [.mv 7 0]⟩]) (.reg [⟨86, (.b .add (.b .quo (.c (.int .u64 (.ofNat 18446744073709551615))) (.cv (.int .u64) (.m 1))) (.c (.int .u64 (.ofNat 1)))), [.mv 7 0]⟩]))))) (.seq (.reg [⟨94, (.b .sub (.b .shl (.c (.int .u64 (.ofNat 1))) (.cv (.int .u64) (.m 2))) (.c (.int .u64 (.ofNat 1)))), [.mv 8 0]⟩]) (.seq (.reg [⟨0, (.c (.bool false)), [.mv 9 0]⟩]) (.seq (.reg [⟨0, (.c (.int .u64 (.ofNat 0))), [.mv 10 0]⟩]) (.seq (.seq (.reg [⟨98, (.m 0), [.wo 15 (.mem .s2b []) [0]]⟩, ⟨0, (.cons (.v 15) (.k 0)), [.wo 16 (.len false hh) [0], .mv 17 1]⟩]) (.block 3 (.loop x309l0))) (.seq (.ife [] 164 (.and (.m 9) (.u .not (.ca 321 (.m 6)))) (.seq (.reg [⟨170, (.cons (.op (.mem (.mki 108) []) (.k 2)) (.c (.int .u64 (.ofNat 0)))), [.mv 3 1, .mv 4 0]⟩]) .ret) .skip) (.seq (.reg [⟨171, (.cons (.m 10) (.c .nili)), [.mv 3 0, .mv 4 1]⟩]) .ret))))))))))))))⟩
theorem w309 : wfF x309 = true := by decide +kernel
def x320 : XF := ⟨3, [0, 2], [false, false], 1, [(1, none)], false, (.seq (.reg [⟨0, (.c (.int .u8 (.ofNat 0))), [.mv 1 0]⟩]) (.seq (.reg [⟨3, (.b .or (.m 0) (.c (.int .u8 (.ofNat 32)))), [.mv 1 0]⟩]) .ret))⟩
theorem w320 : wfF x320 = true := by decide +kernel
def x357 : XF := ⟨4, [0, 2, 3, 4], [false, false, false, false], 1, [(1, none), (2, none)], false, (.seq (.reg [⟨0, (.cons (.c .nils) (.k 0)), [.mv 1 0, .mv 2 1]⟩]) (.seq (.reg [⟨5, (.ca 370 (.cons (.m 0) (.c (.str [10])))), [.mv 3 0]⟩]) (.seq (.ife [] 7 (.or (.b .gtr (.ln true (.m 0)) (.k 4000)) (.b .gtr (.ln false (.m 3)) (.k 300))) (.seq (.reg [⟨0, (.cons (.c .nils) (.k 2)), [.mv 1 0, .mv 2 1]⟩]) .ret) .skip) (.seq (.reg [⟨15, (.cons (.m 3) (.k 0)), [.mv 1 0, .mv 2 1]⟩]) .ret))))⟩
theorem w357 : wfF x357 = true := by decide +kernel
def x368l0 : XC := .seq (.ife [] 11 (.b .lss (.m 3) (.ln false (.m 0))) .skip (.exit 0)) (.seq (.block 1 (.ifd 8 [] [] 17 (.b .neq (.ix (.ld1 hh) 1 (.m 0) (.m 3)) (.ix (.ld1 hh) 1 (.m 1) (.m 3))) (.seq (.reg [⟨0, (.c (.bool false)), [.mv 2 0]⟩]) .ret) .skip)) (.reg [⟨15, (.b .add (.m 3) (.k 1)), [.mv 3 0]⟩]))
def x368 : XF := ⟨5, [0, 1, 4, 5], [false, false, false, false], 2, [(2, none)], false, (.seq (.reg [⟨0, (.c (.bool false)), [.mv 2 0]⟩]) (.seq (.ife [] 6 (.b .neq (.ln false (.m 0)) (.ln false (.m 1))) (.seq (.reg [⟨0, (.c (.bool false)), [.mv 2 0]⟩]) .ret) .skip) (.seq (.seq (.reg [⟨0, (.k 0), [.mv 3 0]⟩]) (.block 0 (.loop x368l0))) (.seq (.reg [⟨0, (.c (.bool true)), [.mv 2 0]⟩]) .ret))))⟩
theorem w368 : wfF x368 = true := by decide +kernel
def x370 : XF := ⟨3, [0, 1, 4], [false, false, false], 2, [(2, none)], false, (.seq (.reg [⟨0, (.c .nils), [.mv 2 0]⟩]) (.seq (.reg [⟨5, (.ca 388 (.cons (.m 0) (.cons (.m 1) (.cons (.k 0) (.c (.int .i64 (.negSucc 0))))))), [.mv 2 0]⟩]) .ret))⟩
theorem w370 : wfF x370 = true := by decide +kernel
def x558l0 : XC := .seq (.ife [] 40 (.b .lss (.m 7) (.ln true (.m 4))) .skip (.exit 2)) (.seq (.block 3 (.seq (.reg [⟨46, (.b .add (.m 6) (.op (.slS hh (some hh) (some hh)) (.cons (.m 4) (.cons (.m 7) (.b .add (.m 7) (.k 1)))))), [.mv 6 0]⟩]) (.ife [] 53 (.b .eql (.op (.idxS hh hh) (.cons (.m 4) (.m 7))) (.c (.int .u8 (.ofNat 32)))) (.reg [⟨57, (.b .add (.m 6) (.c (.str [9, 32, 32]))), [.mv 6 0]⟩]) .skip))) (.reg [⟨44, (.b .add (.m 7) (.k 1)), [.mv 7 0]⟩]))
def x558l1 : XC := .seq (.ife [] 90 (.b .lss (.m 13) (.ln false (.m 10))) .skip (.exit 6)) (.seq (.block 7 (.seq (.reg [⟨96, (.ix (.ldA 4 hh) 4 (.ix (.ld1 hh) 1 (.lf (.ld1 hh) 1 1) (.m 3)) (.m 13)), [.ba 14 [.int .i64 (.ofNat 0), .str [], .int .i64 (.ofNat 0), .int .i64 (.ofNat 0)], .bs 4 14 0]⟩]) (.ifd 43 [] [] 104 (.or (.or (.or (.b .neq (.op (.ld1 hh) (.op (.faddr 0 hh) (.op (.iaddr 4 hh hh) (.cons (.m 10) (.m 13))))) (.lf (.ld1 hh) 0 14)) (.b .neq (.op (.ld1 hh) (.op (.faddr 1 hh) (.op (.iaddr 4 hh hh) (.cons (.m 10) (.m 13))))) (.lf (.ld1 hh) 1 14))) (.b .neq (.op (.ld1 hh) (.op (.faddr 2 hh) (.op (.iaddr 4 hh hh) (.cons (.m 10) (.m 13))))) (.lf (.ld1 hh) 2 14))) (.and (.b .gtr (.m 13) (.k 0)) (.b .leq (.op (.ld1 hh) (.op (.faddr 3 hh) (.op (.iaddr 4 hh hh) (.cons (.m 10) (.m 13))))) (.op (.ld1 hh) (.op (.faddr 3 hh) (.op (.iaddr 4 hh hh) (.cons (.m 10) (.b .sub (.m 13) (.k 1))))))))) (.seq (.reg [⟨0, (.c (.bool false)), [.mv 2 0]⟩]) .ret) .skip))) (.reg [⟨94, (.b .add (.m 13) (.k 1)), [.mv 13 0]⟩]))
def x558l2 : XC := .seq (.ife [] 63 (.b .lss (.m 9) (.k 2)) .skip (.exit 4)) (.seq (.block 5 (.seq (.reg [⟨68, (.ca 280 (.ix (.ld1 hh) 1 (.m 8) (.m 9))), [.mv 15 0]⟩, ⟨73, (.cons (.op (.ext hh 0) (.v 15)) (.cons (.v 15) (.v 15))), [.wo 16 (.ext hh 1) [1], .wo 17 (.ext hh 2) [2], .mv 10 0]⟩, ⟨0, (.cons (.v 16) (.v 17)), [.mv 11 0, .mv 12 1]⟩]) (.seq (.ife [] 76 (.or (.b .neq (.ca 281 (.m 12)) (.k 0)) (.b .neq (.ln false (.m 10)) (.ln false (.ix (.ld1 hh) 1 (.lf (.ld1 hh) 1 1) (.m 3))))) (.seq (.reg [⟨0, (.c (.bool false)), [.mv 2 0]⟩]) .ret) .skip) (.seq (.reg [⟨0, (.k 0), [.mv 13 0]⟩]) (.block 6 (.loop x558l1)))))) (.reg [⟨65, (.b .add (.m 9) (.k 1)), [.mv 9 0]⟩]))
def x558l3 : XC := .seq (.ife [] 17 (.and (.b .lss (.m 3) (.ln false (.lf (.ld1 hh) 1 1))) (.b .lss (.m 3) (.k 8))) .skip (.exit 0)) (.seq (.block 1 (.seq (.reg [⟨28, (.tup [0, 1] (.ca 286 (.ix (.ld1 hh) 1 (.lf (.ld1 hh) 1 1) (.m 3)))), [.mv 4 0, .mv 5 1]⟩]) (.seq (.ife [] 37 (.b .neq (.ca 281 (.m 5)) (.k 0)) (.exit 1) .skip) (.seq (.reg [⟨0, (.c (.str [9])), [.mv 6 0]⟩]) (.seq (.seq (.reg [⟨0, (.k 0), [.mv 7 0]⟩]) (.block 2 (.loop x558l0))) (.seq (.reg [⟨59, (.op (.buildS 1 2 (.str []) [(0, hh), (1, hh)]) (.cons (.m 4) (.b .add (.m 6) (.c (.str [32, 59, 32, 48, 120, 32, 128, 32, 64]))))), [.mv 8 0]⟩]) (.seq (.reg [⟨0, (.k 0), [.mv 9 0]⟩]) (.block 4 (.loop x558l2))))))))) (.reg [⟨26, (.b .add (.m 3) (.k 1)), [.mv 3 0]⟩]))
def x558 : XF := ⟨8, [0, 1, 2, 3, 4, 5, 6, 7, 8, 9, 10, 11, 12, 13, 14, 67, 74, 75], [false, true, false, false, false, false, false, false, false, false, false, false, false, false, true, false, false, false], 1, [(2, none)], false, (.seq (.reg [⟨0, (.cons (.v 0) (.c (.bool false))), [.bb 1 0, .mv 2 1]⟩]) (.seq (.ife [] 15 (.ca 47 (.lw (.ldA 2 hh) 1)) (.seq (.reg [⟨0, (.c (.bool true)), [.mv 2 0]⟩]) .ret) .skip) (.seq (.seq (.reg [⟨0, (.k 0), [.mv 3 0]⟩]) (.block 0 (.loop x558l3))) (.seq (.reg [⟨150, (.ca 282 .nil), [.mv 2 0]⟩]) .ret))))⟩
theorem w558 : wfF x558 = true := by decide +kernel
def x559l0 : XC := .seq (.ife [] 18 (.and (.b .lss (.m 3) (.ln false (.lf (.ld1 hh) 1 1))) (.b .lss (.m 3) (.k 8))) .skip (.exit 0)) (.seq (.block 1 (.seq (.reg [⟨29, (.ca 27 (.ix (.ld1 hh) 1 (.lf (.ld1 hh) 1 1) (.m 3))), [.mv 4 0]⟩]) (.seq (.reg [⟨35, (.tup [0, 1] (.ca 286 (.m 4))), [.mv 5 0, .mv 6 1]⟩]) (.seq (.reg [⟨0, (.cons (.k 1) (.c (.str []))), [.mv 7 0, .mv 8 1]⟩]) (.seq (.ife [] 40 (.ca 33 (.ix (.ld1 hh) 1 (.lf (.ld1 hh) 1 1) (.m 3))) (.reg [⟨46, (.cons (.ca 560 (.m 4)) (.k 0)), [.mv 7 1, .mv 8 0]⟩]) .skip) (.ife [] 48 (.or (.or (.or (.b .neq (.ca 281 (.ca 561 (.m 4))) (.m 7)) (.b .neq (.ca 281 (.m 6)) (.m 7))) (.b .neq (.m 5) (.m 8))) (.u .not (.ca 38 (.cons (.m 4) (.ix (.ld1 hh) 1 (.lf (.ld1 hh) 1 1) (.m 3)))))) (.seq (.reg [⟨0, (.c (.bool false)), [.mv 2 0]⟩]) .ret) .skip)))))) (.reg [⟨27, (.b .add (.m 3) (.k 1)), [.mv 3 0]⟩]))
def x559l1 : XC := .seq (.ife [] 74 (.and (.b .lss (.m 9) (.ln false (.lf (.ld1 hh) 0 1))) (.b .lss (.m 9) (.k 8))) .skip (.exit 2)) (.seq (.block 3 (.seq (.reg [⟨85, (.tup [0, 1] (.ca 357 (.ix (.ld1 hh) 1 (.lf (.ld1 hh) 0 1) (.m 9)))), [.mv 10 0, .mv 11 1]⟩]) (.seq (.reg [⟨94, (.tup [0, 1] (.ca 147 (.ix (.ld1 hh) 1 (.lf (.ld1 hh) 0 1) (.m 9)))), [.mv 12 0, .mv 13 1]⟩]) (.ife [] 103 (.or (.or (.op (.eqk .bool true hh hh) (.cons (.m 13) (.b .eql (.ca 281 (.m 11)) (.k 0)))) (.and (.u .not (.m 13)) (.b .neq (.ca 281 (.m 11)) (.k 2)))) (.and (.m 13) (.u .not (.ca 368 (.cons (.m 10) (.m 12)))))) (.seq (.reg [⟨0, (.c (.bool false)), [.mv 2 0]⟩]) .ret) .skip)))) (.reg [⟨83, (.b .add (.m 9) (.k 1)), [.mv 9 0]⟩]))
def x559 : XF := ⟨8, [0, 1, 2, 3, 4, 5, 6, 7, 8, 9, 10, 11, 12, 13, 14, 15], [false, true, false, false, false, false, false, false, false, false, false, false, false, false, false, false], 1, [(2, none)], false, (.seq (.reg [⟨0, (.cons (.v 0) (.c (.bool false))), [.bb 1 0, .mv 2 1]⟩]) (.seq (.ife [] 16 (.ca 47 (.lw (.ldA 2 hh) 1)) (.seq (.reg [⟨0, (.c (.bool true)), [.mv 2 0]⟩]) .ret) .skip) (.seq (.seq (.reg [⟨0, (.k 0), [.mv 3 0]⟩]) (.block 0 (.loop x559l0))) (.seq (.seq (.reg [⟨0, (.k 0), [.mv 9 0]⟩]) (.block 2 (.loop x559l1))) (.seq (.reg [⟨126, (.tup [0, 1] (.ca 357 (.op (.mem .b2s []) (.op (.mkS 1 1 (.int .u8 (.ofNat 0)) hh hh) (.cons (.k 4001) (.k 4001)))))), [.mv 14 0, .mv 15 1]⟩]) (.seq (.reg [⟨132, (.and (.b .eql (.ca 281 (.m 15)) (.k 2)) (.ca 282 .nil)), [.mv 2 0]⟩]) .ret))))))⟩
theorem w559 : wfF x559 = true := by decide +kernel
def x560l0 : XC := .seq (.ife [] 5 (.b .lss (.m 3) (.ln false (.m 0))) .skip (.exit 0)) (.seq (.block 1 (.seq (.ife [] 11 (.b .gtr (.m 3) (.k 0)) (.reg [⟨13, (.b .add (.m 2) (.c (.str [32]))), [.mv 2 0]⟩]) .skip) (.ife [] 15 (.b .eql (.op (.ld1 hh) (.op (.faddr 0 hh) (.op (.iaddr 4 hh hh) (.cons (.m 0) (.m 3))))) (.k 2)) (.reg [⟨21, (.b .add (.m 2) (.ca 289 (.op (.ld1 hh) (.op (.faddr 2 hh) (.op (.iaddr 4 hh hh) (.cons (.m 0) (.m 3))))))), [.mv 2 0]⟩]) (.reg [⟨29, (.b .add (.m 2) (.op (.ld1 hh) (.op (.faddr 1 hh) (.op (.iaddr 4 hh hh) (.cons (.m 0) (.m 3)))))), [.mv 2 0]⟩])))) (.reg [⟨9, (.b .add (.m 3) (.k 1)), [.mv 3 0]⟩]))
def x560 : XF := ⟨6, [0, 2, 3, 4], [false, false, false, false], 1, [(1, none)], false, (.seq (.reg [⟨0, (.c (.str [])), [.mv 1 0]⟩]) (.seq (.reg [⟨0, (.c (.str [])), [.mv 2 0]⟩]) (.seq (.seq (.reg [⟨0, (.k 0), [.mv 3 0]⟩]) (.block 0 (.loop x560l0))) (.seq (.reg [⟨36, (.m 2), [.mv 1 0]⟩]) .ret))))⟩
theorem w560 : wfF x560 = true := by decide +kernel
def x561 : XF := ⟨3, [0, 2], [false, false], 1, [(1, none)], false, (.seq (.reg [⟨0, (.k 0), [.mv 1 0]⟩]) (.seq (.ife [] 3 (.u .not (.ca 51 (.m 0))) (.seq (.reg [⟨0, (.k 1), [.mv 1 0]⟩]) .ret) .skip) (.seq (.reg [⟨0, (.k 0), [.mv 1 0]⟩]) .ret)))⟩
theorem w561 : wfF x561 = true := by decide +kernel

end

end M2
end
section
namespace M2
open Go Go.ChangeShapes Go.WideShapes Go.ChangeAt Go.RowKit

/-! ### Laws that look at nothing of their argument but whether one slice is there, and how long it is -/

def OneSl (a : AV) : Prop := a = .nils ∨ a = .sl0 ∨ ∃ e pos cap alt n, a = .sl 0 e pos cap false alt (List.replicate n .und)

def oneG (W : World) (p : Place) : G := { n := 1, ok := fun i => i = 0, ρ := fun _ => p, ν := fun _ => 0, μ := fun _ => .oth, w := W }

theorem oneG_sr (M : Maps) (W : World) (p : Place) (hk : ∀ b o v, M.kb b o = some v → W.cell? ⟨b, o, none⟩ = some v ∧ csize W b ≤ M.tm b) : SR M (oneG W p) ⟨1, [], []⟩ :=
  { n := rfl, wf := ⟨by simp, fun p hp => by simp at hp, by simp, fun p hp => by simp at hp⟩, okn := fun i h => by have : i = 0 := h; subst this; exact Nat.one_pos,
    var := fun x o hx => by simp [look2_nil] at hx, inj := fun x y o o' hx => by simp [look2_nil] at hx,
    ids := fun i en e hx => by simp [look2_nil] at hx, idinj := fun i j a b hx => by simp [look2_nil] at hx,
    kept := fun b o v hb => ⟨World.block_lt_of_cell? _ _ (hk b o v hb).1, rfl, hk b o v hb⟩ }

/-- a slice, but for what stands in it -/
theorem oneSl_of {M : Maps} {W : World} {n K : Nat} {a : AV} {v : Value} (hv : VR M (argG W n K) a v) (ha : a = .nils ∨ a = .sl0 ∨ ∃ id e pos cap alt es, a = .sl id e pos cap false alt es) :
    ∃ a' p, OneSl a' ∧ VR M (oneG W p) a' v := by
  rcases ha with rfl | rfl | ⟨id, e, pos, cap, alt, es, rfl⟩
  · cases hv
    exact ⟨.nils, ⟨0, 0, 0⟩, .inl rfl, .nils⟩
  · cases hv with
    | sl0 b o sp => exact ⟨.sl0, ⟨0, 0, 0⟩, .inr (.inl rfl), .sl0 b o sp⟩
  · cases hv with
    | sl id e pos cap fl alt es b off ccap vs hid hcc hb hoff hlen hvv hsz hc hf =>
      refine ⟨.sl 0 e pos cap false alt (List.replicate es.length .und), (argG W n K).ρ id, .inr (.inr ⟨e, pos, cap, alt, es.length, rfl⟩), ?_⟩
      have := VR.sl (M := M) (g := oneG W ((argG W n K).ρ id)) 0 e pos cap false alt (List.replicate es.length .und) b off ccap vs rfl hcc hb hoff (by simpa using hlen)
        (fun i hi => by rw [List.getElem_replicate]; exact .und _) (fun i hi => hsz i (by simpa using hi)) (fun i j hi hj => hc i j (by simpa using hi) hj) ⟨hf.1, trivial⟩
      simpa using this

theorem law_run0 {P : Program} {M : Maps} {im : FuncId → Option Nat} {tbl : Nat → Option AFunc} (hmix : P.follows .mixedOrders = true) (him : ∀ f x, im f = some x → M.fm x = f) (ht : Table P M im tbl)
    {H : Type} {enc : TypeId × Value → H} {W : World} {base id tf : Nat} {t : TypeId} {fs : Array Field} (hu : P.underlying t = some (.struct fs)) (ha : argT P (tf + 1) t = true) {v : Value} {d : DataW H} {p : List MemPlace}
    (hval : Value.okWide P W .any base t v) (htr : DataW.Trod enc P W 0 (fun _ => true) true t v d p)
    {w j i : Nat} {fl : Field} {e : TypeId} (hw : P.cellsOf t = w) (hfl : fs[i]? = some fl) (hoff : fl.offset = j) (hjw : j < w) (hsl : P.underlying fl.type = some (.slice e)) (hc1 : P.cellsOf fl.type = 1) (htf : tf ≠ 0)
    (hrun : ∀ a, OneSl a → ∃ n t', callA tbl (ev tbl n) id [.agg ((List.replicate w AV.und).set j a)] ⟨1, [], []⟩ = .ok (.bool true) t') (hkb : ∀ b o v, M.kb b o = some v → W.cell? ⟨b, o, none⟩ = some v ∧ csize W b ≤ M.tm b := by exact fun _ _ _ h => nomatch (show (none : Option Value) = some _ from h)) :
    Calls P (M.fm id) #[v] W fun e W' => e = .returned (.bool true) ∧ Below W.heap.size W W' := by
  obtain ⟨K, hK0, hK⟩ := size_bound W
  obtain ⟨fuel, htr⟩ := htr
  unfold Value.okWide at hval
  rw [hu] at hval
  obtain ⟨cs, rfl, hcs, -⟩ := hval
  obtain ⟨ascs, h1, h2, h3, -⟩ := trod_vr (M := M) hK0 hK fuel (tf + 1) t _ _ ha htr
  have hl : ascs.length = cs.size := by simpa [Value.cells] using h2
  unfold DA at h1
  rw [hu] at h1
  obtain ⟨ps, -, hps, hasl, hf⟩ := h1
  obtain ⟨hi, hfi⟩ := Array.getElem?_eq_some_iff.mp hfl
  have h4 := hf i hi (by omega)
  rw [hfi, hoff, hc1] at h4
  have hjl : j < ascs.length := by rw [hasl, hw]; exact hjw
  have hone : (ascs.drop j).take 1 = [ascs[j]] := by rw [List.drop_eq_getElem_cons hjl]; rfl
  rw [hone] at h4
  have hkind : ascs[j] = .nils ∨ ascs[j] = .sl0 ∨ ∃ id e pos cap alt es, ascs[j] = .sl id e pos cap false alt es := by
    cases tf with
    | zero => exact absurd rfl htf
    | succ tf =>
      unfold DA at h4
      rw [hsl] at h4
      rcases h4 with ⟨-, h⟩ | ⟨elems, spare, es, -, -, -, -, ⟨-, h⟩ | ⟨id, pos, h⟩⟩
      · injection h with h; exact .inl h
      · injection h with h; exact .inr (.inl h)
      · injection h with h; exact .inr (.inr ⟨_, _, _, _, _, _, h⟩)
  have h5 := h3 j (by simpa using hjl)
  obtain ⟨a', pl, ho, hv'⟩ := oneSl_of h5 hkind
  obtain ⟨n, t', hr⟩ := hrun a' ho
  refine link (g := oneG W pl) hmix him ht (fun _ _ => rfl) (oneG_sr M W pl hkb) rfl (fun q hq => ?_) hr
  have hq0 : q = 0 := by simpa using hq
  subst hq0
  simp only [List.getElem_cons_zero]
  refine .agg _ cs (by simp [← hl, hasl, hw]) (fun q hq => ?_)
  by_cases e : j = q
  · subst e
    simp only [List.getElem_set_self]
    simpa [Value.cells, Array.getD_eq_getD_getElem?, List.getD_eq_getElem?_getD] using hv'
  · rw [List.getElem_set_ne e, List.getElem_replicate]
    exact .und _

end M2
end
section
namespace M2
open Go

/-! ### A law that hands one row of texts to a function -/

def okR (r : OR) : Bool := match r with | .ok (.bool b) _ => b | _ => false
theorem okR_ok {r : OR} (h : okR r = true) : ∃ t, r = .ok (.bool true) t := by
  unfold okR at h
  split at h
  · subst h; exact ⟨_, rfl⟩
  · cases h

noncomputable def body2 (c1 c2 : CallF) (fn : AFunc) (l1 l2 : List AO) (F : Fr) (t : T) : OR :=
  RR.rec (motive := fun _ => OR) .fail (fun F t => RR.rec (motive := fun _ => OR) .fail (fun F t => afterBody fn F t) (fun _ _ _ => .fail) (fun F t => afterBody fn F t) (runOps l2 c2 F t)) (fun _ _ _ => .fail) (fun F t => afterBody fn F t) (runOps l1 c1 F t)

theorem runOps_norm (c : CallF) : ∀ (l : List AO) (F : Fr) (t : T), runOps l c F t = .fail ∨ ∃ F' t', runOps l c F t = .norm F' t' := by
  intro l
  induction l with
  | nil => intro F t; exact .inr ⟨F, t, rfl⟩
  | cons o l ih =>
    intro F t
    rw [show runOps (o :: l) c F t = opsCons o l (fun call F t => runOps l call F t) c F t from rfl]
    unfold opsCons
    split
    · split
      · exact ih _ _
      · exact .inl rfl
    · exact ih _ _
    · exact .inl rfl

theorem callA_eq {tbl : Nat → Option AFunc} {e : Ev} {id : Nat} {fn : AFunc} {args : List AV} {F : Fr} {t : T} (hf : tbl id = some fn) (ha : argsIn fn.params args .nil = some F) :
    callA tbl e id args t = RR.rec (motive := fun _ => OR) .fail (fun f t => afterBody fn f t) (fun _ _ _ => .fail) (fun f t => afterBody fn f t) (e fn.body F t.enter) := by
  unfold callA
  rw [hf]
  simp only
  rw [ha]
  simp only
  cases e fn.body F t.enter <;> rfl

theorem callA_body2 {tbl : Nat → Option AFunc} {N id : Nat} {fn : AFunc} {l1 l2 : List AO} {args : List AV} {F : Fr} {t : T} (hf : tbl id = some fn) (hb : fn.body = .seq (.reg l1) (.seq (.reg l2) .ret)) (ha : argsIn fn.params args .nil = some F) :
    callA tbl (ev tbl (N + 3)) id args t = body2 (callA tbl (ev tbl (N + 1))) (callA tbl (ev tbl N)) fn l1 l2 F t.enter := by
  rw [callA_eq hf ha, hb]
  generalize hc1 : callA tbl (ev tbl (N + 1)) = c1
  generalize hc2 : callA tbl (ev tbl N) = c2
  have e1 : ev tbl (N + 3) (.seq (.reg l1) (.seq (.reg l2) .ret)) F t.enter = RR.rec (motive := fun _ => RR) .fail (ev tbl (N + 2) (.seq (.reg l2) .ret)) RR.exit RR.ret (runOps l1 c1 F t.enter) := by rw [← hc1]; rfl
  have e2 : ∀ F t, ev tbl (N + 2) (.seq (.reg l2) .ret) F t = RR.rec (motive := fun _ => RR) .fail (ev tbl (N + 1) .ret) RR.exit RR.ret (runOps l2 c2 F t) := fun _ _ => by rw [← hc2]; rfl
  rw [e1]
  unfold body2
  rcases runOps_norm c1 l1 F t.enter with h | ⟨F', t', h⟩
  · rw [h]
  · rw [h]
    simp only
    rw [e2]
    rcases runOps_norm c2 l2 F' t' with k | ⟨F2, t2, k⟩
    · rw [k]
    · rw [k]
      rfl

end M2
end
