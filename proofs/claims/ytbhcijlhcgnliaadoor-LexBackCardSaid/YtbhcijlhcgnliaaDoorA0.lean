/- General ground for the statement: an abstract machine that the program's code is shown to follow, and the contracts of the functions that the law reaches. Part 0. -/
import Derived.Calls
import Derived.Tactics
import Derived.Laws.Sem
import Derived.Laws.World
import Derived.Lib.Bytealg
import Derived.Orders
import Derived.Laws.Cells
import Derived.Laws.Strings
import Derived.Laws.Strings2
import Derived.Laws.Concat
import Derived.Room.Entries
set_option linter.unusedVariables false
set_option linter.unusedSimpArgs false
section
namespace M2
open Go

/-! ### Abstract values -/

inductive Bits where
  | e | z (b : Bits) | o (b : Bits)
  deriving DecidableEq

inductive AV where
  | und
  | bool (b : Bool)
  | int (k : IntKind) (n : Int)
  | str (s : List UInt8)
  | flt (b : Nat)
  | cpx (re im : Nat)
  | nilp
  | ptr (x off : Nat)
  | eptr (cs : List AV)
  | nils
  | sl0
  | sl (id e pos cap : Nat) (fl : Bool) (alt : Nat) (es : List AV)
  | ms (x e pos len cap : Nat)
  | fn (f : Nat) (first cap : List AV)
  | nilf
  | agg (cs : List AV)
  | tup (vs : List AV)
  | mp (x : Nat)
  | nilm
  | nili
  | ifc (t : Nat) (v : AV)
  | sle (e : Nat) (es : List AV)

instance : Inhabited AV := ⟨.und⟩

def AV.cells : AV → List AV
  | .agg cs => cs
  | v => [v]

/-- a value of one cell -/
def AV.isCell : AV → Bool
  | .und | .agg _ | .tup _ => false
  | _ => true

def AV.known : AV → Bool
  | .und => false
  | _ => true

inductive VObj where
  | cells (cs : List AV)
  | map (es : List (AV × AV))

abbrev VScope := List (Nat × VObj)
abbrev IScope := List (Nat × Nat × Nat)

structure T where
  n : Nat
  vs : List VScope
  is : List IScope

/-! ### The relation to the model's values and worlds -/

inductive Own where
  | var
  | lim (m : Nat)
  | oth
  | lock (m : Nat)
  | shut

/-- the whole row stays as it is -/
def Own.still : Own → Bool
  | .oth | .lock _ | .shut => true
  | _ => false

/-- are cells below m fixed? -/
def Own.fix (m : Nat) : Own → Prop
  | .oth => True
  | .lim k | .lock k => m ≤ k
  | _ => False

/-- nothing of it may change for a while -/
def Own.frz : Own → Own
  | .var => .shut
  | .lim k => .lock k
  | o => o

structure Place where
  block : Nat
  off : Nat
  extra : Nat

/-- a world, and where the abstract things lie in it -/
structure G where
  n : Nat
  ok : Nat → Prop
  ρ : Nat → Place
  ν : Nat → Nat
  μ : Nat → Own
  w : World

/-- how many cells a block has -/
def csize (w : World) (b : Nat) : Nat :=
  match w.heap[b]? with
  | some (.cells c _ _) => c.size
  | _ => 0
theorem csize_of_heap {w w' : World} {b : Nat} (h : w'.heap[b]? = w.heap[b]?) : csize w' b = csize w b := by
  simp [csize, h]

def G.fixed (g : G) (b m : Nat) : Prop :=
  b < g.w.heap.size ∧ (g.μ b).fix m

theorem Own.fix_le {o : Own} {m m' : Nat} (h : o.fix m) (hl : m' ≤ m) : o.fix m' := by
  cases o <;> first | exact h | exact Nat.le_trans hl h

structure Maps where
  fm : Nat → FuncId
  tm : Nat → TypeId
  kb : Nat → Nat → Option Value

/-- cells that stay as they are, all along; how many their block has at most -/
def KeptR (M : Maps) (g : G) : Prop := ∀ b o v, M.kb b o = some v → b < g.w.heap.size ∧ g.μ b = .oth ∧ g.w.cell? ⟨b, o, none⟩ = some v ∧ csize g.w b ≤ M.tm b

inductive VR (M : Maps) (g : G) : AV → Value → Prop where
  | und (v : Value) : VR M g .und v
  | bool (b : Bool) : VR M g (.bool b) (.bool b)
  | int (k : IntKind) (n : Int) : VR M g (.int k n) (.int k n)
  | str (s : List UInt8) : VR M g (.str s) (.string ⟨s.toArray⟩)
  | flt (b : Nat) : VR M g (.flt b) (.float .f64 b)
  | cpx (re im : Nat) : VR M g (.cpx re im) (.complex .f64 re im)
  | nilp : VR M g .nilp (.pointer none)
  | ptr (x off : Nat) (hx : g.ok x) : VR M g (.ptr x off) (.pointer (some ⟨g.ν x, off, none⟩))
  | eptr (cs : List AV) (b o : Nat) (vs : Nat → Value)
      (hv : ∀ i (h : i < cs.length), VR M g cs[i] (vs i))
      (hc : ∀ i, i < cs.length → g.w.cell? ⟨b, o + i, none⟩ = some (vs i))
      (hf : g.fixed b (o + cs.length)) : VR M g (.eptr cs) (.pointer (some ⟨b, o, none⟩))
  | nils : VR M g .nils (.slice none 0 0)
  | sl0 (b o : Nat) (sp : Option Nat) : VR M g .sl0 (.slice (some ⟨b, o, sp⟩) 0 0)
  | sl (id e pos cap : Nat) (fl : Bool) (alt : Nat) (es : List AV) (b o ccap : Nat) (vs : Nat → Value)
      (hid : g.ok id) (hcc : ccap = cap + (if fl then (g.ρ id).extra else 0)) (hb : b = (g.ρ id).block)
      (ho : o = (g.ρ id).off + (if ccap = 0 then alt else pos)) (hlen : es.length ≤ cap)
      (hv : ∀ i (h : i < es.length), VR M g es[i] (vs i))
      (hs : ∀ i, i < es.length → (vs i).cells.size = e)
      (hc : ∀ i j, i < es.length → j < e → g.w.cell? ⟨b, o + i * e + j, none⟩ = (vs i).cells[j]?)
      (hf : g.fixed b (o + es.length * e)) :
      VR M g (.sl id e pos cap fl alt es) (.slice (some ⟨b, o, none⟩) es.length ccap)
  | ms (x e pos len cap ccap : Nat) (hx : g.ok x) (hl : len ≤ cap) (hcc : cap ≤ ccap) (hb : g.ν x < g.w.heap.size) (hz : pos + ccap * e ≤ csize g.w (g.ν x)) :
      VR M g (.ms x e pos len cap) (.slice (some ⟨g.ν x, pos, none⟩) len ccap)
  | fn (f : Nat) (first cap : List AV) (vs cs : Array Value) (h1 : vs.size = first.length) (h2 : cs.size = cap.length)
      (hv : ∀ i (h : i < first.length), VR M g first[i] (vs.getD i undef))
      (hc : ∀ i (h : i < cap.length), VR M g cap[i] (cs.getD i undef)) : VR M g (.fn f first cap) (.func (.func (M.fm f)) vs cs)
  | nilf : VR M g .nilf .nilFunc
  | agg (cs : List AV) (vs : Array Value) (h1 : vs.size = cs.length)
      (hv : ∀ i (h : i < cs.length), VR M g cs[i] (vs.getD i undef)) : VR M g (.agg cs) (.agg vs)
  | tup (cs : List AV) (vs : Array Value) (h1 : vs.size = cs.length)
      (hv : ∀ i (h : i < cs.length), VR M g cs[i] (vs.getD i undef)) : VR M g (.tup cs) (.tuple vs)
  | mp (x : Nat) (hx : g.ok x) : VR M g (.mp x) (.map (some (g.ν x)))
  | nilm : VR M g .nilm (.map none)
  | nili : VR M g .nili .nilIface
  | ifc (t : Nat) (v : AV) (cv : Value) (hv : VR M g v cv) : VR M g (.ifc t v) (.iface t cv)
  | sle (e : Nat) (es : List AV) (b o ccap : Nat) (vs : Nat → Value) (hlen : es.length ≤ ccap)
      (hv : ∀ i (h : i < es.length), VR M g es[i] (vs i))
      (hs : ∀ i, i < es.length → (vs i).cells.size = e)
      (hc : ∀ i j, i < es.length → j < e → g.w.cell? ⟨b, o + i * e + j, none⟩ = (vs i).cells[j]?)
      (hf : g.fixed b (o + es.length * e)) : VR M g (.sle e es) (.slice (some ⟨b, o, none⟩) es.length ccap)

/-- later, and richer -/
structure G.Le (g g' : G) : Prop where
  n : g.n ≤ g'.n
  ok : ∀ i, g.ok i → g'.ok i
  new : ∀ i, g'.ok i → g.ok i ∨ g.n ≤ i
  ρ : ∀ i, g.ok i → g'.ρ i = g.ρ i
  ν : ∀ i, g.ok i → g'.ν i = g.ν i
  size : g.w.heap.size ≤ g'.w.heap.size
  lim : ∀ b k, b < g.w.heap.size → g.μ b = .lim k →
    ∃ k', g'.μ b = .lim k' ∧ k ≤ k' ∧ ∀ off, off < k → g'.w.cell? ⟨b, off, none⟩ = g.w.cell? ⟨b, off, none⟩
  oth : ∀ b, b < g.w.heap.size → (g.μ b).still = true → g'.μ b = g.μ b ∧ g'.w.heap[b]? = g.w.heap[b]?
  os : g'.w.os = g.w.os
  tape : g'.w.tape = g.w.tape
  output : g'.w.output = g.w.output
  sz : ∀ b, b < g.w.heap.size → csize g'.w b = csize g.w b

theorem G.Le.refl (g : G) : g.Le g :=
  ⟨Nat.le_refl _, fun _ h => h, fun _ h => .inl h, fun _ _ => rfl, fun _ _ => rfl, Nat.le_refl _, fun _ k _ h => ⟨k, h, Nat.le_refl _, fun _ _ => rfl⟩, fun _ _ _ => ⟨rfl, rfl⟩, rfl, rfl, rfl, fun _ _ => rfl⟩

theorem G.Le.trans {a b c : G} (h : a.Le b) (k : b.Le c) : a.Le c where
  n := Nat.le_trans h.n k.n
  ok i hi := k.ok i (h.ok i hi)
  new i hi := (k.new i hi).elim (fun hb => h.new i hb) (fun hb => .inr (Nat.le_trans h.n hb))
  ρ i hi := (k.ρ i (h.ok i hi)).trans (h.ρ i hi)
  ν i hi := (k.ν i (h.ok i hi)).trans (h.ν i hi)
  size := Nat.le_trans h.size k.size
  lim x m hx hm := by
    obtain ⟨m', h1, h2, h3⟩ := h.lim x m hx hm
    obtain ⟨m'', k1, k2, k3⟩ := k.lim x m' (Nat.lt_of_lt_of_le hx h.size) h1
    exact ⟨m'', k1, Nat.le_trans h2 k2, fun off ho => (k3 off (Nat.lt_of_lt_of_le ho h2)).trans (h3 off ho)⟩
  oth x hx hm := by
    obtain ⟨h1, h2⟩ := h.oth x hx hm
    obtain ⟨k1, k2⟩ := k.oth x (Nat.lt_of_lt_of_le hx h.size) (by rw [h1]; exact hm)
    exact ⟨k1.trans h1, k2.trans h2⟩
  os := k.os.trans h.os
  tape := k.tape.trans h.tape
  output := k.output.trans h.output
  sz b hb := (k.sz b (Nat.lt_of_lt_of_le hb h.size)).trans (h.sz b hb)

theorem cell?_of_heap {w w' : World} {a : Addr} (h : w'.heap[a.block]? = w.heap[a.block]?) : w'.cell? a = w.cell? a := by
  simp [World.cell?, h]

theorem KeptR.mono {M : Maps} {g g' : G} (h : KeptR M g) (hl : g.Le g') : KeptR M g' := fun b o v hb => by
  obtain ⟨h1, h2, h3, h4⟩ := h b o v hb
  obtain ⟨k1, k2⟩ := hl.oth b h1 (by rw [h2]; rfl)
  exact ⟨Nat.lt_of_lt_of_le h1 hl.size, by rw [k1, h2], by rw [cell?_of_heap k2, h3], by rw [csize_of_heap k2]; exact h4⟩
theorem KeptR.none {M : Maps} {g : G} (h : ∀ b o, M.kb b o = .none) : KeptR M g := fun b o v hb => by rw [h b o] at hb; cases hb

theorem G.Le.fixed {g g' : G} (h : g.Le g') {b m : Nat} (hf : g.fixed b m) : g'.fixed b m := by
  obtain ⟨h1, h2⟩ := hf
  refine ⟨Nat.lt_of_lt_of_le h1 h.size, ?_⟩
  cases hm : g.μ b with
  | var => rw [hm] at h2; exact h2.elim
  | shut => rw [hm] at h2; exact h2.elim
  | oth => rw [(h.oth b h1 (by rw [hm]; rfl)).1, hm]; trivial
  | lock k => rw [(h.oth b h1 (by rw [hm]; rfl)).1, hm]; rw [hm] at h2; exact h2
  | lim k =>
    obtain ⟨k', a1, a2, _⟩ := h.lim b k h1 hm
    rw [hm] at h2
    rw [a1]
    exact Nat.le_trans h2 a2

theorem G.Le.cell {g g' : G} (h : g.Le g') {b m off : Nat} (hf : g.fixed b m) (ho : off < m) :
    g'.w.cell? ⟨b, off, none⟩ = g.w.cell? ⟨b, off, none⟩ := by
  obtain ⟨h1, h2⟩ := hf
  cases hm : g.μ b with
  | var => rw [hm] at h2; exact h2.elim
  | shut => rw [hm] at h2; exact h2.elim
  | oth => exact cell?_of_heap (h.oth b h1 (by rw [hm]; rfl)).2
  | lock k => exact cell?_of_heap (h.oth b h1 (by rw [hm]; rfl)).2
  | lim k =>
    obtain ⟨k', _, _, a3⟩ := h.lim b k h1 hm
    rw [hm] at h2
    exact a3 off (Nat.lt_of_lt_of_le ho h2)

/-- what a value's meaning hangs on stays -/
structure G.Ext (g g' : G) : Prop where
  ok : ∀ i, g.ok i → g'.ok i
  ρ : ∀ i, g.ok i → g'.ρ i = g.ρ i
  ν : ∀ i, g.ok i → g'.ν i = g.ν i
  fixed : ∀ b m, g.fixed b m → g'.fixed b m
  cell : ∀ b m off, g.fixed b m → off < m → g'.w.cell? ⟨b, off, none⟩ = g.w.cell? ⟨b, off, none⟩
  sz : ∀ b, b < g.w.heap.size → b < g'.w.heap.size ∧ csize g'.w b = csize g.w b

theorem G.Le.ext {g g' : G} (h : g.Le g') : g.Ext g' := ⟨h.ok, h.ρ, h.ν, fun _ _ hf => h.fixed hf, fun _ _ _ hf ho => h.cell hf ho, fun b hb => ⟨Nat.lt_of_lt_of_le hb h.size, h.sz b hb⟩⟩

theorem VR.ext {M : Maps} {g g' : G} (h : g.Ext g') {a : AV} {v : Value} (hv : VR M g a v) : VR M g' a v := by
  induction hv with
  | und v => exact .und v
  | bool b => exact .bool b
  | int k n => exact .int k n
  | str s => exact .str s
  | flt b => exact .flt b
  | cpx re im => exact .cpx re im
  | nilp => exact .nilp
  | ptr x off hx => rw [← h.ν x hx]; exact .ptr x off (h.ok _ hx)
  | eptr cs b o vs hv hc hf ih =>
    exact .eptr cs b o vs ih (fun i hi => by rw [h.cell _ _ _ hf (by omega)]; exact hc i hi) (h.fixed _ _ hf)
  | nils => exact .nils
  | sl0 b o sp => exact .sl0 b o sp
  | sl id e pos cap fl alt es b o ccap vs hid hcc hb ho hlen hv hs hc hf ih =>
    refine .sl id e pos cap fl alt es b o ccap vs (h.ok _ hid) (by rw [h.ρ id hid]; exact hcc) (by rw [h.ρ id hid]; exact hb)
      (by rw [h.ρ id hid]; exact ho) hlen ih hs (fun i j hi hj => ?_) (h.fixed _ _ hf)
    rw [h.cell _ _ _ hf, hc i j hi hj]
    have : i * e + e ≤ es.length * e := by
      have := Nat.mul_le_mul_right e (Nat.succ_le_of_lt hi)
      rw [Nat.succ_mul] at this; exact this
    omega
  | ms x e pos len cap ccap hx hl hcc hb hz =>
    obtain ⟨k1, k2⟩ := h.sz _ hb
    rw [← h.ν x hx]
    exact .ms x e pos len cap ccap (h.ok _ hx) hl hcc (by rw [h.ν x hx]; exact k1) (by rw [h.ν x hx, k2]; exact hz)
  | fn f first cap vs cs h1 h2 hv hc ih1 ih2 => exact .fn f first cap vs cs h1 h2 ih1 ih2
  | nilf => exact .nilf
  | agg cs vs h1 hv ih => exact .agg cs vs h1 ih
  | tup cs vs h1 hv ih => exact .tup cs vs h1 ih
  | mp x hx => rw [← h.ν x hx]; exact .mp x (h.ok _ hx)
  | nilm => exact .nilm
  | nili => exact .nili
  | ifc t v cv hv ih => exact .ifc t v cv ih
  | sle e es b o ccap vs hlen hv hs hc hf ih =>
    refine .sle e es b o ccap vs hlen ih hs (fun i j hi hj => ?_) (h.fixed _ _ hf)
    rw [h.cell _ _ _ hf, hc i j hi hj]
    have : i * e + e ≤ es.length * e := by
      have := Nat.mul_le_mul_right e (Nat.succ_le_of_lt hi)
      rw [Nat.succ_mul] at this; exact this
    omega

theorem VR.mono {M : Maps} {g g' : G} (h : g.Le g') {a : AV} {v : Value} (hv : VR M g a v) : VR M g' a v := hv.ext h.ext

/-- cells of a known value -/
theorem VR.cells {M : Maps} {g : G} {a : AV} {v : Value} (h : VR M g a v) (hk : a.known = true) :
    v.cells.size = a.cells.length ∧ ∀ i (h : i < a.cells.length), VR M g a.cells[i] (v.cells.getD i undef) := by
  cases h with
  | und => simp [AV.known] at hk
  | agg cs vs h1 hv => exact ⟨h1, hv⟩
  | bool b => exact ⟨rfl, fun i hi => by cases (show i = 0 by simpa [AV.cells] using hi); exact .bool b⟩
  | int k n => exact ⟨rfl, fun i hi => by cases (show i = 0 by simpa [AV.cells] using hi); exact .int k n⟩
  | str s => exact ⟨rfl, fun i hi => by cases (show i = 0 by simpa [AV.cells] using hi); exact .str s⟩
  | flt b => exact ⟨rfl, fun i hi => by cases (show i = 0 by simpa [AV.cells] using hi); exact .flt b⟩
  | cpx re im => exact ⟨rfl, fun i hi => by cases (show i = 0 by simpa [AV.cells] using hi); exact .cpx re im⟩
  | nilp => exact ⟨rfl, fun i hi => by cases (show i = 0 by simpa [AV.cells] using hi); exact .nilp⟩
  | ptr x off hx => exact ⟨rfl, fun i hi => by cases (show i = 0 by simpa [AV.cells] using hi); exact .ptr x off hx⟩
  | eptr cs b o vs hv hc hf => exact ⟨rfl, fun i hi => by cases (show i = 0 by simpa [AV.cells] using hi); exact .eptr cs b o vs hv hc hf⟩
  | nils => exact ⟨rfl, fun i hi => by cases (show i = 0 by simpa [AV.cells] using hi); exact .nils⟩
  | sl0 b o sp => exact ⟨rfl, fun i hi => by cases (show i = 0 by simpa [AV.cells] using hi); exact .sl0 b o sp⟩
  | sl id e pos cap fl alt es b o ccap vs hid hcc hb ho hlen hv hs hc hf =>
    exact ⟨rfl, fun i hi => by cases (show i = 0 by simpa [AV.cells] using hi); exact .sl id e pos cap fl alt es b o ccap vs hid hcc hb ho hlen hv hs hc hf⟩
  | ms x e pos len cap ccap hx hl hcc hb hz => exact ⟨rfl, fun i hi => by cases (show i = 0 by simpa [AV.cells] using hi); exact .ms x e pos len cap ccap hx hl hcc hb hz⟩
  | fn f first cap vs cs h1 h2 hv hc => exact ⟨rfl, fun i hi => by cases (show i = 0 by simpa [AV.cells] using hi); exact .fn f first cap vs cs h1 h2 hv hc⟩
  | nilf => exact ⟨rfl, fun i hi => by cases (show i = 0 by simpa [AV.cells] using hi); exact .nilf⟩
  | tup cs vs h1 hv => exact ⟨rfl, fun i hi => by cases (show i = 0 by simpa [AV.cells] using hi); exact .tup cs vs h1 hv⟩
  | mp x hx => exact ⟨rfl, fun i hi => by cases (show i = 0 by simpa [AV.cells] using hi); exact .mp x hx⟩
  | nilm => exact ⟨rfl, fun i hi => by cases (show i = 0 by simpa [AV.cells] using hi); exact .nilm⟩
  | nili => exact ⟨rfl, fun i hi => by cases (show i = 0 by simpa [AV.cells] using hi); exact .nili⟩
  | ifc t v cv hv => exact ⟨rfl, fun i hi => by cases (show i = 0 by simpa [AV.cells] using hi); exact .ifc t v cv hv⟩
  | sle e es b o ccap vs hlen hv hs hc hf => exact ⟨rfl, fun i hi => by cases (show i = 0 by simpa [AV.cells] using hi); exact .sle e es b o ccap vs hlen hv hs hc hf⟩

/-- a value that fits one cell -/
def oneCell : Value → Bool
  | .agg _ | .tuple _ => false
  | _ => true

theorem VR.oneCell {M : Maps} {g : G} {a : AV} {v : Value} (h : VR M g a v) (hk : a.isCell = true) : M2.oneCell v = true := by
  cases h <;> simp_all [AV.isCell, M2.oneCell]

theorem AV.cells_of_isCell {a : AV} (h : a.isCell = true) : a.cells = [a] := by
  cases a <;> simp_all [AV.isCell, AV.cells]

end M2
end
section
namespace M2
open Go
noncomputable section

/-! ### Frames: trees of values -/

inductive Fr where
  | nil
  | node (l : Fr) (v : AV) (r : Fr)

def Fr.getE (t : Fr) : AV := Fr.rec (motive := fun _ => AV) .und (fun _ v _ _ _ => v) t
def Fr.goL (ih : Fr → AV) (l : Fr) (_ : AV) (_ : Fr) (_ _ : AV) : AV := ih l
def Fr.goR (ih : Fr → AV) (_ : Fr) (_ : AV) (r : Fr) (_ _ : AV) : AV := ih r
def Fr.getZ (_ : Bits) (ih : Fr → AV) (t : Fr) : AV := Fr.rec (motive := fun _ => AV) .und (Fr.goL ih) t
def Fr.getO (_ : Bits) (ih : Fr → AV) (t : Fr) : AV := Fr.rec (motive := fun _ => AV) .und (Fr.goR ih) t
def Fr.get (t : Fr) (p : Bits) : AV := Bits.rec (motive := fun _ => Fr → AV) Fr.getE Fr.getZ Fr.getO p t
def Fr.pN (x : AV) (l : Fr) (_ : AV) (r : Fr) (_ _ : Fr) : Fr := .node l x r
def Fr.putE (t : Fr) (x : AV) : Fr := Fr.rec (motive := fun _ => Fr) (.node .nil x .nil) (Fr.pN x) t
def Fr.pL (ih : Fr → AV → Fr) (x : AV) (l : Fr) (v : AV) (r : Fr) (_ _ : Fr) : Fr := .node (ih l x) v r
def Fr.pR (ih : Fr → AV → Fr) (x : AV) (l : Fr) (v : AV) (r : Fr) (_ _ : Fr) : Fr := .node l v (ih r x)
def Fr.putZ (_ : Bits) (ih : Fr → AV → Fr) (t : Fr) (x : AV) : Fr := Fr.rec (motive := fun _ => Fr) (.node (ih .nil x) .und .nil) (Fr.pL ih x) t
def Fr.putO (_ : Bits) (ih : Fr → AV → Fr) (t : Fr) (x : AV) : Fr := Fr.rec (motive := fun _ => Fr) (.node .nil .und (ih .nil x)) (Fr.pR ih x) t
def Fr.put (t : Fr) (p : Bits) (x : AV) : Fr := Bits.rec (motive := fun _ => Fr → AV → Fr) Fr.putE Fr.putZ Fr.putO p t x

theorem Fr.get_nil (p : Bits) : Fr.nil.get p = .und := by cases p <;> rfl

theorem Fr.get_put_same (p : Bits) : ∀ (t : Fr) (x : AV), (t.put p x).get p = x := by
  induction p with
  | e => intro t x; cases t <;> rfl
  | z p ih => intro t x; cases t <;> exact ih _ _
  | o p ih => intro t x; cases t <;> exact ih _ _

theorem Fr.get_put_ne (p : Bits) : ∀ (q : Bits) (t : Fr) (x : AV), p ≠ q → (t.put p x).get q = t.get q := by
  induction p with
  | e => intro q t x h; cases q with
    | e => exact absurd rfl h
    | z q => cases t <;> first | rfl | exact Fr.get_nil q
    | o q => cases t <;> first | rfl | exact Fr.get_nil q
  | z p ih => intro q t x h; cases q with
    | e => cases t <;> rfl
    | z q =>
      have hq : p ≠ q := fun e => h (by rw [e])
      cases t with
      | nil => exact (ih q .nil x hq).trans (Fr.get_nil q)
      | node l v r => exact ih q l x hq
    | o q => cases t <;> first | rfl | exact Fr.get_nil q
  | o p ih => intro q t x h; cases q with
    | e => cases t <;> rfl
    | o q =>
      have hq : p ≠ q := fun e => h (by rw [e])
      cases t with
      | nil => exact (ih q .nil x hq).trans (Fr.get_nil q)
      | node l v r => exact ih q r x hq
    | z q => cases t <;> first | rfl | exact Fr.get_nil q

theorem Fr.get_put (t : Fr) (p q : Bits) (x : AV) : (t.put p x).get q = if p = q then x else t.get q := by
  by_cases h : p = q
  · subst h; rw [if_pos rfl]; exact Fr.get_put_same p t x
  · rw [if_neg h]; exact Fr.get_put_ne p q t x h

/-! ### The state -/

def lookC {α : Type} (x : Nat) (p : Nat × α) (_ : List (Nat × α)) (ih : Option α) : Option α := Bool.rec (motive := fun _ => Option α) ih (some p.2) (Nat.beq p.1 x)
def look {α : Type} (x : Nat) (l : List (Nat × α)) : Option α := List.rec (motive := fun _ => Option α) none (lookC x) l
def look2C {α : Type} (x : Nat) (s : List (Nat × α)) (_ : List (List (Nat × α))) (ih : Option α) : Option α :=
  Option.rec (motive := fun _ => Option α) ih some (look x s)
def look2 {α : Type} (x : Nat) (l : List (List (Nat × α))) : Option α := List.rec (motive := fun _ => Option α) none (look2C x) l

/-- put `v` at `x` where it stands -/
def upd {α : Type} (x : Nat) (v : α) (l : List (Nat × α)) : List (Nat × α) := l.map fun p => Bool.rec p (p.1, v) (Nat.beq p.1 x)
def upd2 {α : Type} (x : Nat) (v : α) (l : List (List (Nat × α))) : List (List (Nat × α)) := l.map (upd x v)
def del {α : Type} (x : Nat) (l : List (Nat × α)) : List (Nat × α) := l.filter fun p => !Nat.beq p.1 x
def del2 {α : Type} (x : Nat) (l : List (List (Nat × α))) : List (List (Nat × α)) := l.map (del x)
def push {α : Type} (p : Nat × α) : List (List (Nat × α)) → List (List (Nat × α))
  | [] => [[p]]
  | s :: l => (p :: s) :: l

def T.newV (t : T) (o : VObj) : T := ⟨t.n + 1, push (t.n, o) t.vs, t.is⟩
def T.newI (t : T) (en e : Nat) : T := ⟨t.n + 1, t.vs, push (t.n, en, e) t.is⟩
def T.bump (t : T) : T := ⟨t.n + 1, t.vs, t.is⟩

inductive OR where
  | fail
  | ok (v : AV) (t : T)

abbrev CallF := Nat → List AV → T → OR

/-! ### Operations -/

inductive Opd where
  | t (p : Bits)
  | c (v : AV)
def Opd.get (x : Opd) (f : Fr) : AV := Opd.rec (motive := fun _ => Fr → AV) (fun p f => f.get p) (fun v _ => v) x f

def undefA : AV := .tup []

/-- kinds of values whose equality is asked by their own type -/
inductive EK where
  | bool | ptr | slice | func | map | iface
  deriving DecidableEq

/-- how structs and arrays are held against each other: parts by offset -/
inductive ETy where
  | bool | int | str
  | st (fs : List (Nat × Nat × Bool × ETy))
  | arr (len size : Nat) (ag : Bool) (e : ETy)

inductive CK where
  | int (k : IntKind) | flt | fint (k : IntKind) | str

/-- kinds of keys -/
inductive KK where
  | str | int (k : IntKind) | bool

/-- operations on rows that may be written, on maps, on bytes -/
inductive MK where
  | mkS (e bytes : Nat) (zero : AV)
  | app (e bytes : Nat) (zero : AV)
  | mkmap
  | lkp (kk : KK) (zero : AV) (ok : Bool)
  | mup (kk : KK)
  | mlen
  | b2s
  | s2b
  | prim (k : Nat)
  | clr (e : Nat) (zero : AV)
  | bld (e len : Nat) (zero : AV) (idxs : List Nat)
  | bldc (e len : Nat) (zero : AV) (idxs : List Nat)
  | apz (e bytes : Nat) (zero : AV)
  | cnt
  | flds
  | splt
  | joinm
  | mki (t : Nat)
  | eqi (neg : Bool) (ts : List Nat)
  | terr (t1 t2 : Nat)

inductive AOp where
  | mv (x : Opd)
  | pick (c a b : Opd)
  | alloc (zero : List AV)
  | box (x : Opd)
  | build (zero : List AV) (parts : List (Nat × Nat × Opd))
  | buildS (e len : Nat) (zero : AV) (parts : List (Nat × Opd))
  | ld1 (x : Opd)
  | ldA (n : Nat) (x : Opd)
  | st (n : Nat) (a v : Opd)
  | nilck (x : Opd)
  | bin (op : BinOp) (x y : Opd)
  | eqk (k : EK) (neg : Bool) (x y : Opd)
  | eqs (ty : ETy) (neg : Bool) (x y : Opd)
  | un (op : UnOp) (x : Opd)
  | cv (k : CK) (x : Opd)
  | mkfn (f : Nat) (first cap : List Opd)
  | mkS (e bytes : Nat) (zero : AV) (len cap : Opd)
  | slS (x : Opd) (lo hi : Option Opd)
  | slL (e : Nat) (x : Opd) (lo hi mx : Option Opd)
  | faddr (off : Nat) (x : Opd)
  | iaddr (e : Nat) (x i : Opd)
  | iaddrA (n e : Nat) (x i : Opd)
  | fld1 (off : Nat) (x : Opd)
  | fldA (off n : Nat) (x : Opd)
  | idxS (x i : Opd)
  | idx1 (len : Nat) (x i : Opd)
  | idxA (len e : Nat) (x i : Opd)
  | ext (x : Opd) (i : Nat)
  | call (f : Nat) (args : List Opd)
  | calld (f : Opd) (args : List Opd)
  | len (str : Bool) (x : Opd)
  | app (e bytes : Nat) (zero : AV) (x y : Opd)
  | cpx (x y : Opd)
  | re (x : Opd)
  | im (x : Opd)
  | mnx (mx : Bool) (x y : Opd)
  | buildSo (e len : Nat) (zero : AV) (parts : List (Nat × Opd))
  | mark (x : Opd)
  | ixb (x c : Opd)
  | mem (k : MK) (xs : List Opd)

structure AO where
  dst : Option Bits
  guard : Option (Bits × Bool)
  op : AOp

/-! ### What they do -/

def OR.ofOption (t : T) (v : Option AV) : OR := Option.rec (motive := fun _ => OR) .fail (fun v => .ok v t) v

def opMv (x : Opd) (_ : CallF) (f : Fr) (t : T) : OR := .ok (x.get f) t
def opPick (c a b : Opd) (_ : CallF) (f : Fr) (t : T) : OR :=
  match c.get f with
  | .bool x => Bool.rec (.ok (b.get f) t) (.ok (a.get f) t) x
  | _ => .fail
def opAlloc (zero : List AV) (_ : CallF) (_ : Fr) (t : T) : OR := .ok (.ptr t.n 0) (t.newV (.cells zero))
def opBox (x : Opd) (_ : CallF) (f : Fr) (t : T) : OR :=
  match (x.get f).known with
  | true => .ok (.ptr t.n 0) (t.newV (.cells (x.get f).cells))
  | false => .fail

/-- cells put over others from a place on -/
def putAt (cs : List AV) (off : Nat) (vs : List AV) : List AV := cs.take off ++ vs ++ cs.drop (off + vs.length)

def fillA (f : Fr) : List AV → List (Nat × Nat × Opd) → Option (List AV)
  | cs, [] => some cs
  | cs, (off, size, x) :: rest =>
    match (x.get f).known && Nat.beq (x.get f).cells.length size && Nat.ble (off + size) cs.length with
    | true => fillA f (putAt cs off (x.get f).cells) rest
    | false => none
def opBuild (zero : List AV) (parts : List (Nat × Nat × Opd)) (_ : CallF) (f : Fr) (t : T) : OR :=
  match fillA f zero parts with
  | some cs => .ok (.agg cs) t
  | none => .fail

def fillS (f : Fr) (e : Nat) : List AV → List (Nat × Opd) → Option (List AV)
  | vs, [] => some vs
  | vs, (i, x) :: rest =>
    match (x.get f).known && Nat.beq (x.get f).cells.length e && Nat.blt i vs.length with
    | true => fillS f e (vs.set i (x.get f)) rest
    | false => none
def opBuildS (e len : Nat) (zero : AV) (parts : List (Nat × Opd)) (_ : CallF) (f : Fr) (t : T) : OR :=
  match fillS f e (List.replicate len zero) parts with
  | some vs => .ok (.sl t.n e 0 len false 0 vs) t.bump
  | none => .fail

def opBuildSo (e len : Nat) (zero : AV) (parts : List (Nat × Opd)) (_ : CallF) (f : Fr) (t : T) : OR :=
  match fillS f e (List.replicate len zero) parts with
  | some vs => .ok (.sl t.n e 0 len false 0 vs) (t.newI (len * e) e)
  | none => .fail
/-- bytes that are taken for a string's: their row is marked -/
def opMark (x : Opd) (_ : CallF) (f : Fr) (t : T) : OR :=
  match x.get f with
  | .sl id e pos cap fl alt es =>
    match look2 id t.is with
    | some _ => .ok (.sl id e pos cap fl alt es) t
    | none => .fail
  | _ => .fail

def ixGo : List UInt8 → Nat → Nat → Int
  | [], _, _ => -1
  | b :: l, c, i => Bool.rec (ixGo l c (i + 1)) (Int.ofNat i) (Nat.beq b.toNat c)
def opIxb (x c : Opd) (_ : CallF) (f : Fr) (t : T) : OR :=
  match x.get f, c.get f with
  | .str s, .int .u8 (Int.ofNat n) => Bool.rec .fail (.ok (.int .i64 (ixGo s n 0)) t) (Nat.blt n 256)
  | _, _ => .fail

def T.read (t : T) (a : AV) : Option (List AV) :=
  match a with
  | .eptr cs => some cs
  | .ptr x off =>
    match look2 x t.vs with
    | some (.cells cs) => some (cs.drop off)
    | _ => none
  | _ => none
def opLd1 (x : Opd) (_ : CallF) (f : Fr) (t : T) : OR :=
  match t.read (x.get f) with
  | some (v :: _) => .ok v t
  | _ => .fail
def opLdA (n : Nat) (x : Opd) (_ : CallF) (f : Fr) (t : T) : OR :=
  match t.read (x.get f) with
  | some cs => Bool.rec .fail (.ok (.agg (cs.take n)) t) (Nat.ble n cs.length)
  | _ => .fail
def opSt (n : Nat) (a v : Opd) (_ : CallF) (f : Fr) (t : T) : OR :=
  match a.get f with
  | .ptr x off =>
    match look2 x t.vs with
    | some (.cells cs) =>
      match (v.get f).known && (v.get f).cells.all AV.isCell && Nat.beq (v.get f).cells.length n && Nat.ble (off + n) cs.length with
      | true => .ok undefA { t with vs := upd2 x (.cells (putAt cs off (v.get f).cells)) t.vs }
      | false => .fail
    | _ => .fail
  | _ => .fail
def opNilck (x : Opd) (_ : CallF) (f : Fr) (t : T) : OR :=
  match x.get f with
  | .ptr y o => .ok (.ptr y o) t
  | .eptr cs => .ok (.eptr cs) t
  | .fn g a b => .ok (.fn g a b) t
  | _ => .fail

def binInt (op : BinOp) (k : IntKind) (a b : Int) : Option AV :=
  match op with
  | .add => some (.int k (k.wrap (a + b)))
  | .sub => some (.int k (k.wrap (a - b)))
  | .mul => some (.int k (k.wrap (a * b)))
  | .quo => if b = 0 then none else some (.int k (k.wrap (a.tdiv b)))
  | .rem => if b = 0 then none else some (.int k (a.tmod b))
  | .and => some (.int k (k.wrap (BitVec.ofInt k.bits a &&& BitVec.ofInt k.bits b).toNat))
  | .or => some (.int k (k.wrap (BitVec.ofInt k.bits a ||| BitVec.ofInt k.bits b).toNat))
  | .xor => some (.int k (k.wrap (BitVec.ofInt k.bits a ^^^ BitVec.ofInt k.bits b).toNat))
  | .andNot => some (.int k (k.wrap (BitVec.ofInt k.bits a &&& ~~~ (BitVec.ofInt k.bits b)).toNat))
  | .eql => some (.bool (a == b))
  | .neq => some (.bool (a != b))
  | .lss => some (.bool (a < b))
  | .leq => some (.bool (a ≤ b))
  | .gtr => some (.bool (a > b))
  | .geq => some (.bool (a ≥ b))
  | _ => none
def shInt (op : BinOp) (k : IntKind) (a b : Int) : Option AV :=
  if b < 0 then none else
    match op with
    | .shl => some (.int k (k.wrap (a * 2 ^ min b.toNat k.bits)))
    | .shr => some (.int k (a.fdiv (2 ^ min b.toNat k.bits)))
    | _ => none
def binStr (op : BinOp) (a b : List UInt8) : Option AV :=
  match op with
  | .add => if ((a.length + b.length : Nat) : Int) ≤ 9223372036854775807 then some (.str (a ++ b)) else none
  | .eql => some (.bool (a == b))
  | .neq => some (.bool !(a == b))
  | .lss => some (.bool (Op.bytesLess a b))
  | .leq => some (.bool (Op.bytesLess a b || a == b))
  | .gtr => some (.bool !(Op.bytesLess a b || a == b))
  | .geq => some (.bool !(Op.bytesLess a b))
  | _ => none
def fltOp (op : BinOp) (a b : Nat) : Option Nat :=
  match op with
  | .add => FloatKind.f64.format.add a b
  | .sub => FloatKind.f64.format.sub a b
  | .mul => FloatKind.f64.format.mul a b
  | _ => none
def cpxOp (op : BinOp) (a b c d : Nat) : Option AV :=
  match op with
  | .add => do some (.cpx (← fltOp .add a c) (← fltOp .add b d))
  | .sub => do some (.cpx (← fltOp .sub a c) (← fltOp .sub b d))
  | .mul => do some (.cpx (← fltOp .sub (← fltOp .mul a c) (← fltOp .mul b d)) (← fltOp .add (← fltOp .mul a d) (← fltOp .mul b c)))
  | _ => none
def isShift : BinOp → Bool
  | .shl | .shr => true
  | _ => false
def avBin (op : BinOp) (x y : AV) : Option AV :=
  match x, y with
  | .int k a, .int k' b =>
    match isShift op with
    | true => shInt op k a b
    | false => if k = k' then binInt op k a b else none
  | .str a, .str b => binStr op a b
  | .cpx a b, .cpx c d => cpxOp op a b c d
  | _, _ => none
def opBin (op : BinOp) (x y : Opd) (_ : CallF) (f : Fr) (t : T) : OR := .ofOption t (avBin op (x.get f) (y.get f))

def avEqk (k : EK) (x y : AV) : Option Bool :=
  match k, x, y with
  | .bool, .bool a, .bool b => some (a == b)
  | .ptr, .nilp, .nilp => some true
  | .ptr, .nilp, .ptr .. | .ptr, .nilp, .eptr _ | .ptr, .ptr .., .nilp | .ptr, .eptr _, .nilp => some false
  | .slice, .nils, .nils => some true
  | .slice, .nils, .sl .. | .slice, .sl .., .nils | .slice, .nils, .sl0 | .slice, .sl0, .nils | .slice, .nils, .ms .. | .slice, .ms .., .nils => some false
  | .func, .nilf, .nilf => some true
  | .func, .nilf, .fn .. | .func, .fn .., .nilf => some false
  | .map, .nilm, .nilm => some true
  | .map, .nilm, .mp _ | .map, .mp _, .nilm => some false
  | .iface, .nili, .nili => some true
  | .iface, .nili, .ifc .. | .iface, .ifc .., .nili => some false
  | _, _, _ => none
def opEqk (k : EK) (neg : Bool) (x y : Opd) (_ : CallF) (f : Fr) (t : T) : OR :=
  match avEqk k (x.get f) (y.get f) with
  | some b => .ok (.bool (b != neg)) t
  | none => .fail

def partA (ag : Bool) (cs : List AV) (off size : Nat) : Option AV :=
  match ag with
  | true => if off + size ≤ cs.length then some (.agg ((cs.drop off).take size)) else none
  | false => cs[off]?
/-- equality of structs, arrays (fuel: the type's depth) -/
def eqsFields (eq : ETy → AV → AV → Option Bool) (xs ys : List AV) : List (Nat × Nat × Bool × ETy) → Option Bool
  | [] => some true
  | (off, size, ag, e) :: rest =>
    match partA ag xs off size, partA ag ys off size with
    | some a, some b =>
      match eq e a b with
      | some true => eqsFields eq xs ys rest
      | r => r
    | _, _ => none
def eqsItems (eq : ETy → AV → AV → Option Bool) (size : Nat) (ag : Bool) (e : ETy) (xs ys : List AV) : Nat → Nat → Option Bool
  | 0, _ => some true
  | m + 1, i =>
    match partA ag xs (i * size) size, partA ag ys (i * size) size with
    | some a, some b =>
      match eq e a b with
      | some true => eqsItems eq size ag e xs ys m (i + 1)
      | r => r
    | _, _ => none
def eqsStep (eq : ETy → AV → AV → Option Bool) (ty : ETy) (x y : AV) : Option Bool :=
  match ty, x, y with
  | .bool, .bool a, .bool b => some (a == b)
  | .int, .int k a, .int k' b => if k = k' then some (a == b) else none
  | .str, .str a, .str b => some (a == b)
  | .st fs, .agg xs, .agg ys => eqsFields eq xs ys fs
  | .arr len size ag e, .agg xs, .agg ys => eqsItems eq size ag e xs ys len 0
  | _, _, _ => none
def avEqs : Nat → ETy → AV → AV → Option Bool
  | 0 => fun _ _ _ => none
  | n + 1 => eqsStep (avEqs n)
def opEqs (ty : ETy) (neg : Bool) (x y : Opd) (_ : CallF) (f : Fr) (t : T) : OR :=
  match avEqs 8 ty (x.get f) (y.get f) with
  | some b => .ok (.bool (b != neg)) t
  | none => .fail

def avUn (op : UnOp) (x : AV) : Option AV :=
  match op, x with
  | .neg, .int k n => binInt .sub k 0 n
  | .xor, .int k n => binInt .xor k (if k.signed then -1 else k.max) n
  | .not, .bool b => some (.bool !b)
  | .neg, .flt b => some (.flt (Op.negFloat .f64 b))
  | _, _ => none
def opUn (op : UnOp) (x : Opd) (_ : CallF) (f : Fr) (t : T) : OR := .ofOption t (avUn op (x.get f))

def avCv (k : CK) (x : AV) : Option AV :=
  match k, x with
  | .int k, .int _ n => some (.int k (k.wrap n))
  | .flt, .int _ n => some (.flt (FloatKind.f64.nearest n))
  | .fint k, .flt b =>
    match (FloatKind.f64.decode b).toInt .zero with
    | some n => if k.min ≤ n ∧ n ≤ k.max then some (.int k n) else none
    | none => none
  | .str, .str s => some (.str s)
  | _, _ => none
def opCv (k : CK) (x : Opd) (_ : CallF) (f : Fr) (t : T) : OR := .ofOption t (avCv k (x.get f))

def opMkfn (g : Nat) (first cap : List Opd) (_ : CallF) (f : Fr) (t : T) : OR := .ok (.fn g (first.map (·.get f)) (cap.map (·.get f))) t

def opMkS (e bytes : Nat) (zero : AV) (len cap : Opd) (_ : CallF) (f : Fr) (t : T) : OR :=
  match len.get f, cap.get f with
  | .int .i64 l, .int .i64 c =>
    if 0 ≤ l ∧ l ≤ c ∧ bytes * c ≤ 2 ^ 48 ∧ c ≤ 2 ^ 48 then .ok (.sl t.n e 0 l.toNat true 0 (List.replicate l.toNat zero)) (t.newI (l.toNat * e) e) else .fail
  | _, _ => .fail

/-- a bound of a slice expression -/
def bnd (x : Option Opd) (f : Fr) (dflt most : Nat) : Option Nat :=
  match x with
  | none => some dflt
  | some x =>
    match x.get f with
    | .int _ i => if 0 ≤ i ∧ i ≤ most then some i.toNat else none
    | _ => none
def opSlS (x : Opd) (lo hi : Option Opd) (_ : CallF) (f : Fr) (t : T) : OR :=
  match x.get f with
  | .str s =>
    match bnd hi f s.length s.length with
    | some h =>
      match bnd lo f 0 h with
      | some l => .ok (.str ((s.drop l).take (h - l))) t
      | none => .fail
    | none => .fail
  | _ => .fail
def opSlL (e : Nat) (x : Opd) (lo hi mx : Option Opd) (_ : CallF) (f : Fr) (t : T) : OR :=
  match x.get f with
  | .nils =>
    match bnd mx f 0 0 with
    | some _ =>
      match bnd hi f 0 0 with
      | some _ =>
        match bnd lo f 0 0 with
        | some _ => .ok .nils t
        | none => .fail
      | none => .fail
    | none => .fail
  | .sl0 =>
    match bnd mx f 0 0 with
    | some _ =>
      match bnd hi f 0 0 with
      | some _ =>
        match bnd lo f 0 0 with
        | some _ => .ok .sl0 t
        | none => .fail
      | none => .fail
    | none => .fail
  | .sl id e' pos cap fl alt es =>
    match Nat.beq e' e with
    | true =>
      match bnd mx f cap cap with
      | some m =>
        match bnd hi f es.length (min m es.length) with
        | some h =>
          match bnd lo f 0 h with
          | some l =>
            match fl && mx.isNone with
            | true => .ok (.sl id e (pos + l * e) (m - l) true (if l = 0 then alt else pos) ((es.take h).drop l)) t
            | false => if m = l then .ok .sl0 t else .ok (.sl id e (pos + l * e) (m - l) false 0 ((es.take h).drop l)) t
          | none => .fail
        | none => .fail
      | none => .fail
    | false => .fail
  | .ms y e' pos len cap =>
    match Nat.beq e' e with
    | true =>
      match bnd mx f cap cap with
      | some m =>
        match bnd hi f len m with
        | some h =>
          match bnd lo f 0 h with
          | some l =>
            match mx.isNone with
            | true => if l = 0 ∨ l < cap then .ok (.ms y e (pos + l * e) (h - l) (cap - l)) t else .fail
            | false => if m = l then .ok .sl0 t else .fail
          | none => .fail
        | none => .fail
      | none => .fail
    | false => .fail
  | _ => .fail
def opFaddr (off : Nat) (x : Opd) (_ : CallF) (f : Fr) (t : T) : OR :=
  match x.get f with
  | .ptr y o => .ok (.ptr y (o + off)) t
  | .eptr cs =>
    match cs.drop off with
    | [] => .fail
    | c :: cs' => .ok (.eptr (c :: cs')) t
  | _ => .fail
def opIaddr (e : Nat) (x i : Opd) (_ : CallF) (f : Fr) (t : T) : OR :=
  match i.get f with
  | .int _ n =>
    match x.get f with
    | .sl _ e' _ _ _ _ es =>
      match Nat.beq e e' && decide (0 ≤ n) with
      | true =>
        match es.drop n.toNat with
        | [] => .fail
        | v :: _ => Bool.rec .fail (.ok (.eptr v.cells) t) v.known
      | false => .fail
    | .ms y e' pos len _ => if e' = e ∧ 0 ≤ n ∧ n < len then .ok (.ptr y (pos + n.toNat * e)) t else .fail
    | _ => .fail
  | _ => .fail
def opIaddrA (len e : Nat) (x i : Opd) (_ : CallF) (f : Fr) (t : T) : OR :=
  match i.get f with
  | .int _ n =>
    if 0 ≤ n ∧ n < len then
      match x.get f with
      | .ptr y o => .ok (.ptr y (o + n.toNat * e)) t
      | .eptr cs =>
        match cs.drop (n.toNat * e) with
        | [] => .fail
        | c :: cs' => .ok (.eptr (c :: cs')) t
      | _ => .fail
    else .fail
  | _ => .fail
def opFld1 (off : Nat) (x : Opd) (_ : CallF) (f : Fr) (t : T) : OR :=
  match x.get f with
  | .agg cs => .ofOption t cs[off]?
  | _ => .fail
def opFldA (off n : Nat) (x : Opd) (_ : CallF) (f : Fr) (t : T) : OR :=
  match x.get f with
  | .agg cs => if off + n ≤ cs.length then .ok (.agg ((cs.drop off).take n)) t else .fail
  | _ => .fail
def opIdxS (x i : Opd) (_ : CallF) (f : Fr) (t : T) : OR :=
  match i.get f with
  | .int _ n =>
    match x.get f with
    | .str s =>
      match decide (0 ≤ n) with
      | true =>
        match s.drop n.toNat with
        | [] => .fail
        | c :: _ => .ok (.int .u8 c.toNat) t
      | false => .fail
    | _ => .fail
  | _ => .fail
def opIdx1 (len : Nat) (x i : Opd) (_ : CallF) (f : Fr) (t : T) : OR :=
  match i.get f with
  | .int _ n =>
    match x.get f with
    | .agg cs => if 0 ≤ n ∧ n < len then .ofOption t cs[n.toNat]? else .fail
    | _ => .fail
  | _ => .fail
def opIdxA (len e : Nat) (x i : Opd) (_ : CallF) (f : Fr) (t : T) : OR :=
  match i.get f with
  | .int _ n =>
    match x.get f with
    | .agg cs => if 0 ≤ n ∧ n < len ∧ n.toNat * e + e ≤ cs.length then .ok (.agg ((cs.drop (n.toNat * e)).take e)) t else .fail
    | _ => .fail
  | _ => .fail
def opExt (x : Opd) (i : Nat) (_ : CallF) (f : Fr) (t : T) : OR :=
  match x.get f with
  | .tup vs => .ofOption t vs[i]?
  | _ => .fail
def opCall (g : Nat) (args : List Opd) (call : CallF) (f : Fr) (t : T) : OR := call g (args.map (·.get f)) t
def opCalld (x : Opd) (args : List Opd) (call : CallF) (f : Fr) (t : T) : OR :=
  match x.get f with
  | .fn g first cap => call g (first ++ args.map (·.get f) ++ cap) t
  | _ => .fail
def opLen (str : Bool) (x : Opd) (_ : CallF) (f : Fr) (t : T) : OR :=
  match str, x.get f with
  | true, .str s => .ok (.int .i64 s.length) t
  | false, .nils => .ok (.int .i64 0) t
  | false, .sl0 => .ok (.int .i64 0) t
  | false, .sl _ _ _ _ _ _ es => .ok (.int .i64 es.length) t
  | false, .ms _ _ _ len _ => .ok (.int .i64 len) t
  | _, _ => .fail
/-- what is appended -/
def appended (e : Nat) (y : AV) : Option (List AV) :=
  match y with
  | .nils => some []
  | .sl0 => some []
  | .sl _ e' _ _ _ _ es => if e' = e ∧ es.all AV.known then some es else none
  | _ => none
def appTo (e bytes : Nat) (zero x v : AV) (ys : List AV) (t : T) : OR :=
    match x with
    | .nils | .sl0 =>
      match Nat.ble (2 * (ys.length + 1) * bytes) (2 ^ 48) && Nat.ble e zero.cells.length with
      | true => .ok (.sl t.n e 0 (ys.length + 1) true 0 (v :: ys)) (t.newI ((ys.length + 1) * e) e)
      | false => .fail
    | .sl id e' pos cap fl _ es =>
      match Nat.ble (2 * (es.length + (ys.length + 1)) * bytes) (2 ^ 48) && Nat.ble e zero.cells.length && Nat.beq e' e && Nat.blt cap (es.length + (ys.length + 1)) with
      | true =>
        match fl with
        | false => .ok (.sl t.n e 0 (es.length + (ys.length + 1)) true 0 (es ++ v :: ys)) (t.newI ((es.length + (ys.length + 1)) * e) e)
        | true =>
          match look2 id t.is with
          | some (en, e'') =>
            match Nat.beq en (pos + es.length * e) && Nat.beq e'' e && Nat.beq cap es.length && (v :: ys).all fun v => v.cells.all AV.isCell with
            | true => .ok (.sl t.n e 0 (es.length + (ys.length + 1)) true 0 (es ++ v :: ys)) (T.newI { t with is := del2 id t.is } ((es.length + (ys.length + 1)) * e) e)
            | false => .fail
          | none => .fail
      | false => .fail
    | _ => .fail
def appNo (x : AV) (t : T) : OR :=
  match x with
    | .nils => .ok .nils t
    | .sl0 => .ok .sl0 t
    | .sl id e' pos cap fl alt es => .ok (.sl id e' pos cap fl alt es) t
    | _ => .fail
def opApp (e bytes : Nat) (zero : AV) (x y : Opd) (_ : CallF) (f : Fr) (t : T) : OR :=
  match appended e (y.get f) with
  | some [] => appNo (x.get f) t
  | some (v :: ys) => appTo e bytes zero (x.get f) v ys t
  | none => .fail
def opCpx (x y : Opd) (_ : CallF) (f : Fr) (t : T) : OR :=
  match x.get f, y.get f with
  | .flt a, .flt b => .ok (.cpx a b) t
  | _, _ => .fail
def opRe (x : Opd) (_ : CallF) (f : Fr) (t : T) : OR :=
  match x.get f with
  | .cpx a _ => .ok (.flt a) t
  | _ => .fail
def opIm (x : Opd) (_ : CallF) (f : Fr) (t : T) : OR :=
  match x.get f with
  | .cpx _ b => .ok (.flt b) t
  | _ => .fail
def opMnx (mx : Bool) (x y : Opd) (_ : CallF) (f : Fr) (t : T) : OR :=
  match x.get f, y.get f with
  | .int k a, .int _ b => .ok (.int k (if (if mx then a < b else b < a) then b else a)) t
  | _, _ => .fail

/-! rows that may be written, maps -/

/-- the cells of a slice's elements -/
def memCells (t : T) (e : Nat) (y : AV) : Option (Nat × List AV) :=
  match y with
  | .nils => some (0, [])
  | .sl0 => some (0, [])
  | .sl _ e' _ _ _ _ es => if e' = e ∧ (es.all fun v => v.known && Nat.beq v.cells.length e) = true then some (es.length, es.flatMap AV.cells) else none
  | .sle e' es => if e' = e ∧ (es.all fun v => v.known && Nat.beq v.cells.length e) = true then some (es.length, es.flatMap AV.cells) else none
  | .ms x e' pos len _ =>
    match look2 x t.vs with
    | some (.cells cs) => if e' = e ∧ pos + len * e ≤ cs.length then some (len, (cs.drop pos).take (len * e)) else none
    | _ => none
  | _ => none
/-- what is appended to, and the state without it -/
def memOld (t : T) (e k : Nat) (x : AV) : Option (Nat × List AV × T) :=
  match x with
  | .nils => some (0, [], t)
  | .sl0 => some (0, [], t)
  | .sl _ e' _ cap fl _ es =>
    match fl with
    | true => none
    | false => if e' = e ∧ cap < es.length + k ∧ (es.all fun v => v.known && Nat.beq v.cells.length e) = true then some (es.length, es.flatMap AV.cells, t) else none
  | .ms y e' pos len _ =>
    match look2 y t.vs with
    | some (.cells cs) => if e' = e ∧ pos = 0 ∧ len * e ≤ cs.length then some (len, cs.take (len * e), { t with vs := del2 y t.vs }) else none
    | _ => none
  | _ => none
def memApp (e bytes : Nat) (zero x y : AV) (t : T) : OR :=
  match memCells t e y with
  | some (0, _) =>
    match x with
    | .nils => .ok .nils t
    | .sl0 => .ok .sl0 t
    | .sl id e' pos cap fl alt es => .ok (.sl id e' pos cap fl alt es) t
    | .ms y e' pos len cap => .ok (.ms y e' pos len cap) t
    | _ => .fail
  | some (k + 1, ys) =>
    match memOld t e (k + 1) x with
    | some (n, cs, t1) =>
      if 2 * (n + (k + 1)) * bytes ≤ 2 ^ 48 ∧ e ≤ zero.cells.length ∧ ys.all AV.isCell = true then
        .ok (.ms t1.n e 0 (n + (k + 1)) (n + (k + 1))) (t1.newV (.cells (cs ++ ys))) else .fail
    | none => .fail
  | none => .fail
def memMkS (e bytes : Nat) (zero l c : AV) (t : T) : OR :=
  match l, c with
  | .int .i64 l, .int .i64 c =>
    if 0 ≤ l ∧ l ≤ c ∧ bytes * c ≤ 2 ^ 48 ∧ c ≤ 2 ^ 48 then .ok (.ms t.n e 0 l.toNat c.toNat) (t.newV (.cells (List.replicate c.toNat zero.cells).flatten)) else .fail
  | _, _ => .fail
def keyEq (x y : AV) : Option Bool :=
  match x, y with
  | .str a, .str b => some (a == b)
  | .int k a, .int k' b => if k = k' then some (a == b) else none
  | .bool a, .bool b => some (a == b)
  | _, _ => none
def keyIs (kk : KK) (x : AV) : Bool :=
  match kk, x with
  | .str, .str _ => true
  | .int k, .int k' _ => decide (k' = k)
  | .bool, .bool _ => true
  | _, _ => false
def findA (k : AV) : List (AV × AV) → Nat → Option (Option (Nat × AV))
  | [], _ => some none
  | p :: l, i =>
    match keyEq k p.1 with
    | some true => some (some (i, p.2))
    | some false => findA k l (i + 1)
    | none => none
def memEntries (t : T) (m : AV) : Option (List (AV × AV)) :=
  match m with
  | .nilm => some []
  | .mp x =>
    match look2 x t.vs with
    | some (.map es) => some es
    | _ => none
  | _ => none
def memLkp (kk : KK) (zero : AV) (ok : Bool) (m k : AV) (t : T) : OR :=
  match memEntries t m with
  | some es =>
    match (match keyIs kk k with | true => findA k es 0 | false => none) with
    | some (some (_, v)) => .ok (Bool.rec v (.tup [v, .bool true]) ok) t
    | some none => .ok (Bool.rec zero (.tup [zero, .bool false]) ok) t
    | none => .fail
  | none => .fail
def memMup (kk : KK) (m k v : AV) (t : T) : OR :=
  match m with
  | .mp x =>
    match look2 x t.vs with
    | some (.map es) =>
      match (match keyIs kk k with | true => findA k es 0 | false => none) with
      | some (some (i, _)) => .ok undefA { t with vs := upd2 x (.map (es.set i (k, v))) t.vs }
      | some none => .ok undefA { t with vs := upd2 x (.map (es ++ [(k, v)])) t.vs }
      | none => .fail
    | _ => .fail
  | _ => .fail
def memLen (m : AV) (t : T) : OR :=
  match memEntries t m with
  | some es => .ok (.int .i64 es.length) t
  | none => .fail
def bytesA : List AV → Option (List UInt8)
  | [] => some []
  | .int .u8 (Int.ofNat n) :: l => match bytesA l with | some r => some (UInt8.ofNat n :: r) | none => none
  | _ => none
def memB2s (x : AV) (t : T) : OR :=
  match x with
  | .nils => .ok (.str []) t
  | .sl0 => .ok (.str []) t
  | .sl _ e _ _ _ _ es =>
    match e with
    | 1 => match bytesA es with | some s => .ok (.str s) t | none => .fail
    | _ => .fail
  | _ => .fail
/-- a text's bytes, as a new row -/
def memS2b (x : AV) (t : T) : OR :=
  match x with
  | .str s => .ok (.sl t.n 1 0 s.length true 0 (s.map fun b => .int .u8 b.toNat)) (t.newI (s.length * 1) 1)
  | _ => .fail
/-- a row's elements made zero -/
def memClr (e : Nat) (z y : AV) (t : T) : OR :=
  match y with
  | .nils => .ok (.tup []) t
  | .sl0 => .ok (.tup []) t
  | .ms x e' pos len _ =>
    match look2 x t.vs with
    | some (.cells cs) =>
      match Nat.beq e' e && Nat.blt 0 len && Nat.ble (pos + len * e) cs.length && z.cells.all AV.isCell, Nat.beq len 0 with
      | true, _ => .ok (.tup []) { t with vs := upd2 x (.cells (putAt cs pos (List.replicate len z.cells).flatten)) t.vs }
      | false, true => .ok (.tup []) t
      | false, false => .fail
    | _ => .fail
  | _ => .fail

/-- a row that may be written, of given elements -/
def memBld (e len : Nat) (z : AV) (idxs : List Nat) (vs : List AV) (t : T) : OR :=
  match fillS .nil e (List.replicate len z) (idxs.zip (vs.map Opd.c)) with
  | some es =>
    match es.all fun v => v.known && Nat.beq v.cells.length e with
    | true => .ok (.ms t.n e 0 len len) (t.newV (.cells (es.flatMap AV.cells)))
    | false => .fail
  | none => .fail

/-- a row of given elements that nobody will write, without a number of its own -/
def memBldc (e len : Nat) (z : AV) (idxs : List Nat) (vs : List AV) (t : T) : OR :=
  match fillS .nil e (List.replicate len z) (idxs.zip (vs.map Opd.c)) with
  | some es => .ok (.sle e es) t
  | none => .fail

/-! what some functions of the library tell -/
def strsA : List AV → Option (List (List UInt8))
  | [] => some []
  | .str s :: l => match strsA l with | some r => some (s :: r) | none => none
  | _ => none
def joinA (sep : List UInt8) : List (List UInt8) → List UInt8
  | [] => []
  | x :: l => match l with | [] => x | _ :: _ => x ++ (sep ++ joinA sep l)
def smallA (n : Nat) : List UInt8 := match Nat.blt n 10 with | true => [UInt8.ofNat (48 + n)] | false => [UInt8.ofNat (48 + n / 10), UInt8.ofNat (48 + n % 10)]
/-- a number's digits -/
def decA (f n : Nat) : List UInt8 :=
  match f with
  | 0 => []
  | f + 1 => match Nat.blt n 10 with | true => [UInt8.ofNat (48 + n)] | false => decA f (n / 10) ++ [UInt8.ofNat (48 + n % 10)]
def primA (k : Nat) (vs : List AV) : Option AV :=
  match k, vs with
  | 0, [.nils, .str _] => some (.str [])
  | 0, [.sl0, .str _] => some (.str [])
  | 0, [.sl _ e _ _ _ _ es, .str sep] =>
    match strsA es with
    | some l =>
      match Nat.beq e 1 && Nat.ble es.length 1000000 && Nat.ble (joinA sep l).length 100000000 with
      | true => some (.str (joinA sep l))
      | false => none
    | none => none
  | 1, [.int k (Int.ofNat n)] =>
    match decide (k = .i64) && Nat.blt n 100 with
    | true => some (.str (smallA n))
    | false => none
  | 2, [.int k (Int.ofNat n)] =>
    match decide (k = .i64) && Nat.blt n 4294967296 with
    | true => some (.str (decA 10 n))
    | false => none
  | _, _ => none

/-- append of so many zeros -/
def memApz (e bytes : Nat) (zero x n : AV) (t : T) : OR :=
  match n with
  | .int _ (Int.ofNat 0) => appNo x t
  | .int _ (Int.ofNat (k + 1)) => match Nat.blt 0 e && Nat.beq e zero.cells.length with
    | true => appTo e bytes zero x zero (List.replicate k zero) t
    | false => .fail
  | _ => .fail
/-- how many of a byte -/
def cntGo (s : List UInt8) (n m : Nat) : Nat :=
  match s with
  | [] => m
  | b :: l => match Nat.beq b.toNat n with | true => cntGo l n (m + 1) | false => cntGo l n m
def memCnt (x c : AV) (t : T) : OR :=
  match x, c with
  | .str s, .int .u8 (Int.ofNat n) => match Nat.blt n 256 with | true => .ok (.int .i64 (cntGo s n 0)) t | false => .fail
  | _, _ => .fail

/-- the words of a text that is ASCII -/
def spA (b : UInt8) : Bool := match Nat.beq b.toNat 32, Nat.blt b.toNat 14 with | true, _ => true | false, true => Nat.blt 8 b.toNat | false, false => false
def fldGo (cur : List UInt8) (s : List UInt8) : List (List UInt8) :=
  match s with
  | [] => match cur with | [] => [] | _ :: _ => [cur]
  | b :: l => match spA b with
    | true => match cur with | [] => fldGo [] l | _ :: _ => cur :: fldGo [] l
    | false => fldGo (cur ++ [b]) l
def memFlds (x : AV) (t : T) : OR :=
  match x with
  | .str s =>
    match s.all (fun b => Nat.blt b.toNat 128) && Nat.blt s.length 1000000 && Nat.blt 0 (fldGo [] s).length with
    | true => .ok (.sl t.n 1 0 (fldGo [] s).length true 0 ((fldGo [] s).map AV.str)) (t.newI ((fldGo [] s).length * 1) 1)
    | false => .fail
  | _ => .fail

/-- a text's pieces between a byte -/
def cutGo (c : Nat) (cur : List UInt8) (s : List UInt8) : List (List UInt8) :=
  match s with
  | [] => [cur]
  | b :: l => match Nat.beq b.toNat c with
    | true => cur :: cutGo c [] l
    | false => cutGo c (cur ++ [b]) l
def memSplt (x y sv n : AV) (t : T) : OR :=
  match x, y, sv, n with
  | .str s, .str [c], .int .i64 (Int.ofNat 0), .int .i64 (Int.negSucc 0) =>
    match Nat.blt s.length 1000000000 with
    | true => .ok (.sl t.n 1 0 (cutGo c.toNat [] s).length true 0 ((cutGo c.toNat [] s).map AV.str)) (t.newI ((cutGo c.toNat [] s).length * 1) 1)
    | false => .fail
  | _, _, _, _ => .fail

/-- texts joined, of a row that may be written, too -/
def memJoin (x sep : AV) (t : T) : OR :=
  match x with
  | .ms y e pos len _ =>
    match look2 y t.vs, sep with
    | some (.cells cs), .str sp =>
      match strsA ((cs.drop pos).take len) with
      | some l =>
        match Nat.beq e 1 && Nat.beq l.length len && Nat.blt 0 len && Nat.ble len 1000000 && Nat.ble (joinA sp l).length 100000000 with
        | true => .ok (.str (joinA sp l)) t
        | false => .fail
      | none => .fail
    | _, _ => .fail
  | x => match primA 0 [x, sep] with | some v => .ok v t | none => .fail

/-- a number as a value of an interface; such values held against each other -/
def memMki (ty : Nat) (x : AV) (t : T) : OR :=
  match x with
  | .int k n => .ok (.ifc ty (.int k n)) t
  | _ => .fail
def eqI (ts : List Nat) (x y : AV) : Option Bool :=
  match x, y with
  | .nili, .ifc .. => some false
  | .ifc .., .nili => some false
  | .ifc a v, .ifc b w =>
    match Nat.beq a b with
    | false => some false
    | true =>
      match v, w with
      | .int k m, .int k' n => match ts.any (Nat.beq a) && decide (k = k') with | true => some (m == n) | false => none
      | _, _ => none
  | _, _ => none
def memEqi (neg : Bool) (ts : List Nat) (x y : AV) (t : T) : OR :=
  match eqI ts x y with
  | some b => .ok (.bool (b != neg)) t
  | none => .fail

/-- an error of the library's, told as another one -/
def memTerr (t1 t2 : Nat) (vs : List AV) (t : T) : OR :=
  match vs with
  | [.str _, .str s, .int .i64 _, .int .i64 _, .ifc a (.int .i64 (Int.ofNat e))] =>
    match Nat.beq a t1 && ((Nat.beq e 1 || Nat.beq e 2) && Nat.ble s.length 281474976710656) with
    | true => .ok (.ifc t2 .und) t
    | false => .fail
  | _ => .fail

def memStep (k : MK) (vs : List AV) (t : T) : OR :=
  match k, vs with
  | .mkS e b z, [l, c] => memMkS e b z l c t
  | .app e b z, [x, y] => memApp e b z x y t
  | .mkmap, [] => .ok (.mp t.n) (t.newV (.map []))
  | .lkp kk z ok, [m, k] => memLkp kk z ok m k t
  | .mup kk, [m, k, v] => memMup kk m k v t
  | .mlen, [m] => memLen m t
  | .b2s, [x] => memB2s x t
  | .s2b, [x] => memS2b x t
  | .prim k, vs => match primA k vs with | some v => .ok v t | none => .fail
  | .clr e z, [x] => memClr e z x t
  | .bld e len z idxs, vs => memBld e len z idxs vs t
  | .bldc e len z idxs, vs => memBldc e len z idxs vs t
  | .apz e b z, [x, n] => memApz e b z x n t
  | .cnt, [x, c] => memCnt x c t
  | .flds, [x] => memFlds x t
  | .joinm, [x, y] => memJoin x y t
  | .splt, [x, y, sv, n] => memSplt x y sv n t
  | .mki ty, [x] => memMki ty x t
  | .eqi neg ts, [x, y] => memEqi neg ts x y t
  | .terr t1 t2, vs => memTerr t1 t2 vs t
  | _, _ => .fail
def opMem (k : MK) (xs : List Opd) (_ : CallF) (f : Fr) (t : T) : OR := memStep k (xs.map (·.get f)) t

def AOp.run (o : AOp) (call : CallF) (f : Fr) (t : T) : OR :=
  AOp.rec (motive := fun _ => CallF → Fr → T → OR) opMv opPick opAlloc opBox opBuild opBuildS opLd1 opLdA opSt opNilck opBin opEqk opEqs opUn opCv opMkfn opMkS opSlS opSlL
    opFaddr opIaddr opIaddrA opFld1 opFldA opIdxS opIdx1 opIdxA opExt opCall opCalld opLen opApp opCpx opRe opIm opMnx opBuildSo opMark opIxb opMem o call f t

/-! ### Code -/

/-- in a region that draws its order: what an operation may see -/
inductive DK where
  | pure | load | iso
  | loadm (i m : Nat)     -- a load at place i, behind those of m, where the region stores, too
  | sto (i m : Nat)
  deriving DecidableEq

/-! are two states the same? -/

def avsE (eq : AV → AV → Bool) : List AV → List AV → Bool
  | [], [] => true
  | a :: l, b :: m => eq a b && avsE eq l m
  | _, _ => false
def avStep (eq : AV → AV → Bool) (a b : AV) : Bool :=
  match a, b with
  | .und, .und => true
  | .bool x, .bool y => x == y
  | .int k x, .int k' y => decide (k = k') && decide (x = y)
  | .str s, .str u => s == u
  | .flt x, .flt y => Nat.beq x y
  | .cpx x y, .cpx x' y' => Nat.beq x x' && Nat.beq y y'
  | .nilp, .nilp => true
  | .ptr x y, .ptr x' y' => Nat.beq x x' && Nat.beq y y'
  | .eptr cs, .eptr ds => avsE eq cs ds
  | .nils, .nils => true
  | .sl0, .sl0 => true
  | .sl i e p c f u es, .sl i' e' p' c' f' u' es' => Nat.beq i i' && Nat.beq e e' && Nat.beq p p' && Nat.beq c c' && (f == f') && Nat.beq u u' && avsE eq es es'
  | .ms x e p l c, .ms x' e' p' l' c' => Nat.beq x x' && Nat.beq e e' && Nat.beq p p' && Nat.beq l l' && Nat.beq c c'
  | .fn f x y, .fn f' x' y' => Nat.beq f f' && avsE eq x x' && avsE eq y y'
  | .nilf, .nilf => true
  | .agg cs, .agg ds => avsE eq cs ds
  | .tup cs, .tup ds => avsE eq cs ds
  | .mp x, .mp y => Nat.beq x y
  | .nilm, .nilm => true
  | .nili, .nili => true
  | .sle e es, .sle e' es' => Nat.beq e e' && avsE eq es es'
  | _, _ => false
def avE : Nat → AV → AV → Bool
  | 0 => fun _ _ => false
  | n + 1 => avStep (avE n)
def frE : Fr → Fr → Bool
  | .nil, .nil => true
  | .node l v r, .node l' v' r' => frE l l' && avE 40 v v' && frE r r'
  | _, _ => false
def psE : List (AV × AV) → List (AV × AV) → Bool
  | [], [] => true
  | p :: l, q :: m => avE 40 p.1 q.1 && avE 40 p.2 q.2 && psE l m
  | _, _ => false
def voE (a b : VObj) : Bool :=
  match a, b with
  | .cells cs, .cells ds => avsE (avE 40) cs ds
  | .map es, .map fs => psE es fs
  | _, _ => false
def vsE : VScope → VScope → Bool
  | [], [] => true
  | p :: l, q :: m => Nat.beq p.1 q.1 && voE p.2 q.2 && vsE l m
  | _, _ => false
def vssE : List VScope → List VScope → Bool
  | [], [] => true
  | p :: l, q :: m => vsE p q && vssE l m
  | _, _ => false
def isE : IScope → IScope → Bool
  | [], [] => true
  | p :: l, q :: m => Nat.beq p.1 q.1 && Nat.beq p.2.1 q.2.1 && Nat.beq p.2.2 q.2.2 && isE l m
  | _, _ => false
def issE : List IScope → List IScope → Bool
  | [], [] => true
  | p :: l, q :: m => isE p q && issE l m
  | _, _ => false
def tE (t u : T) : Bool := Nat.beq t.n u.n && vssE t.vs u.vs && issE t.is u.is

inductive Cd where
  | skip
  | reg (ops : List AO)
  | regd (rs : List (DK × AO)) (ws : List AO)
  | regx (full : Nat) (os : List (Nat × Nat × Bool × AO))
  | seq (a b : Cd)
  | cond (c : Opd) (a b : Cd)
  | block (id : Nat) (b : Cd)
  | loop (b : Cd)
  | exit (id : Nat)
  | ret

inductive RR where
  | fail
  | norm (f : Fr) (t : T)
  | exit (id : Nat) (f : Fr) (t : T)
  | ret (f : Fr) (t : T)

/-- is a guarded operation carried out? -/
def wantedA (f : Fr) (g : Option (Bits × Bool)) : Option Bool :=
  match g with
  | none => some true
  | some (p, want) =>
    match f.get p with
    | .bool b => some (b == want)
    | .tup _ => some false
    | _ => none

def Fr.putO? (f : Fr) (d : Option Bits) (v : AV) : Fr := Option.rec (motive := fun _ => Fr) f (fun p => f.put p v) d

def opsNil (_ : CallF) (f : Fr) (t : T) : RR := .norm f t
def opsCons (o : AO) (_ : List AO) (ih : CallF → Fr → T → RR) (call : CallF) (f : Fr) (t : T) : RR :=
  match wantedA f o.guard with
  | some true =>
    match o.op.run call f t with
    | .ok v t => ih call (f.putO? o.dst v) t
    | .fail => .fail
  | some false => ih call (f.putO? o.dst undefA) t
  | none => .fail
def runOps (l : List AO) (call : CallF) (f : Fr) (t : T) : RR := List.rec (motive := fun _ => CallF → Fr → T → RR) opsNil opsCons l call f t

def viewD (k : DK) (t : T) : T :=
  match k with
  | .pure => ⟨t.n, [[]], [[]]⟩
  | .load => ⟨t.n, t.vs, [[]]⟩
  | .loadm _ _ => ⟨t.n, t.vs, [[]]⟩
  | .sto _ _ => ⟨t.n, t.vs, [[]]⟩
  | .iso => ⟨t.n, [[]], t.is⟩
def mergeD (k : DK) (t t' : T) : Option T :=
  match k with
  | .load => some t
  | .loadm _ _ => some t
  | .sto _ _ => some ⟨t.n, t'.vs, t.is⟩
  | .iso =>
    match t'.vs.flatten, Nat.ble t.n t'.n with
    | [], true => some ⟨t'.n, t.vs, t'.is⟩
    | _, _ => none
  | .pure =>
    match t'.is.flatten with
    | [] =>
      match t'.vs.flatten with
      | [] => Bool.rec none (some ⟨t'.n, t.vs, t.is⟩) (Nat.ble t.n t'.n)
      | [p] => Bool.rec none (some ⟨t'.n, push p t.vs, t.is⟩) (Nat.beq p.1 t.n && Nat.blt t.n t'.n)
      | _ => none
    | _ => none

def isLd (k : DK) : Bool :=
  match k with
  | .load => true
  | .loadm _ _ => true
  | _ => false
def accP (s : Bool) (v : AV) : Option (Nat × Bool) :=
  match v with
  | .ptr x _ => some (x, s)
  | _ => none
/-- the variable that an operation reads or writes, where that is looked after -/
def accX (k : DK) (op : AOp) (f : Fr) : Option (Nat × Bool) :=
  match k with
  | .loadm _ _ =>
    match op with
    | .ld1 x => accP false (x.get f)
    | .ldA _ x => accP false (x.get f)
    | _ => none
  | .sto _ _ =>
    match op with
    | .st _ a _ => accP true (a.get f)
    | _ => none
  | _ => none
def DK.place (k : DK) : Nat × Nat :=
  match k with
  | .loadm i m => (i, m)
  | .sto i m => (i, m)
  | _ => (0, 0)
abbrev Log := List (Nat × Nat × Bool)
def okLog (m x : Nat) (s : Bool) (l : Log) : Bool := l.all fun e => !(Nat.beq e.2.1 x && (s || e.2.2)) || Nat.testBit m e.1
def logX (k : DK) (p : Option (Nat × Bool)) (l : Log) : Option Log :=
  match p with
  | some (x, s) => Bool.rec none (some ((k.place.1, x, s) :: l)) (okLog k.place.2 x s l)
  | none => some l
def logD (k : DK) (op : AOp) (f : Fr) (l : Log) : Option Log :=
  match k with
  | .loadm _ _ => logX k (accX k op f) l
  | .sto _ _ => logX k (accX k op f) l
  | _ => some l

def dNil (ws : List AO) (call : CallF) (f : Fr) (t : T) (_ : Log) : RR := runOps ws call f t
def dCons (o : DK × AO) (_ : List (DK × AO)) (ih : CallF → Fr → T → Log → RR) (call : CallF) (f : Fr) (t : T) (l : Log) : RR :=
  match wantedA f o.2.guard with
  | some true =>
    match logD o.1 o.2.op f l with
    | some l1 =>
      match o.2.op.run call f (viewD o.1 t) with
      | .ok v t' =>
        match mergeD o.1 t t' with
        | some t1 => ih call (f.putO? o.2.dst v) t1 l1
        | none => .fail
      | .fail => .fail
    | none => .fail
  | some false => ih call (f.putO? o.2.dst undefA) t l
  | none => .fail
def runD (rs : List (DK × AO)) (ws : List AO) (call : CallF) (f : Fr) (t : T) (l : Log) : RR := List.rec (motive := fun _ => CallF → Fr → T → Log → RR) (dNil ws) dCons rs call f t l

/-! a region in every order that its edges allow: one operation with its place, what must come ahead, whether it may be taken first -/

def readyX (dn : Nat) (q : Nat × Nat × Bool × AO) : Bool := !Nat.testBit dn q.1 && Nat.beq (Nat.land q.2.1 dn) q.2.1
def firstX (dn : Nat) (q : Nat × Nat × Bool × AO) : Bool := q.2.2.1 && readyX dn q
def rrE (r s : RR) : Bool :=
  match r, s with
  | .norm f t, .norm g u => frE f g && tE t u
  | _, _ => false
def stepI (call : CallF) (q : Nat × Nat × Bool × AO) (f : Fr) (t : T) : Option (Fr × T) :=
  match wantedA f q.2.2.2.guard with
  | some true =>
    match q.2.2.2.op.run call f t with
    | .ok v t' => some (f.putO? q.2.2.2.dst v, t')
    | .fail => none
  | some false => some (f.putO? q.2.2.2.dst undefA, t)
  | none => none
/-- what may be taken next, where those of dn are done -/
def pickI (os : List (Nat × Nat × Bool × AO)) (dn : Nat) : List (Nat × Nat × Bool × AO) :=
  match os.find? (firstX dn) with
  | some q => [q]
  | none => os.filter (readyX dn)
/-- operations that leave the state as it is -/
def keepsT (o : AOp) : Bool :=
  match o with
  | .mv _ | .ld1 _ | .ldA _ _ | .nilck _ | .bin _ _ _ | .faddr _ _ | .ext _ _ => true
  | _ => false
def bitsB (p q : Bits) : Bool :=
  match p, q with
  | .e, .e => true
  | .z p, .z q => bitsB p q
  | .o p, .o q => bitsB p q
  | _, _ => false
def lkP (p : Bits) (l : List (Bits × AV)) : Option AV :=
  match l with
  | [] => none
  | x :: l => match bitsB x.1 p with | true => some x.2 | false => lkP p l
def subP (l m : List (Bits × AV)) : Bool := l.all fun x => match lkP x.1 l, lkP x.1 m with | some a, some b => avE 60 a b | _, _ => false
/-- a place: what is done, what has been put, whether the state may have changed, the frame, the state -/
abbrev Pl := Nat × List (Bits × AV) × Bool × Fr × T
def samePl (x p : Pl) : Bool :=
  match subP x.2.1 p.2.1 && subP p.2.1 x.2.1 with
  | false => false
  | true => match x.2.2.1 || p.2.2.1 with | false => true | true => tE x.2.2.2.2 p.2.2.2.2
/-- a place where some are done, put among those known: it must be the same -/
def insI (p : Pl) (l : List Pl) : Option (List Pl) :=
  match l with
  | [] => some [p]
  | x :: l =>
    match Nat.beq x.1 p.1 with
    | true => match samePl x p with | true => some (x :: l) | false => none
    | false => match insI p l with | some l' => some (x :: l') | none => none
def nextPl (p : Pl) (q : Nat × Nat × Bool × AO) (r : Fr × T) : Pl :=
  (Nat.lor p.1 (2 ^ q.1), match q.2.2.2.dst with | some d => (d, r.1.get d) :: p.2.1 | none => p.2.1, p.2.2.1 || !keepsT q.2.2.2.op, r)
def succI (call : CallF) (p : Pl) (qs : List (Nat × Nat × Bool × AO)) (acc : List Pl) : Option (List Pl) :=
  match qs with
  | [] => some acc
  | q :: qs =>
    match stepI call q p.2.2.2.1 p.2.2.2.2 with
    | some r => match insI (nextPl p q r) acc with | some acc' => succI call p qs acc' | none => none
    | none => none
def layI (os : List (Nat × Nat × Bool × AO)) (call : CallF) (l acc : List Pl) : Option (List Pl) :=
  match l with
  | [] => some acc
  | p :: l =>
    match pickI os p.1 with
    | [] => none
    | q :: qs => match succI call p (q :: qs) acc with | some acc' => layI os call l acc' | none => none
/-- a region in every order: by what is done, not by the order -/
def runI (os : List (Nat × Nat × Bool × AO)) (full : Nat) (call : CallF) : Nat → List Pl → RR
  | 0 => fun l =>
    match l with
    | [p] => match Nat.beq p.1 full, pickI os p.1 with | true, [] => .norm p.2.2.2.1 p.2.2.2.2 | _, _ => .fail
    | _ => .fail
  | n + 1 => fun l => match layI os call l [] with | some l' => runI os full call n l' | none => .fail

abbrev Ev := Cd → Fr → T → RR

structure AFunc where
  depth : Nat
  params : List Bits
  results : List (Bits × Option (Nat × Bool))   -- a slot; or the slot of an address, its cells, whether an aggregate
  keep : Bool
  body : Cd

def argsIn : List Bits → List AV → Fr → Option Fr
  | [], [], f => some f
  | p :: ps, v :: vs, f => argsIn ps vs (f.put p v)
  | _, _, _ => none

def resultOf (f : Fr) (t : T) (r : Bits × Option (Nat × Bool)) : Option AV :=
  match r.2 with
  | none => some (f.get r.1)
  | some (n, ag) =>
    match t.read (f.get r.1) with
    | some cs =>
      match ag with
      | true => Bool.rec none (some (.agg (cs.take n))) (Nat.ble n cs.length)
      | false => cs.head?
    | none => none

def resultsOf (f : Fr) (t : T) : List (Bits × Option (Nat × Bool)) → Option (List AV)
  | [] => some []
  | r :: rs =>
    match resultOf f t r with
    | some v =>
      match resultsOf f t rs with
      | some vs => some (v :: vs)
      | none => none
    | none => none

def packed (vs : List AV) : AV :=
  match vs with
  | [v] => v
  | vs => .tup vs

/-- the slices at the top of a value -/
def tops1 (v : AV) : List Nat :=
  match v with
  | .sl id _ _ _ _ _ _ => [id]
  | _ => []
def AV.tops (v : AV) : List Nat :=
  match v with
  | .sl id _ _ _ _ _ _ => [id]
  | .agg cs => cs.flatMap tops1
  | .tup vs => vs.flatMap fun v => match v with | .agg cs => cs.flatMap tops1 | v => tops1 v
  | _ => []

/-- the state behind a call: what the callee made is forgotten, but for what the result bears -/
def leaveVs (keep : Bool) (l : List VScope) : List VScope :=
  match l with
  | h :: s :: rest => match keep with
    | true => (h ++ s) :: rest
    | false => s :: rest
  | l => l
def leaveIs (keep : Bool) (r : AV) (l : List IScope) : List IScope :=
  match l with
  | h :: s :: rest => match keep with
    | true => (h ++ s) :: rest
    | false => (h.filter (fun p => r.tops.any (Nat.beq p.1)) ++ s) :: rest
  | l => l
def T.enter (t : T) : T := ⟨t.n, [] :: t.vs, [] :: t.is⟩
def T.leave (t : T) (keep : Bool) (r : AV) : T := ⟨t.n, leaveVs keep t.vs, leaveIs keep r t.is⟩

def afterBody (fn : AFunc) (f : Fr) (t : T) : OR :=
  match resultsOf f t fn.results with
  | some vs => .ok (packed vs) (t.leave fn.keep (packed vs))
  | none => .fail

def callA (tbl : Nat → Option AFunc) (ev : Ev) (g : Nat) (args : List AV) (t : T) : OR :=
  match tbl g with
  | some fn =>
    match argsIn fn.params args .nil with
    | some f =>
      match ev fn.body f t.enter with
      | .norm f t => afterBody fn f t
      | .ret f t => afterBody fn f t
      | _ => .fail
    | none => .fail
  | none => .fail

def cSkip (_ : Nat → Option AFunc) (_ : Ev) (f : Fr) (t : T) : RR := .norm f t
def cReg (ops : List AO) (tbl : Nat → Option AFunc) (ev : Ev) (f : Fr) (t : T) : RR := runOps ops (callA tbl ev) f t
def cRegd (rs : List (DK × AO)) (ws : List AO) (tbl : Nat → Option AFunc) (ev : Ev) (f : Fr) (t : T) : RR := runD rs ws (callA tbl ev) f t []
def cRegx (full : Nat) (os : List (Nat × Nat × Bool × AO)) (tbl : Nat → Option AFunc) (ev : Ev) (f : Fr) (t : T) : RR := runI os full (callA tbl ev) os.length [(0, [], false, f, t)]
def cSeq (a b : Cd) (_ _ : (Nat → Option AFunc) → Ev → Fr → T → RR) (_ : Nat → Option AFunc) (ev : Ev) (f : Fr) (t : T) : RR :=
  RR.rec (motive := fun _ => RR) .fail (ev b) RR.exit RR.ret (ev a f t)
def cCond (c : Opd) (a b : Cd) (_ _ : (Nat → Option AFunc) → Ev → Fr → T → RR) (_ : Nat → Option AFunc) (ev : Ev) (f : Fr) (t : T) : RR :=
  match c.get f with
  | .bool x => Bool.rec (motive := fun _ => RR) (ev b f t) (ev a f t) x
  | _ => .fail
def cBlock (id : Nat) (b : Cd) (_ : (Nat → Option AFunc) → Ev → Fr → T → RR) (_ : Nat → Option AFunc) (ev : Ev) (f : Fr) (t : T) : RR :=
  RR.rec (motive := fun _ => RR) .fail RR.norm (fun i f t => Bool.rec (motive := fun _ => RR) (.exit i f t) (.norm f t) (Nat.beq i id)) RR.ret (ev b f t)
def cLoop (b : Cd) (_ : (Nat → Option AFunc) → Ev → Fr → T → RR) (_ : Nat → Option AFunc) (ev : Ev) (f : Fr) (t : T) : RR :=
  RR.rec (motive := fun _ => RR) .fail (ev (.loop b)) RR.exit RR.ret (ev b f t)
def cExit (id : Nat) (_ : Nat → Option AFunc) (_ : Ev) (f : Fr) (t : T) : RR := .exit id f t
def cRet (_ : Nat → Option AFunc) (_ : Ev) (f : Fr) (t : T) : RR := .ret f t

def ev0 (_ : Cd) (_ : Fr) (_ : T) : RR := .fail
def evS (tbl : Nat → Option AFunc) (_ : Nat) (ih : Ev) (c : Cd) (f : Fr) (t : T) : RR :=
  Cd.rec (motive := fun _ => (Nat → Option AFunc) → Ev → Fr → T → RR) cSkip cReg cRegd cRegx cSeq cCond cBlock cLoop cExit cRet c tbl ih f t
def ev (tbl : Nat → Option AFunc) (n : Nat) : Ev := Nat.rec (motive := fun _ => Ev) ev0 (evS tbl) n

/-- a call, by fuel -/
def call (tbl : Nat → Option AFunc) (n : Nat) : CallF := callA tbl (ev tbl n)

end

end M2
end
section
namespace M2
open Go

/-! #### more fuel, the same answer; rules to cut a run in pieces -/

def CallLe (c1 c2 : CallF) : Prop := ∀ f ascs t, c1 f ascs t ≠ .fail → c2 f ascs t = c1 f ascs t
def EvLe (e1 e2 : Ev) : Prop := ∀ c F t, e1 c F t ≠ .fail → e2 c F t = e1 c F t

section
variable {c1 c2 : CallF} {e1 e2 : Ev} {tbl : Nat → Option AFunc}

theorem run_mono (h : CallLe c1 c2) (ao : AOp) (F : Fr) (t : T) (hne : ao.run c1 F t ≠ .fail) : ao.run c2 F t = ao.run c1 F t := by
  cases ao with
  | call f xs => exact h _ _ _ hne
  | calld f xs =>
    change opCalld f xs c2 F t = opCalld f xs c1 F t
    change opCalld f xs c1 F t ≠ .fail at hne
    unfold opCalld at *
    split
    · rename_i hp
      rw [hp] at hne
      exact h _ _ _ hne
    · rfl
  | _ => rfl

theorem runOps_mono (h : CallLe c1 c2) : ∀ (l : List AO) (F : Fr) (t : T), runOps l c1 F t ≠ .fail → runOps l c2 F t = runOps l c1 F t := by
  intro l
  induction l with
  | nil => intro F t _; rfl
  | cons o l ih =>
    intro F t hne
    change opsCons o l (fun call F t => runOps l call F t) c1 F t ≠ .fail at hne
    change opsCons o l (fun call F t => runOps l call F t) c2 F t = opsCons o l (fun call F t => runOps l call F t) c1 F t
    unfold opsCons at *
    split
    · rename_i hw
      rw [hw] at hne
      simp only at hne
      cases hr : o.op.run c1 F t with
      | fail => rw [hr] at hne; exact absurd rfl hne
      | ok v t1 =>
        rw [run_mono h o.op F t (by rw [hr]; simp), hr]
        rw [hr] at hne
        exact ih _ _ hne
    · rename_i hw
      rw [hw] at hne
      exact ih _ _ hne
    · rfl

theorem runD_mono (h : CallLe c1 c2) (ws : List AO) : ∀ (ks : List (DK × AO)) (F : Fr) (t : T) (l : Log), runD ks ws c1 F t l ≠ .fail → runD ks ws c2 F t l = runD ks ws c1 F t l := by
  intro ks
  induction ks with
  | nil => intro F t l hne; exact runOps_mono h ws F t hne
  | cons o ks ih =>
    intro F t l hne
    change dCons o ks (fun call F t l => runD ks ws call F t l) c1 F t l ≠ .fail at hne
    change dCons o ks (fun call F t l => runD ks ws call F t l) c2 F t l = dCons o ks (fun call F t l => runD ks ws call F t l) c1 F t l
    unfold dCons at *
    split
    · rename_i hw
      rw [hw] at hne
      simp only at hne
      split
      · rename_i l1 hl
        rw [hl] at hne
        simp only at hne
        cases hr : o.2.op.run c1 F (viewD o.1 t) with
        | fail => rw [hr] at hne; exact absurd rfl hne
        | ok v t1 =>
          rw [run_mono h o.2.op F _ (by rw [hr]; simp), hr]
          rw [hr] at hne
          simp only at hne ⊢
          split
          · rename_i t2 hm
            rw [hm] at hne
            exact ih _ _ _ hne
          · rfl
      · rfl
    · rename_i hw
      rw [hw] at hne
      exact ih _ _ _ hne
    · rfl

theorem stepI_mono (h : CallLe c1 c2) (q : Nat × Nat × Bool × AO) (F : Fr) (t : T) {r : Fr × T} (hr : stepI c1 q F t = some r) : stepI c2 q F t = some r := by
  unfold stepI at *
  split at hr
  · rename_i hw
    cases hq : q.2.2.2.op.run c1 F t with
    | fail => rw [hq] at hr; cases hr
    | ok v t1 =>
      rw [run_mono h q.2.2.2.op F t (by rw [hq]; simp), hq]
      rw [hq] at hr
      exact hr
  · exact hr
  · cases hr

theorem succI_mono (h : CallLe c1 c2) (p : Pl) : ∀ (qs : List (Nat × Nat × Bool × AO)) (acc l : List Pl), succI c1 p qs acc = some l → succI c2 p qs acc = some l
  | [], _, _, hl => hl
  | q :: qs, acc, l, hl => by
    unfold succI at hl ⊢
    split at hl
    · rename_i r hr
      rw [stepI_mono h q _ _ hr]
      simp only
      split at hl
      · rename_i acc' ha
        exact succI_mono h p qs acc' l hl
      · cases hl
    · cases hl

theorem layI_mono (h : CallLe c1 c2) (os : List (Nat × Nat × Bool × AO)) : ∀ (l acc l2 : List Pl), layI os c1 l acc = some l2 → layI os c2 l acc = some l2
  | [], _, _, hl => hl
  | p :: l, acc, l2, hl => by
    unfold layI at hl ⊢
    split at hl
    · cases hl
    · split at hl
      · rename_i acc' ha
        rw [succI_mono h p _ _ _ ha]
        exact layI_mono h os l acc' l2 hl
      · cases hl

theorem runI_mono (h : CallLe c1 c2) (os : List (Nat × Nat × Bool × AO)) (full : Nat) : ∀ (n : Nat) (l : List Pl), runI os full c1 n l ≠ .fail → runI os full c2 n l = runI os full c1 n l := by
  intro n
  induction n with
  | zero => intro l hne; rfl
  | succ n ih =>
    intro l hne
    unfold runI at hne ⊢
    split at hne
    · rename_i l' hl
      rw [layI_mono h os _ _ _ hl]
      exact ih l' hne
    · exact absurd rfl hne

theorem callA_le (h : EvLe e1 e2) : CallLe (callA tbl e1) (callA tbl e2) := by
  intro f xs t hne
  unfold callA at *
  split
  · rename_i fn hf
    rw [hf] at hne
    simp only at hne
    split
    · rename_i F hF
      rw [hF] at hne
      simp only at hne
      cases hr : e1 fn.body F t.enter with
      | fail => rw [hr] at hne; exact absurd rfl hne
      | _ => rw [h fn.body F t.enter (by rw [hr]; simp), hr]
    · rfl
  · rfl

end

theorem ev_le (tbl : Nat → Option AFunc) : ∀ n, EvLe (ev tbl n) (ev tbl (n + 1)) := by
  intro n
  induction n with
  | zero => intro c F t hne; exact absurd rfl hne
  | succ n ih =>
    intro c F t hne
    have hc := callA_le (tbl := tbl) ih
    cases c with
    | skip => rfl
    | reg ops => exact runOps_mono hc ops F t hne
    | regd rs ws => exact runD_mono hc ws rs F t [] hne
    | regx full os => exact runI_mono hc os full _ _ hne
    | seq a b =>
      change (RR.rec (motive := fun _ => RR) .fail (ev tbl (n + 1) b) RR.exit RR.ret (ev tbl (n + 1) a F t)) = (RR.rec (motive := fun _ => RR) .fail (ev tbl n b) RR.exit RR.ret (ev tbl n a F t))
      change (RR.rec (motive := fun _ => RR) .fail (ev tbl n b) RR.exit RR.ret (ev tbl n a F t)) ≠ .fail at hne
      cases hr : ev tbl n a F t with
      | fail => rw [hr] at hne; exact absurd rfl hne
      | norm F1 t1 =>
        rw [ih a F t (by rw [hr]; simp), hr]
        rw [hr] at hne
        exact ih b F1 t1 hne
      | _ => rw [ih a F t (by rw [hr]; simp), hr]
    | cond c a b =>
      change cCond c a b (fun _ _ _ _ => .fail) (fun _ _ _ _ => .fail) tbl (ev tbl (n + 1)) F t = cCond c a b (fun _ _ _ _ => .fail) (fun _ _ _ _ => .fail) tbl (ev tbl n) F t
      change cCond c a b (fun _ _ _ _ => .fail) (fun _ _ _ _ => .fail) tbl (ev tbl n) F t ≠ .fail at hne
      unfold cCond at *
      split
      · rename_i x hx
        rw [hx] at hne
        cases x with
        | true => exact ih a F t hne
        | false => exact ih b F t hne
      · rfl
    | block id b =>
      change (RR.rec (motive := fun _ => RR) .fail RR.norm (fun i f t => Bool.rec (motive := fun _ => RR) (.exit i f t) (.norm f t) (Nat.beq i id)) RR.ret (ev tbl (n + 1) b F t)) =
        (RR.rec (motive := fun _ => RR) .fail RR.norm (fun i f t => Bool.rec (motive := fun _ => RR) (.exit i f t) (.norm f t) (Nat.beq i id)) RR.ret (ev tbl n b F t))
      change (RR.rec (motive := fun _ => RR) .fail RR.norm (fun i f t => Bool.rec (motive := fun _ => RR) (.exit i f t) (.norm f t) (Nat.beq i id)) RR.ret (ev tbl n b F t)) ≠ .fail at hne
      cases hr : ev tbl n b F t with
      | fail => rw [hr] at hne; exact absurd rfl hne
      | _ => rw [ih b F t (by rw [hr]; simp), hr]
    | loop b =>
      change (RR.rec (motive := fun _ => RR) .fail (ev tbl (n + 1) (.loop b)) RR.exit RR.ret (ev tbl (n + 1) b F t)) = (RR.rec (motive := fun _ => RR) .fail (ev tbl n (.loop b)) RR.exit RR.ret (ev tbl n b F t))
      change (RR.rec (motive := fun _ => RR) .fail (ev tbl n (.loop b)) RR.exit RR.ret (ev tbl n b F t)) ≠ .fail at hne
      cases hr : ev tbl n b F t with
      | fail => rw [hr] at hne; exact absurd rfl hne
      | norm F1 t1 =>
        rw [ih b F t (by rw [hr]; simp), hr]
        rw [hr] at hne
        exact ih (.loop b) F1 t1 hne
      | _ => rw [ih b F t (by rw [hr]; simp), hr]
    | exit id => rfl
    | ret => rfl

theorem ev_more {tbl : Nat → Option AFunc} {n m : Nat} (h : n ≤ m) {c : Cd} {F : Fr} {t : T} {r : RR} (hr : ev tbl n c F t = r) (hne : r ≠ .fail) : ev tbl m c F t = r := by
  induction m with
  | zero => have : n = 0 := by omega
            subst this; exact hr
  | succ m ih =>
    by_cases e : n = m + 1
    · subst e; exact hr
    · have := ih (by omega)
      rw [ev_le tbl m c F t (by rw [this]; exact hne), this]

theorem call_more {tbl : Nat → Option AFunc} {n m : Nat} (h : n ≤ m) {f : Nat} {xs : List AV} {t t' : T} {v : AV} (hr : callA tbl (ev tbl n) f xs t = .ok v t') : callA tbl (ev tbl m) f xs t = .ok v t' := by
  have hle : EvLe (ev tbl n) (ev tbl m) := fun c F t hne => ev_more h rfl hne
  rw [callA_le hle f xs t (by rw [hr]; simp), hr]

end M2
end
section
namespace M2
open Go

/-! #### big steps -/

def Runs (tbl : Nat → Option AFunc) (c : Cd) (F : Fr) (t : T) (r : RR) : Prop := r ≠ .fail ∧ ∃ n, ev tbl n c F t = r
def CallsA (tbl : Nat → Option AFunc) (f : Nat) (xs : List AV) (t : T) (v : AV) (t' : T) : Prop := ∃ n, callA tbl (ev tbl n) f xs t = .ok v t'

section
variable {tbl : Nat → Option AFunc} {a b : Cd} {F F' : Fr} {t t' : T} {r : RR} {id : Nat}

theorem Runs.skip : Runs tbl .skip F t (.norm F t) := ⟨by simp, 1, rfl⟩
theorem Runs.ret : Runs tbl .ret F t (.ret F t) := ⟨by simp, 1, rfl⟩
theorem Runs.exit : Runs tbl (.exit id) F t (.exit id F t) := ⟨by simp, 1, rfl⟩

theorem Runs.seq (h : Runs tbl a F t (.norm F' t')) (k : Runs tbl b F' t' r) : Runs tbl (.seq a b) F t r := by
  obtain ⟨-, n, hn⟩ := h
  obtain ⟨hr, m, hm⟩ := k
  refine ⟨hr, max n m + 1, ?_⟩
  show RR.rec (motive := fun _ => RR) .fail (ev tbl (max n m) b) RR.exit RR.ret (ev tbl (max n m) a F t) = r
  rw [ev_more (Nat.le_max_left n m) hn (by simp)]
  exact ev_more (Nat.le_max_right n m) hm hr

theorem Runs.seq_exit {F' : Fr} {t' : T} (h : Runs tbl a F t (.exit id F' t')) : Runs tbl (.seq a b) F t (.exit id F' t') := by
  obtain ⟨h0, n, hn⟩ := h
  refine ⟨h0, n + 1, ?_⟩
  show RR.rec (motive := fun _ => RR) .fail (ev tbl n b) RR.exit RR.ret (ev tbl n a F t) = _
  rw [hn]

theorem Runs.seq_ret {F' : Fr} {t' : T} (h : Runs tbl a F t (.ret F' t')) : Runs tbl (.seq a b) F t (.ret F' t') := by
  obtain ⟨h0, n, hn⟩ := h
  refine ⟨h0, n + 1, ?_⟩
  show RR.rec (motive := fun _ => RR) .fail (ev tbl n b) RR.exit RR.ret (ev tbl n a F t) = _
  rw [hn]

theorem Runs.cond {c : Opd} {x : Bool} (hc : c.get F = .bool x) (h : Runs tbl (if x then a else b) F t r) : Runs tbl (.cond c a b) F t r := by
  obtain ⟨h0, n, hn⟩ := h
  refine ⟨h0, n + 1, ?_⟩
  show cCond c a b (fun _ _ _ _ => .fail) (fun _ _ _ _ => .fail) tbl (ev tbl n) F t = r
  unfold cCond
  rw [hc]
  cases x <;> exact hn

theorem Runs.loop (h : Runs tbl b F t (.norm F' t')) (k : Runs tbl (.loop b) F' t' r) : Runs tbl (.loop b) F t r := by
  obtain ⟨-, n, hn⟩ := h
  obtain ⟨hr, m, hm⟩ := k
  refine ⟨hr, max n m + 1, ?_⟩
  show RR.rec (motive := fun _ => RR) .fail (ev tbl (max n m) (.loop b)) RR.exit RR.ret (ev tbl (max n m) b F t) = r
  rw [ev_more (Nat.le_max_left n m) hn (by simp)]
  exact ev_more (Nat.le_max_right n m) hm hr

theorem Runs.loop_exit (h : Runs tbl b F t (.exit id F' t')) : Runs tbl (.loop b) F t (.exit id F' t') := by
  obtain ⟨h0, n, hn⟩ := h
  refine ⟨h0, n + 1, ?_⟩
  show RR.rec (motive := fun _ => RR) .fail (ev tbl n (.loop b)) RR.exit RR.ret (ev tbl n b F t) = _
  rw [hn]

theorem Runs.loop_ret (h : Runs tbl b F t (.ret F' t')) : Runs tbl (.loop b) F t (.ret F' t') := by
  obtain ⟨h0, n, hn⟩ := h
  refine ⟨h0, n + 1, ?_⟩
  show RR.rec (motive := fun _ => RR) .fail (ev tbl n (.loop b)) RR.exit RR.ret (ev tbl n b F t) = _
  rw [hn]

noncomputable def inBlockA (id : Nat) (r : RR) : RR := RR.rec (motive := fun _ => RR) .fail RR.norm (fun i f t => Bool.rec (motive := fun _ => RR) (.exit i f t) (.norm f t) (Nat.beq i id)) RR.ret r

theorem Runs.block (h : Runs tbl b F t r) : Runs tbl (.block id b) F t (inBlockA id r) := by
  obtain ⟨h0, n, hn⟩ := h
  refine ⟨?_, n + 1, ?_⟩
  · cases r with
    | fail => exact absurd rfl h0
    | norm F t => exact fun e => by cases e
    | ret F t => exact fun e => by cases e
    | exit i F t =>
      show (Bool.rec (motive := fun _ => RR) (.exit i F t) (.norm F t) (Nat.beq i id) : RR) ≠ .fail
      cases Nat.beq i id <;> simp
  · show inBlockA id (ev tbl n b F t) = _
    rw [hn]

/-- a loop by an invariant over a list of what is still to come -/
theorem Runs.loop_ind {α : Type} (I : List α → Fr → T → Prop) (Q : RR → Prop)
    (step : ∀ x l F t, I (x :: l) F t → (∃ F' t', Runs tbl b F t (.norm F' t') ∧ I l F' t') ∨ ∃ r, Runs tbl b F t r ∧ (∀ F' t', r ≠ .norm F' t') ∧ Q r)
    (done : ∀ F t, I [] F t → ∃ r, Runs tbl b F t r ∧ (∀ F' t', r ≠ .norm F' t') ∧ Q r) : ∀ l F t, I l F t → ∃ r, Runs tbl (.loop b) F t r ∧ Q r := by
  have stop : ∀ F t r, Runs tbl b F t r → (∀ F' t', r ≠ .norm F' t') → Runs tbl (.loop b) F t r := by
    intro F t r h hn
    cases r with
    | fail => exact absurd rfl h.1
    | norm F' t' => exact absurd rfl (hn F' t')
    | exit i F' t' => exact h.loop_exit
    | ret F' t' => exact h.loop_ret
  intro l
  induction l with
  | nil =>
    intro F t h
    obtain ⟨r, h1, h2, h3⟩ := done F t h
    exact ⟨r, stop F t r h1 h2, h3⟩
  | cons x l ih =>
    intro F t h
    rcases step x l F t h with ⟨F', t', h1, h2⟩ | ⟨r, h1, h2, h3⟩
    · obtain ⟨r, k1, k2⟩ := ih F' t' h2
      exact ⟨r, .loop h1 k1, k2⟩
    · exact ⟨r, stop F t r h1 h2, h3⟩

/-- a call, by its body -/
theorem CallsA.mk {f : Nat} {xs : List AV} {fn : AFunc} {F F' : Fr} {t t' t2 : T} {v : AV} (hf : tbl f = some fn) (ha : argsIn fn.params xs .nil = some F) (h : Runs tbl fn.body F t.enter r)
    (hr : r = .norm F' t' ∨ r = .ret F' t') (hres : afterBody fn F' t' = .ok v t2) : CallsA tbl f xs t v t2 := by
  obtain ⟨-, n, hn⟩ := h
  refine ⟨n, ?_⟩
  unfold callA
  rw [hf]
  simp only
  rw [ha]
  simp only
  rw [hn]
  rcases hr with rfl | rfl <;> exact hres

/-- a region's operations one by one -/
theorem Runs.reg {l : List AO} {F : Fr} {t : T} {r : RR} (hr : r ≠ .fail) (h : ∃ n, runOps l (callA tbl (ev tbl n)) F t = r) : Runs tbl (.reg l) F t r := by
  obtain ⟨n, hn⟩ := h
  exact ⟨hr, n + 1, hn⟩

end

end M2
end
section
namespace M2
open Go

/-! ### From the model's operations to ours -/

def pth : Nat → Nat → Bits
  | 0, _ => .e
  | d + 1, n => if n % 2 = 0 then .z (pth d (n / 2)) else .o (pth d (n / 2))

theorem pth_inj : ∀ (d a b : Nat), a < 2 ^ d → b < 2 ^ d → pth d a = pth d b → a = b := by
  intro d
  induction d with
  | zero => intro a b ha hb _; simp at ha hb; omega
  | succ d ih =>
    intro a b ha hb h
    rw [Nat.pow_succ] at ha hb
    simp only [pth] at h
    have hi := ih (a / 2) (b / 2) (by omega) (by omega)
    by_cases h1 : a % 2 = 0 <;> by_cases h2 : b % 2 = 0 <;> simp [h1, h2] at h <;> have := hi h <;> omega

def cmpVal : Nat → Value → Option AV
  | 0, _ => none
  | n + 1, v =>
    match v with
    | .bool b => some (.bool b)
    | .int k i => some (.int k i)
    | .string s => some (.str s.data.toList)
    | .float .f64 b => some (.flt b)
    | .complex .f64 a b => some (.cpx a b)
    | .pointer none => some .nilp
    | .slice none 0 0 => some .nils
    | .nilFunc => some .nilf
    | .map none => some .nilm
    | .nilIface => some .nili
    | .agg cs => (cs.toList.mapM (cmpVal n)).map .agg
    | .tuple vs => if vs.size = 0 then some (.tup []) else none
    | _ => none

theorem mapM_get {α β : Type} (f : α → Option β) : ∀ (l : List α) (r : List β), l.mapM f = some r →
    r.length = l.length ∧ ∀ i (h : i < l.length) (h' : i < r.length), f l[i] = some r[i] := by
  intro l
  induction l with
  | nil => intro r h; simp at h; subst h; simp
  | cons a l ih =>
    intro r h
    simp only [List.mapM_cons, Option.bind_eq_bind, Option.pure_def] at h
    cases ha : f a with
    | none => simp [ha] at h
    | some b =>
      cases hl : l.mapM f with
      | none => simp [ha, hl] at h
      | some bs =>
        simp [ha, hl] at h
        subst h
        obtain ⟨h1, h2⟩ := ih bs hl
        refine ⟨by simp [h1], fun i hi hi' => ?_⟩
        cases i with
        | zero => simpa using ha
        | succ i => simpa using h2 i (by simpa using hi) (by simpa using hi')

theorem cmpVal_sound (M : Maps) (g : G) : ∀ (n : Nat) (v : Value) (a : AV), cmpVal n v = some a → VR M g a v := by
  intro n
  induction n with
  | zero => intro v a h; simp [cmpVal] at h
  | succ n ih =>
    intro v a h
    unfold cmpVal at h
    split at h
    · cases h; exact .bool _
    · cases h; exact .int _ _
    · cases h
      rename_i s
      have : VR M g (.str s.data.toList) (.string ⟨s.data.toList.toArray⟩) := .str _
      simpa using this
    · cases h; exact .flt _
    · cases h; exact .cpx _ _
    · cases h; exact .nilp
    · cases h; exact .nils
    · cases h; exact .nilf
    · cases h; exact .nilm
    · cases h; exact .nili
    · rename_i cs
      cases hm : cs.toList.mapM (cmpVal n) with
      | none => simp [hm] at h
      | some l =>
        simp [hm] at h
        subst h
        obtain ⟨h1, h2⟩ := mapM_get _ _ _ hm
        refine .agg l cs (by simpa using h1.symm) (fun i hi => ?_)
        have hs : i < cs.size := by simpa [h1] using hi
        have := ih _ _ (h2 i (by simpa using hs) hi)
        simpa [Array.getD, hs] using this
    · rename_i vs
      split at h
      · cases h
        rename_i h0
        exact .tup [] vs (by simpa using h0) (fun i hi => absurd hi (by simp))
      · contradiction
    · contradiction

section
variable (P : Program) (im : FuncId → Option Nat) (d ntmps : Nat)

def cmpOpd : Operand → Option Opd
  | .tmp t => if t < 2 ^ d then some (.t (pth d t)) else none
  | .const v => (cmpVal 4 v).map .c
  | .func f => (im f).map fun a => .c (.fn a [] [])
  | .global _ => none

def cmpOpdO : Option Operand → Option (Option Opd)
  | none => some none
  | some x => (cmpOpd im d x).map some

def cmpOpds (xs : Array Operand) : Option (List Opd) := xs.toList.mapM (cmpOpd im d)

/-- rows of this element type may be written -/
def mutT (e : TypeId) : Bool :=
  match im (P.funcs.size + e) with
  | some v => v % 2 == 1
  | none => false

/-- keys that are held against each other at once -/
def keyT (t : TypeId) : Option KK :=
  match P.underlying t with
  | some .string => some .str
  | some (.int k) => some (.int k)
  | some .bool => some .bool
  | _ => none

def zeroOf (t : TypeId) : Option AV := do
  let i ← P.info? t
  let v ← i.zero
  let a ← cmpVal 4 v
  if a.known then some a else none

def sizeT (t : TypeId) : Option Nat := (P.info? t).map (·.size)

def aggT (t : TypeId) : Option Bool :=
  match P.underlying t with
  | some (.struct _) | some (.array _ _) => some true
  | some _ => some false
  | none => none

/-- an element's zero, size, bytes: the zero is as large as the size -/
def elemT (t : TypeId) : Option (AV × Nat × Nat) := do
  let i ← P.info? t
  let z ← zeroOf P t
  if z.cells.length = i.size then some (z, i.size, i.bytes) else none

def etyOf : Nat → TypeId → Option ETy
  | 0, _ => none
  | n + 1, t =>
    match P.underlying t with
    | some .bool => some .bool
    | some (.int _) => some .int
    | some .string => some .str
    | some (.struct fs) =>
      if P.stoodInHeld t then none else
      if fs.toList.any (fun f => f.name == "_") then none else
      (fs.toList.mapM fun (f : Field) => do
        let s ← sizeT P f.type
        let a ← aggT P f.type
        let e ← etyOf n f.type
        some (f.offset, s, a, e)).map .st
    | some (.array len elem) => do
      let s ← sizeT P elem
      let a ← aggT P elem
      let e ← etyOf n elem
      some (.arr len s a e)
    | _ => none

def isU8 (t : TypeId) : Bool :=
  match P.underlying t with
  | some (.int .u8) => true
  | _ => false

theorem isU8_ok {t : TypeId} (h : isU8 P t = true) : P.underlying t = some (.int .u8) := by
  unfold isU8 at h
  split at h
  · assumption
  · cases h

def isConstO : Operand → Bool
  | .const _ => true
  | _ => false

/-- types of numbers that may be held against each other -/
def niceT : List Nat := (List.range P.types.size).filter fun t => match P.underlying t with | some (.int _) => (P.info? t).map (·.comparable) == some true | _ => false
theorem niceT_ok {t : Nat} (h : (niceT P).any (Nat.beq t) = true) : (∃ k, P.underlying t = some (.int k)) ∧ (P.info? t).map (·.comparable) = some true := by
  obtain ⟨u, hu, e⟩ := List.any_eq_true.mp h
  have e := Nat.eq_of_beq_eq_true e
  subst e
  have := (List.mem_filter.mp hu).2
  split at this
  · rename_i k hk; exact ⟨⟨k, hk⟩, by simpa using this⟩
  · cases this

def cmpEq (neg : Bool) (op : BinOp) (t : TypeId) (x y : Operand) (a b : Opd) : Option AOp :=
  match P.underlying t with
  | some (.int _) | some .string => some (.bin op a b)
  | some .bool => some (.eqk .bool neg a b)
  | some (.pointer _) => some (.eqk .ptr neg a b)
  | some (.slice _) => some (.eqk .slice neg a b)
  | some (.func ..) => some (.eqk .func neg a b)
  | some (.map ..) => some (.eqk .map neg a b)
  | some (.interface _) => if isConstO x || isConstO y then some (.eqk .iface neg a b) else some (.mem (.eqi neg (niceT P)) [a, b])
  | some (.struct _) | some (.array ..) =>
    if P.eqGuardType P.depth t then none else (etyOf P 8 t).map fun e => .eqs e neg a b
  | _ => none

def cmpBin (op : BinOp) (t : TypeId) (x y : Operand) : Option AOp := do
  let a ← cmpOpd im d x
  let b ← cmpOpd im d y
  match op with
  | .eql => cmpEq P false op t x y a b
  | .neq => cmpEq P true op t x y a b
  | _ => some (.bin op a b)

def cmpConv (src dst : TypeId) (a : Opd) : Option AOp :=
  match P.underlying src, P.underlying dst with
  | some (.int _), some (.int k) => some (.cv (.int k) a)
  | some (.float .f64), some (.int k) => some (.cv (.fint k) a)
  | some (.int _), some (.float .f64) => some (.cv .flt a)
  | some .string, some .string => some (.cv .str a)
  | some .string, some (.slice e) => if isU8 P e then some (.mem .s2b [a]) else none
  | some (.slice _), some (.slice e) => if src == dst && isU8 P e then some (.mark a) else none
  | some (.slice e), some .string => if isU8 P e then some (.mem .b2s [a]) else none
  | _, _ => none

def fieldPl (f : Field) : Option (Nat × Nat) := (sizeT P f.type).map fun s => (f.offset, s)
def partS (places : List (Nat × Nat)) (p : Nat × Operand) : Option (Nat × Nat × Opd) :=
  match places[p.1]?, cmpOpd im d p.2 with
  | some q, some a => some (q.1, q.2, a)
  | _, _ => none
def partR (s : Nat) (p : Nat × Operand) : Option (Nat × Nat × Opd) := (cmpOpd im d p.2).map fun a => (p.1 * s, s, a)
def partB (p : Nat × Operand) : Option (Nat × Opd) := (cmpOpd im d p.2).map fun a => (p.1, a)

def cmpBuild (t : TypeId) (parts : Array (Nat × Operand)) : Option AOp :=
  match zeroOf P t with
  | none => none
  | some z =>
    match P.underlying t with
    | some (.struct fs) =>
      match fs.toList.mapM (fieldPl P) with
      | none => none
      | some places => (parts.toList.mapM (partS im d places)).map (.build z.cells)
    | some (.array _ elem) =>
      match sizeT P elem with
      | none => none
      | some s => (parts.toList.mapM (partR im d s)).map (.build z.cells)
    | _ => none

def isIxb (f : FuncId) : Bool :=
  match P.funcs[f]? with
  | some fn => fn.body.isNone && (fn.name == "internal/bytealg.IndexByteString" && (Extern.findNext fn).isNone)
  | none => false

def isCnt (f : FuncId) : Bool :=
  match P.funcs[f]? with
  | some fn => fn.body.isNone && (fn.name == "internal/bytealg.CountString" && (Extern.findNext fn).isNone)
  | none => false

def cmpCall (c : Call) : Option AOp := do
  let args ← cmpOpds im d c.args
  match c.callee with
  | .value (.func f) => if isIxb P f then (match args with | [x, y] => some (.ixb x y) | _ => none) else if isCnt P f then (match args with | [x, y] => some (.mem .cnt [x, y]) | _ => none) else do
    let a ← im f
    some (.call a args)
  | .value (.tmp t) => do
    let a ← cmpOpd im d (.tmp t)
    some (.calld a args)
  | .builtin .len => do
    let [a] := args | none
    match P.underlying (c.argTypes.getD 0 0), c.argTypes.size with
    | some .string, 1 => some (.len true a)
    | some (.slice _), 1 => some (.len false a)
    | some (.array n _), 1 => some (.mv (.c (.int .i64 n)))
    | some (.map _ _), 1 => some (.mem .mlen [a])
    | _, _ => none
  | .builtin .append => do
    let [a, b] := args | none
    match P.underlying (c.argTypes.getD 0 0), P.underlying (c.argTypes.getD 1 0), c.argTypes.size with
    | some (.slice e), some (.slice _), 2 => do
      let (z, s, by_) ← elemT P e
      if 1 ≤ by_ then some (if mutT P im e then .mem (.app s by_ z) [a, b] else .app s by_ z a b) else none
    | some (.slice e), some (.int _), 2 => do
      let (z, s, by_) ← elemT P e
      if 1 ≤ by_ then some (.mem (.apz s by_ z) [a, b]) else none
    | _, _, _ => none
  | .builtin .clear => do
    let [a] := args | none
    match P.underlying (c.argTypes.getD 0 0), c.argTypes.size with
    | some (.slice e), 1 => do
      let (z, s, _) ← elemT P e
      some (.mem (.clr s z) [a])
    | _, _ => none
  | .builtin .complex => do
    let [a, b] := args | none
    some (.cpx a b)
  | .builtin .real => do
    let [a] := args | none
    some (.re a)
  | .builtin .imag => do
    let [a] := args | none
    some (.im a)
  | .builtin .min => do
    let [a, b] := args | none
    some (.mnx false a b)
  | .builtin .max => do
    let [a, b] := args | none
    some (.mnx true a b)
  | _ => none

def cmpOp1 (o : Op) : Option AOp :=
  match o with
  | .move x | .assign x => do some (.mv (← cmpOpd im d x))
  | .pick c a b => do some (.pick (← cmpOpd im d c) (← cmpOpd im d a) (← cmpOpd im d b))
  | .alloc t => do some (.alloc (← zeroOf P t).cells)
  | .box _ x => do some (.box (← cmpOpd im d x))
  | .build t parts => cmpBuild P im d t parts
  | .buildSlice t len parts =>
    match P.underlying t with
    | some (.slice e) => do
      let (z, s, _) ← elemT P e
      if len * s ≤ 2 ^ 24 then (parts.toList.mapM (partB im d)).map (fun ps => if isU8 P e then .buildSo s len z ps else if mutT P im e && (s == 1 && (d % 2 == 1 && parts.all fun p => isConstO p.2)) then .mem (.bld s len z (ps.map Prod.fst)) (ps.map Prod.snd) else if mutT P im e && (s == 1 && d % 2 == 1) then .mem (.bldc s len z (ps.map Prod.fst)) (ps.map Prod.snd) else .buildS s len z ps) else none
    | _ => none
  | .load t a => do
    let x ← cmpOpd im d a
    let s ← sizeT P t
    match aggT P t with
    | some true => some (.ldA s x)
    | some false => some (.ld1 x)
    | none => none
  | .store t a v => do
    let s ← sizeT P t
    some (.st s (← cmpOpd im d a) (← cmpOpd im d v))
  | .nilCheck x => do some (.nilck (← cmpOpd im d x))
  | .binOp op t x y _ => cmpBin P im d op t x y
  | .unOp op _ x => do some (.un op (← cmpOpd im d x))
  | .convert src dst x => do cmpConv P src dst (← cmpOpd im d x)
  | .makeFunc (.func f) first cap => do some (.mkfn (← im f) (← cmpOpds im d first) (← cmpOpds im d cap))
  | .makeSlice t len cap =>
    match P.underlying t with
    | some (.slice e) => do
      let (z, s, by_) ← elemT P e
      let l ← cmpOpd im d len
      let c ← cmpOpd im d cap
      some (if mutT P im e then .mem (.mkS s by_ z) [l, c] else .mkS s by_ z l c)
    | _ => none
  | .slice t x lo hi mx => do
    let a ← cmpOpd im d x
    let l ← cmpOpdO im d lo
    let h ← cmpOpdO im d hi
    let m ← cmpOpdO im d mx
    match P.underlying t with
    | some .string => if m.isSome then none else some (.slS a l h)
    | some (.slice e) => if m.isSome && h.isNone then none else do some (.slL (← sizeT P e) a l h m)
    | _ => none
  | .fieldAddr t x f =>
    match P.underlying t with
    | some (.struct fs) => do
      let fl ← fs[f]?
      let s ← sizeT P fl.type
      if s = 0 then none else some (.faddr fl.offset (← cmpOpd im d x))
    | _ => none
  | .indexAddr t x i =>
    match P.underlying t with
    | some (.slice e) => do some (.iaddr (← sizeT P e) (← cmpOpd im d x) (← cmpOpd im d i))
    | some (.array n e) => do some (.iaddrA n (← sizeT P e) (← cmpOpd im d x) (← cmpOpd im d i))
    | _ => none
  | .field t x f =>
    match P.underlying t with
    | some (.struct fs) => do
      let fl ← fs[f]?
      let s ← sizeT P fl.type
      match aggT P fl.type with
      | some true => do some (.fldA fl.offset s (← cmpOpd im d x))
      | some false => do some (.fld1 fl.offset (← cmpOpd im d x))
      | none => none
    | _ => none
  | .index t x i =>
    match P.underlying t with
    | some .string => do some (.idxS (← cmpOpd im d x) (← cmpOpd im d i))
    | some (.array n e) => do
      let s ← sizeT P e
      match aggT P e with
      | some true => do some (.idxA n s (← cmpOpd im d x) (← cmpOpd im d i))
      | some false => if s = 1 then do some (.idx1 n (← cmpOpd im d x) (← cmpOpd im d i)) else none
      | none => none
    | _ => none
  | .extract x i => do some (.ext (← cmpOpd im d x) i)
  | .call c => cmpCall P im d c
  | .makeMap _ none => some (.mem .mkmap [])
  | .lookup t x i ok =>
    match P.underlying t with
    | some (.map k e) => do
      let z ← zeroOf P e
      let m ← cmpOpd im d x
      let y ← cmpOpd im d i
      let kk ← keyT P k
      some (.mem (.lkp kk z ok) [m, y])
    | _ => none
  | .mapUpdate t x i u =>
    match P.underlying t with
    | some (.map k _) => do
      let m ← cmpOpd im d x
      let y ← cmpOpd im d i
      let w ← cmpOpd im d u
      let kk ← keyT P k
      some (.mem (.mup kk) [m, y, w])
    | _ => none
  | .makeInterface ty x =>
    match P.underlying ty with
    | some (.int _) => do some (.mem (.mki ty) [← cmpOpd im d x])
    | _ => none
  | _ => none

/-- an operation that may not be carried out -/
def badOp : AOp := .mem .mlen []
def badOK : Op → Bool
  | .select .. | .move _ | .assign _ | .nilCheck _ | .fieldAddr .. => false
  | _ => true
def cmpOp (o : Op) : Option AOp :=
  match cmpOp1 P im d o with
  | some a => some a
  | none => if badOK o then some badOp else none
variable {P im d} in
theorem cmpOp_cases {o : Op} {a : AOp} (h : cmpOp P im d o = some a) : cmpOp1 P im d o = some a ∨ a = badOp := by
  unfold cmpOp at h
  split at h
  · rename_i b hb; exact .inl (hb.trans h)
  · split at h
    · exact .inr (Option.some.inj h).symm
    · cases h
theorem cmpOp_pure {o : Op} (h : badOK o = false) : cmpOp P im d o = cmpOp1 P im d o := by
  unfold cmpOp
  rw [h]
  cases cmpOp1 P im d o <;> rfl

def cmpDst : Option Tmp → Option (Option Bits)
  | none => some none
  | some t => if t < ntmps ∧ t < 2 ^ d then some (some (pth d t)) else none

def cmpGuard (ops : Array Oper) : Option (Nat × Bool) → Option (Option (Bits × Bool))
  | none => some none
  | some (j, want) =>
    match (ops[j]?).bind (·.dst) with
    | some t => if t < ntmps ∧ t < 2 ^ d then some (some (pth d t, want)) else none
    | none => none

def cmpO (ops : Array Oper) (o : Oper) : Option AO := do
  let a ← cmpOp P im d o.op
  let r ← cmpDst d ntmps o.dst
  let q ← cmpGuard d ntmps ops o.guard
  some { dst := r, guard := q, op := a }

/-- of each operation, those that must come ahead: bits -/
def maskOf (acc : List Nat) (o : Oper) : Nat :=
  o.after.toList.foldl (fun s e => if Region.binds .any e then s ||| 2 ^ e.on ||| acc.getD e.on 0 else s) 0
def masks (ops : List Oper) : List Nat := ops.foldl (fun acc o => acc ++ [maskOf acc o]) []

def optPaths : Option Opd → List Bits
  | some (.t p) => [p]
  | _ => []
def optP (x : Opd) : List Bits := optPaths (some x)
/-- the slots that an operation reads -/
def opPaths : AOp → List Bits
  | .mv x | .box x | .ld1 x | .ldA _ x | .nilck x | .un _ x | .cv _ x | .faddr _ x | .fld1 _ x | .fldA _ _ x | .ext x _ | .len _ x | .re x | .im x | .mark x => optP x
  | .pick c a b => optP c ++ optP a ++ optP b
  | .alloc _ => []
  | .build _ ps => ps.flatMap fun p => optP p.2.2
  | .buildS _ _ _ ps | .buildSo _ _ _ ps => ps.flatMap fun p => optP p.2
  | .st _ a b | .bin _ a b | .eqk _ _ a b | .eqs _ _ a b | .iaddr _ a b | .iaddrA _ _ a b | .idxS a b | .idx1 _ a b | .idxA _ _ a b | .cpx a b | .mnx _ a b | .ixb a b
  | .app _ _ _ a b | .mkS _ _ _ a b => optP a ++ optP b
  | .mkfn _ f c => f.flatMap optP ++ c.flatMap optP
  | .slS x l h => optP x ++ optPaths l ++ optPaths h
  | .slL _ x l h m => optP x ++ optPaths l ++ optPaths h ++ optPaths m
  | .call _ xs | .mem _ xs => xs.flatMap optP
  | .calld f xs => optP f ++ xs.flatMap optP
def aoNames (o : AO) : List Bits := o.dst.toList ++ (o.guard.toList.map Prod.fst) ++ opPaths o.op

def kindOf : AOp → Option DK
  | .ld1 _ | .ldA _ _ => some .load
  | .call _ _ | .calld _ _ | .app .. | .mkS .. | .buildSo .. | .mark _ => some .iso
  | .st .. | .mem .. => none
  | _ => some .pure
def makesVar : AOp → Bool
  | .alloc _ | .box _ => true
  | _ => false

/-- the kind at a place; 'st': the region stores -/
def kindAt (ms : List Nat) (st : Bool) (i : Nat) (o : AOp) : Option DK :=
  match o with
  | .st .. => some (.sto i (ms.getD i 0))
  | .ld1 _ => some (if st then .loadm i (ms.getD i 0) else .load)
  | .ldA _ _ => some (if st then .loadm i (ms.getD i 0) else .load)
  | o => kindOf o
def isSt : AOp → Bool
  | .st .. => true
  | _ => false
def memK : DK → Bool
  | .load | .loadm _ _ | .sto _ _ => true
  | _ => false

def bit (ms : List Nat) (i j : Nat) : Bool := Nat.testBit (ms.getD i 0) j

/-- moves that may be taken first: those that a region begins with -/
def bareMove (o : Oper) : Bool := o.guard.isNone && (match o.op with | .move (.tmp _) => true | _ => false) && o.after.toList.all fun e => !Region.binds .any e
def waitsFor (i : Nat) (o : Oper) : Bool := o.after.toList.any fun e => Region.binds .any e && Nat.beq e.on i
def hoistable (ops : Array Oper) (i : Nat) (o : Oper) : Bool := bareMove o && ops.toList.zipIdx.all fun q => Nat.beq q.2 i || (waitsFor i q.1 || o.apart ops q.1)
def hoistN (ops : Array Oper) : Nat := ((ops.toList.zipIdx).takeWhile fun q => hoistable ops q.2 q.1).length

/-- may a region be gone through in any order that its edges allow? -/
def drawOK (h : Nat) (ops : List Oper) (ms : List Nat) (ks : List (DK × AO)) (r : Nat) : Bool :=
  ops.zipIdx.all (fun (o, i) => o.after.toList.all fun e => !Region.binds .any e || e.on < i) &&
  (Nat.ble h r && (List.range ops.length).all (fun w => w < r || (List.range w).all fun j => j < h || bit ms w j)) &&
  ks.zipIdx.all (fun (a, i) => ks.zipIdx.all fun (b, j) =>
    (!(j < i) || (!(a.1 == .iso && b.1 == .iso) || bit ms i j) && (!(memK a.1 && makesVar b.2.op) || bit ms i j)) &&
    (i == j || !((aoNames a.2).any fun p => b.2.dst == some p) || (!(j < i) || bit ms i j) && (!(i < j) || bit ms j i)))

def cmpD0 (h : Nat) (ops : Array Oper) : Option Cd := do
  let al ← ops.toList.mapM (cmpO P im d ntmps ops)
  let ms := masks ops.toList
  let n := ops.size
  let r ← (List.range (n + 1)).find? fun r => Nat.ble h r && (List.range n).all fun w => w < r || (List.range w).all fun j => j < h || bit ms w j
  let st := (al.take r).any fun a => isSt a.op
  let ks ← ((al.take r).zipIdx).mapM fun p => (kindAt ms st p.2 p.1.op).map fun k => (k, p.1)
  if drawOK h ops.toList ms ks r && ks.length == r then some (.regd ks (al.drop r)) else none
def cmpD (ops : Array Oper) : Option Cd :=
  match (im P.funcs.size).isSome with
  | true =>
    match cmpD0 P im d ntmps (hoistN ops) ops with
    | some c => some c
    | none => cmpD0 P im d ntmps 0 ops
  | false =>
    match cmpD0 P im d ntmps 0 ops with
    | some c => some c
    | none => cmpD0 P im d ntmps (hoistN ops) ops

def maskX (o : Oper) : Nat := o.after.toList.foldl (fun s e => if Region.binds .any e then s ||| 2 ^ e.on else s) 0
def pureX (o : Oper) : Bool := o.guard.isNone && (match o.op with | .move _ | .assign _ | .nilCheck _ | .fieldAddr .. | .indexAddr .. => true | _ => false)
def hoistX (ops : Array Oper) (ms : List Nat) (i : Nat) (o : Oper) : Bool :=
  pureX o && ops.toList.zipIdx.all fun q => Nat.beq q.2 i || (waitsFor i q.1 || (bit ms i q.2 || o.apart ops q.1))
def cmpX (ops : Array Oper) : Option Cd := do
  let al ← ops.toList.mapM (cmpO P im d ntmps ops)
  let ms := masks ops.toList
  if ops.toList.zipIdx.all (fun (o, i) => o.after.toList.all fun e => !Region.binds .any e || e.on < i) then
    some (.regx (2 ^ ops.size - 1) ((al.zip ops.toList).zipIdx.map fun p => (p.2, maskX p.1.2, hoistX ops ms p.2 p.1.2, p.1.1))) else none

/-- does a region ask functions? -/
def asks (o : Oper) : Bool :=
  match o.op with
  | .call c => match c.callee with
    | .value _ => true
    | _ => false
  | _ => false
def cmpR (ops : Array Oper) : Option Cd :=
  match (im P.funcs.size).isSome && (d % 2 == 1 && ops.any asks) with
  | true =>
    match cmpX P im d ntmps ops with
    | some c => some c
    | none => cmpD P im d ntmps ops
  | false =>
    match cmpD P im d ntmps ops with
    | some c => some c
    | none => cmpX P im d ntmps ops

def cmpC : Code → Option Cd
  | .skip => some .skip
  | .region _ ops draw => if draw then cmpR P im d ntmps ops else (ops.toList.mapM (cmpO P im d ntmps ops)).map .reg
  | .seq a b => do some (.seq (← cmpC a) (← cmpC b))
  | .cond c a b => do some (.cond (← cmpOpd im d c) (← cmpC a) (← cmpC b))
  | .block id b => do some (.block id (← cmpC b))
  | .loop b => do some (.loop (← cmpC b))
  | .exit id => some (.exit id)
  | .ret => some .ret
  | _ => none

def cmpRes : ResultVar → Option (Bits × Option (Nat × Bool))
  | .tmp t => if t < 2 ^ d then some (pth d t, none) else none
  | .cell a t => do
    if a < 2 ^ d then
      let s ← sizeT P t
      let g ← aggT P t
      some (pth d a, some (s, g))
    else none

end

def cmpF (P : Program) (im : FuncId → Option Nat) (d : Nat) (keep : Bool) (fn : Func) : Option AFunc := do
  if fn.ntmps ≤ 2 ^ d ∧ fn.params.size + fn.nfree ≤ fn.ntmps ∧ fn.name ≠ "runtime.NumGoroutine" then
    let c ← fn.body
    let b ← cmpC P im d fn.ntmps c
    let rs ← fn.results.toList.mapM (cmpRes P d)
    some { depth := d, params := (List.range (fn.params.size + fn.nfree)).map (pth d), results := rs, keep := keep, body := b }
  else none

/-! ### The state's relation to the world -/

inductive ObjR (M : Maps) (g : G) : VObj → Nat → Prop where
  | cells (cs : List AV) (b : Nat) (c : Array Value) (ty : TypeId) (fz : Nat × Nat)
      (hh : g.w.heap[b]? = some (.cells c ty fz)) (hz : ∀ off, off < c.size → g.w.frozen? ⟨b, off, none⟩ = false)
      (hl : cs.length ≤ c.size) (hv : ∀ i (h : i < cs.length), VR M g cs[i] (c.getD i undef)) : ObjR M g (.cells cs) b
  | map (es : List (AV × AV)) (b : Nat) (ms : Array MapEntry) (clock : Nat) (hh : g.w.heap[b]? = some (.map ms clock)) (hl : ms.size = es.length)
      (hk : ∀ i (h : i < es.length) (h' : i < ms.size), VR M g es[i].1 ms[i].key) (hv : ∀ i (h : i < es.length) (h' : i < ms.size), VR M g es[i].2 ms[i].val) : ObjR M g (.map es) b

/-- names stand once, and below n -/
structure T.WF (t : T) : Prop where
  vk : (t.vs.flatten.map Prod.fst).Nodup
  vn : ∀ p, p ∈ t.vs.flatten → p.1 < t.n
  ik : (t.is.flatten.map Prod.fst).Nodup
  jn : ∀ p, p ∈ t.is.flatten → p.1 < t.n

structure SR (M : Maps) (g : G) (t : T) : Prop where
  n : g.n = t.n
  wf : t.WF
  okn : ∀ i, g.ok i → i < t.n
  var : ∀ x o, look2 x t.vs = some o → g.ok x ∧ g.μ (g.ν x) = .var ∧ ObjR M g o (g.ν x)
  inj : ∀ x y o o', look2 x t.vs = some o → look2 y t.vs = some o' → g.ν x = g.ν y → x = y
  ids : ∀ i en e, look2 i t.is = some (en, e) → g.ok i ∧ g.μ (g.ρ i).block = .lim ((g.ρ i).off + en) ∧
    ∃ c ty fz, g.w.heap[(g.ρ i).block]? = some (.cells c ty fz) ∧ (∀ off, off < c.size → g.w.frozen? ⟨(g.ρ i).block, off, none⟩ = false) ∧
      (g.ρ i).off + en + (g.ρ i).extra * e ≤ c.size ∧ (fz.1 = fz.2 ∨ c.size ≤ fz.1)
  idinj : ∀ i j a b, look2 i t.is = some a → look2 j t.is = some b → (g.ρ i).block = (g.ρ j).block → i = j
  kept : KeptR M g

structure FR (M : Maps) (g : G) (d : Nat) (F : Fr) (tmps : Array Value) : Prop where
  size : tmps.size ≤ 2 ^ d
  rel : ∀ t, t < 2 ^ d → VR M g (F.get (pth d t)) (tmps.getD t undef)

theorem FR.mono {M : Maps} {g g' : G} (h : g.Le g') {d : Nat} {F : Fr} {tmps : Array Value} (hf : FR M g d F tmps) : FR M g' d F tmps :=
  ⟨hf.size, fun t ht => (hf.rel t ht).mono h⟩

theorem FR.put {M : Maps} {g : G} {d : Nat} {F : Fr} {tmps : Array Value} (hf : FR M g d F tmps) {t : Nat} (ht : t < tmps.size)
    {a : AV} {v : Value} (hv : VR M g a v) : FR M g d (F.put (pth d t) a) (tmps.setIfInBounds t v) := by
  refine ⟨by simpa using hf.size, fun u hu => ?_⟩
  rw [Fr.get_put]
  by_cases h : t = u
  · subst h
    rw [if_pos rfl]
    simpa [Array.getD, ht] using hv
  · rw [if_neg (fun e => h (pth_inj d t u (Nat.lt_of_lt_of_le ht hf.size) hu e))]
    have := hf.rel u hu
    by_cases hu' : u < tmps.size
    · simpa [Array.getD, hu', Array.getElem_setIfInBounds_ne, h] using this
    · simpa [Array.getD, hu'] using this

end M2
end
section
namespace M2
open Go

/-! ### Looking things up -/

theorem beq_true {a b : Nat} (h : a = b) : Nat.beq a b = true := by subst h; exact Nat.beq_refl a
theorem beq_false {a b : Nat} (h : a ≠ b) : Nat.beq a b = false := by
  cases hb : Nat.beq a b with
  | false => rfl
  | true => exact absurd (Nat.eq_of_beq_eq_true hb) h

section
variable {α : Type}

theorem look_nil (x : Nat) : look x ([] : List (Nat × α)) = none := rfl
theorem look_cons (x : Nat) (p : Nat × α) (l : List (Nat × α)) : look x (p :: l) = if p.1 = x then some p.2 else look x l := by
  show Bool.rec (motive := fun _ => Option α) (look x l) (some p.2) (Nat.beq p.1 x) = _
  by_cases h : p.1 = x
  · rw [beq_true h, if_pos h]
  · rw [beq_false h, if_neg h]
theorem look2_nil (x : Nat) : look2 x ([] : List (List (Nat × α))) = none := rfl
theorem look2_cons (x : Nat) (s : List (Nat × α)) (l : List (List (Nat × α))) : look2 x (s :: l) = (look x s).or (look2 x l) := by
  show Option.rec (motive := fun _ => Option α) (look2 x l) some (look x s) = _
  cases look x s <;> rfl

theorem look2_push (x : Nat) (p : Nat × α) (l : List (List (Nat × α))) : look2 x (push p l) = if p.1 = x then some p.2 else look2 x l := by
  cases l with
  | nil => rw [push, look2_cons, look_cons, look_nil, look2_nil]; split <;> rfl
  | cons s l => rw [push, look2_cons, look_cons, look2_cons]; split <;> rfl

theorem look_upd (x y : Nat) (v : α) (l : List (Nat × α)) : look x (upd y v l) = if x = y then (look x l).map (fun _ => v) else look x l := by
  induction l with
  | nil => rw [upd, List.map_nil, look_nil]; split <;> rfl
  | cons p l ih =>
    have hu : upd y v (p :: l) = Bool.rec p (p.1, v) (Nat.beq p.1 y) :: upd y v l := rfl
    rw [hu, look_cons, look_cons, ih]
    by_cases hp : p.1 = y
    · rw [beq_true hp]
      by_cases hx : x = y
      · subst hx; simp [hp]
      · have hpx : ¬ p.1 = x := fun e => hx (e.symm.trans hp)
        simp [hx, hpx]
    · rw [beq_false hp]
      by_cases hx : x = y
      · subst hx; simp [hp]
      · simp [hx]

theorem look2_upd2 (x y : Nat) (v : α) (l : List (List (Nat × α))) : look2 x (upd2 y v l) = if x = y then (look2 x l).map (fun _ => v) else look2 x l := by
  induction l with
  | nil => rw [upd2, List.map_nil, look2_nil]; split <;> rfl
  | cons s l ih =>
    have hu : upd2 y v (s :: l) = upd y v s :: upd2 y v l := rfl
    rw [hu, look2_cons, look2_cons, ih, look_upd]
    by_cases hx : x = y
    · simp only [hx, if_true]; cases look y s <;> rfl
    · simp only [hx, if_false]

theorem look_del (x y : Nat) (l : List (Nat × α)) : look x (del y l) = if x = y then none else look x l := by
  induction l with
  | nil => rw [show del y ([] : List (Nat × α)) = [] from rfl, look_nil]; split <;> rfl
  | cons p l ih =>
    by_cases hp : p.1 = y
    · have hu : del y (p :: l) = del y l := by simp [del, beq_true hp]
      rw [hu, look_cons, ih]
      by_cases hx : x = y
      · simp [hx]
      · simp [hx]
        intro e
        exact absurd (e.symm.trans hp) hx
    · have hu : del y (p :: l) = p :: del y l := by simp [del, beq_false hp]
      rw [hu, look_cons, look_cons, ih]
      by_cases hx : x = y
      · subst hx; simp [hp]
      · simp [hx]

theorem look2_del2 (x y : Nat) (l : List (List (Nat × α))) : look2 x (del2 y l) = if x = y then none else look2 x l := by
  induction l with
  | nil => rw [show del2 y ([] : List (List (Nat × α))) = [] from rfl, look2_nil]; split <;> rfl
  | cons s l ih =>
    have hu : del2 y (s :: l) = del y s :: del2 y l := rfl
    rw [hu, look2_cons, look2_cons, ih, look_del]
    by_cases hx : x = y
    · simp [hx]
    · simp [hx]

end

section
variable {α : Type}

theorem look_append (x : Nat) (a b : List (Nat × α)) : look x (a ++ b) = (look x a).or (look x b) := by
  induction a with
  | nil => rw [look_nil]; rfl
  | cons p a ih =>
    rw [List.cons_append, look_cons, look_cons, ih]
    split <;> rfl

theorem look2_flatten (x : Nat) (l : List (List (Nat × α))) : look2 x l = look x l.flatten := by
  induction l with
  | nil => rfl
  | cons s l ih => rw [look2_cons, ih, List.flatten_cons, look_append]

theorem look_mem {x : Nat} {l : List (Nat × α)} {a : α} (h : look x l = some a) : (x, a) ∈ l := by
  induction l with
  | nil => cases h
  | cons p l ih =>
    rw [look_cons] at h
    split at h
    · rename_i e
      cases h
      subst e
      exact List.mem_cons_self
    · exact List.mem_cons_of_mem _ (ih h)

theorem mem_look {x : Nat} {l : List (Nat × α)} {a : α} (hn : (l.map Prod.fst).Nodup) (h : (x, a) ∈ l) : look x l = some a := by
  induction l with
  | nil => cases h
  | cons p l ih =>
    rw [look_cons]
    simp only [List.map_cons, List.nodup_cons] at hn
    cases h with
    | head => simp
    | tail _ h =>
      have : p.1 ≠ x := fun e => hn.1 (by rw [e]; exact List.mem_map.mpr ⟨_, h, rfl⟩)
      rw [if_neg this]
      exact ih hn.2 h

theorem look_sub {x : Nat} {l l' : List (Nat × α)} {a : α} (hn : (l.map Prod.fst).Nodup) (hs : l'.Sublist l) (h : look x l' = some a) : look x l = some a :=
  mem_look hn (hs.subset (look_mem h))

theorem flatten_push (p : Nat × α) (l : List (List (Nat × α))) : (push p l).flatten = p :: l.flatten := by cases l <;> rfl

theorem upd_keys (x : Nat) (v : α) (l : List (Nat × α)) : (upd x v l).map Prod.fst = l.map Prod.fst := by
  induction l with
  | nil => rfl
  | cons p l ih =>
    have hu : upd x v (p :: l) = Bool.rec p (p.1, v) (Nat.beq p.1 x) :: upd x v l := rfl
    rw [hu, List.map_cons, ih]
    cases Nat.beq p.1 x <;> rfl

theorem upd2_keys (x : Nat) (v : α) (l : List (List (Nat × α))) : (upd2 x v l).flatten.map Prod.fst = l.flatten.map Prod.fst := by
  induction l with
  | nil => rfl
  | cons s l ih =>
    have hu : upd2 x v (s :: l) = upd x v s :: upd2 x v l := rfl
    rw [hu, List.flatten_cons, List.flatten_cons, List.map_append, List.map_append, ih, upd_keys]

theorem del2_sub (x : Nat) (l : List (List (Nat × α))) : (del2 x l).flatten.Sublist l.flatten := by
  induction l with
  | nil => exact List.Sublist.refl _
  | cons s l ih =>
    have hu : del2 x (s :: l) = del x s :: del2 x l := rfl
    rw [hu, List.flatten_cons, List.flatten_cons]
    exact List.Sublist.append List.filter_sublist ih

end

theorem T.WF.newV {t : T} (h : t.WF) (o : VObj) : (t.newV o).WF := by
  refine ⟨?_, ?_, h.ik, fun p hp => Nat.lt_succ_of_lt (h.jn p hp)⟩
  · rw [show (t.newV o).vs.flatten = _ from flatten_push _ _, List.map_cons, List.nodup_cons]
    refine ⟨fun hm => ?_, h.vk⟩
    obtain ⟨p, hp, e⟩ := List.mem_map.mp hm
    have := h.vn p hp
    simp only at e
    omega
  · intro p hp
    rw [show (t.newV o).vs.flatten = _ from flatten_push _ _] at hp
    cases hp with
    | head => exact Nat.lt_succ_self _
    | tail _ hp => exact Nat.lt_succ_of_lt (h.vn p hp)

theorem T.WF.newI {t : T} (h : t.WF) (en e : Nat) : (t.newI en e).WF := by
  refine ⟨h.vk, fun p hp => Nat.lt_succ_of_lt (h.vn p hp), ?_, ?_⟩
  · rw [show (t.newI en e).is.flatten = _ from flatten_push _ _, List.map_cons, List.nodup_cons]
    refine ⟨fun hm => ?_, h.ik⟩
    obtain ⟨p, hp, e⟩ := List.mem_map.mp hm
    have := h.jn p hp
    simp only at e
    omega
  · intro p hp
    rw [show (t.newI en e).is.flatten = _ from flatten_push _ _] at hp
    cases hp with
    | head => exact Nat.lt_succ_self _
    | tail _ hp => exact Nat.lt_succ_of_lt (h.jn p hp)

theorem T.WF.bump {t : T} (h : t.WF) : t.bump.WF :=
  ⟨h.vk, fun p hp => Nat.lt_succ_of_lt (h.vn p hp), h.ik, fun p hp => Nat.lt_succ_of_lt (h.jn p hp)⟩

theorem T.WF.upd {t : T} (h : t.WF) (x : Nat) (o : VObj) : (T.mk t.n (upd2 x o t.vs) t.is).WF := by
  refine ⟨by rw [upd2_keys]; exact h.vk, fun p hp => ?_, h.ik, h.jn⟩
  have : p.1 ∈ (upd2 x o t.vs).flatten.map Prod.fst := List.mem_map.mpr ⟨p, hp, rfl⟩
  rw [upd2_keys] at this
  obtain ⟨q, hq, e⟩ := List.mem_map.mp this
  have := h.vn q hq
  show p.1 < t.n
  omega

theorem T.WF.sub {t t' : T} (h : t.WF) (hn : t'.n = t.n) (hv : t'.vs.flatten.Sublist t.vs.flatten) (hi : t'.is.flatten.Sublist t.is.flatten) : t'.WF :=
  ⟨List.Nodup.sublist (hv.map _) h.vk, fun p hp => by rw [hn]; exact h.vn p (hv.subset hp), List.Nodup.sublist (hi.map _) h.ik, fun p hp => by rw [hn]; exact h.jn p (hi.subset hp)⟩

/-! ### Richer worlds -/

def setAt {β : Type} (f : Nat → β) (i : Nat) (v : β) : Nat → β := fun j => if j = i then v else f j
theorem setAt_same {β : Type} (f : Nat → β) (i : Nat) (v : β) : setAt f i v i = v := by simp [setAt]
theorem setAt_ne {β : Type} (f : Nat → β) {i j : Nat} (v : β) (h : j ≠ i) : setAt f i v j = f j := by simp [setAt, h]

/-- a new row of cells that a variable owns -/
def G.addVar (g : G) (c : Array Value) (ty : TypeId) : G :=
  { n := g.n + 1, ok := fun i => g.ok i ∨ i = g.n, ρ := g.ρ, ν := setAt g.ν g.n g.w.heap.size, μ := setAt g.μ g.w.heap.size .var, w := g.w.alloc (.cells c ty) }

/-- a new row of cells, fixed below m -/
def G.addRow (g : G) (c : Array Value) (ty : TypeId) (m extra : Nat) : G :=
  { n := g.n + 1, ok := fun i => g.ok i ∨ i = g.n, ρ := setAt g.ρ g.n ⟨g.w.heap.size, 0, extra⟩, ν := g.ν, μ := setAt g.μ g.w.heap.size (.lim m), w := g.w.alloc (.cells c ty) }

theorem heap_alloc_lt {w : World} {o : Obj} {b : Nat} (h : b < w.heap.size) : (w.alloc o).heap[b]? = w.heap[b]? := by
  show (w.heap.push o)[b]? = _
  simp [Array.getElem?_push, Nat.ne_of_lt h]
theorem heap_alloc_new {w : World} {o : Obj} : (w.alloc o).heap[w.heap.size]? = some o := by
  show (w.heap.push o)[w.heap.size]? = _
  simp

theorem frozen_new (w : World) (c : Array Value) (ty : TypeId) (off : Nat) : (w.alloc (.cells c ty)).frozen? ⟨w.heap.size, off, none⟩ = false := by
  unfold World.frozen?
  rw [show (w.alloc (.cells c ty)).heap[(⟨w.heap.size, off, none⟩ : Addr).block]? = _ from heap_alloc_new]
  simp

theorem G.le_addVar (g : G) (hok : ∀ i, g.ok i → i < g.n) (c : Array Value) (ty : TypeId) : g.Le (g.addVar c ty) where
  n := Nat.le_succ _
  ok _ hi := .inl hi
  new _ hi := hi.imp (fun q => q) (fun q => Nat.le_of_eq q.symm)
  ρ _ _ := rfl
  ν i hi := setAt_ne _ _ (Nat.ne_of_lt (hok i hi))
  size := by simp [G.addVar]
  lim b k hb hk := ⟨k, by simp [G.addVar, setAt_ne _ _ (Nat.ne_of_lt hb), hk], Nat.le_refl _, fun off _ => cell?_of_heap (heap_alloc_lt hb)⟩
  oth b hb _ := ⟨by simp [G.addVar, setAt_ne _ _ (Nat.ne_of_lt hb)], heap_alloc_lt hb⟩
  os := rfl
  tape := rfl
  output := rfl
  sz b hb := csize_of_heap (heap_alloc_lt hb)

theorem G.le_addRow (g : G) (hok : ∀ i, g.ok i → i < g.n) (c : Array Value) (ty : TypeId) (m extra : Nat) : g.Le (g.addRow c ty m extra) where
  n := Nat.le_succ _
  ok _ hi := .inl hi
  new _ hi := hi.imp (fun q => q) (fun q => Nat.le_of_eq q.symm)
  ρ i hi := setAt_ne _ _ (Nat.ne_of_lt (hok i hi))
  ν _ _ := rfl
  size := by simp [G.addRow]
  lim b k hb hk := ⟨k, by simp [G.addRow, setAt_ne _ _ (Nat.ne_of_lt hb), hk], Nat.le_refl _, fun off _ => cell?_of_heap (heap_alloc_lt hb)⟩
  oth b hb _ := ⟨by simp [G.addRow, setAt_ne _ _ (Nat.ne_of_lt hb)], heap_alloc_lt hb⟩
  os := rfl
  tape := rfl
  output := rfl
  sz b hb := csize_of_heap (heap_alloc_lt hb)

theorem ObjR.lt {M : Maps} {g : G} {o : VObj} {b : Nat} (h : ObjR M g o b) : b < g.w.heap.size := by
  cases h with
  | cells cs b c ty fz hh hz hl hv => exact (Array.getElem?_eq_some_iff.mp hh).1
  | map es b ms clock hh hl hk hv => exact (Array.getElem?_eq_some_iff.mp hh).1

theorem ObjR.mono {M : Maps} {g g' : G} (h : g.Le g') {o : VObj} {b : Nat} (hb : g'.w.heap[b]? = g.w.heap[b]?) (ho : ObjR M g o b) : ObjR M g' o b := by
  cases ho with
  | cells cs b c ty fz hh hz hl hv =>
    refine .cells cs b c ty fz (hb.trans hh) (fun off ho => ?_) hl (fun i hi => (hv i hi).mono h)
    have := hz off ho
    simpa [World.frozen?, hb] using this
  | map es b ms clock hh hl hk hv => exact .map es b ms clock (hb.trans hh) hl (fun i hi h' => (hk i hi h').mono h) (fun i hi h' => (hv i hi h').mono h)

theorem frozen_of_heap {w w' : World} {a : Addr} (h : w'.heap[a.block]? = w.heap[a.block]?) : w'.frozen? a = w.frozen? a := by
  simp [World.frozen?, h]

theorem SR.hok {M : Maps} {g : G} {t : T} (h : SR M g t) (i : Nat) (hi : g.ok i) : i < g.n := by rw [h.n]; exact h.okn i hi

theorem SR.varLt {M : Maps} {g : G} {t : T} (h : SR M g t) {x : Nat} {o : VObj} (hx : look2 x t.vs = some o) : g.ν x < g.w.heap.size := (h.var x o hx).2.2.lt

theorem SR.newV {M : Maps} {g : G} {t : T} (h : SR M g t) {cs : List AV} {c : Array Value} (ty : TypeId) (hl : cs.length ≤ c.size)
    (hv : ∀ i (h : i < cs.length), VR M g cs[i] (c.getD i undef)) : SR M (g.addVar c ty) (t.newV (.cells cs)) ∧ VR M (g.addVar c ty) (.ptr t.n 0) (.pointer (some ⟨g.w.heap.size, 0, none⟩)) := by
  have hle := g.le_addVar h.hok c ty
  have hn : (g.addVar c ty).ν t.n = g.w.heap.size := by rw [← h.n]; exact setAt_same _ _ _
  refine ⟨?_, ?_⟩
  · constructor
    · simp [G.addVar, T.newV, h.n]
    · exact h.wf.newV _
    · intro i hi
      rcases hi with hi | hi
      · exact Nat.lt_succ_of_lt (h.okn i hi)
      · rw [hi, h.n]; exact Nat.lt_succ_self _
    · intro x o hx
      simp only [T.newV, look2_push] at hx
      by_cases e : t.n = x
      · subst e
        simp at hx
        subst hx
        refine ⟨.inr h.n.symm, ?_, ?_⟩
        · rw [hn]; exact setAt_same _ _ _
        · rw [hn]
          refine .cells cs _ c ty (0, 0) heap_alloc_new (fun off _ => ?_) hl (fun i hi => (hv i hi).mono hle)
          exact frozen_new _ _ _ _
      · rw [if_neg e] at hx
        obtain ⟨h1, h2, h3⟩ := h.var x o hx
        have hne : g.ok x := h1
        refine ⟨.inl h1, ?_, ?_⟩
        · rw [hle.ν x hne]
          simp only [G.addVar]
          rw [setAt_ne _ _ (Nat.ne_of_lt h3.lt)]; exact h2
        · rw [hle.ν x hne]
          exact h3.mono hle (heap_alloc_lt h3.lt)
    · intro x y o o' hx hy hxy
      simp only [T.newV, look2_push] at hx hy
      by_cases e : t.n = x <;> by_cases e' : t.n = y
      · exact e.symm.trans e'
      · rw [if_neg e'] at hy
        have hy' : g.ok y := (h.var y o' hy).1
        rw [← e, hn, hle.ν y hy'] at hxy
        exact absurd hxy (Nat.ne_of_gt (h.varLt hy))
      · rw [if_neg e] at hx
        have hx' : g.ok x := (h.var x o hx).1
        rw [← e', hn, hle.ν x hx'] at hxy
        exact absurd hxy (Nat.ne_of_lt (h.varLt hx))
      · rw [if_neg e] at hx
        rw [if_neg e'] at hy
        rw [hle.ν x (h.var x o hx).1, hle.ν y (h.var y o' hy).1] at hxy
        exact h.inj x y o o' hx hy hxy
    · intro i en e hi
      obtain ⟨h1, h2, c', ty', fz', h3, h4, h5⟩ := h.ids i en e hi
      have hb : (g.ρ i).block < g.w.heap.size := (Array.getElem?_eq_some_iff.mp h3).1
      refine ⟨.inl h1, ?_, c', ty', fz', ?_, fun off ho => ?_, h5⟩
      · simp only [G.addVar]
        rw [setAt_ne _ _ (Nat.ne_of_lt hb)]; exact h2
      · exact (heap_alloc_lt hb).trans h3
      · have := h4 off ho
        rw [← this]
        exact frozen_of_heap (heap_alloc_lt hb)
    · exact h.idinj
    · exact h.kept.mono hle
  · rw [← hn]
    exact .ptr t.n 0 (.inr h.n.symm)

theorem getElem?_some_iff {α : Type} {a : Array α} {i : Nat} {v : α} : a[i]? = some v ↔ ∃ h : i < a.size, a[i] = v := Array.getElem?_eq_some_iff

/-- a new row whose cells below m are told by `es` -/
theorem SR.newI {M : Maps} {g : G} {t : T} (h : SR M g t) (c : Array Value) (ty : TypeId) (en e extra : Nat) (hc : en + extra * e ≤ c.size) :
    SR M (g.addRow c ty en extra) (t.newI en e) := by
  have hle := g.le_addRow h.hok c ty en extra
  have hn : (g.addRow c ty en extra).ρ t.n = ⟨g.w.heap.size, 0, extra⟩ := by rw [← h.n]; exact setAt_same _ _ _
  constructor
  · simp [G.addRow, T.newI, h.n]
  · exact h.wf.newI _ _
  · intro i hi
    rcases hi with hi | hi
    · exact Nat.lt_succ_of_lt (h.okn i hi)
    · rw [hi, h.n]; exact Nat.lt_succ_self _
  · intro x o hx
    obtain ⟨h1, h2, h3⟩ := h.var x o hx
    refine ⟨.inl h1, ?_, ?_⟩
    · simp only [G.addRow]
      rw [setAt_ne _ _ (Nat.ne_of_lt h3.lt)]; exact h2
    · exact h3.mono hle (heap_alloc_lt h3.lt)
  · exact h.inj
  · intro i en' e' hi
    simp only [T.newI, look2_push] at hi
    by_cases ei : t.n = i
    · subst ei
      rw [if_pos rfl] at hi
      cases hi
      rw [hn]
      refine ⟨.inr h.n.symm, by simp [G.addRow, setAt_same], c, ty, (0, 0), heap_alloc_new, fun off _ => ?_, by simpa using hc, .inl rfl⟩
      exact frozen_new _ _ _ _
    · rw [if_neg ei] at hi
      obtain ⟨h1, h2, c', ty', fz', h3, h4, h5⟩ := h.ids i en' e' hi
      have hb : (g.ρ i).block < g.w.heap.size := (getElem?_some_iff.mp h3).1
      rw [hle.ρ i h1]
      refine ⟨.inl h1, ?_, c', ty', fz', ?_, fun off ho => ?_, h5⟩
      · simp only [G.addRow]
        rw [setAt_ne _ _ (Nat.ne_of_lt hb)]; exact h2
      · exact (heap_alloc_lt hb).trans h3
      · have := h4 off ho
        rw [← this]
        exact frozen_of_heap (heap_alloc_lt hb)
  · intro i j a b hi hj hij
    have blk : ∀ k v, look2 k t.is = some v → (g.ρ k).block < g.w.heap.size := fun k v hk => by
      obtain ⟨_, _, c', ty', fz', h3, _⟩ := h.ids k v.1 v.2 hk
      exact (getElem?_some_iff.mp h3).1
    simp only [T.newI, look2_push] at hi hj
    by_cases e : t.n = i <;> by_cases e' : t.n = j
    · exact e.symm.trans e'
    · rw [if_neg e'] at hj
      rw [← e, hn, hle.ρ j (h.ids j b.1 b.2 hj).1] at hij
      exact absurd hij (Nat.ne_of_gt (blk j b hj))
    · rw [if_neg e] at hi
      rw [← e', hn, hle.ρ i (h.ids i a.1 a.2 hi).1] at hij
      exact absurd hij (Nat.ne_of_lt (blk i a hi))
    · rw [if_neg e] at hi
      rw [if_neg e'] at hj
      rw [hle.ρ i (h.ids i a.1 a.2 hi).1, hle.ρ j (h.ids j b.1 b.2 hj).1] at hij
      exact h.idinj i j a b hi hj hij
  · exact h.kept.mono hle

/-- the same with the row not open -/
theorem SR.bumpRow {M : Maps} {g : G} {t : T} (h : SR M g t) (c : Array Value) (ty : TypeId) (en extra : Nat) :
    SR M (g.addRow c ty en extra) t.bump := by
  have h' := SR.newI h c ty 0 0 extra (by simp)
  have hle := g.le_addRow h.hok c ty en extra
  constructor
  · exact h'.n
  · exact h.wf.bump
  · exact h'.okn
  · intro x o hx
    obtain ⟨h1, h2, h3⟩ := h.var x o hx
    refine ⟨.inl h1, ?_, ?_⟩
    · simp only [G.addRow]
      rw [setAt_ne _ _ (Nat.ne_of_lt h3.lt)]; exact h2
    · exact h3.mono hle (heap_alloc_lt h3.lt)
  · exact h.inj
  · intro i en' e' hi
    obtain ⟨h1, h2, c', ty', fz', h3, h4, h5⟩ := h.ids i en' e' hi
    have hb : (g.ρ i).block < g.w.heap.size := (getElem?_some_iff.mp h3).1
    rw [hle.ρ i h1]
    refine ⟨.inl h1, ?_, c', ty', fz', ?_, fun off ho => ?_, h5⟩
    · simp only [G.addRow]
      rw [setAt_ne _ _ (Nat.ne_of_lt hb)]; exact h2
    · exact (heap_alloc_lt hb).trans h3
    · have := h4 off ho
      rw [← this]
      exact frozen_of_heap (heap_alloc_lt hb)
  · intro i j a b hi hj hij
    rw [hle.ρ i (h.ids i a.1 a.2 hi).1, hle.ρ j (h.ids j b.1 b.2 hj).1] at hij
    exact h.idinj i j a b hi hj hij
  · exact h.kept.mono hle

/-- a richer world's state with fewer open rows, fewer variables -/
theorem SR.fewer {M : Maps} {g : G} {t t' : T} (h : SR M g t) (hn : t'.n = t.n) (hv : t'.vs.flatten.Sublist t.vs.flatten) (hi : t'.is.flatten.Sublist t.is.flatten) : SR M g t' where
  n := h.n.trans hn.symm
  wf := h.wf.sub hn hv hi
  okn i hi := by rw [hn]; exact h.okn i hi
  var x o hx := by
    rw [look2_flatten] at hx
    exact h.var x o (by rw [look2_flatten]; exact look_sub h.wf.vk hv hx)
  inj x y o o' hx hy := by
    rw [look2_flatten] at hx hy
    exact h.inj x y o o' (by rw [look2_flatten]; exact look_sub h.wf.vk hv hx) (by rw [look2_flatten]; exact look_sub h.wf.vk hv hy)
  ids i en e hx := by
    rw [look2_flatten] at hx
    exact h.ids i en e (by rw [look2_flatten]; exact look_sub h.wf.ik hi hx)
  idinj i j a b hx hy := by
    rw [look2_flatten] at hx hy
    exact h.idinj i j a b (by rw [look2_flatten]; exact look_sub h.wf.ik hi hx) (by rw [look2_flatten]; exact look_sub h.wf.ik hi hy)
  kept := h.kept

end M2
end
section
namespace M2
open Go

/-! ### What an operation of ours stands for -/

def Good (P : Program) (f : FuncId) : Prop := ∃ fn, P.funcs[f]? = some fn ∧ (fn.name == "runtime.NumGoroutine") = false ∧ fn.body.isNone = false

def CallOK (P : Program) (M : Maps) (call : CallF) : Prop :=
  ∀ a args t r t', call a args t = .ok r t' → Good P (M.fm a) ∧ ∀ g cargs, SR M g t → cargs.size = args.length →
    (∀ i (h : i < args.length), VR M g args[i] (cargs.getD i undef)) →
    Calls P (M.fm a) cargs g.w fun e w' => ∃ v g', e = .returned v ∧ g'.w = w' ∧ g.Le g' ∧ VR M g' r v ∧ SR M g' t'

def Done (P : Program) (M : Maps) (o : Oper) (a : Act) (g : G) (v : AV) (t' : T) : Prop :=
  ∀ (next : Act → World → Prop) (Q : Exit → Act → World → Prop),
    (∀ g' v', g.Le g' → VR M g' v v' → SR M g' t' → next (a.put o.dst v') g'.w) → o.wp P a g.w next Q

section
variable {P : Program} {M : Maps} {im : FuncId → Option Nat} {d : Nat} {g : G} {F : Fr} {a : Act} {o : Oper} {t t' : T} {v : AV} {call : CallF}

theorem undef_ok : VR M g undefA undef := .tup [] #[] rfl (fun i h => absurd h (by simp))

theorem done_value {v' : Value} {g' : G} (hrun : (execOp a.eval o).run P g.w = .ok (.value v') g'.w) (hle : g.Le g') (hv : VR M g' v v') (hs : SR M g' t') :
    Done P M o a g v t' := by
  intro next Q K
  unfold Oper.wp
  rw [hrun]
  exact K g' v' hle hv hs

theorem done_skip {g' : G} (hrun : (execOp a.eval o).run P g.w = .ok .skip g'.w) (hle : g.Le g') (hs : SR M g' t') : Done P M o a g undefA t' := by
  intro next Q K
  unfold Oper.wp
  rw [hrun]
  exact K g' undef hle undef_ok hs

theorem done_pure {v' : Value} (hrun : (execOp a.eval o).run P g.w = .ok (.value v') g.w) (hv : VR M g v v') (hs : SR M g t) : Done P M o a g v t :=
  done_value hrun (.refl g) hv hs

theorem opd_ok (him : ∀ f x, im f = some x → M.fm x = f) (hF : FR M g d F a.tmps) {x : Operand} {y : Opd} (h : cmpOpd im d x = some y) :
    VR M g (y.get F) (a.eval x) := by
  cases x with
  | tmp t =>
    simp only [cmpOpd] at h
    split at h
    · cases h; exact hF.rel t (by assumption)
    · contradiction
  | const v =>
    simp only [cmpOpd, Option.map_eq_some_iff] at h
    obtain ⟨b, hb, rfl⟩ := h
    exact cmpVal_sound M g _ _ _ hb
  | func f =>
    simp only [cmpOpd, Option.map_eq_some_iff] at h
    obtain ⟨b, hb, rfl⟩ := h
    have := him f b hb
    show VR M g (.fn b [] []) (.func (.func f) #[] #[])
    rw [← this]
    exact .fn b [] [] #[] #[] rfl rfl (fun i hi => absurd hi (by simp)) (fun i hi => absurd hi (by simp))
  | global n => simp [cmpOpd] at h

theorem opds_ok (him : ∀ f x, im f = some x → M.fm x = f) (hF : FR M g d F a.tmps) {xs : Array Operand} {ys : List Opd} (h : cmpOpds im d xs = some ys) :
    (xs.map a.eval).size = (ys.map (·.get F)).length ∧ ∀ i (hi : i < (ys.map (·.get F)).length), VR M g (ys.map (·.get F))[i] ((xs.map a.eval).getD i undef) := by
  obtain ⟨h1, h2⟩ := mapM_get _ _ _ h
  have hl : ys.length = xs.size := by simpa using h1
  refine ⟨by simp [hl], fun i hi => ?_⟩
  have hi' : i < ys.length := by simpa using hi
  have hx : i < xs.size := by omega
  have := opd_ok him hF (h2 i (by simpa using hx) hi')
  simpa [Array.getD, hx] using this

/-! #### moves -/

theorem sound_mv (him : ∀ f x, im f = some x → M.fm x = f) (hF : FR M g d F a.tmps) (hS : SR M g t) {x : Operand} {y : Opd} (h : cmpOpd im d x = some y)
    (ho : o.op = .move x ∨ o.op = .assign x) (hr : opMv y call F t = .ok v t') : Done P M o a g v t' := by
  cases hr
  refine done_pure (v' := a.eval x) ?_ (opd_ok him hF h) hS
  rcases ho with ho | ho <;> simp [execOp, ho]

theorem sound_pick (him : ∀ f x, im f = some x → M.fm x = f) (hF : FR M g d F a.tmps) (hS : SR M g t) {c x y : Operand} {c' x' y' : Opd} (hc : cmpOpd im d c = some c')
    (hx : cmpOpd im d x = some x') (hy : cmpOpd im d y = some y') (ho : o.op = .pick c x y) (hr : opPick c' x' y' call F t = .ok v t') : Done P M o a g v t' := by
  have vc := opd_ok him hF hc
  have vx := opd_ok him hF hx
  have vy := opd_ok him hF hy
  unfold opPick at hr
  split at hr
  · rename_i b hb
    rw [hb] at vc
    generalize hcv : a.eval c = cv at vc
    cases vc
    cases b
    · cases hr
      refine done_pure (v' := a.eval y) ?_ vy hS
      simp [execOp, ho, hcv, asBool]
    · cases hr
      refine done_pure (v' := a.eval x) ?_ vx hS
      simp [execOp, ho, hcv, asBool]
  · contradiction

/-! #### types -/

theorem zeroOf_ok {ty : TypeId} {z : AV} (h : zeroOf P ty = some z) : ∃ i zv, P.info? ty = some i ∧ i.zero = some zv ∧ z.known = true ∧ ∀ M g, VR M g z zv := by
  unfold zeroOf at h
  cases hi : P.info? ty with
  | none => simp [hi] at h
  | some i =>
    cases hz : i.zero with
    | none => simp [hi, hz] at h
    | some zv =>
      cases hc : cmpVal 4 zv with
      | none => simp [hi, hz, hc] at h
      | some b =>
        simp [hi, hz, hc] at h
        obtain ⟨hk, rfl⟩ := h
        exact ⟨i, zv, rfl, hz, hk, fun M g => cmpVal_sound M g _ _ _ hc⟩

theorem sizeT_ok {ty : TypeId} {s : Nat} (h : sizeT P ty = some s) : ∃ i, P.info? ty = some i ∧ i.size = s := by
  unfold sizeT at h
  cases hi : P.info? ty with
  | none => simp [hi] at h
  | some i => exact ⟨i, rfl, by simpa [hi] using h⟩

theorem elemT_ok {ty : TypeId} {z : AV} {s b : Nat} (h : elemT P ty = some (z, s, b)) :
    ∃ i zv, P.info? ty = some i ∧ i.zero = some zv ∧ i.size = s ∧ i.bytes = b ∧ z.known = true ∧ z.cells.length = s ∧ ∀ M g, VR M g z zv := by
  unfold elemT at h
  cases hi : P.info? ty with
  | none => simp [hi] at h
  | some i =>
    cases hz : zeroOf P ty with
    | none => simp [hi, hz] at h
    | some y =>
      simp [hi, hz] at h
      obtain ⟨h1, h2, h3, h4⟩ := h
      subst h2
      obtain ⟨j, zv, hj, h5, h6, h7⟩ := zeroOf_ok hz
      rw [hi] at hj
      cases hj
      exact ⟨i, zv, rfl, h5, h3, h4, h6, h1.trans h3, h7⟩

theorem run_typeInfo {ty : TypeId} {i : TypeInfo} (h : P.info? ty = some i) (w : World) : (typeInfo ty).run P w = .ok i w := by
  simp [typeInfo, h]
theorem run_underlying {ty : TypeId} {u : TypeDesc} (h : P.underlying ty = some u) (w : World) : (underlying ty).run P w = .ok u w := by
  simp [underlying, h]
theorem run_zeroValue {ty : TypeId} {i : TypeInfo} {z : Value} (h : P.info? ty = some i) (hz : i.zero = some z) (w : World) : (zeroValue ty).run P w = .ok z w := by
  simp [zeroValue, run_typeInfo h, hz]
theorem run_sizeOf {ty : TypeId} {i : TypeInfo} (h : P.info? ty = some i) (w : World) : (Go.sizeOf ty).run P w = .ok i.size w := by
  simp [Go.sizeOf, run_typeInfo h]
theorem run_isAgg {ty : TypeId} {b : Bool} (h : aggT P ty = some b) (w : World) : (isAgg ty).run P w = .ok b w := by
  unfold aggT at h
  unfold isAgg
  split at h
  · cases h; rename_i hu; simp [run_underlying hu]
  · cases h; rename_i hu; simp [run_underlying hu]
  · cases h
    rename_i u h1 h2 hu
    simp only [Sem.run_bind, run_underlying hu, Result.andThen_ok]
    rfl
  · contradiction

/-! #### new variables -/

theorem sound_alloc (hS : SR M g t) {ty : TypeId} {z : AV} (h : zeroOf P ty = some z) (ho : o.op = .alloc ty) (hr : opAlloc z.cells call F t = .ok v t') :
    Done P M o a g v t' := by
  cases hr
  obtain ⟨i, zv, hi, hz, hk, hv⟩ := zeroOf_ok h
  obtain ⟨h1, h2⟩ := (hv M g).cells hk
  obtain ⟨s1, s2⟩ := hS.newV ty (Nat.le_of_eq h1.symm) h2
  refine done_value (g' := g.addVar zv.cells ty) ?_ (g.le_addVar hS.hok _ _) s2 s1
  simp [execOp, ho, Instr.alloc, run_zeroValue hi hz, newVar, newRow, G.addVar]

theorem sound_box (him : ∀ f x, im f = some x → M.fm x = f) (hF : FR M g d F a.tmps) (hS : SR M g t) {ty : TypeId} {x : Operand} {y : Opd} (h : cmpOpd im d x = some y)
    (ho : o.op = .box ty x) (hr : opBox y call F t = .ok v t') : Done P M o a g v t' := by
  have vx := opd_ok him hF h
  unfold opBox at hr
  split at hr
  · rename_i hk
    cases hr
    obtain ⟨h1, h2⟩ := vx.cells hk
    obtain ⟨s1, s2⟩ := hS.newV ty (Nat.le_of_eq h1.symm) h2
    refine done_value (g' := g.addVar (a.eval x).cells ty) ?_ (g.le_addVar hS.hok _ _) s2 s1
    simp [execOp, ho, Instr.box, newVar, newRow, G.addVar]
  · contradiction

end

end M2
end
section
namespace M2
open Go

/-! ### Reading and writing rows -/

theorem addr_add (b o i : Nat) : (⟨b, o, none⟩ : Addr).add i = ⟨b, o + i, none⟩ := by
  unfold Addr.add
  split
  · rename_i h; subst h; rfl
  · rfl

theorem putAt_length (cs : List AV) (off : Nat) (vs : List AV) (h : off + vs.length ≤ cs.length) : (putAt cs off vs).length = cs.length := by
  simp [putAt]; omega
theorem putAt_get? (cs : List AV) (off : Nat) (vs : List AV) (h : off + vs.length ≤ cs.length) (q : Nat) :
    (putAt cs off vs)[q]? = if off ≤ q ∧ q < off + vs.length then vs[q - off]? else cs[q]? := by
  unfold putAt
  rw [List.append_assoc]
  by_cases h1 : q < off
  · rw [List.getElem?_append_left (by simp; omega), List.getElem?_take_of_lt h1, if_neg (by omega)]
  · rw [List.getElem?_append_right (by simp; omega)]
    simp only [List.length_take, show min off cs.length = off by omega]
    by_cases h2 : q < off + vs.length
    · rw [List.getElem?_append_left (by omega), if_pos (by omega)]
    · rw [List.getElem?_append_right (by omega), if_neg (by omega), List.getElem?_drop]
      congr 1
      omega
theorem putAt_in (cs : List AV) (off : Nat) (vs : List AV) (h : off + vs.length ≤ cs.length) (q : Nat) (hq : q < (putAt cs off vs).length) (h1 : off ≤ q) (h2 : q < off + vs.length) :
    (putAt cs off vs)[q] = vs[q - off]'(by omega) := by
  have := putAt_get? cs off vs h q
  rw [if_pos ⟨h1, h2⟩, List.getElem?_eq_getElem hq, List.getElem?_eq_getElem (by omega)] at this
  exact Option.some.inj this
theorem putAt_out (cs : List AV) (off : Nat) (vs : List AV) (h : off + vs.length ≤ cs.length) (q : Nat) (hq : q < (putAt cs off vs).length) (h1 : ¬ (off ≤ q ∧ q < off + vs.length)) :
    (putAt cs off vs)[q] = cs[q]'(by rw [putAt_length cs off vs h] at hq; exact hq) := by
  have := putAt_get? cs off vs h q
  rw [if_neg h1, List.getElem?_eq_getElem hq, List.getElem?_eq_getElem (by rw [putAt_length cs off vs h] at hq; exact hq)] at this
  exact Option.some.inj this

def setBlock (w : World) (b : Nat) (o : Obj) : World := { w with heap := w.heap.setIfInBounds b o }

def writeAt : Array Value → Nat → List Value → Array Value
  | c, _, [] => c
  | c, k, v :: vs => writeAt (c.setIfInBounds k v) (k + 1) vs

theorem writeAt_size (vs : List Value) : ∀ (c : Array Value) (k : Nat), (writeAt c k vs).size = c.size := by
  induction vs with
  | nil => intro c k; rfl
  | cons v vs ih => intro c k; rw [writeAt, ih]; simp

theorem writeAt_getD (vs : List Value) : ∀ (c : Array Value) (k j : Nat), k + vs.length ≤ c.size →
    (writeAt c k vs).getD j undef = if k ≤ j ∧ j < k + vs.length then vs.getD (j - k) undef else c.getD j undef := by
  induction vs with
  | nil => intro c k j _; rw [writeAt, if_neg (by simp)]
  | cons v vs ih =>
    intro c k j h
    simp only [List.length_cons] at h ⊢
    rw [writeAt, ih _ _ _ (by simp; omega)]
    by_cases h1 : k + 1 ≤ j ∧ j < k + 1 + vs.length
    · rw [if_pos h1, if_pos (by omega)]
      obtain ⟨m, rfl⟩ : ∃ m, j = k + (m + 1) := ⟨j - k - 1, by omega⟩
      simp [show k + (m + 1) - (k + 1) = m by omega, show k + (m + 1) - k = m + 1 by omega]
    · rw [if_neg h1]
      by_cases h2 : j = k
      · subst h2
        rw [if_pos (by omega)]
        simp [Array.getD, show j < c.size by omega]
      · rw [if_neg (by omega)]
        by_cases hj : j < c.size
        · simp [Array.getD, hj, Array.getElem_setIfInBounds_ne, Ne.symm h2]
        · simp [Array.getD, hj]

theorem setBlock_heap (w : World) (b : Nat) (o : Obj) (j : Nat) : (setBlock w b o).heap[j]? = if j = b ∧ b < w.heap.size then some o else w.heap[j]? := by
  unfold setBlock
  by_cases h : j = b
  · subst h
    by_cases hb : j < w.heap.size <;> simp [hb]
  · simp [h, Ne.symm h]

theorem setBlock_size (w : World) (b : Nat) (o : Obj) : (setBlock w b o).heap.size = w.heap.size := by simp [setBlock]

theorem setBlock_setBlock (w : World) (b : Nat) (o o' : Obj) : setBlock (setBlock w b o) b o' = setBlock w b o' := by
  simp [setBlock]

theorem setBlock_same (w : World) (b : Nat) (o : Obj) (h : w.heap[b]? = some o) : setBlock w b o = w := by
  obtain ⟨hb, he⟩ := Array.getElem?_eq_some_iff.mp h
  unfold setBlock
  have : w.heap.setIfInBounds b o = w.heap := by
    apply Array.ext
    · simp
    · intro i h1 h2
      by_cases hi : b = i
      · subst hi; simp [he]
      · rw [Array.getElem_setIfInBounds_ne _ hi]
  rw [this]

theorem setCell_eq (w : World) (b off : Nat) (v : Value) {c : Array Value} {ty : TypeId} {fz : Nat × Nat} (h : w.heap[b]? = some (.cells c ty fz)) :
    w.setCell ⟨b, off, none⟩ v = setBlock w b (.cells (c.setIfInBounds off v) ty fz) := by
  obtain ⟨hb, he⟩ := Array.getElem?_eq_some_iff.mp h
  unfold World.setCell setBlock
  congr 1
  apply Array.ext
  · simp
  · intro i h1 h2
    by_cases hi : b = i
    · subst hi
      simp [Array.getElem_modify, he]
    · have hi2 : i < w.heap.size := by simpa using h2
      rw [Array.getElem_setIfInBounds_ne hi2 hi]
      simp [Array.getElem_modify, hi]

theorem run_storeCells' (P : Program) (b o : Nat) (ty : TypeId) (fz : Nat × Nat) : ∀ (vs : List Value) (i : Nat) (c : Array Value) (w : World),
    w.heap[b]? = some (.cells c ty fz) → (∀ off, off < c.size → w.frozen? ⟨b, off, none⟩ = false) → o + i + vs.length ≤ c.size →
    (∀ v, v ∈ vs → v.oneCell' = true) → (storeCells ⟨b, o, none⟩ vs i).run P w = .ok () (setBlock w b (.cells (writeAt c (o + i) vs) ty fz)) := by
  intro vs
  induction vs with
  | nil => intro i c w h _ _ _; simp only [storeCells, writeAt, Sem.run_pure]; rw [setBlock_same _ _ _ h]
  | cons v vs ih =>
    intro i c w h hz hl hv
    simp only [List.length_cons] at hl
    obtain ⟨hb, he⟩ := Array.getElem?_eq_some_iff.mp h
    have hcell : w.cell? ⟨b, o + i, none⟩ = some c[o + i] := by simp [World.cell?, h]
    simp only [storeCells, Sem.run_bind]
    rw [addr_add, run_store _ _ _ _ _ (hv v (by simp)), hcell]
    simp only [hz (o + i) (by omega)]
    rw [setCell_eq w b (o + i) v h]
    simp only [Bool.false_eq_true, if_false, Result.andThen_ok]
    have hh : (setBlock w b (.cells (c.setIfInBounds (o + i) v) ty fz)).heap[b]? = some (.cells (c.setIfInBounds (o + i) v) ty fz) := by
      rw [setBlock_heap, if_pos ⟨rfl, hb⟩]
    rw [ih (i + 1) _ _ hh (fun off ho => ?_) (by simp; omega) (fun u hu => hv u (by simp [hu])), setBlock_setBlock]
    · rfl
    · have := hz off (by simpa using ho)
      simp only [World.frozen?, h] at this
      simp only [World.frozen?, hh]
      exact this

/-! ### Variables written -/

def G.setVar (g : G) (b : Nat) (o : Obj) : G := { g with w := setBlock g.w b o }

theorem csize_setBlock (w : World) (b : Nat) (o : Obj) (h : csize (setBlock w b o) b = csize w b) (q : Nat) : csize (setBlock w b o) q = csize w q := by
  by_cases e : q = b
  · subst e; exact h
  · exact csize_of_heap (by rw [setBlock_heap, if_neg (fun k => e k.1)])
theorem csize_cells {w : World} {b : Nat} {c c' : Array Value} {ty ty' : TypeId} {fz fz' : Nat × Nat} (h : w.heap[b]? = some (.cells c ty fz)) (hs : c'.size = c.size) : csize (setBlock w b (.cells c' ty' fz')) b = csize w b := by
  have hb : b < w.heap.size := (Array.getElem?_eq_some_iff.mp h).1
  unfold csize
  rw [setBlock_heap, if_pos ⟨rfl, hb⟩, h]
  exact hs

theorem G.le_setVar (g : G) (b : Nat) (o : Obj) (h : g.μ b = .var) (hsz : csize (setBlock g.w b o) b = csize g.w b) : g.Le (g.setVar b o) where
  n := Nat.le_refl _
  ok _ h := h
  new _ h := .inl h
  ρ _ _ := rfl
  ν _ _ := rfl
  size := by simp [G.setVar, setBlock]
  lim x k hx hk := by
    have hne : x ≠ b := fun e => by rw [e, h] at hk; cases hk
    refine ⟨k, hk, Nat.le_refl _, fun off _ => cell?_of_heap ?_⟩
    show (setBlock g.w b o).heap[x]? = _
    rw [setBlock_heap, if_neg (fun e => hne e.1)]
  oth x hx hk := by
    have hne : x ≠ b := fun e => by rw [e, h] at hk; cases hk
    refine ⟨rfl, ?_⟩
    show (setBlock g.w b o).heap[x]? = _
    rw [setBlock_heap, if_neg (fun e => hne e.1)]
  os := rfl
  tape := rfl
  output := rfl
  sz q _ := csize_setBlock g.w b o hsz q

theorem SR.setVar {M : Maps} {g : G} {t : T} (h : SR M g t) {x : Nat} {o : VObj} (hx : look2 x t.vs = some o) (no : VObj) (ob : Obj) (hsz : csize (setBlock g.w (g.ν x) ob) (g.ν x) = csize g.w (g.ν x))
    (hr : ObjR M (g.setVar (g.ν x) ob) no (g.ν x)) : SR M (g.setVar (g.ν x) ob) { t with vs := upd2 x no t.vs } := by
  have hvar := (h.var x o hx).2.1
  have hle := g.le_setVar (g.ν x) ob hvar hsz
  have hne : ∀ b, g.μ b ≠ .var → (g.setVar (g.ν x) ob).w.heap[b]? = g.w.heap[b]? := fun b hb => by
    show (setBlock g.w _ ob).heap[b]? = _
    rw [setBlock_heap, if_neg (fun e => hb (by rw [e.1]; exact hvar))]
  constructor
  · exact h.n
  · exact h.wf.upd _ _
  · exact h.okn
  · intro y o' hy
    simp only [look2_upd2] at hy
    by_cases e : y = x
    · subst e
      rw [if_pos rfl, hx] at hy
      cases hy
      exact ⟨(h.var y o hx).1, hvar, hr⟩
    · rw [if_neg e] at hy
      obtain ⟨h1, h2, h3⟩ := h.var y o' hy
      refine ⟨h1, h2, h3.mono hle ?_⟩
      show (setBlock g.w _ ob).heap[g.ν y]? = _
      rw [setBlock_heap, if_neg (fun q => e (h.inj y x o' o hy hx q.1))]
  · intro y z o1 o2 hy hz hyz
    simp only [look2_upd2] at hy hz
    have hy' : ∃ o', look2 y t.vs = some o' := by
      by_cases e : y = x
      · exact ⟨o, e ▸ hx⟩
      · rw [if_neg e] at hy; exact ⟨_, hy⟩
    have hz' : ∃ o', look2 z t.vs = some o' := by
      by_cases e : z = x
      · exact ⟨o, e ▸ hx⟩
      · rw [if_neg e] at hz; exact ⟨_, hz⟩
    obtain ⟨oy, hy'⟩ := hy'
    obtain ⟨oz, hz'⟩ := hz'
    exact h.inj y z oy oz hy' hz' hyz
  · intro i en e hi
    obtain ⟨h1, h2, c, ty, fz, h3, h4, h5⟩ := h.ids i en e hi
    have hb := hne (g.ρ i).block (by rw [h2]; simp)
    refine ⟨h1, h2, c, ty, fz, hb.trans h3, fun off ho => ?_, h5⟩
    rw [← h4 off ho]
    exact frozen_of_heap hb
  · exact h.idinj
  · exact h.kept.mono hle

section
variable {P : Program} {M : Maps} {im : FuncId → Option Nat} {d : Nat} {g : G} {F : Fr} {a : Act} {o : Oper} {t t' : T} {v : AV} {call : CallF}

theorem cells_cell {w : World} {b : Nat} {c : Array Value} {ty : TypeId} {fz : Nat × Nat} (h : w.heap[b]? = some (.cells c ty fz)) {i : Nat} (hi : i < c.size) :
    w.cell? ⟨b, i, none⟩ = some (c.getD i undef) := by
  simp [World.cell?, h, Array.getD, hi]

theorem read_ok (hS : SR M g t) {p : AV} {cs : List AV} (hr : t.read p = some cs) {pv : Value} (hp : VR M g p pv) (hne : cs ≠ []) :
    ∃ b off, pv = .pointer (some ⟨b, off, none⟩) ∧ ∃ f : Nat → Value, ∀ i (h : i < cs.length), g.w.cell? ⟨b, off + i, none⟩ = some (f i) ∧ VR M g cs[i] (f i) := by
  unfold T.read at hr
  split at hr
  · cases hr
    cases hp with
    | eptr cs b off vs hv hc hf => exact ⟨b, off, rfl, vs, fun i hi => ⟨hc i hi, hv i hi⟩⟩
  · rename_i x off
    cases hp with
    | ptr x off hx =>
      split at hr
      · rename_i cs' hl
        cases hr
        obtain ⟨h1, h2, h3⟩ := hS.var x _ hl
        cases h3 with
        | cells cs' b c ty fz hh hz hlen hv =>
          refine ⟨_, _, rfl, fun i => c.getD (off + i) undef, fun i hi => ?_⟩
          simp only [List.length_drop] at hi
          refine ⟨cells_cell hh (by omega), ?_⟩
          have := hv (off + i) (by omega)
          simpa using this
      · contradiction
  · contradiction

theorem run_ld1 (him : ∀ f x, im f = some x → M.fm x = f) (hF : FR M g d F a.tmps) (hS : SR M g t) {ty : TypeId} {x : Operand} {y : Opd} (h : cmpOpd im d x = some y)
    (ha : aggT P ty = some false) (ho : o.op = .load ty x) (hr : opLd1 y call F t = .ok v t') : t' = t ∧ ∃ v', (execOp a.eval o).run P g.w = .ok (.value v') g.w ∧ VR M g v v' := by
  have vx := opd_ok him hF h
  unfold opLd1 at hr
  split at hr
  · rename_i u us hread
    cases hr
    obtain ⟨b, off, hp, f, hf⟩ := read_ok hS hread vx (by simp)
    obtain ⟨hc, hv⟩ := hf 0 (by simp)
    refine ⟨rfl, f 0, ?_, hv⟩
    simp only [Nat.add_zero] at hc
    simp [execOp, ho, Instr.loadAt, Instr.sureAddr, hp, loadVar, run_isAgg ha, hc]
  · contradiction

theorem sound_ld1 (him : ∀ f x, im f = some x → M.fm x = f) (hF : FR M g d F a.tmps) (hS : SR M g t) {ty : TypeId} {x : Operand} {y : Opd} (h : cmpOpd im d x = some y)
    (ha : aggT P ty = some false) (ho : o.op = .load ty x) (hr : opLd1 y call F t = .ok v t') : Done P M o a g v t' := by
  obtain ⟨rfl, v', h1, h2⟩ := run_ld1 him hF hS h ha ho hr
  exact done_pure h1 h2 hS

theorem run_ldA (him : ∀ f x, im f = some x → M.fm x = f) (hF : FR M g d F a.tmps) (hS : SR M g t) {ty : TypeId} {x : Operand} {y : Opd} (h : cmpOpd im d x = some y)
    {s : Nat} (hs : sizeT P ty = some s) (ha : aggT P ty = some true) (ho : o.op = .load ty x) (hr : opLdA s y call F t = .ok v t') :
    t' = t ∧ ∃ v', (execOp a.eval o).run P g.w = .ok (.value v') g.w ∧ VR M g v v' := by
  have vx := opd_ok him hF h
  obtain ⟨i, hi, rfl⟩ := sizeT_ok hs
  unfold opLdA at hr
  split at hr
  · rename_i cs hread
    cases hb : Nat.ble i.size cs.length with
    | false => rw [hb] at hr; contradiction
    | true =>
      rw [hb] at hr
      cases hr
      have hle : i.size ≤ cs.length := Nat.le_of_ble_eq_true hb
      by_cases hne : cs = []
      · subst hne
        have h0 : i.size = 0 := by simpa using hle
        have : ∃ b off, a.eval x = .pointer (some ⟨b, off, none⟩) := by
          unfold T.read at hread
          split at hread
          · rename_i hy; rw [hy] at vx; generalize a.eval x = cv at vx; cases vx; exact ⟨_, _, rfl⟩
          · rename_i hy; rw [hy] at vx; generalize a.eval x = cv at vx; cases vx; exact ⟨_, _, rfl⟩
          · contradiction
        obtain ⟨b, off, hp⟩ := this
        refine ⟨rfl, .agg #[], ?_, (by rw [List.take_nil]; exact .agg [] #[] rfl (fun i h => absurd h (by simp)))⟩
        simp [execOp, ho, Instr.loadAt, Instr.sureAddr, hp, loadVar, run_isAgg ha, run_sizeOf hi, h0, loadCells, loadCellsFrom]
      · obtain ⟨b, off, hp, f, hf⟩ := read_ok hS hread vx hne
        refine ⟨rfl, .agg ((List.range i.size).map f).toArray, ?_, ?_⟩
        · have := run_loadCells (P := P) g.w ⟨b, off, none⟩ i.size f (fun j hj => by rw [addr_add]; exact (hf j (by omega)).1)
          simp [execOp, ho, Instr.loadAt, Instr.sureAddr, hp, loadVar, run_isAgg ha, run_sizeOf hi, this]
        · refine .agg _ _ (by simp; omega) (fun j hj => ?_)
          have hj' : j < i.size := by simp at hj; omega
          have := (hf j (by omega)).2
          simpa [Array.getD, hj'] using this
  · contradiction

theorem sound_ldA (him : ∀ f x, im f = some x → M.fm x = f) (hF : FR M g d F a.tmps) (hS : SR M g t) {ty : TypeId} {x : Operand} {y : Opd} (h : cmpOpd im d x = some y)
    {s : Nat} (hs : sizeT P ty = some s) (ha : aggT P ty = some true) (ho : o.op = .load ty x) (hr : opLdA s y call F t = .ok v t') : Done P M o a g v t' := by
  obtain ⟨rfl, v', h1, h2⟩ := run_ldA him hF hS h hs ha ho hr
  exact done_pure h1 h2 hS

theorem sound_st (him : ∀ f x, im f = some x → M.fm x = f) (hF : FR M g d F a.tmps) (hS : SR M g t) {ty : TypeId} {x u : Operand} {y z : Opd} (h : cmpOpd im d x = some y)
    (h' : cmpOpd im d u = some z) {s : Nat} (hs : sizeT P ty = some s) (ho : o.op = .store ty x u) (hr : opSt s y z call F t = .ok v t') : Done P M o a g v t' := by
  have vx := opd_ok him hF h
  have vu := opd_ok him hF h'
  obtain ⟨i, hi, rfl⟩ := sizeT_ok hs
  unfold opSt at hr
  split at hr
  · rename_i p off hp
    rw [hp] at vx
    generalize hxv : a.eval x = xv at vx
    cases vx with
    | ptr p off hpn =>
      split at hr
      · rename_i cs hl
        split at hr
        · rename_i hc
          cases hr
          simp only [Bool.and_eq_true] at hc
          obtain ⟨⟨⟨h1, h2⟩, h3⟩, h4⟩ := hc
          have h3 := Nat.eq_of_beq_eq_true h3
          have h4 := Nat.le_of_ble_eq_true h4
          obtain ⟨k1, k2⟩ := vu.cells h1
          obtain ⟨e1, e2, e3⟩ := hS.var p _ hl
          generalize hbv : g.ν p = b at *
          cases e3 with
          | cells cs b c cty fz hh hz hlen hv =>
            have hone : ∀ w, w ∈ (a.eval u).cells.toList → w.oneCell' = true := by
              intro w hw
              obtain ⟨j, hj, rfl⟩ := List.mem_iff_getElem.mp hw
              have hj' : j < (a.eval u).cells.size := by simpa using hj
              have hj2 : j < (z.get F).cells.length := by omega
              have hvr := k2 j hj2
              have hcell : ((z.get F).cells[j]).isCell = true := List.all_eq_true.mp h2 _ (List.getElem_mem hj2)
              have := hvr.oneCell hcell
              simp only [Array.getD, hj', dite_true] at this
              simp only [Array.getElem_toList]
              cases hq : (a.eval u).cells[j] <;> simp_all [M2.oneCell, Value.oneCell']
            have hsz : off + 0 + (a.eval u).cells.toList.length ≤ c.size := by simp; omega
            have hst := run_storeCells' P b off cty fz (a.eval u).cells.toList 0 c g.w hh hz hsz hone
            simp only [Nat.add_zero] at hst
            have hle := g.le_setVar b (.cells (writeAt c off (a.eval u).cells.toList) cty fz) (hbv ▸ e2) (csize_cells hh (writeAt_size _ _ _))
            have hbb : b < g.w.heap.size := (Array.getElem?_eq_some_iff.mp hh).1
            refine done_skip (g' := g.setVar b (.cells (writeAt c off (a.eval u).cells.toList) cty fz)) ?_ hle ?_
            · have hsz2 : (a.eval u).cells.size = i.size := by omega
              simp [execOp, ho, Instr.storeAt, Instr.sureAddr, hxv, storeVar, run_sizeOf hi, hsz2, hst, G.setVar]
            · have := hS.setVar hl (.cells (putAt cs off (z.get F).cells)) (.cells (writeAt c off (a.eval u).cells.toList) cty fz) (by rw [hbv]; exact csize_cells hh (writeAt_size _ _ _)) (by
                rw [hbv]
                refine .cells _ _ (writeAt c off (a.eval u).cells.toList) cty fz ?_ (fun q hq => ?_) ?_ (fun q hq => ?_)
                · show (setBlock g.w b _).heap[b]? = _
                  rw [setBlock_heap, if_pos ⟨rfl, hbb⟩]
                · have := hz q (by simpa [writeAt_size] using hq)
                  simp only [World.frozen?, hh] at this
                  show (setBlock g.w b _).frozen? _ = _
                  simp only [World.frozen?, setBlock_heap, hbb, and_self, if_true]
                  exact this
                · rw [writeAt_size]; simp [putAt]; omega
                · have hpl : off + (z.get F).cells.length ≤ cs.length := by omega
                  have hq' : q < cs.length := by rw [putAt_length _ _ _ hpl] at hq; exact hq
                  rw [writeAt_getD _ _ _ _ (by simp; omega)]
                  simp only [Array.length_toList]
                  by_cases hin : off ≤ q ∧ q < off + (a.eval u).cells.size
                  · rw [if_pos hin, putAt_in _ _ _ hpl q hq hin.1 (by omega)]
                    have hk := (k2 (q - off) (by omega)).mono hle
                    have e2 : (a.eval u).cells.toList.getD (q - off) undef = (a.eval u).cells.getD (q - off) undef := by
                      simp [List.getD, Array.getD, show q - off < (a.eval u).cells.size by omega]
                    rw [e2]
                    exact hk
                  · rw [if_neg hin, putAt_out _ _ _ hpl q hq (by omega)]
                    exact (hv q hq').mono hle)
              rw [hbv] at this
              exact this
        · contradiction
      · contradiction
  · contradiction

end

end M2
end
section
namespace M2
open Go

section
variable {P : Program} {M : Maps} {im : FuncId → Option Nat} {d : Nat} {g : G} {F : Fr} {a : Act} {o : Oper} {t t' : T} {v : AV} {call : CallF}

theorem sound_nilck (him : ∀ f x, im f = some x → M.fm x = f) (hF : FR M g d F a.tmps) (hS : SR M g t) {x : Operand} {y : Opd} (h : cmpOpd im d x = some y)
    (ho : o.op = .nilCheck x) (hr : opNilck y call F t = .ok v t') : Done P M o a g v t' := by
  have vx := opd_ok him hF h
  unfold opNilck at hr
  split at hr
  · rename_i p off hp
    cases hr
    rw [hp] at vx
    generalize hxv : a.eval x = xv at vx
    refine done_pure (v' := xv) ?_ vx hS
    cases vx
    simp [execOp, ho, hxv]
  · rename_i cs hp
    cases hr
    rw [hp] at vx
    generalize hxv : a.eval x = xv at vx
    refine done_pure (v' := xv) ?_ vx hS
    cases vx
    simp [execOp, ho, hxv]
  · rename_i f x1 x2 hp
    cases hr
    rw [hp] at vx
    generalize hxv : a.eval x = xv at vx
    refine done_pure (v' := xv) ?_ vx hS
    cases vx
    simp [execOp, ho, hxv]
  · contradiction

theorem run_binInt {op : BinOp} {k : IntKind} {x y : Int} {r : AV} (hn : isShift op = false) (h : binInt op k x y = some r) (ty : TypeId) (w : World) :
    ∃ rv, (Go.binOp op ty (.int k x) (.int k y)).run P w = .ok rv w ∧ ∀ M g, VR M g r rv := by
  cases op <;> simp only [binInt, isShift] at h hn <;> first
    | contradiction
    | (cases h; refine ⟨_, ?_, fun M g => .int _ _⟩; simp [Go.binOp, Op.intArith, Op.intBits]; done)
    | (cases h; refine ⟨_, ?_, fun M g => .bool _⟩; simp [Go.binOp, Op.intCmp]; done)
    | (split at h
       · contradiction
       · rename_i hy
         cases h
         refine ⟨_, ?_, fun M g => .int _ _⟩
         simp [Go.binOp, Op.intDiv, hy])

theorem run_shInt {op : BinOp} {k k' : IntKind} {x y : Int} {r : AV} (hn : isShift op = true) (h : shInt op k x y = some r) (ty : TypeId) (w : World) :
    ∃ rv, (Go.binOp op ty (.int k x) (.int k' y)).run P w = .ok rv w ∧ ∀ M g, VR M g r rv := by
  cases op <;> simp only [isShift] at hn <;> first
    | contradiction
    | (unfold shInt at h
       split at h
       · contradiction
       · rename_i hy
         cases h
         refine ⟨_, ?_, fun M g => .int _ _⟩
         simp [Go.binOp, Op.shift, hy])

theorem run_binStr {op : BinOp} {x y : List UInt8} {r : AV} (h : binStr op x y = some r) (ty : TypeId) (w : World) :
    ∃ rv, (Go.binOp op ty (.string ⟨x.toArray⟩) (.string ⟨y.toArray⟩)).run P w = .ok rv w ∧ ∀ M g, VR M g r rv := by
  cases op <;> simp only [binStr] at h <;> first
    | contradiction
    | (cases h; refine ⟨_, ?_, fun M g => .bool _⟩; simp [Go.binOp, Op.stringOp]; done)
    | (split at h
       · rename_i hl
         cases h
         refine ⟨_, ?_, fun M g => .str _⟩
         simp [Go.binOp, Op.stringOp, ByteArray.mk_append_mk, ByteArray.size_mk']
         have : IntKind.i64.max = 9223372036854775807 := by decide
         omega
       · contradiction)

theorem run_flt {op : BinOp} {x y r : Nat} (h : fltOp op x y = some r) (w : World) : (Op.Complex.arith op .f64 x y).run P w = .ok r w := by
  cases op <;> simp only [fltOp] at h <;> first
    | contradiction
    | simp [Op.Complex.arith, Op.floatArith, h]

theorem run_cpx {op : BinOp} {x y x' y' : Nat} {r : AV} (h : cpxOp op x y x' y' = some r) (ty : TypeId) (w : World) :
    ∃ rv, (Go.binOp op ty (.complex .f64 x y) (.complex .f64 x' y')).run P w = .ok rv w ∧ ∀ M g, VR M g r rv := by
  cases op <;> simp only [cpxOp] at h <;> try contradiction
  · cases h1 : fltOp .add x x' with
    | none => simp [h1] at h
    | some p =>
      cases h2 : fltOp .add y y' with
      | none => simp [h1, h2] at h
      | some q =>
        simp [h1, h2] at h
        subst h
        exact ⟨.complex .f64 p q, by simp [Go.binOp, Op.complexOp, run_flt h1, run_flt h2], fun M g => .cpx p q⟩
  · cases h1 : fltOp .sub x x' with
    | none => simp [h1] at h
    | some p =>
      cases h2 : fltOp .sub y y' with
      | none => simp [h1, h2] at h
      | some q =>
        simp [h1, h2] at h
        subst h
        exact ⟨.complex .f64 p q, by simp [Go.binOp, Op.complexOp, run_flt h1, run_flt h2], fun M g => .cpx p q⟩
  · cases h1 : fltOp .mul x x' with
    | none => simp [h1] at h
    | some p =>
      cases h2 : fltOp .mul y y' with
      | none => simp [h1, h2] at h
      | some q =>
        cases h3 : fltOp .sub p q with
        | none => simp [h1, h2, h3] at h
        | some r1 =>
          cases h4 : fltOp .mul x y' with
          | none => simp [h1, h2, h4] at h
          | some p2 =>
            cases h5 : fltOp .mul y x' with
            | none => simp [h1, h2, h4, h5] at h
            | some q2 =>
              cases h6 : fltOp .add p2 q2 with
              | none => simp [h1, h2, h4, h5, h6] at h
              | some r2 =>
                simp [h1, h2, h3, h4, h5, h6] at h
                subst h
                refine ⟨.complex .f64 r1 r2, ?_, fun M g => .cpx r1 r2⟩
                simp [Go.binOp, Op.complexOp, Op.Complex.conv, Op.Complex.product, Op.Complex.mul, Op.Complex.sub, Op.Complex.add, run_flt h1, run_flt h2, run_flt h3, run_flt h4, run_flt h5, run_flt h6]

/-- what stands ahead of a comparison does nothing -/
theorem eqGuard_plain (op : BinOp) (ty : TypeId) (x y : Operand) (u v : Value) (w : World)
    (h : ∀ p q, ¬ (u = .agg p ∧ v = .agg q)) (hn : ¬ (u = .nilIface ∧ v = .nilIface)) : (eqGuard op ty x y u v).run P w = .ok () w := by
  unfold eqGuard
  cases u <;> cases v <;> first
    | exact absurd ⟨rfl, rfl⟩ hn
    | exact absurd ⟨rfl, rfl⟩ (h _ _)
    | (cases op <;> rfl)

theorem sound_bin (him : ∀ f x, im f = some x → M.fm x = f) (hF : FR M g d F a.tmps) (hS : SR M g t) {op : BinOp} {ty ty' : TypeId} {x y : Operand} {x' y' : Opd}
    (hx : cmpOpd im d x = some x') (hy : cmpOpd im d y = some y') (ho : o.op = .binOp op ty x y ty') (hr : opBin op x' y' call F t = .ok v t') : Done P M o a g v t' := by
  have vx := opd_ok him hF hx
  have vy := opd_ok him hF hy
  unfold opBin at hr
  cases hb : avBin op (x'.get F) (y'.get F) with
  | none => rw [hb] at hr; contradiction
  | some r =>
    rw [hb] at hr
    cases hr
    unfold avBin at hb
    split at hb
    · rename_i k p k' q e1 e2
      rw [e1] at vx
      rw [e2] at vy
      generalize hxv : a.eval x = xv at vx
      generalize hyv : a.eval y = yv at vy
      cases vx
      cases vy
      have hg := fun w => eqGuard_plain (P := P) op ty x y (.int k p) (.int k' q) w (by simp) (by simp)
      split at hb
      · rename_i hs
        obtain ⟨rv, h1, h2⟩ := run_shInt (P := P) (k' := k') hs hb ty g.w
        exact done_pure (by simp [execOp, ho, hxv, hyv, hg, h1]) (h2 M g) hS
      · rename_i hs
        split at hb
        · rename_i hk
          subst hk
          obtain ⟨rv, h1, h2⟩ := run_binInt (P := P) hs hb ty g.w
          exact done_pure (by simp [execOp, ho, hxv, hyv, hg, h1]) (h2 M g) hS
        · contradiction
    · rename_i p q e1 e2
      rw [e1] at vx
      rw [e2] at vy
      generalize hxv : a.eval x = xv at vx
      generalize hyv : a.eval y = yv at vy
      cases vx
      cases vy
      have hg := fun w => eqGuard_plain (P := P) op ty x y (.string ⟨p.toArray⟩) (.string ⟨q.toArray⟩) w (by simp) (by simp)
      obtain ⟨rv, h1, h2⟩ := run_binStr (P := P) hb ty g.w
      exact done_pure (by simp [execOp, ho, hxv, hyv, hg, h1]) (h2 M g) hS
    · rename_i p q p' q' e1 e2
      rw [e1] at vx
      rw [e2] at vy
      generalize hxv : a.eval x = xv at vx
      generalize hyv : a.eval y = yv at vy
      cases vx
      cases vy
      have hg := fun w => eqGuard_plain (P := P) op ty x y (.complex .f64 p q) (.complex .f64 p' q') w (by simp) (by simp)
      obtain ⟨rv, h1, h2⟩ := run_cpx (P := P) hb ty g.w
      exact done_pure (by simp [execOp, ho, hxv, hyv, hg, h1]) (h2 M g) hS
    · contradiction

theorem sound_un (him : ∀ f x, im f = some x → M.fm x = f) (hF : FR M g d F a.tmps) (hS : SR M g t) {op : UnOp} {ty : TypeId} {x : Operand} {y : Opd} (h : cmpOpd im d x = some y)
    (ho : o.op = .unOp op ty x) (hr : opUn op y call F t = .ok v t') : Done P M o a g v t' := by
  have vx := opd_ok him hF h
  unfold opUn at hr
  cases hb : avUn op (y.get F) with
  | none => rw [hb] at hr; contradiction
  | some r =>
    rw [hb] at hr
    cases hr
    unfold avUn at hb
    split at hb
    · rename_i k n e1
      rw [e1] at vx
      generalize hxv : a.eval x = xv at vx
      cases vx
      cases hb
      exact done_pure (v' := .int k (k.wrap (0 - n))) (by simp [execOp, ho, hxv, Op.unary, Op.intArith]) (.int _ _) hS
    · rename_i k n e1
      rw [e1] at vx
      generalize hxv : a.eval x = xv at vx
      cases vx
      cases hb
      exact done_pure (v' := .int k _) (by simp [execOp, ho, hxv, Op.unary, Op.intBits]) (.int _ _) hS
    · rename_i b e1
      rw [e1] at vx
      generalize hxv : a.eval x = xv at vx
      cases vx
      cases hb
      exact done_pure (v' := .bool !b) (by simp [execOp, ho, hxv, Op.unary]) (.bool _) hS
    · rename_i b e1
      rw [e1] at vx
      generalize hxv : a.eval x = xv at vx
      cases vx
      cases hb
      exact done_pure (v' := .float .f64 (Op.negFloat .f64 b)) (by simp [execOp, ho, hxv, Op.unary]) (.flt _) hS
    · contradiction

theorem sound_conv (him : ∀ f x, im f = some x → M.fm x = f) (hF : FR M g d F a.tmps) (hS : SR M g t) {src dst : TypeId} {x : Operand} {y : Opd} {ao : AOp} (h : cmpOpd im d x = some y)
    (hc : cmpConv P src dst y = some ao) (hnm : ∀ z, ao ≠ .mark z) (hnb : ∀ k xs, ao ≠ .mem k xs) (ho : o.op = .convert src dst x) (hr : ao.run call F t = .ok v t') : Done P M o a g v t' := by
  have vx := opd_ok him hF h
  unfold cmpConv at hc
  split at hc
  · rename_i k0 k h1 h2
    cases hc
    cases hb : avCv (.int k) (y.get F) with
    | none => rw [show (AOp.cv (.int k) y).run call F t = OR.ofOption t (avCv (.int k) (y.get F)) from rfl, hb] at hr; contradiction
    | some r =>
      rw [show (AOp.cv (.int k) y).run call F t = OR.ofOption t (avCv (.int k) (y.get F)) from rfl, hb] at hr
      cases hr
      unfold avCv at hb
      split at hb <;> try contradiction
      · rename_i k' kx n e0 e1
        cases e0
        rw [e1] at vx
        generalize hxv : a.eval x = xv at vx
        cases vx
        cases hb
        exact done_pure (v' := .int k (k.wrap n)) (by simp [execOp, ho, hxv, convert, run_underlying h1, run_underlying h2, Conv.intToInt]) (.int _ _) hS
  · rename_i k h1 h2
    cases hc
    cases hb : avCv (.fint k) (y.get F) with
    | none => rw [show (AOp.cv (.fint k) y).run call F t = OR.ofOption t (avCv (.fint k) (y.get F)) from rfl, hb] at hr; contradiction
    | some r =>
      rw [show (AOp.cv (.fint k) y).run call F t = OR.ofOption t (avCv (.fint k) (y.get F)) from rfl, hb] at hr
      cases hr
      unfold avCv at hb
      split at hb <;> try contradiction
      · rename_i k' b e0 e1
        cases e0
        rw [e1] at vx
        generalize hxv : a.eval x = xv at vx
        cases vx
        split at hb
        · rename_i n hn
          split at hb
          · rename_i hmm
            cases hb
            exact done_pure (v' := .int k n) (by simp [execOp, ho, hxv, convert, run_underlying h1, run_underlying h2, Conv.floatToInt, hn, hmm]) (.int _ _) hS
          · contradiction
        · contradiction
  · rename_i k h1 h2
    cases hc
    cases hb : avCv .flt (y.get F) with
    | none => rw [show (AOp.cv .flt y).run call F t = OR.ofOption t (avCv .flt (y.get F)) from rfl, hb] at hr; contradiction
    | some r =>
      rw [show (AOp.cv .flt y).run call F t = OR.ofOption t (avCv .flt (y.get F)) from rfl, hb] at hr
      cases hr
      unfold avCv at hb
      split at hb <;> try contradiction
      · rename_i k' n e0 e1
        rw [e1] at vx
        generalize hxv : a.eval x = xv at vx
        cases vx
        cases hb
        exact done_pure (v' := .float .f64 (FloatKind.f64.nearest n)) (by simp [execOp, ho, hxv, convert, run_underlying h1, run_underlying h2, Conv.intToFloat]) (.flt _) hS
  · rename_i h1 h2
    cases hc
    cases hb : avCv .str (y.get F) with
    | none => rw [show (AOp.cv .str y).run call F t = OR.ofOption t (avCv .str (y.get F)) from rfl, hb] at hr; contradiction
    | some r =>
      rw [show (AOp.cv .str y).run call F t = OR.ofOption t (avCv .str (y.get F)) from rfl, hb] at hr
      cases hr
      unfold avCv at hb
      split at hb <;> try contradiction
      · rename_i s e0 e1
        rw [e1] at vx
        generalize hxv : a.eval x = xv at vx
        cases vx
        cases hb
        exact done_pure (v' := .string ⟨s.toArray⟩) (by simp [execOp, ho, hxv, convert, run_underlying h1, run_underlying h2]) (.str _) hS
  · split at hc
    · cases hc; exact absurd rfl (hnb _ _)
    · contradiction
  · split at hc
    · cases hc; exact absurd rfl (hnm _)
    · cases hc
  · split at hc
    · cases hc; exact absurd rfl (hnb _ _)
    · cases hc
  · contradiction

end

end M2
end
section
namespace M2
open Go

section
variable {P : Program} {M : Maps} {im : FuncId → Option Nat} {d : Nat} {g : G} {F : Fr} {a : Act} {o : Oper} {t t' : T} {v : AV} {call : CallF}

/-! #### equality by a type's own kind -/

def EKfits (k : EK) (u : TypeDesc) : Prop :=
  match k with
  | .bool => u = .bool
  | .ptr => ∃ e, u = .pointer e
  | .slice => ∃ e, u = .slice e
  | .func => ∃ a b c, u = .func a b c
  | .map => ∃ a b, u = .map a b
  | .iface => ∃ a, u = .interface a

theorem run_eqk {k : EK} {u : TypeDesc} {ty : TypeId} (hu : P.underlying ty = some u) (hk : EKfits k u) {X Y : AV} {b : Bool} (h : avEqk k X Y = some b) {x y : Value}
    (hx : VR M g X x) (hy : VR M g Y y) (w : World) : (Op.equal ty x y).run P w = .ok b w := by
  have hd : Op.maxDepth = 9999 + 1 := rfl
  unfold Op.equal
  rw [hd]
  unfold Op.equalIn
  simp only [Sem.run_bind, run_underlying hu, Result.andThen_ok]
  unfold avEqk at h
  split at h <;> first
    | contradiction
    | (cases h; cases hx; cases hy; simp only [EKfits] at hk; subst hk; simp; done)
    | (cases h; cases hx; cases hy; simp only [EKfits] at hk; obtain ⟨e, rfl⟩ := hk; simp; done)
    | (cases h; cases hx; cases hy; simp only [EKfits] at hk; obtain ⟨e, e', rfl⟩ := hk; simp; done)
    | (cases h; cases hx; cases hy; simp only [EKfits] at hk; obtain ⟨e, e', e'', rfl⟩ := hk; simp; done)

theorem binOp_eql (ty : TypeId) (x y : Value) (hi : ∀ k n k' n', ¬ (x = .int k n ∧ y = .int k' n')) (hf : ∀ k n k' n', ¬ (x = .float k n ∧ y = .float k' n'))
    (hc : ∀ k n m k' n' m', ¬ (x = .complex k n m ∧ y = .complex k' n' m')) (hs : ∀ p q, ¬ (x = .string p ∧ y = .string q)) :
    Go.binOp .eql ty x y = (do pure (.bool (← Op.equal ty x y))) ∧ Go.binOp .neq ty x y = (do pure (.bool (!(← Op.equal ty x y)))) := by
  cases x <;> cases y <;> first
    | exact absurd ⟨rfl, rfl⟩ (hi _ _ _ _)
    | exact absurd ⟨rfl, rfl⟩ (hf _ _ _ _)
    | exact absurd ⟨rfl, rfl⟩ (hc _ _ _ _ _ _)
    | exact absurd ⟨rfl, rfl⟩ (hs _ _)
    | exact ⟨rfl, rfl⟩

theorem sound_eqk (him : ∀ f x, im f = some x → M.fm x = f) (hF : FR M g d F a.tmps) (hS : SR M g t) {neg : Bool} {ty ty' : TypeId} {x y : Operand} {x' y' : Opd} {k : EK} {u : TypeDesc}
    (hx : cmpOpd im d x = some x') (hy : cmpOpd im d y = some y') (hu : P.underlying ty = some u) (hk : EKfits k u) (hif : k = .iface → (isConstO x || isConstO y) = true)
    (ho : o.op = .binOp (if neg then .neq else .eql) ty x y ty') (hr : opEqk k neg x' y' call F t = .ok v t') : Done P M o a g v t' := by
  have vx := opd_ok him hF hx
  have vy := opd_ok him hF hy
  unfold opEqk at hr
  cases hb : avEqk k (x'.get F) (y'.get F) with
  | none => rw [hb] at hr; contradiction
  | some r =>
    rw [hb] at hr
    cases hr
    have he := run_eqk (P := P) hu hk hb vx vy g.w
    generalize hxv : a.eval x = xv at *
    generalize hyv : a.eval y = yv at *
    have hg : ∀ w, (eqGuard (if neg then .neq else .eql) ty x y xv yv).run P w = .ok () w := by
      intro w
      unfold avEqk at hb
      split at hb <;> first
        | contradiction
        | (rename_i e1 e2
           rw [e1] at vx
           rw [e2] at vy
           cases vx
           cases vy
           refine eqGuard_plain _ _ _ _ _ _ _ ?_ ?_ <;> (simp; done))
        | (rename_i e1 e2
           rw [e1] at vx
           rw [e2] at vy
           cases vx
           cases vy
           have := hif rfl
           cases neg <;> (unfold eqGuard; cases x <;> cases y <;> simp [isConstO] at this ⊢))
    obtain ⟨b1, b2⟩ := binOp_eql ty xv yv
      (by rintro k1 n1 k2 n2 ⟨rfl, rfl⟩; generalize x'.get F = X at *; generalize y'.get F = Y at *; cases vx <;> cases vy <;> simp [avEqk] at hb)
      (by rintro k1 n1 k2 n2 ⟨rfl, rfl⟩; generalize x'.get F = X at *; generalize y'.get F = Y at *; cases vx <;> cases vy <;> simp [avEqk] at hb)
      (by rintro k1 n1 m1 k2 n2 m2 ⟨rfl, rfl⟩; generalize x'.get F = X at *; generalize y'.get F = Y at *; cases vx <;> cases vy <;> simp [avEqk] at hb)
      (by rintro p q ⟨rfl, rfl⟩; generalize x'.get F = X at *; generalize y'.get F = Y at *; cases vx <;> cases vy <;> simp [avEqk] at hb)
    refine done_pure (v' := .bool (r != neg)) ?_ (.bool _) hS
    cases neg
    · simp at hg
      simp [execOp, ho, hxv, hyv, hg, b1, he]
    · simp at hg
      simp [execOp, ho, hxv, hyv, hg, b2, he]

/-! #### fields, indices, addresses -/

theorem run_asIntOf (k : IntKind) (n : Int) (w : World) : (asIntOf (.int k n)).run P w = .ok (k, n) w := by simp [asIntOf]

theorem sound_faddr (him : ∀ f x, im f = some x → M.fm x = f) (hF : FR M g d F a.tmps) (hS : SR M g t) {ty : TypeId} {x : Operand} {y : Opd} {fs : Array Field} {fi : Nat} {fl : Field} {s : Nat}
    (h : cmpOpd im d x = some y) (hu : P.underlying ty = some (.struct fs)) (hfl : fs[fi]? = some fl) (hs : sizeT P fl.type = some s) (h0 : s ≠ 0)
    (ho : o.op = .fieldAddr ty x fi) (hr : opFaddr fl.offset y call F t = .ok v t') : Done P M o a g v t' := by
  have vx := opd_ok him hF h
  obtain ⟨i, hi, rfl⟩ := sizeT_ok hs
  have key : ∀ b off, a.eval x = .pointer (some ⟨b, off, none⟩) → (execOp a.eval o).run P g.w = .ok (.value (.pointer (some ⟨b, off + fl.offset, none⟩))) g.w := by
    intro b off hp
    simp [execOp, ho, hp, Instr.fieldAt, run_underlying hu, hfl, Instr.sureAddr, fieldPlace, run_sizeOf hi, h0, addr_add]
  unfold opFaddr at hr
  split at hr
  · rename_i p off hp
    cases hr
    rw [hp] at vx
    generalize hxv : a.eval x = xv at vx
    cases vx with
    | ptr p off hpn => exact done_pure (key _ _ hxv) (.ptr p (off + fl.offset) hpn) hS
  · rename_i cs hp
    split at hr
    · contradiction
    · rename_i c cs' hd
      cases hr
      rw [hp] at vx
      generalize hxv : a.eval x = xv at vx
      cases vx with
      | eptr cs b off vs hv hc hf =>
        have hl : fl.offset < cs.length := by
          by_cases hlt : fl.offset < cs.length
          · exact hlt
          · rw [List.drop_of_length_le (by omega)] at hd; cases hd
        refine done_pure (key _ _ hxv) ?_ hS
        rw [← hd]
        refine .eptr _ b (off + fl.offset) (fun i => vs (fl.offset + i)) (fun i hi => ?_) (fun i hi => ?_) ?_
        · have := hv (fl.offset + i) (by simp at hi; omega)
          simpa using this
        · rw [Nat.add_assoc]; exact hc _ (by simp at hi; omega)
        · simp only [List.length_drop]
          rw [show off + fl.offset + (cs.length - fl.offset) = off + cs.length by omega]
          exact hf
  · contradiction

theorem run_tiny {ty : TypeId} {e : TypeId} (hu : P.underlying ty = some (.slice e)) (w : World) :
    (do pure (match ← underlying ty with | .array .. => true | _ => false) : Sem Bool).run P w = .ok false w := by
  simp [run_underlying hu]

theorem iaddr_any (him : ∀ f x, im f = some x → M.fm x = f) (hF : FR M g d F a.tmps) {ty e : TypeId} {x i : Operand} {y j : Opd} {s : Nat}
    (h : cmpOpd im d x = some y) (h' : cmpOpd im d i = some j) (hu : P.underlying ty = some (.slice e)) (hs : sizeT P e = some s)
    (ho : o.op = .indexAddr ty x i) (hr : opIaddr s y j call F t = .ok v t') : t' = t ∧ ∃ v', (∀ w, (execOp a.eval o).run P w = .ok (.value v') w) ∧ VR M g v v' := by
  have vx := opd_ok him hF h
  have vi := opd_ok him hF h'
  obtain ⟨inf, hi, rfl⟩ := sizeT_ok hs
  unfold opIaddr at hr
  split at hr
  · rename_i k n hn
    rw [hn] at vi
    generalize hiv : a.eval i = iv at vi
    cases vi
    have key : ∀ b off len cap, a.eval x = .slice (some ⟨b, off, none⟩) len cap → 0 ≤ n → n < len → ∀ w,
        (execOp a.eval o).run P w = .ok (.value (.pointer (some ⟨b, off + n.toNat * inf.size, none⟩))) w := by
      intro b off len cap hp h1 h2 w
      simp [execOp, ho, hp, hiv, Instr.indexAt, asIntOf, run_underlying hu, run_sizeOf hi, h1, h2, addr_add]
    split at hr
    · rename_i id e' pos cap fl alt es hp
      split at hr
      · rename_i hc
        simp only [Bool.and_eq_true, decide_eq_true_eq] at hc
        obtain ⟨he, hn0⟩ := hc
        have he := Nat.eq_of_beq_eq_true he
        subst he
        split at hr
        · contradiction
        · rename_i u us hd
          cases hk : u.known with
          | false => rw [hk] at hr; contradiction
          | true =>
            rw [hk] at hr
            cases hr
            rw [hp] at vx
            generalize hxv : a.eval x = xv at vx
            cases vx with
            | sl id e pos cap fl alt es b off ccap vs hid hcc hb hoff hlen hv hsz hc hf =>
              have hl : n.toNat < es.length := by
                by_cases hlt : n.toNat < es.length
                · exact hlt
                · rw [List.drop_of_length_le (by omega)] at hd; cases hd
              have hu' : u = es[n.toNat] := by
                rw [List.drop_eq_getElem_cons hl] at hd
                cases hd
                rfl
              refine ⟨rfl, _, key _ _ _ _ hxv hn0 (by omega), ?_⟩
              have hvn := hv n.toNat hl
              rw [← hu'] at hvn
              obtain ⟨c1, c2⟩ := hvn.cells hk
              have hsz' := hsz n.toNat hl
              refine .eptr u.cells b (off + n.toNat * inf.size) (fun j => (vs n.toNat).cells.getD j undef) c2 (fun q hq => ?_) ?_
              · rw [hc n.toNat q hl (by omega)]
                simp [Array.getD, show q < (vs n.toNat).cells.size by omega]
              · have hlen2 : u.cells.length = inf.size := by omega
                rw [hlen2]
                obtain ⟨f1, f2⟩ := hf
                refine ⟨f1, Own.fix_le f2 ?_⟩
                have := Nat.mul_le_mul_right inf.size (Nat.succ_le_of_lt hl)
                rw [Nat.succ_mul] at this
                omega
      · contradiction
    · rename_i p e' pos len cap hp
      split at hr
      · rename_i hc
        obtain ⟨he, hn0, hn1⟩ := hc
        subst he
        cases hr
        rw [hp] at vx
        generalize hxv : a.eval x = xv at vx
        cases vx with
        | ms p e pos len cap ccap hpn hlen hcc hb hz => exact ⟨rfl, _, key _ _ _ _ hxv hn0 hn1, .ptr p _ hpn⟩
      · contradiction
    · contradiction
  · contradiction

theorem sound_iaddr (him : ∀ f x, im f = some x → M.fm x = f) (hF : FR M g d F a.tmps) (hS : SR M g t) {ty e : TypeId} {x i : Operand} {y j : Opd} {s : Nat}
    (h : cmpOpd im d x = some y) (h' : cmpOpd im d i = some j) (hu : P.underlying ty = some (.slice e)) (hs : sizeT P e = some s)
    (ho : o.op = .indexAddr ty x i) (hr : opIaddr s y j call F t = .ok v t') : Done P M o a g v t' := by
  obtain ⟨rfl, v', h1, h2⟩ := iaddr_any him hF h h' hu hs ho hr
  exact done_pure (h1 _) h2 hS

theorem iaddrA_any (him : ∀ f x, im f = some x → M.fm x = f) (hF : FR M g d F a.tmps) {ty e : TypeId} {x i : Operand} {y j : Opd} {s len : Nat}
    (h : cmpOpd im d x = some y) (h' : cmpOpd im d i = some j) (hu : P.underlying ty = some (.array len e)) (hs : sizeT P e = some s)
    (ho : o.op = .indexAddr ty x i) (hr : opIaddrA len s y j call F t = .ok v t') : t' = t ∧ ∃ v', (∀ w, (execOp a.eval o).run P w = .ok (.value v') w) ∧ VR M g v v' := by
  have vx := opd_ok him hF h
  have vi := opd_ok him hF h'
  obtain ⟨inf, hi, rfl⟩ := sizeT_ok hs
  unfold opIaddrA at hr
  split at hr
  · rename_i k n hn
    rw [hn] at vi
    generalize hiv : a.eval i = iv at vi
    cases vi
    split at hr
    · rename_i hnn
      obtain ⟨hn0, hn1⟩ := hnn
      have key : ∀ b off, a.eval x = .pointer (some ⟨b, off, none⟩) → ∀ w,
          (execOp a.eval o).run P w = .ok (.value (.pointer (some ⟨b, off + n.toNat * inf.size, none⟩))) w := by
        intro b off hp w
        simp [execOp, ho, hp, hiv, Instr.indexAt, asIntOf, run_underlying hu, run_sizeOf hi, Instr.sureAddr, hn0, hn1, addr_add]
      split at hr
      · rename_i p off hp
        cases hr
        rw [hp] at vx
        generalize hxv : a.eval x = xv at vx
        cases vx with
        | ptr p off hpn => exact ⟨rfl, _, key _ _ hxv, .ptr p _ hpn⟩
      · rename_i cs hp
        split at hr
        · contradiction
        · rename_i c cs' hd
          cases hr
          rw [hp] at vx
          generalize hxv : a.eval x = xv at vx
          cases vx with
          | eptr cs b off vs hv hc hf =>
            have hl : n.toNat * inf.size < cs.length := by
              by_cases hlt : n.toNat * inf.size < cs.length
              · exact hlt
              · rw [List.drop_of_length_le (by omega)] at hd; cases hd
            refine ⟨rfl, _, key _ _ hxv, ?_⟩
            rw [← hd]
            refine .eptr _ b (off + n.toNat * inf.size) (fun i => vs (n.toNat * inf.size + i)) (fun i hi => ?_) (fun i hi => ?_) ?_
            · have := hv (n.toNat * inf.size + i) (by simp at hi; omega)
              simpa using this
            · rw [Nat.add_assoc]; exact hc _ (by simp at hi; omega)
            · simp only [List.length_drop]
              rw [show off + n.toNat * inf.size + (cs.length - n.toNat * inf.size) = off + cs.length by omega]
              exact hf
      · contradiction
    · contradiction
  · contradiction

theorem sound_iaddrA (him : ∀ f x, im f = some x → M.fm x = f) (hF : FR M g d F a.tmps) (hS : SR M g t) {ty e : TypeId} {x i : Operand} {y j : Opd} {s len : Nat}
    (h : cmpOpd im d x = some y) (h' : cmpOpd im d i = some j) (hu : P.underlying ty = some (.array len e)) (hs : sizeT P e = some s)
    (ho : o.op = .indexAddr ty x i) (hr : opIaddrA len s y j call F t = .ok v t') : Done P M o a g v t' := by
  obtain ⟨rfl, v', h1, h2⟩ := iaddrA_any him hF h h' hu hs ho hr
  exact done_pure (h1 _) h2 hS

theorem agg_sub {cs : List AV} {vs : Array Value} (h1 : vs.size = cs.length) (hv : ∀ i (h : i < cs.length), VR M g cs[i] (vs.getD i undef)) (off n : Nat) (hl : off + n ≤ cs.length) :
    VR M g (.agg ((cs.drop off).take n)) (.agg (vs.extract off (off + n))) := by
  refine .agg _ _ (by simp; omega) (fun i hi => ?_)
  have hi' : i < n := by simp at hi; omega
  have := hv (off + i) (by omega)
  simp only [List.getElem_take, List.getElem_drop]
  have e : (vs.extract off (off + n)).getD i undef = vs.getD (off + i) undef := by
    simp [Array.getD, show off + i < vs.size by omega, show i < min (off + n) vs.size - off by omega]
  rw [e]
  exact this

theorem run_part1 {ty : TypeId} (ha : aggT P ty = some false) (cs : Array Value) (off : Nat) (h : off < cs.size) (w : World) :
    (part ty cs off).run P w = .ok (cs.getD off undef) w := by
  simp [part, run_isAgg ha, h, Array.getD]
theorem run_partA {ty : TypeId} (ha : aggT P ty = some true) {i : TypeInfo} (hi : P.info? ty = some i) (cs : Array Value) (off : Nat) (w : World) :
    (part ty cs off).run P w = .ok (.agg (cs.extract off (off + i.size))) w := by
  simp [part, run_isAgg ha, run_sizeOf hi]

theorem sound_fld1 (him : ∀ f x, im f = some x → M.fm x = f) (hF : FR M g d F a.tmps) (hS : SR M g t) {ty : TypeId} {x : Operand} {y : Opd} {fs : Array Field} {fi : Nat} {fl : Field}
    (h : cmpOpd im d x = some y) (hu : P.underlying ty = some (.struct fs)) (hfl : fs[fi]? = some fl) (ha : aggT P fl.type = some false)
    (ho : o.op = .field ty x fi) (hr : opFld1 fl.offset y call F t = .ok v t') : Done P M o a g v t' := by
  have vx := opd_ok him hF h
  unfold opFld1 at hr
  split at hr
  · rename_i cs hp
    cases hq : cs[fl.offset]? with
    | none => rw [hq] at hr; contradiction
    | some r =>
      rw [hq] at hr
      cases hr
      rw [hp] at vx
      generalize hxv : a.eval x = xv at vx
      cases vx with
      | agg cs vs h1 hv =>
        obtain ⟨hl, rfl⟩ := List.getElem?_eq_some_iff.mp hq
        refine done_pure ?_ (hv fl.offset hl) hS
        simp [execOp, ho, hxv, Instr.field, run_underlying hu, hfl, asAgg, run_part1 ha vs fl.offset (by omega)]
  · contradiction

theorem sound_fldA (him : ∀ f x, im f = some x → M.fm x = f) (hF : FR M g d F a.tmps) (hS : SR M g t) {ty : TypeId} {x : Operand} {y : Opd} {fs : Array Field} {fi : Nat} {fl : Field} {s : Nat}
    (h : cmpOpd im d x = some y) (hu : P.underlying ty = some (.struct fs)) (hfl : fs[fi]? = some fl) (ha : aggT P fl.type = some true) (hs : sizeT P fl.type = some s)
    (ho : o.op = .field ty x fi) (hr : opFldA fl.offset s y call F t = .ok v t') : Done P M o a g v t' := by
  have vx := opd_ok him hF h
  obtain ⟨i, hi, rfl⟩ := sizeT_ok hs
  unfold opFldA at hr
  split at hr
  · rename_i cs hp
    split at hr
    · rename_i hl
      cases hr
      rw [hp] at vx
      generalize hxv : a.eval x = xv at vx
      cases vx with
      | agg cs vs h1 hv =>
        refine done_pure ?_ (agg_sub h1 hv fl.offset i.size hl) hS
        simp [execOp, ho, hxv, Instr.field, run_underlying hu, hfl, asAgg, run_partA ha hi]
    · contradiction
  · contradiction

theorem sound_idxS (him : ∀ f x, im f = some x → M.fm x = f) (hF : FR M g d F a.tmps) (hS : SR M g t) {ty : TypeId} {x i : Operand} {y j : Opd}
    (h : cmpOpd im d x = some y) (h' : cmpOpd im d i = some j) (hu : P.underlying ty = some .string)
    (ho : o.op = .index ty x i) (hr : opIdxS y j call F t = .ok v t') : Done P M o a g v t' := by
  have vx := opd_ok him hF h
  have vi := opd_ok him hF h'
  unfold opIdxS at hr
  split at hr
  · rename_i k n hn
    rw [hn] at vi
    generalize hiv : a.eval i = iv at vi
    cases vi
    split at hr
    · rename_i s hp
      split at hr
      · rename_i hn0
        simp only [decide_eq_true_eq] at hn0
        split at hr
        · contradiction
        · rename_i c cs hd
          cases hr
          rw [hp] at vx
          generalize hxv : a.eval x = xv at vx
          cases vx
          have hl : n.toNat < s.length := by
            by_cases hlt : n.toNat < s.length
            · exact hlt
            · rw [List.drop_of_length_le (by omega)] at hd; cases hd
          have hc : c = s[n.toNat] := by
            rw [List.drop_eq_getElem_cons hl] at hd
            cases hd
            rfl
          refine done_pure (v' := .int .u8 c.toNat) ?_ (.int _ _) hS
          have e : (ByteArray.mk s.toArray)[n.toNat]? = some s[n.toNat] := by
            rw [ByteArray.getElem?_lt' _ _ (by simpa [ByteArray.size_mk'] using hl)]
            rfl
          simp [execOp, ho, hxv, hiv, Instr.index, asIntOf, run_underlying hu, hn0, e, hc]
      · contradiction
    · contradiction
  · contradiction

theorem sound_idx1 (him : ∀ f x, im f = some x → M.fm x = f) (hF : FR M g d F a.tmps) (hS : SR M g t) {ty e : TypeId} {x i : Operand} {y j : Opd} {len s : Nat}
    (h : cmpOpd im d x = some y) (h' : cmpOpd im d i = some j) (hu : P.underlying ty = some (.array len e)) (ha : aggT P e = some false) (hs : sizeT P e = some s) (h1 : s = 1)
    (ho : o.op = .index ty x i) (hr : opIdx1 len y j call F t = .ok v t') : Done P M o a g v t' := by
  have vx := opd_ok him hF h
  have vi := opd_ok him hF h'
  obtain ⟨inf, hi, rfl⟩ := sizeT_ok hs
  unfold opIdx1 at hr
  split at hr
  · rename_i k n hn
    rw [hn] at vi
    generalize hiv : a.eval i = iv at vi
    cases vi
    split at hr
    · rename_i cs hp
      split at hr
      · rename_i hnn
        obtain ⟨hn0, hn1⟩ := hnn
        cases hq : cs[n.toNat]? with
        | none => rw [hq] at hr; contradiction
        | some r =>
          rw [hq] at hr
          cases hr
          rw [hp] at vx
          generalize hxv : a.eval x = xv at vx
          cases vx with
          | agg cs vs h2 hv =>
            obtain ⟨hl, rfl⟩ := List.getElem?_eq_some_iff.mp hq
            refine done_pure ?_ (hv n.toNat hl) hS
            have e := run_part1 (P := P) ha vs n.toNat (by omega) g.w
            simp [execOp, ho, hxv, hiv, Instr.index, asIntOf, run_underlying hu, hn0, hn1, run_sizeOf hi, h1, e]
      · contradiction
    · contradiction
  · contradiction

theorem sound_idxA (him : ∀ f x, im f = some x → M.fm x = f) (hF : FR M g d F a.tmps) (hS : SR M g t) {ty e : TypeId} {x i : Operand} {y j : Opd} {len s : Nat}
    (h : cmpOpd im d x = some y) (h' : cmpOpd im d i = some j) (hu : P.underlying ty = some (.array len e)) (ha : aggT P e = some true) (hs : sizeT P e = some s)
    (ho : o.op = .index ty x i) (hr : opIdxA len s y j call F t = .ok v t') : Done P M o a g v t' := by
  have vx := opd_ok him hF h
  have vi := opd_ok him hF h'
  obtain ⟨inf, hi, rfl⟩ := sizeT_ok hs
  unfold opIdxA at hr
  split at hr
  · rename_i k n hn
    rw [hn] at vi
    generalize hiv : a.eval i = iv at vi
    cases vi
    split at hr
    · rename_i cs hp
      split at hr
      · rename_i hnn
        obtain ⟨hn0, hn1, hl⟩ := hnn
        cases hr
        rw [hp] at vx
        generalize hxv : a.eval x = xv at vx
        cases vx with
        | agg cs vs h2 hv =>
          refine done_pure ?_ (agg_sub h2 hv (n.toNat * inf.size) inf.size hl) hS
          simp [execOp, ho, hxv, hiv, Instr.index, asIntOf, run_underlying hu, hn0, hn1, run_sizeOf hi, run_partA ha hi]
      · contradiction
    · contradiction
  · contradiction

theorem sound_ext (him : ∀ f x, im f = some x → M.fm x = f) (hF : FR M g d F a.tmps) (hS : SR M g t) {x : Operand} {y : Opd} {i : Nat} (h : cmpOpd im d x = some y)
    (ho : o.op = .extract x i) (hr : opExt y i call F t = .ok v t') : Done P M o a g v t' := by
  have vx := opd_ok him hF h
  unfold opExt at hr
  split at hr
  · rename_i cs hp
    cases hq : cs[i]? with
    | none => rw [hq] at hr; contradiction
    | some r =>
      rw [hq] at hr
      cases hr
      rw [hp] at vx
      generalize hxv : a.eval x = xv at vx
      cases vx with
      | tup cs vs h1 hv =>
        obtain ⟨hl, rfl⟩ := List.getElem?_eq_some_iff.mp hq
        refine done_pure (v' := vs.getD i undef) ?_ (hv i hl) hS
        have hl' : i < vs.size := by omega
        simp [execOp, ho, hxv, Instr.extract, Array.getD, hl']
  · contradiction

end

end M2
end
section
namespace M2
open Go

section
variable {P : Program} {M : Maps} {im : FuncId → Option Nat} {d : Nat} {g : G} {F : Fr} {a : Act} {o : Oper} {t t' : T} {v : AV} {call : CallF}

/-! #### aggregates are built -/

/-- cells of ours and the model's, side by side -/
def CellsR (M : Maps) (g : G) (cs : List AV) (vs : Array Value) : Prop := vs.size = cs.length ∧ ∀ i (h : i < cs.length), VR M g cs[i] (vs.getD i undef)

theorem VR.cellsR {x : AV} {xv : Value} (h : VR M g x xv) (hk : x.known = true) : CellsR M g x.cells xv.cells := h.cells hk

theorem foldl_writeAt (off : Nat) : ∀ (l : List Value) (k : Nat) (cs : Array Value),
    (l.zipIdx k).foldl (fun cs (c, j) => cs.setIfInBounds (off + j) c) cs = writeAt cs (off + k) l := by
  intro l
  induction l with
  | nil => intro k cs; rfl
  | cons c l ih =>
    intro k cs
    simp only [List.zipIdx_cons, List.foldl_cons, writeAt]
    rw [ih (k + 1)]
    rfl

theorem CellsR.putAt {cs zs : List AV} {vs us : Array Value} (h : CellsR M g cs vs) (h' : CellsR M g zs us) (off : Nat) (hl : off + zs.length ≤ cs.length) :
    CellsR M g (putAt cs off zs) (writeAt vs off us.toList) := by
  have h1 := h.1
  have h2 := h'.1
  refine ⟨by rw [writeAt_size, putAt_length _ _ _ hl, h1], fun q hq => ?_⟩
  have hq' : q < cs.length := by rw [putAt_length _ _ _ hl] at hq; exact hq
  rw [writeAt_getD _ _ _ _ (by simp; omega)]
  simp only [Array.length_toList]
  by_cases hin : off ≤ q ∧ q < off + us.size
  · rw [if_pos hin, putAt_in _ _ _ hl q hq hin.1 (by omega)]
    have e2 : us.toList.getD (q - off) undef = us.getD (q - off) undef := by
      simp [List.getD, Array.getD, show q - off < us.size by omega]
    rw [e2]
    exact h'.2 _ (by omega)
  · rw [if_neg hin, putAt_out _ _ _ hl q hq (by omega)]
    exact h.2 q hq'

theorem fill_ok (place : Nat → Option (Nat × Nat)) : ∀ (ps : List (Nat × Nat × Opd)) (qs : List (Nat × Value)) (cs : List AV) (vs : Array Value) (r : List AV),
    CellsR M g cs vs → fillA F cs ps = some r → qs.length = ps.length →
    (∀ i (h : i < ps.length) (h' : i < qs.length), place qs[i].1 = some (ps[i].1, ps[i].2.1) ∧ VR M g (ps[i].2.2.get F) qs[i].2) →
    ∃ us, Instr.fill place vs qs = some us ∧ CellsR M g r us := by
  intro ps
  induction ps with
  | nil =>
    intro qs cs vs r hc hf hl _
    have : qs = [] := List.length_eq_zero_iff.mp hl
    subst this
    cases hf
    exact ⟨vs, rfl, hc⟩
  | cons p ps ih =>
    intro qs cs vs r hc hf hl hq
    obtain ⟨off, size, x⟩ := p
    cases qs with
    | nil => simp at hl
    | cons q qs =>
      unfold fillA at hf
      split at hf
      · rename_i hcond
        simp only [Bool.and_eq_true] at hcond
        obtain ⟨⟨hk, hs⟩, hb⟩ := hcond
        have hs := Nat.eq_of_beq_eq_true hs
        have hb := Nat.le_of_ble_eq_true hb
        obtain ⟨hp, hv⟩ := hq 0 (by simp) (by simp)
        simp only [List.getElem_cons_zero] at hp hv
        have hcx := hv.cellsR hk
        obtain ⟨us, h1, h2⟩ := ih qs _ _ r (hc.putAt hcx off (by omega)) hf (by simpa using hl)
          (fun i h h' => by have := hq (i + 1) (by simpa using h) (by simpa using h'); simpa using this)
        refine ⟨us, ?_, h2⟩
        obtain ⟨qi, qv⟩ := q
        simp only at hp hcx
        unfold Instr.fill
        simp only [hp]
        have e1 := hcx.1
        have e2 := hc.1
        rw [if_neg (by simp; omega)]
        have e3 : qv.cells.zipIdx.foldl (fun cs (c, j) => cs.setIfInBounds (off + j) c) vs = writeAt vs off qv.cells.toList := by
          rw [← Array.foldl_toList, Array.toList_zipIdx]
          have := foldl_writeAt off qv.cells.toList 0 vs
          simpa using this
        rw [e3]
        exact h1
      · contradiction

theorem run_mapM_places (fs : Array Field) (places : List (Nat × Nat)) (h : fs.toList.mapM (fieldPl P) = some places) (w : World) :
    (fs.mapM fun f => do pure (f.offset, ← Go.sizeOf f.type) : Sem (Array (Nat × Nat))).run P w = .ok places.toArray w := by
  rw [Array.mapM_eq_mapM_toList, Sem.run_map]
  have key : ∀ (l : List Field) (r : List (Nat × Nat)) (w : World), l.mapM (fieldPl P) = some r →
      (l.mapM fun f => do pure (f.offset, ← Go.sizeOf f.type) : Sem (List (Nat × Nat))).run P w = .ok r w := by
    intro l
    induction l with
    | nil => intro r w h; simp at h; subst h; rfl
    | cons f l ih =>
      intro r w h
      simp only [List.mapM_cons, Option.bind_eq_bind, Option.pure_def, fieldPl] at h
      cases hs : sizeT P f.type with
      | none => simp [hs] at h
      | some s =>
        cases hl : l.mapM (fieldPl P) with
        | none => simp [hs, hl] at h
        | some rs =>
          simp [hs, hl] at h
          subst h
          obtain ⟨i, hi, rfl⟩ := sizeT_ok hs
          simp only [List.mapM_cons, Sem.run_bind, run_sizeOf hi, Result.andThen_ok, Sem.run_pure, ih rs w hl]
  rw [key _ _ w h]
  rfl

theorem sound_build (him : ∀ f x, im f = some x → M.fm x = f) (hF : FR M g d F a.tmps) (hS : SR M g t) {ty : TypeId} {parts : Array (Nat × Operand)} {ao : AOp}
    (hc : cmpBuild P im d ty parts = some ao) (ho : o.op = .build ty parts) (hr : ao.run call F t = .ok v t') : Done P M o a g v t' := by
  unfold cmpBuild at hc
  split at hc
  · contradiction
  rename_i z hz
  obtain ⟨ti, zv, hi, hzv, hk, hv⟩ := zeroOf_ok hz
  have hcz : CellsR M g z.cells zv.cells := (hv M g).cellsR hk
  split at hc
  · rename_i fs hu
    split at hc
    · contradiction
    rename_i places hp
    rw [Option.map_eq_some_iff] at hc
    obtain ⟨ps, hps, rfl⟩ := hc
    obtain ⟨hl, hg⟩ := mapM_get _ _ _ hps
    have hrun : (AOp.build z.cells ps).run call F t = opBuild z.cells ps call F t := rfl
    rw [hrun] at hr
    unfold opBuild at hr
    cases hfl : fillA F z.cells ps with
    | none => rw [hfl] at hr; contradiction
    | some r =>
      rw [hfl] at hr
      cases hr
      obtain ⟨us, h1, h2⟩ := fill_ok (fun i => (places.toArray)[i]?) ps (parts.map fun (i, x) => (i, a.eval x)).toList z.cells zv.cells r hcz hfl (by simp [hl]) (by
        intro i h h'
        have h'' : i < parts.toList.length := by simpa using h'
        have := hg i h'' h
        simp only [Array.toList_map, List.getElem_map]
        generalize parts.toList[i] = pr at this
        obtain ⟨pi, px⟩ := pr
        unfold partS at this
        split at this
        · rename_i q y hq hy
          simp only at hq hy
          simp only [Option.some.injEq] at this
          rw [← this]
          exact ⟨by simp [hq], opd_ok him hF hy⟩
        · contradiction)
      refine done_pure (v' := .agg us) ?_ (.agg r us h2.1 h2.2) hS
      have h1' : Instr.fill (fun x => places.toArray[x]?) zv.cells (parts.map fun (i, x) => (i, a.eval x)).toList = some us := h1
      simp only [execOp, ho, Instr.build, Sem.run_bind, run_zeroValue hi hzv, run_underlying hu, Result.andThen_ok, run_mapM_places fs places hp, h1', Sem.run_pure]
  · rename_i n e hu
    split at hc
    · contradiction
    rename_i s hs
    rw [Option.map_eq_some_iff] at hc
    obtain ⟨ps, hps, rfl⟩ := hc
    obtain ⟨hl, hg⟩ := mapM_get _ _ _ hps
    have hrun : (AOp.build z.cells ps).run call F t = opBuild z.cells ps call F t := rfl
    rw [hrun] at hr
    unfold opBuild at hr
    obtain ⟨ie, hie, rfl⟩ := sizeT_ok hs
    cases hfl : fillA F z.cells ps with
    | none => rw [hfl] at hr; contradiction
    | some r =>
      rw [hfl] at hr
      cases hr
      obtain ⟨us, h1, h2⟩ := fill_ok (fun i => some (i * ie.size, ie.size)) ps (parts.map fun (i, x) => (i, a.eval x)).toList z.cells zv.cells r hcz hfl (by simp [hl]) (by
        intro i h h'
        have h'' : i < parts.toList.length := by simpa using h'
        have := hg i h'' h
        simp only [Array.toList_map, List.getElem_map]
        generalize parts.toList[i] = pr at this
        obtain ⟨pi, px⟩ := pr
        unfold partR at this
        rw [Option.map_eq_some_iff] at this
        obtain ⟨y, hy, e⟩ := this
        rw [← e]
        exact ⟨rfl, opd_ok him hF hy⟩)
      refine done_pure (v' := .agg us) ?_ (.agg r us h2.1 h2.2) hS
      have h1' : Instr.fill (fun i => some (i * ie.size, ie.size)) zv.cells (parts.map fun (i, x) => (i, a.eval x)).toList = some us := h1
      simp only [execOp, ho, Instr.build, Sem.run_bind, run_zeroValue hi hzv, run_underlying hu, Result.andThen_ok, run_sizeOf hie, h1', Sem.run_pure]
  · contradiction

end

end M2
end
section
namespace M2
open Go

section
variable {P : Program} {M : Maps} {im : FuncId → Option Nat} {d : Nat} {g : G} {F : Fr} {a : Act} {o : Oper} {t t' : T} {v : AV} {call : CallF}

/-! #### rows of elements -/

def EsR (M : Maps) (g : G) (e : Nat) (es : List AV) (vs : Array Value) : Prop :=
  es.length * e ≤ vs.size ∧ ∃ f : Nat → Value, (∀ i (h : i < es.length), VR M g es[i] (f i)) ∧ (∀ i, i < es.length → (f i).cells.size = e) ∧
    ∀ i j, i < es.length → j < e → vs[i * e + j]? = (f i).cells[j]?

theorem in_row {i j e n : Nat} (hi : i < n) (hj : j < e) : i * e + j < n * e := by
  have := Nat.mul_le_mul_right e (Nat.succ_le_of_lt hi)
  rw [Nat.succ_mul] at this
  omega

theorem row_ne {i j k l e : Nat} (hj : j < e) (hl : l < e) (h : i * e + j = k * e + l) : i = k := by
  rcases Nat.lt_trichotomy i k with hlt | heq | hgt
  · have := Nat.mul_le_mul_right e (Nat.succ_le_of_lt hlt)
    rw [Nat.succ_mul] at this
    omega
  · exact heq
  · have := Nat.mul_le_mul_right e (Nat.succ_le_of_lt hgt)
    rw [Nat.succ_mul] at this
    omega

theorem writeAt_get? (vs : List Value) : ∀ (c : Array Value) (k j : Nat), k + vs.length ≤ c.size →
    (writeAt c k vs)[j]? = if k ≤ j ∧ j < k + vs.length then vs[j - k]? else c[j]? := by
  induction vs with
  | nil => intro c k j _; rw [writeAt, if_neg (by simp)]
  | cons v vs ih =>
    intro c k j h
    simp only [List.length_cons] at h ⊢
    rw [writeAt, ih _ _ _ (by simp; omega)]
    by_cases h1 : k + 1 ≤ j ∧ j < k + 1 + vs.length
    · rw [if_pos h1, if_pos (by omega)]
      obtain ⟨m, rfl⟩ : ∃ m, j = k + (m + 1) := ⟨j - k - 1, by omega⟩
      simp [show k + (m + 1) - (k + 1) = m by omega, show k + (m + 1) - k = m + 1 by omega]
    · rw [if_neg h1]
      by_cases h2 : j = k
      · subst h2
        rw [if_pos (by omega)]
        simp [show j < c.size by omega]
      · rw [if_neg (by omega)]
        simp [Array.getElem?_setIfInBounds_ne, Ne.symm h2]

theorem EsR.zero {z : AV} {zv : Value} (hz : VR M g z zv) (n : Nat) (w : Array Value) (hw : ∀ q, q < n * zv.cells.size → w[q]? = zv.cells[q % zv.cells.size]?) (hs : n * zv.cells.size ≤ w.size) :
    EsR M g zv.cells.size (List.replicate n z) w := by
  refine ⟨by simpa using hs, fun _ => zv, fun i h => ?_, fun i h => rfl, fun i j hi hj => ?_⟩
  · simpa using hz
  · have hi' : i < n := by simpa using hi
    rw [hw _ (in_row hi' hj), Nat.mul_comm, Nat.mul_add_mod, Nat.mod_eq_of_lt hj]

theorem EsR.set {e : Nat} {es : List AV} {vs : Array Value} (h : EsR M g e es vs) {x : AV} {xv : Value} (hx : VR M g x xv) (hs : xv.cells.size = e) (i : Nat) (hi : i < es.length) :
    EsR M g e (es.set i x) (writeAt vs (i * e) xv.cells.toList) := by
  obtain ⟨h1, f, h2, h3, h4⟩ := h
  have hle : i * e + e ≤ es.length * e := by
    have := Nat.mul_le_mul_right e (Nat.succ_le_of_lt hi)
    rw [Nat.succ_mul] at this
    exact this
  refine ⟨by simpa [writeAt_size] using h1, fun k => if k = i then xv else f k, fun k hk => ?_, fun k hk => ?_, fun k j hk hj => ?_⟩
  · by_cases hki : k = i
    · subst hki; simpa using hx
    · simp only [hki, if_false]
      rw [List.getElem_set_ne (Ne.symm hki)]
      exact h2 k (by simpa using hk)
  · by_cases hki : k = i
    · simp [hki, hs]
    · simp only [hki, if_false]; exact h3 k (by simpa using hk)
  · rw [writeAt_get? _ _ _ _ (by simp; omega)]
    simp only [Array.length_toList, hs]
    by_cases hki : k = i
    · subst hki
      rw [if_pos (by omega)]
      simp [show k * e + j - k * e = j by omega]
    · rw [if_neg, h4 k j (by simpa using hk) hj]
      · simp [hki]
      · rintro ⟨q1, q2⟩
        exact hki (row_ne (l := k * e + j - i * e) hj (by omega) (by omega))

theorem fillS_ok {e : Nat} : ∀ (ps : List (Nat × Opd)) (qs : List (Nat × Value)) (es : List AV) (vs : Array Value) (r : List AV),
    EsR M g e es vs → fillS F e es ps = some r → qs.length = ps.length →
    (∀ i (h : i < ps.length) (h' : i < qs.length), qs[i].1 = ps[i].1 ∧ VR M g (ps[i].2.get F) qs[i].2) →
    ∃ us, Instr.fill (fun i => some (i * e, e)) vs qs = some us ∧ EsR M g e r us ∧ us.size = vs.size ∧ r.length = es.length := by
  intro ps
  induction ps with
  | nil =>
    intro qs es vs r hc hf hl _
    have : qs = [] := List.length_eq_zero_iff.mp hl
    subst this
    cases hf
    exact ⟨vs, rfl, hc, rfl, rfl⟩
  | cons p ps ih =>
    intro qs es vs r hc hf hl hq
    obtain ⟨i, x⟩ := p
    cases qs with
    | nil => simp at hl
    | cons q qs =>
      unfold fillS at hf
      split at hf
      · rename_i hcond
        simp only [Bool.and_eq_true] at hcond
        obtain ⟨⟨hk, hs⟩, hb⟩ := hcond
        have hs := Nat.eq_of_beq_eq_true hs
        have hb : i < es.length := Nat.le_of_ble_eq_true hb
        obtain ⟨hp, hv⟩ := hq 0 (by simp) (by simp)
        simp only [List.getElem_cons_zero] at hp hv
        have hcx := hv.cells hk
        obtain ⟨qi, qv⟩ := q
        simp only at hp hcx hv
        subst hp
        have hsz : qv.cells.size = e := by omega
        obtain ⟨us, h1, h2, h3, h4⟩ := ih qs _ _ r (hc.set hv hsz qi hb) hf (by simpa using hl)
          (fun i h h' => by have := hq (i + 1) (by simpa using h) (by simpa using h'); simpa using this)
        refine ⟨us, ?_, h2, by rw [h3, writeAt_size], by simpa using h4⟩
        unfold Instr.fill
        simp only
        have e2 := hc.1
        have hle : qi * e + e ≤ es.length * e := by
          have := Nat.mul_le_mul_right e (Nat.succ_le_of_lt hb)
          rw [Nat.succ_mul] at this
          exact this
        rw [if_neg (by simp; omega)]
        have e3 : qv.cells.zipIdx.foldl (fun cs (c, j) => cs.setIfInBounds (qi * e + j) c) vs = writeAt vs (qi * e) qv.cells.toList := by
          rw [← Array.foldl_toList, Array.toList_zipIdx]
          have := foldl_writeAt (qi * e) qv.cells.toList 0 vs
          simpa using this
        rw [e3]
        exact h1
      · contradiction

/-- a slice over a new row -/
theorem EsR.slice {e : Nat} {es : List AV} {vs : Array Value} (hok : ∀ i, g.ok i → i < g.n) (h : EsR M g e es vs) (ty : TypeId) (cap extra ccap : Nat) (fl : Bool)
    (hc : es.length ≤ cap) (hcc : ccap = cap + (if fl then extra else 0)) :
    VR M (g.addRow vs ty (es.length * e) extra) (.sl g.n e 0 cap fl 0 es) (.slice (some ⟨g.w.heap.size, 0, none⟩) es.length ccap) := by
  obtain ⟨h1, f, h2, h3, h4⟩ := h
  have hle := g.le_addRow hok vs ty (es.length * e) extra
  have hn : (g.addRow vs ty (es.length * e) extra).ρ g.n = ⟨g.w.heap.size, 0, extra⟩ := setAt_same _ _ _
  refine .sl g.n e 0 cap fl 0 es _ 0 ccap f (.inr rfl) (by rw [hn]; exact hcc) (by rw [hn]) (by rw [hn]; simp) hc
    (fun i hi => (h2 i hi).mono hle) h3 (fun i j hi hj => ?_) ?_
  · rw [← h4 i j hi hj]
    show (g.w.alloc (.cells vs ty)).cell? _ = _
    unfold World.cell?
    rw [show (g.w.alloc (.cells vs ty)).heap[(⟨g.w.heap.size, 0 + i * e + j, none⟩ : Addr).block]? = _ from heap_alloc_new]
    simp
  · refine ⟨by simp [G.addRow], by simp [G.addRow, setAt_same, Own.fix]⟩

theorem zeros_get (zc : Array Value) (n q : Nat) (hq : q < n * zc.size) : ((Array.range (n * zc.size)).map (fun i => zc[i % zc.size]!))[q]? = zc[q % zc.size]? := by
  have hp : 0 < zc.size := by
    rcases Nat.eq_zero_or_pos zc.size with h | h
    · rw [h] at hq; simp at hq
    · exact h
  have hm : q % zc.size < zc.size := Nat.mod_lt _ hp
  simp [hq, hm]

theorem sound_buildS (him : ∀ f x, im f = some x → M.fm x = f) (hF : FR M g d F a.tmps) (hS : SR M g t) {ty e : TypeId} {len : Nat} {parts : Array (Nat × Operand)} {z : AV} {s b : Nat} {ps : List (Nat × Opd)}
    (hu : P.underlying ty = some (.slice e)) (he : elemT P e = some (z, s, b)) (hl : len * s ≤ 2 ^ 24) (hps : parts.toList.mapM (partB im d) = some ps)
    (ho : o.op = .buildSlice ty len parts) (hr : opBuildS s len z ps call F t = .ok v t') : Done P M o a g v t' := by
  obtain ⟨i, zv, hi, hz, rfl, hb, hk, hzl, hv⟩ := elemT_ok he
  unfold opBuildS at hr
  split at hr
  · rename_i vs hf
    cases hr
    have hvz := hv M g
    have hcz := hvz.cells hk
    have hsz : zv.cells.size = i.size := by omega
    obtain ⟨hml, hmg⟩ := mapM_get _ _ _ hps
    have hE : EsR M g zv.cells.size (List.replicate len z) ((Array.range (len * zv.cells.size)).map (fun q => zv.cells[q % zv.cells.size]!)) :=
      EsR.zero hvz len _ (fun q hq => zeros_get _ _ _ hq) (by simp)
    rw [hsz] at hE
    obtain ⟨us, h1, h2, h3, h4⟩ := fillS_ok ps (parts.map fun (i, x) => (i, a.eval x)).toList _ _ vs hE hf (by simp [hml]) (by
      intro j h h'
      have h'' : j < parts.toList.length := by simpa using h'
      have := hmg j h'' h
      simp only [Array.toList_map, List.getElem_map]
      generalize parts.toList[j] = pr at this
      obtain ⟨pi, px⟩ := pr
      unfold partB at this
      rw [Option.map_eq_some_iff] at this
      obtain ⟨y, hy, e⟩ := this
      rw [← e]
      exact ⟨rfl, opd_ok him hF hy⟩)
    have hlen : vs.length = len := by simpa using h4
    have hsl := EsR.slice hS.hok h2 e len 0 len false (by omega) (by simp)
    rw [hS.n] at hsl
    have hbump := hS.bumpRow us e (vs.length * i.size) 0
    rw [hlen] at hsl hbump
    refine done_value (g' := g.addRow us e (len * i.size) 0) ?_ (g.le_addRow hS.hok _ _ _ _) (by rw [hlen] at *; exact hsl) hbump
    simp only [execOp, ho, Instr.buildSlice, Sem.run_bind, run_underlying hu, Result.andThen_ok, run_sizeOf hi]
    rw [if_neg (by omega)]
    by_cases h0 : len * i.size = 0
    · simp only [h0, if_true, Sem.run_pure]
      simp only [h0] at h1
      have h1' : Instr.fill (fun i_1 => some (i_1 * i.size, i.size)) ((Array.range 0).map fun q => (#[] : Array Value)[q % (#[] : Array Value).size]!) (parts.map fun (i, x) => (i, a.eval x)).toList = some us := by
        have e0 : Array.range 0 = #[] := rfl
        rw [e0, Array.map_empty] at h1 ⊢
        exact h1
      simp only [Result.andThen_ok, h1', Sem.run_bind, newRow, run_newObj, Sem.run_pure]
      rfl
    · simp only [h0, if_false, Sem.run_bind, run_zeroValue hi hz, Result.andThen_ok, Sem.run_pure]
      simp only [hsz, h1, newRow, Sem.run_bind, run_newObj, Result.andThen_ok, Sem.run_pure]
      rfl
  · contradiction

theorem sound_buildSo (him : ∀ f x, im f = some x → M.fm x = f) (hF : FR M g d F a.tmps) (hS : SR M g t) {ty e : TypeId} {len : Nat} {parts : Array (Nat × Operand)} {z : AV} {s b : Nat} {ps : List (Nat × Opd)}
    (hu : P.underlying ty = some (.slice e)) (he : elemT P e = some (z, s, b)) (hl : len * s ≤ 2 ^ 24) (hps : parts.toList.mapM (partB im d) = some ps)
    (ho : o.op = .buildSlice ty len parts) (hr : opBuildSo s len z ps call F t = .ok v t') : Done P M o a g v t' := by
  obtain ⟨i, zv, hi, hz, rfl, hb, hk, hzl, hv⟩ := elemT_ok he
  unfold opBuildSo at hr
  split at hr
  · rename_i vs hf
    cases hr
    have hvz := hv M g
    have hcz := hvz.cells hk
    have hsz : zv.cells.size = i.size := by omega
    obtain ⟨hml, hmg⟩ := mapM_get _ _ _ hps
    have hE : EsR M g zv.cells.size (List.replicate len z) ((Array.range (len * zv.cells.size)).map (fun q => zv.cells[q % zv.cells.size]!)) :=
      EsR.zero hvz len _ (fun q hq => zeros_get _ _ _ hq) (by simp)
    rw [hsz] at hE
    obtain ⟨us, h1, h2, h3, h4⟩ := fillS_ok ps (parts.map fun (i, x) => (i, a.eval x)).toList _ _ vs hE hf (by simp [hml]) (by
      intro j h h'
      have h'' : j < parts.toList.length := by simpa using h'
      have := hmg j h'' h
      simp only [Array.toList_map, List.getElem_map]
      generalize parts.toList[j] = pr at this
      obtain ⟨pi, px⟩ := pr
      unfold partB at this
      rw [Option.map_eq_some_iff] at this
      obtain ⟨y, hy, e⟩ := this
      rw [← e]
      exact ⟨rfl, opd_ok him hF hy⟩)
    have hlen : vs.length = len := by simpa using h4
    have hsl := EsR.slice hS.hok h2 e len 0 len false (by omega) (by simp)
    rw [hS.n] at hsl
    have hus : vs.length * i.size ≤ us.size := h2.1
    have hbump := hS.newI us e (vs.length * i.size) i.size 0 (by simpa using hus)
    rw [hlen] at hsl hbump
    refine done_value (g' := g.addRow us e (len * i.size) 0) ?_ (g.le_addRow hS.hok _ _ _ _) (by rw [hlen] at *; exact hsl) hbump
    simp only [execOp, ho, Instr.buildSlice, Sem.run_bind, run_underlying hu, Result.andThen_ok, run_sizeOf hi]
    rw [if_neg (by omega)]
    by_cases h0 : len * i.size = 0
    · simp only [h0, if_true, Sem.run_pure]
      simp only [h0] at h1
      have h1' : Instr.fill (fun i_1 => some (i_1 * i.size, i.size)) ((Array.range 0).map fun q => (#[] : Array Value)[q % (#[] : Array Value).size]!) (parts.map fun (i, x) => (i, a.eval x)).toList = some us := by
        have e0 : Array.range 0 = #[] := rfl
        rw [e0, Array.map_empty] at h1 ⊢
        exact h1
      simp only [Result.andThen_ok, h1', Sem.run_bind, newRow, run_newObj, Sem.run_pure]
      rfl
    · simp only [h0, if_false, Sem.run_bind, run_zeroValue hi hz, Result.andThen_ok, Sem.run_pure]
      simp only [hsz, h1, newRow, Sem.run_bind, run_newObj, Result.andThen_ok, Sem.run_pure]
      rfl
  · contradiction

end

end M2
end
section
namespace M2
open Go

section
variable {P : Program} {M : Maps} {im : FuncId → Option Nat} {d : Nat} {g : G} {F : Fr} {a : Act} {o : Oper} {t t' : T} {v : AV} {call : CallF}

theorem wrap_id {n : Int} (h1 : -9223372036854775808 ≤ n) (h2 : n < 9223372036854775808) : IntKind.i64.wrap n = n := by
  have e1 : (2 : Int) ^ IntKind.i64.bits = 18446744073709551616 := by decide
  have e2 : (2 : Int) ^ (IntKind.i64.bits - 1) = 9223372036854775808 := by decide
  unfold IntKind.wrap
  rw [e1, e2]
  simp only [IntKind.signed, Bool.true_and, decide_eq_true_eq]
  split <;> omega

theorem imag_eq (p : Array TypeId) (ty : TypeId) (x y : Nat) : Builtin.imag_ p ty #[.complex .f64 x y] = pure (.float .f64 y) := rfl
theorem real_eq (p : Array TypeId) (ty : TypeId) (x y : Nat) : Builtin.real_ p ty #[.complex .f64 x y] = pure (.float .f64 x) := rfl
theorem complex_eq (p : Array TypeId) (ty : TypeId) (x y : Nat) : Builtin.complex_ p ty #[.float .f64 x, .float .f64 y] = pure (.complex .f64 x y) := rfl

theorem sound_mkS (him : ∀ f x, im f = some x → M.fm x = f) (hF : FR M g d F a.tmps) (hS : SR M g t) {ty e : TypeId} {ln cp : Operand} {l' c' : Opd} {z : AV} {s b : Nat}
    (hu : P.underlying ty = some (.slice e)) (he : elemT P e = some (z, s, b)) (h1 : cmpOpd im d ln = some l') (h2 : cmpOpd im d cp = some c')
    (ho : o.op = .makeSlice ty ln cp) (hr : opMkS s b z l' c' call F t = .ok v t') : Done P M o a g v t' := by
  obtain ⟨i, zv, hi, hz, rfl, rfl, hk, hzl, hv⟩ := elemT_ok he
  have vl := opd_ok him hF h1
  have vc := opd_ok him hF h2
  unfold opMkS at hr
  split at hr
  · rename_i l c el ec
    split at hr
    · rename_i hcond
      obtain ⟨hl0, hlc, hb, hcb⟩ := hcond
      cases hr
      rw [el] at vl
      rw [ec] at vc
      generalize hlv : a.eval ln = lv at vl
      generalize hcv : a.eval cp = cv at vc
      cases vl
      cases vc
      have hvz := hv M g
      have hcz := hvz.cells hk
      have hsz : zv.cells.size = i.size := by omega
      have wl : IntKind.i64.wrap l = l := wrap_id (by omega) (by omega)
      have wc : IntKind.i64.wrap c = c := wrap_id (by omega) (by omega)
      have hE : EsR M g zv.cells.size (List.replicate l.toNat z) ((Array.range (c.toNat * zv.cells.size)).map (fun q => zv.cells[q % zv.cells.size]!)) := by
        refine EsR.zero hvz l.toNat _ (fun q hq => zeros_get _ _ _ ?_) ?_
        · exact Nat.lt_of_lt_of_le hq (Nat.mul_le_mul_right _ (by omega))
        · simp; exact Nat.mul_le_mul_right _ (by omega)
      rw [hsz] at hE
      have hsl := EsR.slice hS.hok hE e l.toNat (c.toNat - l.toNat) c.toNat true (by simp) (by simp; omega)
      have hnew := hS.newI ((Array.range (c.toNat * i.size)).map (fun q => zv.cells[q % i.size]!)) e (l.toNat * i.size) i.size (c.toNat - l.toNat) (by
        simp only [Array.size_map, Array.size_range]
        rw [← Nat.add_mul]
        exact Nat.mul_le_mul_right _ (by omega))
      rw [hS.n] at hsl
      simp only [List.length_replicate] at hsl
      refine done_value (g' := g.addRow ((Array.range (c.toNat * i.size)).map (fun q => zv.cells[q % i.size]!)) e (l.toNat * i.size) (c.toNat - l.toNat)) ?_ (g.le_addRow hS.hok _ _ _ _) hsl hnew
      have hc0 : 0 ≤ c := by omega
      have hm : ((i.bytes : Int) * c) ≤ 2 ^ 48 := hb
      have ntc : (decide (c < 0) || decide ((i.bytes : Int) * c > 2 ^ 48)) = false := by simp; omega
      simp only [execOp, ho, hlv, hcv, Instr.makeSlice, Sem.run_bind, run_underlying hu, Result.andThen_ok, asInt, run_asIntOf, Sem.run_pure, run_typeInfo hi, wl, wc]
      rw [if_neg (by simp; omega)]
      simp only [Sem.run_bind, run_askRoom, Result.andThen_ok, run_sizeOf hi]
      by_cases h0 : c.toNat * i.size = 0
      · simp only [h0, if_true, Sem.run_pure, Result.andThen_ok, newRow, Sem.run_bind, run_newObj]
        have e0 : Array.range 0 = #[] := rfl
        simp only [e0, Array.map_empty]
        rfl
      · simp only [h0, if_false, Sem.run_bind, run_zeroValue hi hz, Result.andThen_ok, Sem.run_pure, newRow, run_newObj, hsz]
        rfl
    · contradiction
  · contradiction

/-! #### lengths, parts, functions -/

theorem sound_len (him : ∀ f x, im f = some x → M.fm x = f) (hF : FR M g d F a.tmps) (hS : SR M g t) {c : Call} {x : Operand} {y : Opd} {u : TypeDesc} {str : Bool}
    (h : cmpOpd im d x = some y) (hu : P.underlying (c.argTypes.getD 0 0) = some u) (hn : c.argTypes.size = 1) (hk : if str then u = .string else ∃ e, u = .slice e) (hc : c.callee = .builtin .len) (hargs : c.args = #[x])
    (ho : o.op = .call c) (hr : opLen str y call F t = .ok v t') : Done P M o a g v t' := by
  have vx := opd_ok him hF h
  obtain ⟨ty, hty⟩ : ∃ ty, c.argTypes[0]? = some ty := ⟨c.argTypes[0], by simp [hn]⟩
  have hu' : P.underlying ty = some u := by
    rw [← hu]; congr 1; simp [Array.getD_eq_getD_getElem?, hty]
  have key : ∀ rv, (Builtin.len_ c.argTypes o.type #[a.eval x]).run P g.w = .ok rv g.w → (execOp a.eval o).run P g.w = .ok (.value rv) g.w := by
    intro rv hrv
    simp [execOp, ho, resolve, hc, hargs, invoke, builtin, hrv]
  unfold opLen at hr
  split at hr
  · rename_i s hp
    cases hr
    simp only [if_true] at hk
    subst hk
    rw [hp] at vx
    generalize hxv : a.eval x = xv at vx key
    cases vx
    exact done_pure (v' := .int .i64 s.length) (key _ (by simp [Builtin.len_, hty, run_underlying hu', goInt, ByteArray.size_mk'])) (.int _ _) hS
  all_goals try contradiction
  all_goals
    cases hr
    simp only [Bool.false_eq_true, if_false] at hk
    obtain ⟨e, rfl⟩ := hk
    rename_i hp
    rw [hp] at vx
    generalize hxv : a.eval x = xv at vx key
    cases vx
    exact done_pure (key _ (by simp [Builtin.len_, hty, run_underlying hu', goInt])) (.int _ _) hS

theorem sound_cpx (him : ∀ f x, im f = some x → M.fm x = f) (hF : FR M g d F a.tmps) (hS : SR M g t) {c : Call} {x y : Operand} {x' y' : Opd}
    (h : cmpOpd im d x = some x') (h' : cmpOpd im d y = some y') (hc : c.callee = .builtin .complex) (hargs : c.args = #[x, y])
    (ho : o.op = .call c) (hr : opCpx x' y' call F t = .ok v t') : Done P M o a g v t' := by
  have vx := opd_ok him hF h
  have vy := opd_ok him hF h'
  unfold opCpx at hr
  split at hr
  · rename_i p q e1 e2
    cases hr
    rw [e1] at vx
    rw [e2] at vy
    generalize hxv : a.eval x = xv at vx
    generalize hyv : a.eval y = yv at vy
    cases vx
    cases vy
    exact done_pure (v' := .complex .f64 p q) (by simp [execOp, ho, resolve, hc, hargs, invoke, builtin, complex_eq, hxv, hyv]) (.cpx _ _) hS
  · contradiction

theorem sound_re (him : ∀ f x, im f = some x → M.fm x = f) (hF : FR M g d F a.tmps) (hS : SR M g t) {c : Call} {x : Operand} {x' : Opd}
    (h : cmpOpd im d x = some x') (hc : c.callee = .builtin .real) (hargs : c.args = #[x])
    (ho : o.op = .call c) (hr : opRe x' call F t = .ok v t') : Done P M o a g v t' := by
  have vx := opd_ok him hF h
  unfold opRe at hr
  split at hr
  · rename_i p q e1
    cases hr
    rw [e1] at vx
    generalize hxv : a.eval x = xv at vx
    cases vx
    exact done_pure (v' := .float .f64 p) (by simp [execOp, ho, resolve, hc, hargs, invoke, builtin, real_eq, hxv]) (.flt _) hS
  · contradiction

theorem sound_im (him : ∀ f x, im f = some x → M.fm x = f) (hF : FR M g d F a.tmps) (hS : SR M g t) {c : Call} {x : Operand} {x' : Opd}
    (h : cmpOpd im d x = some x') (hc : c.callee = .builtin .imag) (hargs : c.args = #[x])
    (ho : o.op = .call c) (hr : opIm x' call F t = .ok v t') : Done P M o a g v t' := by
  have vx := opd_ok him hF h
  unfold opIm at hr
  split at hr
  · rename_i p q e1
    cases hr
    rw [e1] at vx
    generalize hxv : a.eval x = xv at vx
    cases vx
    exact done_pure (v' := .float .f64 q) (by simp [execOp, ho, resolve, hc, hargs, invoke, builtin, imag_eq, hxv]) (.flt _) hS
  · contradiction

theorem sound_mnx (him : ∀ f x, im f = some x → M.fm x = f) (hF : FR M g d F a.tmps) (hS : SR M g t) {c : Call} {x y : Operand} {x' y' : Opd} {mx : Bool}
    (h : cmpOpd im d x = some x') (h' : cmpOpd im d y = some y') (hc : c.callee = .builtin (if mx then .max else .min)) (hargs : c.args = #[x, y])
    (ho : o.op = .call c) (hr : opMnx mx x' y' call F t = .ok v t') : Done P M o a g v t' := by
  have vx := opd_ok him hF h
  have vy := opd_ok him hF h'
  unfold opMnx at hr
  split at hr
  · rename_i k p k' q e1 e2
    cases hr
    rw [e1] at vx
    rw [e2] at vy
    generalize hxv : a.eval x = xv at vx
    generalize hyv : a.eval y = yv at vy
    cases vx
    cases vy
    refine done_pure ?_ (.int _ _) hS
    cases mx
    · simp [execOp, ho, resolve, hc, hargs, invoke, builtin, Builtin.min_, Builtin.min2, hxv, hyv]
    · simp [execOp, ho, resolve, hc, hargs, invoke, builtin, Builtin.max_, Builtin.max2, hxv, hyv]
  · contradiction

theorem sound_mkfn (him : ∀ f x, im f = some x → M.fm x = f) (hF : FR M g d F a.tmps) (hS : SR M g t) {f : FuncId} {n : Nat} {first cap : Array Operand} {fs cs : List Opd}
    (hf : im f = some n) (h1 : cmpOpds im d first = some fs) (h2 : cmpOpds im d cap = some cs) (ho : o.op = .makeFunc (.func f) first cap) (hr : opMkfn n fs cs call F t = .ok v t') :
    Done P M o a g v t' := by
  cases hr
  obtain ⟨a1, a2⟩ := opds_ok him hF h1
  obtain ⟨b1, b2⟩ := opds_ok him hF h2
  have := him f n hf
  subst this
  exact done_pure (v' := .func (.func (M.fm n)) (first.map a.eval) (cap.map a.eval)) (by simp [execOp, ho, Instr.makeFunc]) (.fn n _ _ _ _ a1 b1 a2 b2) hS

/-! #### calls -/

theorem run_callFunc {f : FuncId} (hg : Good P f) (args : Array Value) (w : World) : (callFunc f args).run P w = .ok (.enter f args) w := by
  obtain ⟨fn, h1, h2, h3⟩ := hg
  simp only [callFunc, Sem.run_bind, run_program, Result.andThen_ok, h1, h2, h3, Bool.false_eq_true, if_false, Sem.run_pure]

theorem done_call (hcall : CallOK P M call) (hS : SR M g t) {n : Nat} {xs : List AV} {cargs : Array Value} (hn : cargs.size = xs.length) (hx : ∀ i (h : i < xs.length), VR M g xs[i] (cargs.getD i undef))
    (hr : call n xs t = .ok v t') (hrun : (execOp a.eval o).run P g.w = (callFunc (M.fm n) cargs).run P g.w) : Done P M o a g v t' := by
  intro next Q K
  unfold Oper.wp
  obtain ⟨hgood, hc⟩ := hcall n xs t v t' hr
  rw [hrun, run_callFunc hgood]
  show Calls P (M.fm n) cargs g.w _
  refine (hc g cargs hS hn hx).mono ?_
  rintro e w' ⟨rv, g', rfl, rfl, hle, hv, hs⟩
  exact K g' rv hle hv hs

theorem sound_call (him : ∀ f x, im f = some x → M.fm x = f) (hcall : CallOK P M call) (hF : FR M g d F a.tmps) (hS : SR M g t) {c : Call} {f : FuncId} {n : Nat} {xs : List Opd}
    (hf : im f = some n) (h1 : cmpOpds im d c.args = some xs) (hc : c.callee = .value (.func f)) (ho : o.op = .call c) (hr : opCall n xs call F t = .ok v t') : Done P M o a g v t' := by
  obtain ⟨a1, a2⟩ := opds_ok him hF h1
  have := him f n hf
  subst this
  refine done_call hcall hS a1 a2 hr ?_
  simp [execOp, ho, resolve, hc, Act.eval, Deferred.ofValue, invoke]

theorem sound_calld (him : ∀ f x, im f = some x → M.fm x = f) (hcall : CallOK P M call) (hF : FR M g d F a.tmps) (hS : SR M g t) {c : Call} {x : Nat} {y : Opd} {xs : List Opd}
    (hx : cmpOpd im d (.tmp x) = some y) (h1 : cmpOpds im d c.args = some xs) (hc : c.callee = .value (.tmp x)) (ho : o.op = .call c) (hr : opCalld y xs call F t = .ok v t') : Done P M o a g v t' := by
  obtain ⟨a1, a2⟩ := opds_ok him hF h1
  have vx := opd_ok him hF hx
  unfold opCalld at hr
  split at hr
  · rename_i n first cap hp
    rw [hp] at vx
    generalize hxv : a.eval (.tmp x) = xv at vx
    cases vx with
    | fn n first cap vs cs h1 h2 hv hcc =>
      refine done_call hcall hS (cargs := vs ++ c.args.map a.eval ++ cs) ?_ ?_ hr ?_
      · simp only [Array.size_append, List.length_append]
        omega
      · intro i hi
        have s1 : vs.size = first.length := h1
        have s2 : (c.args.map a.eval).size = (xs.map (·.get F)).length := a1
        have s3 : cs.size = cap.length := h2
        by_cases i1 : i < first.length
        · rw [List.getElem_append_left (by simp only [List.length_append]; omega), List.getElem_append_left i1]
          have : (vs ++ c.args.map a.eval ++ cs).getD i undef = vs.getD i undef := by
            simp only [Array.getD_eq_getD_getElem?]
            rw [Array.getElem?_append_left (by simp only [Array.size_append]; omega), Array.getElem?_append_left (by omega)]
          rw [this]; exact hv i i1
        · by_cases i2 : i < first.length + (xs.map (·.get F)).length
          · rw [List.getElem_append_left (by simp only [List.length_append]; omega), List.getElem_append_right (by omega)]
            have : (vs ++ c.args.map a.eval ++ cs).getD i undef = (c.args.map a.eval).getD (i - first.length) undef := by
              simp only [Array.getD_eq_getD_getElem?]
              rw [Array.getElem?_append_left (by simp only [Array.size_append]; omega), Array.getElem?_append_right (by omega), s1]
            rw [this]; exact a2 _ (by omega)
          · have hlen : i < first.length + (xs.map (·.get F)).length + cap.length := by simpa only [List.length_append] using hi
            rw [List.getElem_append_right (by simp only [List.length_append]; omega)]
            have : (vs ++ c.args.map a.eval ++ cs).getD i undef = cs.getD (i - (first ++ xs.map (·.get F)).length) undef := by
              simp only [Array.getD_eq_getD_getElem?]
              rw [Array.getElem?_append_right (by simp only [Array.size_append]; omega)]
              simp only [Array.size_append, List.length_append, s1, s2]
            rw [this]; exact hcc _ (by simp only [List.length_append]; omega)
      · simp [execOp, ho, resolve, hc, hxv, Deferred.ofValue, invoke]
  · contradiction

end

end M2
end
section
namespace M2
open Go

section
variable {P : Program} {M : Maps} {im : FuncId → Option Nat} {d : Nat} {g : G} {F : Fr} {a : Act} {o : Oper} {t t' : T} {v : AV} {call : CallF}

/-! #### slices of strings and slices -/

theorem bnd_ok (him : ∀ f x, im f = some x → M.fm x = f) (hF : FR M g d F a.tmps) {x : Option Operand} {y : Option Opd} (h : cmpOpdO im d x = some y) {dflt most r : Nat}
    (hb : bnd y F dflt most = some r) : (x = none ∧ y = none ∧ r = dflt) ∨ ∃ x' k i, x = some x' ∧ y.isSome = true ∧ a.eval x' = .int k i ∧ 0 ≤ i ∧ i ≤ most ∧ r = i.toNat := by
  cases x with
  | none =>
    cases h
    cases hb
    exact .inl ⟨rfl, rfl, rfl⟩
  | some x =>
    simp only [cmpOpdO, Option.map_eq_some_iff] at h
    obtain ⟨z, hz, rfl⟩ := h
    have vz := opd_ok him hF hz
    unfold bnd at hb
    simp only at hb
    split at hb
    · rename_i k i hi
      rw [hi] at vz
      generalize hxv : a.eval x = xv at vz
      cases vz
      split at hb
      · rename_i hh
        cases hb
        exact .inr ⟨x, k, i, rfl, rfl, hxv, hh.1, hh.2, rfl⟩
      · contradiction
    · contradiction

theorem run_sliceBound {k : IntKind} {i : Int} {y : Nat} (code : BoundsCode) (h0 : 0 ≤ i) (h1 : i ≤ y) (w : World) : (Instr.sliceBound (.int k i) y code).run P w = .ok i.toNat w := by
  simp [Instr.sliceBound, run_asIntOf, h0, h1]

theorem sound_slS (him : ∀ f x, im f = some x → M.fm x = f) (hF : FR M g d F a.tmps) (hS : SR M g t) {ty : TypeId} {x : Operand} {lo hi : Option Operand} {y : Opd} {l' h' : Option Opd}
    (hx : cmpOpd im d x = some y) (hl : cmpOpdO im d lo = some l') (hh : cmpOpdO im d hi = some h') (hu : P.underlying ty = some .string)
    (ho : o.op = .slice ty x lo hi none) (hr : opSlS y l' h' call F t = .ok v t') : Done P M o a g v t' := by
  have vx := opd_ok him hF hx
  unfold opSlS at hr
  split at hr
  · rename_i s hp
    split at hr
    · rename_i h hb1
      split at hr
      · rename_i l hb2
        cases hr
        rw [hp] at vx
        generalize hxv : a.eval x = xv at vx
        cases vx
        have r1 := bnd_ok him hF hh hb1
        have r2 := bnd_ok him hF hl hb2
        refine done_pure (v' := .string ⟨((s.drop l).take (h - l)).toArray⟩) ?_ (.str _) hS
        have hsl : (Instr.sliceBounds false s.length s.length (lo.map a.eval) (hi.map a.eval) none).run P g.w = .ok (l, h, s.length) g.w := by
          unfold Instr.sliceBounds
          rcases r1 with ⟨rfl, -, rfl⟩ | ⟨xh, kh, ih, rfl, -, eh, h0, h1, rfl⟩ <;> rcases r2 with ⟨rfl, -, rfl⟩ | ⟨xl, kl, il, rfl, -, el, l0, l1, rfl⟩
          · simp
          · simp [el, run_sliceBound (P := P) (k := kl) _ l0 l1]
          · simp [eh, run_sliceBound (P := P) (k := kh) _ h0 h1]
          · simp [eh, el, run_sliceBound (P := P) (k := kh) _ h0 h1, run_sliceBound (P := P) (k := kl) _ l0 l1]
        simp only [execOp, ho, Instr.sliceAt, Sem.run_bind, run_underlying hu, Result.andThen_ok, Instr.slice, hxv, Option.map_none, ByteArray.size_mk', List.size_toArray, Option.isSome_none, Bool.false_eq_true, if_false, Sem.run_pure]
        simp only [hsl, Result.andThen_ok, ByteArray.extract_mk]
      · contradiction
    · contradiction
  · contradiction

theorem sliceBounds_ok (him : ∀ f x, im f = some x → M.fm x = f) (hF : FR M g d F a.tmps) {lo hi mx : Option Operand} {l' h' m' : Option Opd}
    (hl : cmpOpdO im d lo = some l') (hh : cmpOpdO im d hi = some h') (hm : cmpOpdO im d mx = some m') {len cap ccap m h l : Nat} (hlen : len ≤ cap) (hcap : cap ≤ ccap) (hmh : m'.isSome = true → h'.isSome = true)
    (b1 : bnd m' F cap cap = some m) (b2 : bnd h' F len (min m len) = some h) (b3 : bnd l' F 0 h = some l) :
    (Instr.sliceBounds true len ccap (lo.map a.eval) (hi.map a.eval) (mx.map a.eval)).run P g.w = .ok (l, h, if m'.isNone then ccap else m) g.w ∧
      m ≤ cap ∧ h ≤ len ∧ h ≤ m ∧ l ≤ h ∧ (m'.isNone = true → m = cap) := by
  have r1 := bnd_ok him hF hm b1
  have r2 := bnd_ok him hF hh b2
  have r3 := bnd_ok him hF hl b3
  unfold Instr.sliceBounds
  rcases r1 with ⟨rfl, rfl, rfl⟩ | ⟨xm, km, im', rfl, em', em, m0, m1, rfl⟩
  · rcases r2 with ⟨rfl, rfl, rfl⟩ | ⟨xh, kh, ih, rfl, -, eh, h0, h1, rfl⟩ <;> rcases r3 with ⟨rfl, -, rfl⟩ | ⟨xl, kl, il, rfl, -, el, l0, l1, rfl⟩
    · exact ⟨by simp, by omega, by omega, by omega, by omega, fun _ => rfl⟩
    · exact ⟨by simp [el, run_sliceBound (P := P) (k := kl) _ l0 l1], by omega, by omega, by omega, by omega, fun _ => rfl⟩
    · exact ⟨by simp [eh, run_sliceBound (P := P) (k := kh) _ h0 (show ih ≤ ccap by omega)], by omega, by omega, by omega, by omega, fun _ => rfl⟩
    · exact ⟨by simp [eh, el, run_sliceBound (P := P) (k := kh) _ h0 (show ih ≤ ccap by omega), run_sliceBound (P := P) (k := kl) _ l0 l1], by omega, by omega, by omega, by omega, fun _ => rfl⟩
  · have hn : m'.isNone = false := by cases m' <;> simp at em' ⊢
    rcases r2 with ⟨rfl, rfl, rfl⟩ | ⟨xh, kh, ih, rfl, -, eh, h0, h1, rfl⟩
    · exact absurd (hmh em') (by simp)
    · rcases r3 with ⟨rfl, -, rfl⟩ | ⟨xl, kl, il, rfl, -, el, l0, l1, rfl⟩
      · refine ⟨?_, by omega, by omega, by omega, by omega, fun q => by rw [hn] at q; cases q⟩
        simp [hn, em, eh, run_sliceBound (P := P) (k := km) _ m0 (show im' ≤ ccap by omega), run_sliceBound (P := P) (k := kh) _ h0 (show ih ≤ (im'.toNat : Nat) by omega)]
      · refine ⟨?_, by omega, by omega, by omega, by omega, fun q => by rw [hn] at q; cases q⟩
        simp [hn, em, eh, el, run_sliceBound (P := P) (k := km) _ m0 (show im' ≤ ccap by omega), run_sliceBound (P := P) (k := kh) _ h0 (show ih ≤ (im'.toNat : Nat) by omega), run_sliceBound (P := P) (k := kl) _ l0 l1]

theorem sliceBounds_ms (him : ∀ f x, im f = some x → M.fm x = f) (hF : FR M g d F a.tmps) {lo hi mx : Option Operand} {l' h' m' : Option Opd}
    (hl : cmpOpdO im d lo = some l') (hh : cmpOpdO im d hi = some h') (hm : cmpOpdO im d mx = some m') {len cap ccap m h l : Nat} (hlen : len ≤ cap) (hcap : cap ≤ ccap) (hmh : m'.isSome = true → h'.isSome = true)
    (b1 : bnd m' F cap cap = some m) (b2 : bnd h' F len m = some h) (b3 : bnd l' F 0 h = some l) :
    (Instr.sliceBounds true len ccap (lo.map a.eval) (hi.map a.eval) (mx.map a.eval)).run P g.w = .ok (l, h, if m'.isNone then ccap else m) g.w ∧
      m ≤ cap ∧ h ≤ m ∧ l ≤ h ∧ (m'.isNone = true → m = cap) := by
  have r1 := bnd_ok him hF hm b1
  have r2 := bnd_ok him hF hh b2
  have r3 := bnd_ok him hF hl b3
  unfold Instr.sliceBounds
  rcases r1 with ⟨rfl, rfl, rfl⟩ | ⟨xm, km, im', rfl, em', em, m0, m1, rfl⟩
  · rcases r2 with ⟨rfl, rfl, rfl⟩ | ⟨xh, kh, ih, rfl, -, eh, h0, h1, rfl⟩ <;> rcases r3 with ⟨rfl, -, rfl⟩ | ⟨xl, kl, il, rfl, -, el, l0, l1, rfl⟩
    · exact ⟨by simp, by omega, by omega, by omega, fun _ => rfl⟩
    · exact ⟨by simp [el, run_sliceBound (P := P) (k := kl) _ l0 l1], by omega, by omega, by omega, fun _ => rfl⟩
    · exact ⟨by simp [eh, run_sliceBound (P := P) (k := kh) _ h0 (show ih ≤ ccap by omega)], by omega, by omega, by omega, fun _ => rfl⟩
    · exact ⟨by simp [eh, el, run_sliceBound (P := P) (k := kh) _ h0 (show ih ≤ ccap by omega), run_sliceBound (P := P) (k := kl) _ l0 l1], by omega, by omega, by omega, fun _ => rfl⟩
  · have hn : m'.isNone = false := by cases m' <;> simp at em' ⊢
    rcases r2 with ⟨rfl, rfl, rfl⟩ | ⟨xh, kh, ih, rfl, -, eh, h0, h1, rfl⟩
    · exact absurd (hmh em') (by simp)
    · rcases r3 with ⟨rfl, -, rfl⟩ | ⟨xl, kl, il, rfl, -, el, l0, l1, rfl⟩
      · refine ⟨?_, by omega, by omega, by omega, fun q => by rw [hn] at q; cases q⟩
        simp [hn, em, eh, run_sliceBound (P := P) (k := km) _ m0 (show im' ≤ ccap by omega), run_sliceBound (P := P) (k := kh) _ h0 (show ih ≤ (im'.toNat : Nat) by omega)]
      · refine ⟨?_, by omega, by omega, by omega, fun q => by rw [hn] at q; cases q⟩
        simp [hn, em, eh, el, run_sliceBound (P := P) (k := km) _ m0 (show im' ≤ ccap by omega), run_sliceBound (P := P) (k := kh) _ h0 (show ih ≤ (im'.toNat : Nat) by omega), run_sliceBound (P := P) (k := kl) _ l0 l1]

theorem sl_sub {id e pos' cap' alt' : Nat} {fl' : Bool} {es : List AV} {b off ccap' off' : Nat} {vs : Nat → Value} {h l : Nat}
    (hid : g.ok id) (hb : b = (g.ρ id).block) (hcc' : ccap' = cap' + (if fl' then (g.ρ id).extra else 0)) (ho' : off' = (g.ρ id).off + (if ccap' = 0 then alt' else pos'))
    (hhl : l ≤ h) (hh : h ≤ es.length) (hcap' : h - l ≤ cap') (hoff : h - l = 0 ∨ off' = off + l * e) (hoff' : off' ≤ off + l * e)
    (hv : ∀ i (h : i < es.length), VR M g es[i] (vs i)) (hs : ∀ i, i < es.length → (vs i).cells.size = e)
    (hc : ∀ i j, i < es.length → j < e → g.w.cell? ⟨b, off + i * e + j, none⟩ = (vs i).cells[j]?) (hf : g.fixed b (off + es.length * e)) :
    VR M g (.sl id e pos' cap' fl' alt' ((es.take h).drop l)) (.slice (some ⟨b, off', none⟩) (h - l) ccap') := by
  have hlen : ((es.take h).drop l).length = h - l := by simp; omega
  have hfix : ∀ n, n ≤ off + es.length * e → g.fixed b n := fun n hn => ⟨hf.1, Own.fix_le hf.2 hn⟩
  have := VR.sl (M := M) (g := g) id e pos' cap' fl' alt' ((es.take h).drop l) b off' ccap' (fun i => vs (l + i)) hid hcc' hb ho' (by omega)
    (fun i hi => by
      have := hv (l + i) (by omega)
      simpa using this)
    (fun i hi => hs (l + i) (by omega))
    (fun i j hi hj => by
      rw [hlen] at hi
      rcases hoff with h0 | h0
      · omega
      · rw [h0, ← hc (l + i) j (by omega) hj]
        congr 2
        rw [Nat.add_mul]
        omega)
    (hfix _ (by
      rw [hlen]
      have h1 : l * e + (h - l) * e ≤ es.length * e := by rw [← Nat.add_mul]; exact Nat.mul_le_mul_right _ (by omega)
      omega))
  rw [hlen] at this
  exact this

theorem sound_slL (him : ∀ f x, im f = some x → M.fm x = f) (hF : FR M g d F a.tmps) (hS : SR M g t) {ty e : TypeId} {x : Operand} {lo hi mx : Option Operand} {y : Opd} {l' h' m' : Option Opd} {s : Nat}
    (hx : cmpOpd im d x = some y) (hl : cmpOpdO im d lo = some l') (hh : cmpOpdO im d hi = some h') (hm : cmpOpdO im d mx = some m') (hmh : m'.isSome = true → h'.isSome = true)
    (hu : P.underlying ty = some (.slice e)) (hs : sizeT P e = some s)
    (ho : o.op = .slice ty x lo hi mx) (hr : opSlL s y l' h' m' call F t = .ok v t') : Done P M o a g v t' := by
  have vx := opd_ok him hF hx
  obtain ⟨i, hi', rfl⟩ := sizeT_ok hs
  have key : ∀ ad len ccap l h m, a.eval x = .slice ad len ccap → (Instr.sliceBounds true len ccap (lo.map a.eval) (hi.map a.eval) (mx.map a.eval)).run P g.w = .ok (l, h, m) g.w →
      (execOp a.eval o).run P g.w = .ok (.value (.slice (if m = l then ad else ad.map (·.add (l * i.size))) (h - l) (m - l))) g.w := by
    intro ad len ccap l h m hp hb
    simp only [execOp, ho, Instr.sliceAt, Sem.run_bind, run_underlying hu, Result.andThen_ok, Instr.slice, hp, hb, run_sizeOf hi', Sem.run_pure]
  have nilb : ∀ m h l, bnd m' F 0 0 = some m → bnd h' F 0 0 = some h → bnd l' F 0 0 = some l →
      (Instr.sliceBounds true 0 0 (lo.map a.eval) (hi.map a.eval) (mx.map a.eval)).run P g.w = .ok (0, 0, 0) g.w := by
    intro m h l b1 b2 b3
    have hm0 : m = 0 := by rcases bnd_ok him hF hm b1 with ⟨-, -, rfl⟩ | ⟨_, _, _, _, _, _, _, _, rfl⟩ <;> omega
    have hh0 : h = 0 := by rcases bnd_ok him hF hh b2 with ⟨-, -, rfl⟩ | ⟨_, _, _, _, _, _, _, _, rfl⟩ <;> omega
    have hl0 : l = 0 := by rcases bnd_ok him hF hl b3 with ⟨-, -, rfl⟩ | ⟨_, _, _, _, _, _, _, _, rfl⟩ <;> omega
    subst hm0 hh0 hl0
    have := (sliceBounds_ok (P := P) him hF hl hh hm (Nat.le_refl 0) (Nat.le_refl 0) hmh b1 b2 b3).1
    simpa using this
  unfold opSlL at hr
  split at hr
  · rename_i hp
    split at hr
    · rename_i m b1
      split at hr
      · rename_i h b2
        split at hr
        · rename_i l b3
          cases hr
          rw [hp] at vx
          generalize hxv : a.eval x = xv at vx
          cases vx
          exact done_pure (key _ _ _ _ _ _ hxv (nilb _ _ _ b1 b2 b3)) .nils hS
        · contradiction
      · contradiction
    · contradiction
  · rename_i hp
    split at hr
    · rename_i m b1
      split at hr
      · rename_i h b2
        split at hr
        · rename_i l b3
          cases hr
          rw [hp] at vx
          generalize hxv : a.eval x = xv at vx
          cases vx with
          | sl0 b off sp => exact done_pure (key _ _ _ _ _ _ hxv (nilb _ _ _ b1 b2 b3)) (.sl0 b off sp) hS
        · contradiction
      · contradiction
    · contradiction
  · rename_i id e' pos cap fl alt es hp
    split at hr
    · rename_i he
      have he := Nat.eq_of_beq_eq_true he
      subst he
      split at hr
      · rename_i m b1
        split at hr
        · rename_i h b2
          split at hr
          · rename_i l b3
            rw [hp] at vx
            generalize hxv : a.eval x = xv at vx
            cases vx with
            | sl id e pos cap fl alt es b off ccap vs hid hcc hb hoff hlen hv hsz hc hf =>
              have hcap : cap ≤ ccap := by omega
              obtain ⟨hrun, q1, q2, q3, q4, q5⟩ := sliceBounds_ok (P := P) him hF hl hh hm hlen hcap hmh b1 b2 b3
              split at hr
              · rename_i hfm
                cases hr
                simp only [Bool.and_eq_true] at hfm
                obtain ⟨hfl, hmn⟩ := hfm
                subst hfl
                simp only [hmn, if_true] at hrun
                have hmc := q5 hmn
                subst hmc
                simp only [if_true] at hcc
                refine done_pure (key _ _ _ _ _ _ hxv hrun) ?_ hS
                by_cases hcl : ccap = l
                · rw [if_pos hcl]
                  refine sl_sub (off := off) (h := h) (l := l) hid hb (by simp; omega) ?_ q4 q2 (by omega) (.inl (by omega)) (by omega) hv hsz hc hf
                  rw [hoff, if_pos (show ccap - l = 0 by omega)]
                  by_cases hl0 : l = 0
                  · rw [if_pos hl0, if_pos (show ccap = 0 by omega)]
                  · rw [if_neg hl0, if_neg (show ¬ ccap = 0 by omega)]
                · rw [if_neg hcl]
                  simp only [Option.map_some, addr_add]
                  refine sl_sub (off := off) (h := h) (l := l) hid hb (by simp; omega) ?_ q4 q2 (by omega) (.inr rfl) (by omega) hv hsz hc hf
                  rw [hoff, if_neg (show ¬ ccap - l = 0 by omega), if_neg (show ¬ ccap = 0 by omega)]
                  omega
              · rename_i hfm
                have hmeq : (if m'.isNone = true then ccap else m) = m := by
                  by_cases hmn : m'.isNone = true
                  · rw [if_pos hmn]
                    have hfl : fl = false := by
                      cases fl
                      · rfl
                      · simp [hmn] at hfm
                    subst hfl
                    simp at hcc
                    rw [q5 hmn, hcc]
                  · rw [if_neg hmn]
                rw [hmeq] at hrun
                have hkey := key _ _ _ _ _ _ hxv hrun
                split at hr
                · rename_i hml
                  cases hr
                  rw [if_pos hml, show h - l = 0 by omega, show m - l = 0 by omega] at hkey
                  exact done_pure hkey (.sl0 b off none) hS
                · rename_i hml
                  cases hr
                  rw [if_neg hml] at hkey
                  simp only [Option.map_some, addr_add] at hkey
                  refine done_pure hkey ?_ hS
                  refine sl_sub (off := off) (h := h) (l := l) hid hb (by simp) ?_ q4 q2 (by omega) (.inr rfl) (by omega) hv hsz hc hf
                  rw [hoff, if_neg (show ¬ m - l = 0 by omega), if_neg (show ¬ ccap = 0 by omega)]
                  omega
          · contradiction
        · contradiction
      · contradiction
    · contradiction
  · rename_i p e' pos len cap hp
    split at hr
    · rename_i he
      have he := Nat.eq_of_beq_eq_true he
      subst he
      split at hr
      · rename_i m b1
        split at hr
        · rename_i h b2
          split at hr
          · rename_i l b3
            rw [hp] at vx
            generalize hxv : a.eval x = xv at vx
            cases vx with
            | ms p e pos len cap ccap hpn hlen hcap hb hz =>
              obtain ⟨hrun, q1, q3, q4, q5⟩ := sliceBounds_ms (P := P) him hF hl hh hm hlen hcap hmh b1 b2 b3
              have hkey := key _ _ _ _ _ _ hxv hrun
              split at hr
              · rename_i hmn
                split at hr
                · rename_i hlc
                  cases hr
                  rw [if_pos hmn] at hkey
                  have hmc := q5 hmn
                  have had : (if ccap = l then some (⟨g.ν p, pos, none⟩ : Addr) else (some (⟨g.ν p, pos, none⟩ : Addr)).map (·.add (l * i.size))) = some ⟨g.ν p, pos + l * i.size, none⟩ := by
                    split
                    · rename_i hcl
                      have : l = 0 := by omega
                      subst this; simp
                    · simp only [Option.map_some, addr_add]
                  rw [had] at hkey
                  refine done_pure hkey (.ms p _ _ _ _ _ hpn (by omega) (by omega) hb ?_) hS
                  have : (ccap - l) * i.size + l * i.size = ccap * i.size := by rw [← Nat.add_mul]; congr 1; omega
                  omega
                · contradiction
              · rename_i hmn
                split at hr
                · rename_i hml
                  cases hr
                  have hmf : m'.isNone = false := by simpa using hmn
                  rw [hmf] at hkey
                  simp only [Bool.false_eq_true, if_false] at hkey
                  rw [if_pos hml, show h - l = 0 by omega, show m - l = 0 by omega] at hkey
                  exact done_pure hkey (.sl0 _ _ none) hS
                · contradiction
          · contradiction
        · contradiction
      · contradiction
    · contradiction
  · contradiction

end

end M2
end
section
namespace M2
open Go

section
variable {P : Program} {M : Maps} {im : FuncId → Option Nat} {d : Nat} {g : G} {F : Fr} {a : Act} {o : Oper} {t t' : T} {v : AV} {call : CallF}

/-! #### append -/

/-- one answer of the tape drawn: nothing that we look at has changed -/
def G.drew (g : G) : G := { g with w := g.w.drew }

theorem G.le_drew (g : G) : g.Le g.drew :=
  ⟨Nat.le_refl _, fun _ h => h, fun _ h => .inl h, fun _ _ => rfl, fun _ _ => rfl, Nat.le_refl _, fun _ k _ h => ⟨k, h, Nat.le_refl _, fun _ _ => rfl⟩, fun _ _ _ => ⟨rfl, rfl⟩, rfl, rfl, rfl, fun _ _ => rfl⟩

theorem ObjR.drew {o : VObj} {b : Nat} (h : ObjR M g o b) : ObjR M g.drew o b := h.mono g.le_drew rfl

theorem SR.drew (h : SR M g t) : SR M g.drew t where
  n := h.n
  wf := h.wf
  okn := h.okn
  var x o hx := let ⟨a, b, c⟩ := h.var x o hx; ⟨a, b, c.drew⟩
  inj := h.inj
  ids := h.ids
  idinj := h.idinj
  kept := h.kept.mono g.le_drew

/-- the cells of a slice's elements, read -/
structure Src (P : Program) (M : Maps) (g : G) (e : Nat) (es : List AV) (x : Value) (A : Array Value) : Prop where
  val : ∃ ad ccap, x = .slice ad es.length ccap
  size : A.size = es.length * e
  row : EsR M g e es A
  run : ∀ w : World, w.heap = g.w.heap → (Builtin.firstCells e es.length x).run P w = .ok A w

theorem src_sl {id e pos cap alt : Nat} {fl : Bool} {es : List AV} {x : Value} (h : VR M g (.sl id e pos cap fl alt es) x) : ∃ A, Src P M g e es x A := by
  cases h with
  | sl id e pos cap fl alt es b off ccap vs hid hcc hb hoff hlen hv hsz hc hf =>
    have hsome : ∀ q, q < es.length * e → g.w.cell? ⟨b, off + q, none⟩ = some ((g.w.cell? ⟨b, off + q, none⟩).getD undef) ∧
        ∀ i j, i < es.length → j < e → q = i * e + j → (g.w.cell? ⟨b, off + q, none⟩) = (vs i).cells[j]? := by
      intro q hq
      have he : 0 < e := by
        rcases Nat.eq_zero_or_pos e with h0 | h0
        · rw [h0] at hq; simp at hq
        · exact h0
      have hi : q / e < es.length := Nat.div_lt_of_lt_mul (by rw [Nat.mul_comm]; exact hq)
      have hj : q % e < e := Nat.mod_lt _ he
      have hq' : q / e * e + q % e = q := by rw [Nat.mul_comm]; exact Nat.div_add_mod q e
      have hcell := hc (q / e) (q % e) hi hj
      rw [Nat.add_assoc, hq'] at hcell
      have hs := hsz (q / e) hi
      refine ⟨?_, ?_⟩
      · rw [hcell, Array.getElem?_eq_getElem (by omega)]; rfl
      · intro i j h1 h2 h3
        rw [h3, ← Nat.add_assoc]
        exact hc i j h1 h2
    refine ⟨((List.range (es.length * e)).map (fun q => (g.w.cell? ⟨b, off + q, none⟩).getD undef)).toArray, ⟨_, _, rfl⟩, by simp, ⟨by simp, vs, hv, hsz, fun i j hi hj => ?_⟩, fun w hw => ?_⟩
    · have hq := in_row hi hj
      obtain ⟨h1, h2⟩ := hsome _ hq
      rw [← h2 i j hi hj rfl, h1]
      simp [hq]
    · have := run_loadCells (P := P) w ⟨b, off, none⟩ (es.length * e) (fun q => (g.w.cell? ⟨b, off + q, none⟩).getD undef) (fun j hj => by
        rw [addr_add, ← (hsome j hj).1]
        simp [World.cell?, hw])
      simpa [Builtin.firstCells] using this

theorem src_nil {e : Nat} : Src P M g e [] (.slice none 0 0) #[] :=
  ⟨⟨_, _, rfl⟩, by simp, ⟨by simp, fun _ => undef, fun i h => absurd h (by simp), fun i h => absurd h (by simp), fun i j h => absurd h (by simp)⟩, fun w _ => rfl⟩
theorem src_sl0 {e b off : Nat} {sp : Option Nat} : Src P M g e [] (.slice (some ⟨b, off, sp⟩) 0 0) #[] :=
  ⟨⟨_, _, rfl⟩, by simp, ⟨by simp, fun _ => undef, fun i h => absurd h (by simp), fun i h => absurd h (by simp), fun i j h => absurd h (by simp)⟩,
    fun w _ => by simp [Builtin.firstCells, loadCells, loadCellsFrom]⟩

theorem src_appended {e : Nat} {y : AV} {es : List AV} (h : appended e y = some es) {yv : Value} (hy : VR M g y yv) : (∃ A, Src P M g e es yv A) ∧ es.all AV.known = true := by
  unfold appended at h
  split at h
  · cases h; cases hy; exact ⟨⟨_, src_nil⟩, rfl⟩
  · cases h; cases hy; exact ⟨⟨_, src_sl0⟩, rfl⟩
  · split at h
    · rename_i hc
      cases h
      obtain ⟨rfl, hk⟩ := hc
      exact ⟨src_sl hy, hk⟩
    · contradiction
  · contradiction

theorem EsR.app {e : Nat} {es ys : List AV} {A B C : Array Value} (h : EsR M g e es A) (hA : A.size = es.length * e) (h' : EsR M g e ys B) (hB : B.size = ys.length * e) :
    EsR M g e (es ++ ys) (A ++ B ++ C) := by
  obtain ⟨_, f, f1, f2, f3⟩ := h
  obtain ⟨_, k, k1, k2, k3⟩ := h'
  refine ⟨by simp only [List.length_append, Array.size_append, hA, hB, Nat.add_mul]; omega, fun i => if i < es.length then f i else k (i - es.length), fun i hi => ?_, fun i hi => ?_, fun i j hi hj => ?_⟩
  · by_cases h1 : i < es.length
    · simp only [h1, if_true]
      rw [List.getElem_append_left h1]; exact f1 i h1
    · simp only [h1, if_false]
      rw [List.getElem_append_right (by omega)]
      exact k1 _ (by simp at hi; omega)
  · by_cases h1 : i < es.length
    · simp only [h1, if_true]; exact f2 i h1
    · simp only [h1, if_false]; exact k2 _ (by simp at hi; omega)
  · by_cases h1 : i < es.length
    · simp only [h1, if_true]
      have := in_row h1 hj
      rw [Array.getElem?_append_left (by simp only [Array.size_append]; omega), Array.getElem?_append_left (by omega)]
      exact f3 i j h1 hj
    · simp only [h1, if_false]
      have h2 : i - es.length < ys.length := by simp at hi; omega
      have := in_row h2 hj
      have hsub : i * e + j - A.size = (i - es.length) * e + j := by
        rw [hA, Nat.sub_mul]
        have := Nat.mul_le_mul_right e (show es.length ≤ i by omega)
        omega
      have hge : A.size ≤ i * e + j := by
        rw [hA]
        have := Nat.mul_le_mul_right e (show es.length ≤ i by omega)
        omega
      rw [Array.getElem?_append_left (by simp only [Array.size_append]; omega), Array.getElem?_append_right hge, hsub]
      exact k3 _ j h2 hj

section
variable {sT xT e e2 : TypeId} {i : TypeInfo} {zv : Value} {argTypes : Array TypeId}

theorem run_append_in (h0 : argTypes[0]? = some sT) (h1 : argTypes[1]? = some xT) (hu : P.underlying sT = some (.slice e)) (hx : P.underlying xT = some (.slice e2)) (hi : P.info? e = some i)
    (ty : TypeId) (base : Option Addr) (sLen sCap n : Nat) (ad : Option Addr) (cY : Nat) (A : Array Value) (w : World) (hA : (Builtin.firstCells i.size n (.slice ad n cY)).run P w = .ok A w)
    (hfit : sLen + n ≤ sCap) :
    (Builtin.append_ argTypes ty #[.slice base sLen sCap, .slice ad n cY]).run P w =
      (match base with
        | some a => (storeCells (a.add (sLen * i.size)) A.toList).run P w
        | none => .ok () w : Result Unit).andThen fun _ w' => .ok (.slice base (sLen + n) sCap) w' := by
  simp only [Builtin.append_, h0, h1, List.getElem?_toArray, List.getElem?_cons_zero, List.getElem?_cons_succ, Sem.run_bind, run_underlying hu, run_underlying hx, Result.andThen_ok, run_sizeOf hi, Sem.run_pure,
    Builtin.lenOf, Bool.false_eq_true, if_false, if_pos hfit, Bool.not_false, if_true, hA]
  cases base with
  | none => rfl
  | some b => simp only [Sem.run_bind, Sem.run_pure]

theorem run_append_out (h0 : argTypes[0]? = some sT) (h1 : argTypes[1]? = some xT) (hu : P.underlying sT = some (.slice e)) (hx : P.underlying xT = some (.slice e2)) (hi : P.info? e = some i) (hz : i.zero = some zv)
    (ty : TypeId) (base : Option Addr) (sLen sCap n : Nat) (ad : Option Addr) (cY : Nat) (A B : Array Value) (w : World) (hA : (Builtin.firstCells i.size n (.slice ad n cY)).run P w.drew = .ok A w.drew)
    (hB : (Builtin.firstCells i.size sLen (.slice base sLen sCap)).run P w.drew = .ok B w.drew)
    (hfit : ¬ sLen + n ≤ sCap) (hb : 1 ≤ i.bytes) (hsz : 2 * (sLen + n) * i.bytes ≤ 2 ^ 48) :
    ∃ c, (Builtin.append_ argTypes ty #[.slice base sLen sCap, .slice ad n cY]).run P w =
      .ok (.slice (some ⟨w.heap.size, 0, none⟩) (sLen + n) (sLen + n + c)) (w.drew.alloc (.cells (B ++ A ++ Builtin.zeroCells zv.cells c) e)) := by
  have hns : ¬ (Builtin.nextslicecap (sLen + n) sCap * i.bytes > 2 ^ 48) := by
    have := Nat.mul_le_mul_right i.bytes (Room.nextslicecap_le' (need := sLen + n) (old := sCap) (by omega))
    omega
  have hmx : ¬ ((((sLen + n : Nat)) : Int) > IntKind.i64.max ∧ (False ∨ i.bytes = 0)) := by
    rintro ⟨-, h | h⟩
    · exact h
    · omega
  have hcut : (Question.appendCap (sLen + n) sCap e).cut (w.tape w.drawn (.appendCap (sLen + n) sCap e)) = sLen + n + w.tape w.drawn (.appendCap (sLen + n) sCap e) % (2 ^ 63 - (sLen + n)) := rfl
  refine ⟨w.tape w.drawn (.appendCap (sLen + n) sCap e) % (2 ^ 63 - (sLen + n)), ?_⟩
  simp only [Builtin.append_, h0, h1, List.getElem?_toArray, List.getElem?_cons_zero, List.getElem?_cons_succ, Sem.run_bind, run_underlying hu, run_underlying hx, Result.andThen_ok, run_sizeOf hi, Sem.run_pure,
    Builtin.lenOf, Bool.false_eq_true, if_false, if_neg hfit, Bool.not_false, if_true, run_typeInfo hi, if_neg hmx, if_neg hns, run_choose, Question.forced, hcut, World.drew_eq, run_askRoom, hB, hA, run_zeroValue hi hz,
    newRow, run_newObj, World.alloc_eq]
  simp only [Nat.add_sub_cancel_left]
  rfl

/-- how append runs, whatever is appended -/
structure Apd (P : Program) (argTypes : Array TypeId) (e : TypeId) (i : TypeInfo) (zv : Value) (n : Nat) (yv : Value) (A : Array Value) (w0 : World) : Prop where
  fit : ∀ ty base sLen sCap (w : World), w.heap = w0.heap → sLen + n ≤ sCap → (Builtin.append_ argTypes ty #[.slice base sLen sCap, yv]).run P w =
      (match base with
        | some a => (storeCells (a.add (sLen * i.size)) A.toList).run P w
        | none => .ok () w : Result Unit).andThen fun _ w' => .ok (.slice base (sLen + n) sCap) w'
  out : ∀ ty base sLen sCap B (w : World), w.heap = w0.heap → (Builtin.firstCells i.size sLen (.slice base sLen sCap)).run P w.drew = .ok B w.drew → ¬ sLen + n ≤ sCap → 1 ≤ i.bytes → 2 * (sLen + n) * i.bytes ≤ 2 ^ 48 →
    ∃ c, (Builtin.append_ argTypes ty #[.slice base sLen sCap, yv]).run P w =
      .ok (.slice (some ⟨w.heap.size, 0, none⟩) (sLen + n) (sLen + n + c)) (w.drew.alloc (.cells (B ++ A ++ Builtin.zeroCells zv.cells c) e))

theorem Apd.of (h0 : argTypes[0]? = some sT) (h1 : argTypes[1]? = some xT) (hu : P.underlying sT = some (.slice e)) (hx : P.underlying xT = some (.slice e2)) (hi : P.info? e = some i) (hz : i.zero = some zv)
    {n : Nat} {ad : Option Addr} {cY : Nat} {A : Array Value} {w0 : World} (hA : ∀ w : World, w.heap = w0.heap → (Builtin.firstCells i.size n (.slice ad n cY)).run P w = .ok A w) :
    Apd P argTypes e i zv n (.slice ad n cY) A w0 where
  fit ty base sLen sCap w hw hfit := run_append_in h0 h1 hu hx hi ty base sLen sCap n ad cY A w (hA w hw) hfit
  out ty base sLen sCap B w hw hB hfit hb hsz := run_append_out h0 h1 hu hx hi hz ty base sLen sCap n ad cY A B w (hA _ hw) hB hfit hb hsz

/-- append of so many zeros -/
theorem Apd.zeros {k kk : IntKind} (h0 : argTypes[0]? = some sT) (h1 : argTypes[1]? = some xT) (hu : P.underlying sT = some (.slice e)) (hx : P.underlying xT = some (.int k)) (hi : P.info? e = some i) (hz : i.zero = some zv)
    (n : Nat) (hn : n * i.bytes ≤ 2 ^ 48) (hb : 1 ≤ i.bytes) (w0 : World) :
    Apd P argTypes e i zv n (.int kk n) (if n * i.size = 0 then #[] else Builtin.zeroCells zv.cells n) w0 where
  fit ty base sLen sCap w _ hfit := by
    have hnb : n ≤ n * i.bytes := Nat.le_mul_of_pos_right n hb
    have hw : IntKind.i64.wrap (n : Int) = n := by rw [IntKind.wrap_i64]; omega
    have h48i : ¬ ((n : Int) * (i.bytes : Int) > 2 ^ 48) := by
      rw [← Int.natCast_mul]
      omega
    have hneg : ¬ ((n : Int) < 0) := by omega
    have has : (asInt (.int kk n)).run P w = .ok (n : Int) w := by simp [asInt, asIntOf]
    simp only [Builtin.append_, h0, h1, List.getElem?_toArray, List.getElem?_cons_zero, List.getElem?_cons_succ, Sem.run_bind, run_underlying hu, run_underlying hx, Result.andThen_ok, run_sizeOf hi, Sem.run_pure,
      if_true, has, hw, hneg, if_false, run_typeInfo hi, h48i, Int.toNat_natCast, if_pos hfit, Bool.not_true, Bool.false_eq_true]
    by_cases h : n * i.size = 0
    · simp only [h, if_true, Sem.run_pure, Result.andThen_ok]
      cases base with
      | none => rfl
      | some b => simp only [Sem.run_bind, Sem.run_pure]
    · simp only [h, if_false, Sem.run_bind, run_zeroValue hi hz, Result.andThen_ok, Sem.run_pure]
      cases base with
      | none => rfl
      | some b => simp only [Sem.run_bind, Sem.run_pure]
  out ty base sLen sCap B w _ hB hfit _ hsz := by
    have hnb : n ≤ n * i.bytes := Nat.le_mul_of_pos_right n hb
    have hw : IntKind.i64.wrap (n : Int) = n := by rw [IntKind.wrap_i64]; omega
    have h48i : ¬ ((n : Int) * (i.bytes : Int) > 2 ^ 48) := by
      rw [← Int.natCast_mul]
      omega
    have hneg : ¬ ((n : Int) < 0) := by omega
    have has : (asInt (.int kk n)).run P w = .ok (n : Int) w := by simp [asInt, asIntOf]
    have hns : ¬ (Builtin.nextslicecap (sLen + n) sCap * i.bytes > 2 ^ 48) := by
      have := Nat.mul_le_mul_right i.bytes (Room.nextslicecap_le' (need := sLen + n) (old := sCap) (by omega))
      omega
    have hmx : ¬ ((((sLen + n : Nat)) : Int) > IntKind.i64.max ∧ (True ∨ i.bytes = 0)) := by
      rintro ⟨h, -⟩
      have h2 : sLen + n ≤ (sLen + n) * i.bytes := Nat.le_mul_of_pos_right _ hb
      have h3 : 2 * (sLen + n) * i.bytes = 2 * ((sLen + n) * i.bytes) := Nat.mul_assoc _ _ _
      have h4 : IntKind.i64.max = 9223372036854775807 := rfl
      rw [h4] at h
      omega
    have hcut : (Question.appendCap (sLen + n) sCap e).cut (w.tape w.drawn (.appendCap (sLen + n) sCap e)) = sLen + n + w.tape w.drawn (.appendCap (sLen + n) sCap e) % (2 ^ 63 - (sLen + n)) := rfl
    refine ⟨w.tape w.drawn (.appendCap (sLen + n) sCap e) % (2 ^ 63 - (sLen + n)), ?_⟩
    simp only [Builtin.append_, h0, h1, List.getElem?_toArray, List.getElem?_cons_zero, List.getElem?_cons_succ, Sem.run_bind, run_underlying hu, run_underlying hx, Result.andThen_ok, run_sizeOf hi, Sem.run_pure,
      has, hw, hneg, h48i, Int.toNat_natCast, if_false, if_neg hfit, Bool.not_true, Bool.false_eq_true, if_true, run_typeInfo hi, if_neg hmx, if_neg hns, run_choose, Question.forced, hcut, World.drew_eq, run_askRoom, hB,
      run_zeroValue hi hz, newRow, run_newObj, World.alloc_eq]
    by_cases h : n * i.size = 0
    · simp only [h, if_true, Sem.run_pure, Result.andThen_ok, Nat.add_sub_cancel_left]
      rfl
    · simp only [h, if_false, Sem.run_bind, run_zeroValue hi hz, Result.andThen_ok, Sem.run_pure, Nat.add_sub_cancel_left]
      rfl

end

end

end M2
end
