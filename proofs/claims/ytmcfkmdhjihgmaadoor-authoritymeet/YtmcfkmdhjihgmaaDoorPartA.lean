/- The engine, part 1: pure values, how a real value reads as a pure one, and when that reading is kept. The engine, part 2: the pure state, and what ties it to a real one. The engine, part 3: pure instructions, and how an operation of the model is turned into one. The engine, part 4: how the tie between a pure state and a real one is kept by what an operation does. The engine, part 5: each operation does what its pure instruction says. The engine, part 6: each operation does what its pure instruction says. The engine, part 7: values and slices that are put together; stores; cuts. The engine, part 8: scalar operations, stores, cuts, makes, appends. The engine: scalars, and '==' on values of many cells. The engine, part 9: cuts, makes, appends. The engine, part 10: append. -/
import Derived.WalkKit
import Derived.Maps.AppendAt
import Derived.Orders
import Derived.Laws.BytesArg
import Derived.ChangeKeysEq
import Derived.Laws.StructEq
set_option linter.all false
namespace Go.PE
open Go

/-- a slice that is only read: its elements -/
def deep (xs : List Value) : Value := .func (.yield 0) xs.toArray #[]
/-- a slice of the call's own that may be appended to; e: the element's type -/
def lin (e : Nat) (xs : List Value) : Value := .func (.yield 1) xs.toArray #[.int .i64 e]
/-- a pointer into an element of a slice that is only read -/
def dptr (off : Nat) (cells : List Value) : Value := .func (.yield (off + 2)) cells.toArray #[]
/-- a pointer to a box -/
def ptr (k off : Nat) : Value := .pointer (some ⟨k, off, none⟩)
def ag (l : List Value) : Value := .agg l.toArray
/-- a slice of a box: of the call's own, its elements may be written -/
def slc (k off n cap : Nat) : Value := .slice (some ⟨k, off, none⟩) n cap
/-- a function with its first arguments -/
def clo (f : FuncId) (first caps : List Value) : Value := .func (.func f) first.toArray caps.toArray
/-- a slice without room, that is only read: what is appended goes to new memory -/
def ns (xs : List Value) : Value := .func (.yield 1) xs.toArray #[]
def tup (l : List Value) : Value := .tuple l.toArray

def scal : Value → Bool
  | .bool _ | .int _ _ | .float _ _ | .complex _ _ _ | .string _ | .pointer none | .slice none 0 0 | .map _ | .chan none | .nilFunc | .nilIface => true
  | .func (.func _) ⟨[]⟩ ⟨[]⟩ => true
  | _ => false

structure Gh where
  w : World
  fr : Nat → Nat
  be : Nat → Option Nat
  nx : Nat

def lc (v : Value) : List Value := v.cells.toList

inductive Rd (G : Gh) : Value → Value → Prop
  | scal (v : Value) (h : scal v = true) : Rd G v v
  | ptr (k b off : Nat) (h : G.be k = some b) (hk : k < G.nx) : Rd G (.pointer (some ⟨b, off, none⟩)) (ptr k off)
  | dead (a : Addr) (k off : Nat) (h : G.be k = none) (hk : k < G.nx) : Rd G (.pointer (some a)) (ptr k off)
  | nil : Rd G (.slice none 0 0) (deep [])
  | deep (a : Addr) (cap size : Nat) (xs : List Value) (us : Nat → Value) (hs : xs ≠ [] → a.spot = none) (hcap : xs.length ≤ cap) (hcl : cap ≤ maxLen)
      (hc : ∀ q, q < xs.length * size → G.w.cell? (a.add q) = some (us q) ∧ a.off + q < G.fr a.block ∧ (us q).oneCell' = true)
      (hz : ∀ (i : Nat) x, xs[i]? = some x → (lc x).length = size)
      (hr : ∀ (i : Nat) x (j : Nat) y, xs[i]? = some x → (lc x)[j]? = some y → Rd G (us (i * size + j)) y) : Rd G (.slice (some a) xs.length cap) (deep xs)
  | lin (v : Value) (e : Nat) (xs : List Value) (h : Rd G v (deep xs)) : Rd G v (lin e xs)
  | dptr (a : Addr) (off : Nat) (cells : List Value) (us : Nat → Value) (hs : a.spot = none)
      (hc : ∀ q, q < cells.length → G.w.cell? (a.add q) = some (us q) ∧ a.off + q < G.fr a.block ∧ (us q).oneCell' = true)
      (hr : ∀ (j : Nat) y, cells[j]? = some y → Rd G (us j) y) : Rd G (.pointer (some (a.add off))) (dptr off cells)
  | agg (vs ps : List Value) (hl : vs.length = ps.length) (h1 : ∀ v ∈ vs, v.oneCell' = true) (hn : ∀ e xs, lin e xs ∉ ps) (hr : ∀ (i : Nat) v p, vs[i]? = some v → ps[i]? = some p → Rd G v p) : Rd G (ag vs) (ag ps)
  | tuple (vs ps : List Value) (hl : vs.length = ps.length) (hr : ∀ (i : Nat) v p, vs[i]? = some v → ps[i]? = some p → Rd G v p) : Rd G (tup vs) (tup ps)
  | iface (t : TypeId) (v p : Value) (h : Rd G v p) : Rd G (.iface t v) (.iface t p)
  | slc (k b off n cap : Nat) (h : G.be k = some b) (hk : k < G.nx) (hn : n ≤ cap) : Rd G (.slice (some ⟨b, off, none⟩) n cap) (slc k off n cap)
  | slcDead (k b off n cap : Nat) (h : G.be k = none) (hk : k < G.nx) (hn : n ≤ cap) : Rd G (.slice (some ⟨b, off, none⟩) n cap) (slc k off n cap)
  | ns (b : Option Addr) (xs : List Value) (h : Rd G (.slice b xs.length xs.length) (deep xs)) : Rd G (.slice b xs.length xs.length) (ns xs)
  | clo (f : FuncId) (vs ps us qs : List Value) (hl : vs.length = ps.length) (hm : us.length = qs.length) (hr : ∀ (i : Nat) v p, vs[i]? = some v → ps[i]? = some p → Rd G v p)
      (hq : ∀ (i : Nat) v p, us[i]? = some v → qs[i]? = some p → Rd G v p) : Rd G (clo f vs us) (clo f ps qs)

/-- what is kept from one moment to a later one -/
structure Ext (G G' : Gh) : Prop where
  nx : G.nx ≤ G'.nx
  cell : ∀ a : Addr, a.spot = none → a.off < G.fr a.block → ∀ u, G.w.cell? a = some u → G'.w.cell? a = some u
  fr : ∀ b, b < G.w.heap.size → G.fr b ≤ G'.fr b
  be : ∀ k b, G.be k = some b → k < G.nx → G'.be k = some b ∨ G'.be k = none
  ben : ∀ k, G.be k = none → k < G.nx → G'.be k = none

theorem Ext.refl (G : Gh) : Ext G G := ⟨Nat.le_refl _, fun _ _ _ _ h => h, fun _ _ => Nat.le_refl _, fun _ _ h _ => .inl h, fun _ h _ => h⟩

theorem add_off (a : Addr) (hs : a.spot = none) (n : Nat) : a.add n = ⟨a.block, a.off + n, none⟩ := by
  obtain ⟨b, o, s⟩ := a
  simp only at hs
  subst hs
  unfold Addr.add
  split <;> simp_all

theorem Rd.mono {G G' : Gh} (hE : Ext G G') {v p : Value} (h : Rd G v p) : Rd G' v p := by
  induction h with
  | scal v h => exact .scal v h
  | ptr k b off h hk =>
    rcases hE.be k b h hk with h' | h'
    · exact .ptr k b off h' (Nat.lt_of_lt_of_le hk hE.nx)
    · exact .dead _ k off h' (Nat.lt_of_lt_of_le hk hE.nx)
  | dead v k off h hk => exact .dead v k off (hE.ben k h hk) (Nat.lt_of_lt_of_le hk hE.nx)
  | nil => exact .nil
  | deep a cap size xs us hs hcap hcl hc hz hr ih =>
    refine .deep a cap size xs us hs hcap hcl (fun q hq => ?_) hz ih
    obtain ⟨h1, h2, h3⟩ := hc q hq
    have hs := hs (fun e => by subst e; simp at hq)
    rw [add_off a hs] at h1 ⊢
    exact ⟨hE.cell _ rfl h2 _ h1, Nat.lt_of_lt_of_le h2 (hE.fr _ (World.block_lt_of_cell? _ ⟨a.block, a.off + q, none⟩ h1)), h3⟩
  | lin v e xs h ih => exact .lin v e xs ih
  | ns b xs h ih => exact .ns b xs ih
  | dptr a off cells us hs hc hr ih =>
    refine .dptr a off cells us hs (fun q hq => ?_) ih
    obtain ⟨h1, h2, h3⟩ := hc q hq
    rw [add_off a hs] at h1 ⊢
    exact ⟨hE.cell _ rfl h2 _ h1, Nat.lt_of_lt_of_le h2 (hE.fr _ (World.block_lt_of_cell? _ ⟨a.block, a.off + q, none⟩ h1)), h3⟩
  | agg vs ps hl h1 hn hr ih => exact .agg vs ps hl h1 hn ih
  | tuple vs ps hl hr ih => exact .tuple vs ps hl ih
  | iface t v p h ih => exact .iface t v p ih
  | slc k b off n cap h hk hn =>
    rcases hE.be k b h hk with h' | h'
    · exact .slc k b off n cap h' (Nat.lt_of_lt_of_le hk hE.nx) hn
    · exact .slcDead k b off n cap h' (Nat.lt_of_lt_of_le hk hE.nx) hn
  | slcDead k b off n cap h hk hn => exact .slcDead k b off n cap (hE.ben k h hk) (Nat.lt_of_lt_of_le hk hE.nx) hn
  | clo f vs ps us qs hl hm hr hq ih1 ih2 => exact .clo f vs ps us qs hl hm ih1 ih2

end Go.PE
namespace Go.PE
open Go

def upd {α : Type} (f : Nat → α) (k : Nat) (v : α) : Nat → α := fun j => if j = k then v else f j
@[simp] theorem upd_same {α : Type} (f : Nat → α) (k : Nat) (v : α) : upd f k v k = v := by simp [upd]
theorem upd_ne {α : Type} (f : Nat → α) {k j : Nat} (v : α) (h : j ≠ k) : upd f k v j = f j := by simp [upd, h]

structure PS where
  t : Nat → Value
  H : Nat → Option (List Value)
  nx : Nat

def PS.put (s : PS) (d : Nat) (v : Value) : PS := { s with t := upd s.t d v }

def dg1 : Value → Value
  | .func (.yield 1) xs _ => .func (.yield 0) xs #[]
  | v => v
def dg : Value → Value
  | .tuple vs => .tuple (vs.toList.map dg1).toArray
  | v => dg1 v
@[simp] theorem dg1_lin (e : Nat) (xs : List Value) : dg1 (lin e xs) = deep xs := rfl
@[simp] theorem dg_lin (e : Nat) (xs : List Value) : dg (lin e xs) = deep xs := rfl
@[simp] theorem dg_deep (xs : List Value) : dg (deep xs) = deep xs := rfl
@[simp] theorem dg1_deep (xs : List Value) : dg1 (deep xs) = deep xs := rfl
@[simp] theorem dg_int (k : IntKind) (n : Int) : dg (.int k n) = .int k n := rfl
@[simp] theorem dg_bool (b : Bool) : dg (.bool b) = .bool b := rfl
@[simp] theorem dg_string (s : ByteArray) : dg (.string s) = .string s := rfl
@[simp] theorem dg_ptr (k o : Nat) : dg (ptr k o) = ptr k o := rfl
@[simp] theorem dg_dptr (o : Nat) (l : List Value) : dg (dptr o l) = dptr o l := by simp [dg, dg1, dptr]
@[simp] theorem dg_ag (l : List Value) : dg (ag l) = ag l := rfl
@[simp] theorem dg1_int (k : IntKind) (n : Int) : dg1 (.int k n) = .int k n := rfl
@[simp] theorem dg1_bool (b : Bool) : dg1 (.bool b) = .bool b := rfl
@[simp] theorem dg1_string (s : ByteArray) : dg1 (.string s) = .string s := rfl
@[simp] theorem dg1_ptr (k o : Nat) : dg1 (ptr k o) = ptr k o := rfl
@[simp] theorem dg1_ag (l : List Value) : dg1 (ag l) = ag l := rfl

inductive Pos where
  | tmp (t : Nat)
  | tup (t i : Nat)
  | cell (k i : Nat)
  deriving DecidableEq

/-- a part of a result: no result itself -/
def dgT : Value → Value
  | .tuple vs => .tuple (vs.toList.map dg1).toArray
  | v => v
@[simp] theorem dgT_lin (e : Nat) (xs : List Value) : dgT (lin e xs) = lin e xs := rfl
@[simp] theorem dgT_deep (xs : List Value) : dgT (deep xs) = deep xs := rfl
@[simp] theorem dgT_int (k : IntKind) (n : Int) : dgT (.int k n) = .int k n := rfl
@[simp] theorem dgT_bool (b : Bool) : dgT (.bool b) = .bool b := rfl
@[simp] theorem dgT_string (s : ByteArray) : dgT (.string s) = .string s := rfl
@[simp] theorem dgT_ptr (k o : Nat) : dgT (ptr k o) = ptr k o := rfl
@[simp] theorem dgT_ag (l : List Value) : dgT (ag l) = ag l := rfl

def comp (v : Value) (i : Nat) : Value := match v with | .tuple vs => vs.toList.getD i undef | _ => undef

/-- a map's entries, where the pure state keeps them: in a slot behind the frame -/
def mpe (es : List (ByteArray × Bool)) : Value := .func (.yield 0) (es.map fun x => ag [.string x.1, .bool x.2]).toArray #[.bool true]
theorem mpe_inj {es es' : List (ByteArray × Bool)} (h : mpe es = mpe es') : es = es' := by
  simp only [mpe, Value.func.injEq, true_and, and_true] at h
  have h2 : es.map (fun x => ag [.string x.1, .bool x.2]) = es'.map (fun x => ag [.string x.1, .bool x.2]) := by simpa using h
  refine List.map_inj_right (fun x y hxy => ?_) |>.1 h2
  obtain ⟨x1, x2⟩ := x
  obtain ⟨y1, y2⟩ := y
  simp [ag] at hxy
  simp [hxy]
/-- a map of the call's own reads so -/
def MpOK (B : Nat) (w : World) (b : Nat) (es : List (ByteArray × Bool)) : Prop :=
  B ≤ b ∧ ∃ ents clock, w.heap[b]? = some (.map ents clock) ∧ ents.toList.map (fun e => (e.key, e.val)) = es.map fun x => (.string x.1, .bool x.2)
theorem MpOK.same {B : Nat} {w w' : World} {b : Nat} {es : List (ByteArray × Bool)} (h : MpOK B w b es) (hh : w'.heap[b]? = w.heap[b]?) : MpOK B w' b es := by
  obtain ⟨h1, ents, clock, h2, h3⟩ := h
  exact ⟨h1, ents, clock, by rw [hh]; exact h2, h3⟩
theorem MpOK.lt {B : Nat} {w : World} {b : Nat} {es : List (ByteArray × Bool)} (h : MpOK B w b es) : b < w.heap.size := by
  obtain ⟨_, ents, clock, h2, _⟩ := h
  rcases Nat.lt_or_ge b w.heap.size with h1 | h1
  · exact h1
  · rw [Array.getElem?_eq_none h1] at h2; cases h2
theorem MpOK.ne {B : Nat} {w : World} {b g : Nat} {es : List (ByteArray × Bool)} {cs : Array Value} {e : TypeId} {fz : Nat × Nat} (h : MpOK B w b es) (hg : w.heap[g]? = some (.cells cs e fz)) : b ≠ g := by
  rintro rfl
  obtain ⟨_, ents, clock, h2, _⟩ := h
  rw [h2] at hg; cases hg
theorem upd_far {α : Type} (f : Nat → α) {d N : Nat} (v : α) (b : Nat) (h : d < N) : upd f d v (N + b) = f (N + b) := upd_ne _ _ (by omega)

/-- what a box's cell holds, purely and really -/
def pcell (H : Nat → Option (List Value)) (k i : Nat) : Value := match H k with | some row => row.getD i undef | none => undef
def rcell (G : Gh) (k i : Nat) : Value := match G.be k with | some b => (G.w.cell? ⟨b, i, none⟩).getD undef | none => undef

def TokOK (P : Program) (G : Gh) (own : Nat → Option Pos) (base : Nat) (pos : Pos) (e : Nat) (v : Value) : Prop :=
  (∃ b, v = .slice b 0 0) ∨ ∃ g n cap i xs, v = .slice (some ⟨g, 0, none⟩) n cap ∧ P.info? e = some i ∧ G.w.ownsRow base e i.size v n xs ∧ G.fr g = n * i.size ∧ own g = some pos ∧ ∀ k, G.be k ≠ some g

/-- a box; W: it may be written -/
def ObOK (W : Prop) (B n0 : Nat) (G : Gh) (k : Nat) (row : List Value) : Prop :=
  ∃ b e cs fz, G.be k = some b ∧ G.w.heap[b]? = some (.cells cs e fz) ∧ cs.size = row.length ∧
    (∀ (i : Nat) v p, cs[i]? = some v → row[i]? = some p → v.oneCell' = true ∧ Rd G v p) ∧ (W → G.fr b = 0 ∧ fz = (0, 0)) ∧ (n0 ≤ k → B ≤ b)

/-- what is fixed while a function runs: the program, the moment of the call, the boxes of the caller's that may be written, the number of the first box of the call's own, the frame's size -/
structure Par where
  P : Program
  G0 : Gh
  T : Nat → Prop
  n0 : Nat
  N : Nat
  H0 : Nat → Option (List Value)

def Par.B (q : Par) : Nat := q.G0.w.heap.size
/-- from which block on the tokens in a box's cells lie -/
def okBase (q : Par) (k base : Nat) : Prop := base = 0 ∨ ((q.T k ∨ q.n0 ≤ k) ∧ base = q.B)

/-- the boxes and their tokens, without the frame -/
structure Heap (q : Par) (own : Nat → Option Pos) (s : PS) (G : Gh) : Prop where
  ob : ∀ k row, s.H k = some row → ObOK (q.T k ∨ q.n0 ≤ k) q.B q.n0 G k row
  bn : ∀ k, s.H k = none → G.be k = none
  nxH : ∀ k, s.nx ≤ k → s.H k = none
  nx : G.nx = s.nx
  n0 : q.n0 ≤ s.nx
  inj : ∀ k k' b, G.be k = some b → G.be k' = some b → k = k'
  gl : ∀ g b, g < q.P.globals.size → G.be g = some b → b = g
  ng : q.P.globals.size ≤ s.nx
  ol : ∀ g pos, own g = some pos → g < G.w.heap.size

/-- all but the frame's slots -/
structure Base (q : Par) (own : Nat → Option Pos) (s : PS) (G : Gh) : Prop extends Heap q own s G where
  bo : ∀ k, k < q.n0 → G.be k = q.G0.be k
  frame : ∀ b, b < q.B → (∀ k, q.G0.be k = some b → ¬ q.T k) → G.w.heap[b]? = q.G0.w.heap[b]? ∧ G.fr b = q.G0.fr b
  sz : q.B ≤ G.w.heap.size
  os : G.w.os = q.G0.w.os
  tape : G.w.tape = q.G0.w.tape
  output : G.w.output = q.G0.w.output
  ctok : ∀ base k i e xs, okBase q k base → pcell s.H k i = lin e xs → TokOK q.P G own base (.cell k i) e (rcell G k i)
  hh : ∀ k, k < q.n0 → ¬ q.T k → s.H k = q.H0 k

structure Inv (q : Par) (own : Nat → Option Pos) (s : PS) (a : Act) (G : Gh) : Prop extends Base q own s G where
  size : a.tmps.size = q.N
  defers : a.defers = []
  tm : ∀ t, t < q.N → Rd G (a.tmps.getD t undef) (s.t t)
  ttok : ∀ t e xs, t < q.N → s.t t = lin e xs → TokOK q.P G own q.B (.tmp t) e (a.tmps.getD t undef)
  utok : ∀ t i e xs, t < q.N → comp (s.t t) i = lin e xs → TokOK q.P G own q.B (.tup t i) e (comp (a.tmps.getD t undef) i)
  mps : ∀ b es, s.t (q.N + b) = mpe es → MpOK q.B G.w b es

theorem oneCell_of {G : Gh} {v p : Value} (h : Rd G v p) (hp : p.oneCell' = true) : v.oneCell' = true := by
  cases h with
  | scal v h => exact hp
  | ptr => rfl
  | dead => rfl
  | nil => rfl
  | deep => rfl
  | lin v e xs h => cases h <;> first | rfl | assumption
  | dptr => rfl
  | agg => simp [ag, Value.oneCell'] at hp
  | tuple => simp [tup, Value.oneCell'] at hp
  | iface => rfl
  | slc => rfl
  | slcDead => rfl
  | ns => rfl
  | clo => rfl

theorem Heap.be_lt {q : Par} {own : Nat → Option Pos} {s : PS} {G : Gh} (h : Heap q own s G) {k b : Nat} (hk : G.be k = some b) : k < s.nx ∧ b < G.w.heap.size ∧ ((q.T k ∨ q.n0 ≤ k) → G.fr b = 0) := by
  have hH : s.H k ≠ none := fun e => by have := h.bn k e; rw [hk] at this; cases this
  refine ⟨?_, ?_⟩
  · rcases Nat.lt_or_ge k s.nx with h1 | h1
    · exact h1
    · exact absurd (h.nxH k h1) hH
  · cases hr : s.H k with
    | none => exact absurd hr hH
    | some row =>
      obtain ⟨b', e, cs, fz, hb, hh, _, _, hf, _⟩ := h.ob k row hr
      rw [hk] at hb
      obtain rfl : b = b' := by simpa using hb
      refine ⟨?_, fun hW => (hf hW).1⟩
      rcases Nat.lt_or_ge b G.w.heap.size with h1 | h1
      · exact h1
      · rw [Array.getElem?_eq_none h1] at hh; cases hh

def noLin (p : Value) : Prop := (∀ e xs, p ≠ lin e xs) ∧ ∀ i e xs, comp p i ≠ lin e xs

theorem dg1_ne_lin (p : Value) (e : Nat) (xs : List Value) : dg1 p ≠ lin e xs := by
  intro h
  unfold dg1 at h
  split at h
  · simp [lin] at h
  · rename_i hne
    exact hne _ _ h

theorem noLin_dg (p : Value) : noLin (dg p) := by
  unfold dg
  split
  · refine ⟨fun e xs h => by simp [lin] at h, fun i e xs h => ?_⟩
    simp only [comp, List.getD_eq_getElem?_getD, List.getElem?_map] at h
    cases hx : (Array.toList ‹_›)[i]? with
    | none => rw [hx] at h; simp [undef, lin] at h
    | some y => rw [hx] at h; simp only [Option.map_some, Option.getD_some] at h; exact dg1_ne_lin _ _ _ h
  · rename_i hno
    refine ⟨fun e xs => dg1_ne_lin _ e xs, fun i e xs h => ?_⟩
    unfold comp at h
    split at h
    · rename_i vs hd
      have : p = .tuple vs := by
        unfold dg1 at hd
        split at hd
        · cases hd
        · exact hd
      exact hno _ this
    · simp [undef, lin] at h

theorem put_getD (a : Act) (d t : Nat) (v : Value) (hd : d < a.tmps.size) : (a.put (some d) v).tmps.getD t undef = if t = d then v else a.tmps.getD t undef := by
  simp only [Act.put, Array.getD_eq_getD_getElem?, Array.getElem?_setIfInBounds]
  by_cases h : d = t
  · subst h; simp [hd]
  · simp [h, Ne.symm h]

theorem put_size (a : Act) (d : Nat) (v : Value) : (a.put (some d) v).tmps.size = a.tmps.size := by simp [Act.put]

theorem Rd_dg1 {G : Gh} {v p : Value} (h : Rd G v p) : Rd G v (dg1 p) := by
  cases h with
  | lin v e xs h => exact h
  | ns b xs h => exact h
  | scal v h =>
    have : dg1 v = v := by
      unfold dg1
      split
      · simp [PE.scal] at h
      · rfl
    rw [this]; exact .scal v h
  | ptr k b off h hk => exact .ptr k b off h hk
  | dead v k off h hk => exact .dead v k off h hk
  | nil => exact .nil
  | deep a cap size xs us hs hcap hcl hc hz hr => exact .deep a cap size xs us hs hcap hcl hc hz hr
  | dptr a off cells us hs hc hr =>
    have : dg1 (dptr off cells) = dptr off cells := by simp [dg1, dptr]
    rw [this]; exact .dptr a off cells us hs hc hr
  | agg vs ps hl h1 hn hr => exact .agg vs ps hl h1 hn hr
  | tuple vs ps hl hr => exact .tuple vs ps hl hr
  | iface t v p h => exact .iface t v p h
  | slc k b off n cap h hk hn => exact .slc k b off n cap h hk hn
  | slcDead k b off n cap h hk hn => exact .slcDead k b off n cap h hk hn
  | clo f vs ps us qs hl hm hr hq => exact .clo f vs ps us qs hl hm hr hq

theorem Rd_dg {G : Gh} {v p : Value} (h : Rd G v p) : Rd G v (dg p) := by
  by_cases hp : ∃ ps, p = tup ps
  · obtain ⟨ps, rfl⟩ := hp
    cases h with
    | scal v h => simp [tup, PE.scal] at h
    | tuple vs ps hl hr =>
      show Rd G _ (tup (ps.map dg1))
      refine .tuple vs _ (by simpa using hl) fun i v p hv hp => ?_
      rw [List.getElem?_map] at hp
      cases hx : ps[i]? with
      | none => rw [hx] at hp; cases hp
      | some y =>
        rw [hx] at hp
        obtain rfl : dg1 y = p := by simpa using hp
        exact Rd_dg1 (hr i v y hv hx)
  · have : dg p = dg1 p := by
      unfold dg
      split
      · exact absurd ⟨Array.toList ‹_›, by simp [tup]⟩ hp
      · rfl
    rw [this]; exact Rd_dg1 h

theorem Base.putT {q : Par} {own : Nat → Option Pos} {s : PS} {G : Gh} (h : Base q own s G) (t' : Nat → Value) : Base q own { s with t := t' } G :=
  ⟨⟨h.ob, h.bn, h.nxH, h.nx, h.n0, h.inj, h.gl, h.ng, h.ol⟩, h.bo, h.frame, h.sz, h.os, h.tape, h.output, h.ctok, h.hh⟩

/-- a value without tokens is put into a slot -/
theorem Inv.put {q : Par} {own : Nat → Option Pos} {s : PS} {a : Act} {G : Gh} (h : Inv q own s a G) {d : Nat} (hd : d < q.N) {v p : Value} (hr : Rd G v p) (hn : noLin p) :
    Inv q own (s.put d p) (a.put (some d) v) G where
  toBase := h.toBase.putT _
  size := by rw [put_size]; exact h.size
  defers := h.defers
  tm := fun t ht => by
    rw [put_getD _ _ _ _ (by rw [h.size]; exact hd)]
    simp only [PS.put, upd]
    split
    · exact hr
    · exact h.tm t ht
  ttok := fun t e xs ht hp => by
    have hds : d < a.tmps.size := by rw [h.size]; exact hd
    simp only [PS.put, upd] at hp
    simp only [put_getD _ _ _ _ hds]
    split at hp
    · exact absurd hp (hn.1 e xs)
    · rename_i hne; rw [if_neg hne]; exact h.ttok t e xs ht hp
  utok := fun t i e xs ht hp => by
    have hds : d < a.tmps.size := by rw [h.size]; exact hd
    simp only [PS.put, upd] at hp
    simp only [put_getD _ _ _ _ hds]
    split at hp
    · exact absurd hp (hn.2 i e xs)
    · rename_i hne; rw [if_neg hne]; exact h.utok t i e xs ht hp
  mps := fun b es hp => h.mps b es (by rw [← hp]; exact (upd_far _ _ _ hd).symm)

/-- from one moment to another, all that there was being as it was -/
structure Keep (G G' : Gh) : Prop where
  blk : ∀ b, b < G.w.heap.size → G'.w.heap[b]? = G.w.heap[b]? ∧ G'.fr b = G.fr b
  be : G'.be = G.be
  nx : G'.nx = G.nx
  sz : G.w.heap.size ≤ G'.w.heap.size
  os : G'.w.os = G.w.os
  tape : G'.w.tape = G.w.tape
  output : G'.w.output = G.w.output

theorem Keep.ext {G G' : Gh} (h : Keep G G') : Ext G G' where
  nx := by rw [h.nx]; exact Nat.le_refl _
  cell := fun a _ _ u hu => by rw [World.cell?_of_block (h.blk _ (World.block_lt_of_cell? _ a hu)).1]; exact hu
  fr := fun b hb => by rw [(h.blk b hb).2]; exact Nat.le_refl _
  be := fun k b hk _ => by rw [h.be]; exact .inl hk
  ben := fun k hk _ => by rw [h.be]; exact hk

theorem heap_lt {w : World} {b : Nat} {o : Obj} (h : w.heap[b]? = some o) : b < w.heap.size := by
  rcases Nat.lt_or_ge b w.heap.size with h1 | h1
  · exact h1
  · rw [Array.getElem?_eq_none h1] at h; cases h

theorem ObOK.keep {W : Prop} {B n0 : Nat} {G G' : Gh} {k : Nat} {row : List Value} (h : ObOK W B n0 G k row) (hk : Keep G G') : ObOK W B n0 G' k row := by
  obtain ⟨b, e, cs, fz, hb, hh, hs, hr, hf, hB⟩ := h
  have hlt := heap_lt hh
  exact ⟨b, e, cs, fz, by rw [hk.be]; exact hb, by rw [(hk.blk b hlt).1]; exact hh, hs, fun i v p hv hp => ⟨(hr i v p hv hp).1, (hr i v p hv hp).2.mono hk.ext⟩, by rw [(hk.blk b hlt).2]; exact hf, hB⟩

theorem ownsRow_blk {w w' : World} {base e size : Nat} {v : Value} {n : Nat} {xs : List Value} (h : w.ownsRow base e size v n xs) (hb : ∀ g, v.ownBlock = some g → w'.heap[g]? = w.heap[g]?) : w'.ownsRow base e size v n xs := by
  obtain ⟨h1, h2⟩ := h
  refine ⟨h1, ?_⟩
  rcases h2 with h2 | ⟨g, cap, cur, rfl, h3, h4, h5⟩
  · exact .inl h2
  · exact .inr ⟨g, cap, cur, rfl, h3, by rw [hb g (by simp [Value.ownBlock])]; exact h4, h5⟩

theorem own_lt {w : World} {base e size : Nat} {g n cap : Nat} {xs : List Value} (h : w.ownsRow base e size (.slice (some ⟨g, 0, none⟩) n cap) n xs) : base ≤ g ∧ g < w.heap.size :=
  h.lt g (by simp [Value.ownBlock])

theorem TokOK.keep {P : Program} {G G' : Gh} {own : Nat → Option Pos} {base : Nat} {pos : Pos} {e : Nat} {v : Value} (h : TokOK P G own base pos e v) (hk : Keep G G') : TokOK P G' own base pos e v := by
  rcases h with h | ⟨g, n, cap, i, xs, rfl, hi, ho, hf, hw, hb⟩
  · exact .inl h
  · have hlt := (own_lt ho).2
    refine .inr ⟨g, n, cap, i, xs, rfl, hi, ownsRow_blk ho (fun g' hg => ?_), by rw [(hk.blk g hlt).2]; exact hf, hw, by rw [hk.be]; exact hb⟩
    obtain rfl : g = g' := by simpa [Value.ownBlock] using hg
    exact (hk.blk g hlt).1

theorem rcell_keep {q : Par} {own : Nat → Option Pos} {s : PS} {G G' : Gh} (h : Heap q own s G) (hk : Keep G G') (k i : Nat) : rcell G' k i = rcell G k i := by
  simp only [rcell, hk.be]
  cases hb : G.be k with
  | none => rfl
  | some b =>
    simp only
    rw [World.cell?_of_block (a := ⟨b, i, none⟩) (hk.blk b (h.be_lt hb).2.1).1]

theorem Base.keep {q : Par} {own : Nat → Option Pos} {s : PS} {G G' : Gh} (h : Base q own s G) (hk : Keep G G') : Base q own s G' where
  ob := fun k row hr => (h.ob k row hr).keep hk
  bn := fun k hn => by rw [hk.be]; exact h.bn k hn
  nxH := h.nxH
  nx := by rw [hk.nx]; exact h.nx
  n0 := h.n0
  inj := by rw [hk.be]; exact h.inj
  gl := by rw [hk.be]; exact h.gl
  ng := h.ng
  ol := fun g pos hg => Nat.lt_of_lt_of_le (h.ol g pos hg) hk.sz
  bo := by rw [hk.be]; exact h.bo
  frame := fun b hb hT => by
    have := hk.blk b (Nat.lt_of_lt_of_le hb h.sz)
    rw [this.1, this.2]; exact h.frame b hb hT
  sz := Nat.le_trans h.sz hk.sz
  os := by rw [hk.os]; exact h.os
  tape := by rw [hk.tape]; exact h.tape
  output := by rw [hk.output]; exact h.output
  ctok := fun base k i e xs hb hp => by rw [rcell_keep h.toHeap hk]; exact (h.ctok base k i e xs hb hp).keep hk
  hh := h.hh

theorem Inv.keep {q : Par} {own : Nat → Option Pos} {s : PS} {a : Act} {G G' : Gh} (h : Inv q own s a G) (hk : Keep G G') : Inv q own s a G' where
  toBase := h.toBase.keep hk
  size := h.size
  defers := h.defers
  tm := fun t ht => (h.tm t ht).mono hk.ext
  ttok := fun t e xs ht hp => (h.ttok t e xs ht hp).keep hk
  utok := fun t i e xs ht hp => (h.utok t i e xs ht hp).keep hk
  mps := fun b es hp => (h.mps b es hp).same (hk.blk b (h.mps b es hp).lt).1

end Go.PE
namespace Go.PE
open Go

def opv : Value → Value
  | .slice none 0 0 => deep []
  | v => v
/-- .. a slice without cells as one that one may append to -/
def opvZ : Value → Value
  | .slice none 0 0 => ns []
  | v => opv v
def PS.ev (s : PS) : Operand → Value
  | .tmp t => dg (s.t t)
  | .const v => opv v
  | .global g => ptr g 0
  | .func f => .func (.func f) #[] #[]

/-- the cells of a value that is laid in memory -/
def cellsOf : Value → Option (List Value)
  | .tuple _ => none
  | .agg cs => some cs.toList
  | v => some [v]
def asDeep : Value → Option (List Value)
  | .func (.yield 0) xs _ => some xs.toList
  | _ => none
def asLin : Value → Option (Nat × List Value)
  | .func (.yield 1) xs ⟨[.int .i64 e]⟩ => some (e.toNat, xs.toList)
  | _ => none
def asAg : Value → Option (List Value)
  | .agg cs => some cs.toList
  | _ => none
def asInt : Value → Option (IntKind × Int)
  | .int k n => some (k, n)
  | _ => none
def asBool : Value → Option Bool
  | .bool b => some b
  | _ => none
/-- a pointer moved on by so many cells -/
def addOff (v : Value) (n : Nat) : Option Value :=
  match v with
  | .pointer (some ⟨k, off, none⟩) => some (ptr k (off + n))
  | .func (.yield (o + 2)) cells _ => some (dptr (o + n) cells.toList)
  | _ => none
/-- what a pointer leads to: the row and the place in it -/
def lead (H : Nat → Option (List Value)) (v : Value) : Option (List Value × Nat) :=
  match v with
  | .pointer (some ⟨k, off, none⟩) => (H k).map fun row => (row, off)
  | .func (.yield (o + 2)) cells _ => some (cells.toList, o)
  | _ => none
def isDp : Value → Bool
  | .func (.yield (_ + 2)) _ _ => true
  | _ => false
def plain : Value → Bool
  | .agg cs => cs.toList.all scal
  | v => scal v

/-! scalars -/
def bitsV (op : BinOp) (k : IntKind) (a b : Int) : Int :=
  let x := BitVec.ofInt k.bits a
  let y := BitVec.ofInt k.bits b
  k.wrap (match op with | .and => x &&& y | .or => x ||| y | .xor => x ^^^ y | _ => x &&& ~~~y).toNat
def intV (op : BinOp) (k : IntKind) (a b : Int) : Option Value :=
  match op with
  | .add => some (.int k (k.wrap (a + b)))
  | .sub => some (.int k (k.wrap (a - b)))
  | .mul => some (.int k (k.wrap (a * b)))
  | .quo => if b = 0 then none else some (.int k (k.wrap (a.tdiv b)))
  | .rem => if b = 0 then none else some (.int k (a.tmod b))
  | .and => some (.int k (bitsV .and k a b))
  | .or => some (.int k (bitsV .or k a b))
  | .xor => some (.int k (bitsV .xor k a b))
  | .andNot => some (.int k (bitsV .andNot k a b))
  | .eql => some (.bool (a == b))
  | .neq => some (.bool (a != b))
  | .lss => some (.bool (a < b))
  | .leq => some (.bool (a ≤ b))
  | .gtr => some (.bool (a > b))
  | .geq => some (.bool (a ≥ b))
  | _ => none
def strV (op : BinOp) (a b : ByteArray) : Option Value :=
  match op with
  | .add => if a.size + b.size ≤ 9223372036854775807 then some (.string (a ++ b)) else none
  | .eql => some (.bool (a.toList == b.toList))
  | .neq => some (.bool !(a.toList == b.toList))
  | .lss => some (.bool (Op.bytesLess a.toList b.toList))
  | .leq => some (.bool (Op.bytesLess a.toList b.toList || a.toList == b.toList))
  | .gtr => some (.bool !(Op.bytesLess a.toList b.toList || a.toList == b.toList))
  | .geq => some (.bool !(Op.bytesLess a.toList b.toList))
  | _ => none
def binV (op : BinOp) (x y : Value) : Option Value :=
  match x, y with
  | .int k a, .int k' b => match op with
    | .shl => if 0 ≤ b then some (.int k (k.wrap (a * 2 ^ min b.toNat k.bits))) else none
    | .shr => if 0 ≤ b then some (.int k (a.fdiv (2 ^ min b.toNat k.bits))) else none
    | op => if k = k' then intV op k a b else none
  | .string a, .string b => strV op a b
  | _, _ => none
def unV (op : UnOp) (x : Value) : Option Value :=
  match op, x with
  | .not, .bool b => some (.bool !b)
  | .neg, .int k n => some (.int k (k.wrap (0 - n)))
  | .xor, .int k n => some (.int k (bitsV .xor k (if k.signed then -1 else k.max) n))
  | _, _ => none
def mmV (mx : Bool) (x y : Value) : Option Value :=
  match x, y with
  | .int k a, .int _ b => some (.int k (if mx then (if b > a then b else a) else (if b < a then b else a)))
  | _, _ => none
def asStr : Value → Option ByteArray
  | .string s => some s
  | _ => none
/-- the kind of a cell that may be compared -/
inductive CK where
  | int (k : IntKind)
  | bool
  | string
  deriving DecidableEq
def CK.fits : CK → Value → Bool
  | .int k, .int k' _ => k == k'
  | .bool, .bool _ => true
  | .string, .string _ => true
  | _, _ => false
def fitsL : List CK → List Value → Bool
  | [], [] => true
  | k :: ks, v :: vs => k.fits v && fitsL ks vs
  | _, _ => false
def eqC : Value → Value → Bool
  | .int _ a, .int _ b => a == b
  | .bool a, .bool b => a == b
  | .string a, .string b => a == b
  | _, _ => false
def eqL : List Value → List Value → Bool
  | [], [] => true
  | x :: xs, y :: ys => eqC x y && eqL xs ys
  | _, _ => false

inductive PI where
  | mv (x : Operand)
  | steal (t : Nat)
  | cnil (e : Nat)
  | pick (c a b : Operand)
  | alloc (row : List Value)
  | box (n : Nat) (x : Operand)
  | build (parts : List (List Value ⊕ (Operand × Nat)))
  | mks (e size : Nat) (tk : Bool) (parts : List Operand)
  | ldA (n : Nat) (x : Operand)
  | ld (steal : Bool) (x : Operand)
  | st (n : Nat) (x v : Operand)
  | sts (x : Operand) (t : Nat)
  | nilc (x : Operand)
  | sc (op : Op) (ty : TypeId)
  | bi (op : BinOp) (x y : Operand)
  | bb (neg : Bool) (x y : Operand)
  | un (op : UnOp) (x : Operand)
  | cv (k : IntKind) (x : Operand)
  | mm (mx : Bool) (x y : Operand)
  | slen (x : Operand)
  | six (x i : Operand)
  | ssl (x : Operand) (lo hi : Option Operand)
  | eqA (neg : Bool) (ks : List CK) (x y : Operand)
  | fa (off : Nat) (x : Operand)
  | fldA (off n : Nat) (x : Operand)
  | fld (off : Nat) (x : Operand)
  | ixS (size : Nat) (x i : Operand)
  | ixP (len size : Nat) (x i : Operand)
  | ixA (len size : Nat) (x i : Operand)
  | ix (len : Nat) (x i : Operand)
  | extr (t i : Nat)
  | slS (size : Nat) (x : Operand) (lo hi mx : Option Operand)
  | mk (e size bytes : Nat) (zero : Value) (l c : Operand)
  | len (x : Operand)
  | app (e size bytes : Nat) (t : Nat) (x : Operand)
  | call (f : Nat) (args : List Operand)
  | mkf (f : FuncId) (first caps : List Operand)
  | callv (x : Operand) (args : List Operand)
  | cns
  | mks0
  | stN (x : Operand)
  | mkB (size bytes : Nat) (zero : List Value) (l c : Operand)
  | appB (size bytes : Nat) (zero : List Value) (t : Nat) (x : Operand)
  | cpy (size : Nat) (x y : Operand)
  | ixB (size : Nat) (x i : Operand)
  | lenB (x : Operand)
  | capB (x : Operand)
  | slB (size : Nat) (x : Operand) (lo hi mx : Option Operand)
  | callB (f : Nat) (args : List Operand)
  | mkM (N : Nat)
  | mset (N : Nat) (x k v : Operand)
  | mget (N : Nat) (x k : Operand)
  | mdel (N : Nat) (x k : Operand)
  | b2s (x : Operand)
  | nilS (neg : Bool) (x : Operand)
  | xcall (f : Nat) (args : List Operand)

/-! maps from strings to truth values -/
def setM (k : ByteArray) (v : Bool) : List (ByteArray × Bool) → List (ByteArray × Bool)
  | [] => [(k, v)]
  | (k', v') :: r => if k = k' then (k, v) :: r else (k', v') :: setM k v r
def getM (k : ByteArray) : List (ByteArray × Bool) → Bool
  | [] => false
  | (k', v) :: r => if k = k' then v else getM k r
def delM (k : ByteArray) : List (ByteArray × Bool) → List (ByteArray × Bool)
  | [] => []
  | (k', v) :: r => if k = k' then r else (k', v) :: delM k r
def u8s : List Value → Option (List Int)
  | [] => some []
  | .int .u8 n :: r => (u8s r).map (n :: ·)
  | _ => none

def mkO (op : Op) (ty : TypeId) : Oper := ⟨none, op, ty, "", #[], none⟩
def PS.putO (s : PS) (d : Option Nat) (v : Value) : PS := match d with | some d => s.put d v | none => s

def buildL (s : PS) : List (List Value ⊕ (Operand × Nat)) → Option (List Value)
  | [] => some []
  | .inl z :: r => (buildL s r).map (z ++ ·)
  | .inr (x, n) :: r => match cellsOf (s.ev x), buildL s r with
    | some l, some m => if l.length = n then some (l ++ m) else none
    | _, _ => none

/-- a function that may be entered -/
def okFn (P : Program) (f : FuncId) : Bool := match P.funcs[f]? with | some fn => fn.body.isSome && fn.name != "runtime.NumGoroutine" | none => false
def rowNoLin (row : List Value) : Prop := ∀ i e xs, row.getD i undef ≠ lin e xs

/-- the lower and upper bound of a cut -/
def bnd (s : PS) (x : Option Operand) (dflt : Nat) : Option Nat :=
  match x with
  | none => some dflt
  | some x => match asInt (s.ev x) with | some (_, n) => if 0 ≤ n then some n.toNat else none | none => none

/-- H1 is H, but for boxes of the call's own that are forgotten -/
def Sub (n0 : Nat) (H1 H : Nat → Option (List Value)) : Prop := ∀ k, H1 k = H k ∨ (n0 ≤ k ∧ H1 k = none)
/-! slices whose elements may be written: they lie in a box -/
def asSlc : Value → Option (Nat × Nat × Nat × Nat)
  | .slice (some ⟨k, off, none⟩) n cap => some (k, off, n, cap)
  | _ => none
def asNs : Value → Option (List Value)
  | .func (.yield 1) xs ⟨[]⟩ => some xs.toList
  | _ => none
/-- the place of an element -/
def elemAt (xs : List Value) (n : Int) (size : Nat) : Option Value :=
  if 0 ≤ n then (xs[n.toNat]?).bind fun e => (cellsOf e).bind fun l => if l.length = size then some (dptr 0 l) else none else none
def elemV (v : Value) (n : Int) (size : Nat) : Option Value :=
  match asSlc v with
  | some (k, off, len, _) => if 0 ≤ n ∧ n < len then some (ptr k (off + n.toNat * size)) else none
  | none => (asDeep v).bind fun xs => elemAt xs n size
def lenV (v : Value) : Option Nat :=
  match asSlc v with
  | some (_, _, len, _) => some len
  | none => (asDeep v).map (·.length)
def capV (v : Value) : Option Nat :=
  match asSlc v with
  | some (_, _, _, cap) => some cap
  | none => (asDeep v).map (·.length)
/-- a cut -/
def slV (v : Value) (l h m size : Nat) (mx : Bool) : Option Value :=
  match asSlc v with
  | some (k, off, _, cap) => if l ≤ h ∧ h ≤ m ∧ m ≤ cap then some (if m = l then ns [] else slc k (off + l * size) (h - l) (m - l)) else none
  | none => match asDeep v with
    | some xs => if l ≤ h ∧ h ≤ m ∧ m ≤ xs.length ∧ (∀ x ∈ xs, (lc x).length = size) ∧ (mx = true → m = h) then some (if mx then ns ((xs.drop l).take (h - l)) else deep ((xs.drop l).take (h - l))) else none
    | none => none
/-- a source of elements: how many, their cells -/
def srcV (H : Nat → Option (List Value)) (v : Value) (size : Nat) : Option (Nat × List Value) :=
  match asSlc v with
  | some (k, off, n, _) => match H k with
    | some row => if off + n * size ≤ row.length then some (n, ((row.drop off).take (n * size)).map dg1) else none
    | none => none
  | none => match asDeep v with
    | some xs => if ∀ x ∈ xs, (lc x).length = size then some (xs.length, (xs.flatMap lc).map dg1) else none
    | none => none
/-- a slice of a box that is forgotten is read only from now on -/
def Cv1 (n0 : Nat) (H H1 : Nat → Option (List Value)) (p p' : Value) : Prop := p' = p ∨
  ∃ k off n cap size row xs, p = slc k off n cap ∧ p' = deep xs ∧ H k = some row ∧ H1 k = none ∧ n0 ≤ k ∧ cap ≤ maxLen ∧ xs.length = n ∧ off + n * size ≤ row.length ∧
    ∀ (i : Nat) x, xs[i]? = some x → lc x = ((row.drop (off + i * size)).take size).map dg1
def Cv (n0 : Nat) (H H1 : Nat → Option (List Value)) (p p' : Value) : Prop := Cv1 n0 H H1 p p' ∨
  ∃ l l', p = ag l ∧ p' = ag l' ∧ l.length = l'.length ∧ ∀ (i : Nat) a b, l[i]? = some a → l'[i]? = some b → Cv1 n0 H H1 a b
def Cvs (n0 : Nat) (H H1 : Nat → Option (List Value)) (l l' : List Value) : Prop := l.length = l'.length ∧ ∀ (i : Nat) a b, l[i]? = some a → l'[i]? = some b → Cv n0 H H1 a b
abbrev Post := Value → (Nat → Option (List Value)) → Nat → Prop
/-- what a caller knows of a callee: f, its arguments, the boxes, the first free number, the boxes that it may write, what holds of its result -/
abbrev Known := Nat → List Value → (Nat → Option (List Value)) → Nat → (Nat → Prop) → Post → Prop

/-- a call of a function of the model's own: it hands back one plain value, and the world is as it was -/
def XC (P : Program) (T : Nat → Prop) (n0 f : Nat) (ps : List Value) (H : Nat → Option (List Value)) (nx : Nat) (p : Value) : Prop :=
  ∀ (q : Par) (own : Nat → Option Pos) (t : Nat → Value) (G : Gh) (vs : List Value), q.P = P → q.T = T → q.n0 = n0 → Base q own ⟨t, H, nx⟩ G → vs.length = ps.length →
    (∀ (i : Nat) v p, vs[i]? = some v → ps[i]? = some p → Rd G v p) → (callFunc f vs.toArray).run P G.w = .ok (.value p) G.w
def step (C : Known) (P : Program) (T : Nat → Prop) (n0 : Nat) (d : Option Nat) (i : PI) (s : PS) (K : PS → Prop) : Prop :=
  match i with
  | .mv x => K (s.putO d (s.ev x))
  | .steal t => K ((s.put t (dg (s.t t))).putO d (s.t t))
  | .cnil e => K (s.putO d (lin e []))
  | .pick c a b => ∃ t, asBool (s.ev c) = some t ∧ K (s.putO d (if t then s.ev a else s.ev b))
  | .alloc row => K { (s.putO d (ptr s.nx 0)) with H := upd s.H s.nx (some row), nx := s.nx + 1 }
  | .box n x => ∃ l, cellsOf (s.ev x) = some l ∧ l.length = n ∧ K { (s.putO d (ptr s.nx 0)) with H := upd s.H s.nx (some l), nx := s.nx + 1 }
  | .build parts => ∃ l, buildL s parts = some l ∧ K (s.putO d (ag l))
  | .mks e size tk parts => (∀ x ∈ parts, ∃ l, cellsOf (s.ev x) = some l ∧ l.length = size) ∧ K (s.putO d (if tk then lin e (parts.map s.ev) else deep (parts.map s.ev)))
  | .ldA n x => ∃ row off, lead s.H (s.ev x) = some (row, off) ∧ off + n ≤ row.length ∧ K (s.putO d (ag (((row.drop off).take n).map dg1)))
  | .ld false x => ∃ row off c, lead s.H (s.ev x) = some (row, off) ∧ row[off]? = some c ∧ K (s.putO d (dg1 c))
  | .ld true x => (∃ k off row c, s.ev x = ptr k off ∧ s.H k = some row ∧ row[off]? = some c ∧ (T k ∨ n0 ≤ k) ∧ K { (s.putO d c) with H := upd s.H k (some (row.set off (dg1 c))) }) ∨
      (isDp (s.ev x) = true ∧ ∃ row off c, lead s.H (s.ev x) = some (row, off) ∧ row[off]? = some c ∧ K (s.putO d (dg1 c)))
  | .st n x v => ∃ k off row l, s.ev x = ptr k off ∧ s.H k = some row ∧ cellsOf (s.ev v) = some l ∧ l.length = n ∧ off + n ≤ row.length ∧ (T k ∨ n0 ≤ k) ∧
      K ({ s with H := upd s.H k (some (row.take off ++ l ++ row.drop (off + n))) }.putO d undef)
  | .sts x t => ∃ k off row, s.ev x = ptr k off ∧ s.H k = some row ∧ off < row.length ∧ (T k ∨ n0 ≤ k) ∧ (∀ ps, s.t t ≠ .tuple ps) ∧ (∀ ps, s.t t ≠ .agg ps) ∧
      K ({ (s.put t (dg (s.t t))) with H := upd s.H k (some (row.set off (s.t t))) }.putO d undef)
  | .nilc x => (addOff (s.ev x) 0).isSome ∧ K (s.putO d (s.ev x))
  | .sc op ty => (∀ x ∈ op.operands.toList, plain (s.ev x) = true) ∧ ∃ r, (∀ w, (execOp s.ev (mkO op ty)).run P w = .ok (.value r) w) ∧ plain r = true ∧ K (s.putO d r)
  | .bi op x y => ∃ r, binV op (s.ev x) (s.ev y) = some r ∧ K (s.putO d r)
  | .bb neg x y => ∃ a b, asBool (s.ev x) = some a ∧ asBool (s.ev y) = some b ∧ K (s.putO d (.bool (if neg then !(a == b) else a == b)))
  | .un op x => ∃ r, unV op (s.ev x) = some r ∧ K (s.putO d r)
  | .cv k x => ∃ k' n, asInt (s.ev x) = some (k', n) ∧ K (s.putO d (.int k (k.wrap n)))
  | .mm mx x y => ∃ r, mmV mx (s.ev x) (s.ev y) = some r ∧ K (s.putO d r)
  | .slen x => ∃ b, asStr (s.ev x) = some b ∧ K (s.putO d (.int .i64 b.size))
  | .six x i => ∃ b k n u, asStr (s.ev x) = some b ∧ asInt (s.ev i) = some (k, n) ∧ 0 ≤ n ∧ b[n.toNat]? = some u ∧ K (s.putO d (.int .u8 u.toNat))
  | .ssl x lo hi => ∃ b l h, asStr (s.ev x) = some b ∧ bnd s lo 0 = some l ∧ bnd s hi b.size = some h ∧ l ≤ h ∧ h ≤ b.size ∧ K (s.putO d (.string (b.extract l h)))
  | .eqA neg ks x y => ∃ l m, asAg (s.ev x) = some l ∧ asAg (s.ev y) = some m ∧ fitsL ks l = true ∧ fitsL ks m = true ∧ K (s.putO d (.bool (if neg then !eqL l m else eqL l m)))
  | .fa off x => ∃ v, addOff (s.ev x) off = some v ∧ K (s.putO d v)
  | .fldA off n x => ∃ l, asAg (s.ev x) = some l ∧ off + n ≤ l.length ∧ K (s.putO d (ag ((l.drop off).take n)))
  | .fld off x => ∃ l c, asAg (s.ev x) = some l ∧ l[off]? = some c ∧ K (s.putO d c)
  | .ixS size x i => ∃ xs k n e l, asDeep (s.ev x) = some xs ∧ asInt (s.ev i) = some (k, n) ∧ 0 ≤ n ∧ xs[n.toNat]? = some e ∧ cellsOf e = some l ∧ l.length = size ∧ K (s.putO d (dptr 0 l))
  | .ixP len size x i => ∃ k n v, asInt (s.ev i) = some (k, n) ∧ 0 ≤ n ∧ n < len ∧ addOff (s.ev x) (n.toNat * size) = some v ∧ K (s.putO d v)
  | .ixA len size x i => ∃ l k n, asAg (s.ev x) = some l ∧ asInt (s.ev i) = some (k, n) ∧ 0 ≤ n ∧ n < len ∧ n.toNat * size + size ≤ l.length ∧ K (s.putO d (ag ((l.drop (n.toNat * size)).take size)))
  | .ix len x i => ∃ l k n c, asAg (s.ev x) = some l ∧ asInt (s.ev i) = some (k, n) ∧ 0 ≤ n ∧ n < len ∧ l[n.toNat]? = some c ∧ K (s.putO d c)
  | .extr t i => ∃ l v, s.t t = tup l ∧ l[i]? = some v ∧ K ((s.put t (tup (l.map dg1))).putO d (dgT v))
  | .slS size x lo hi mx => ∃ xs l h m, asDeep (s.ev x) = some xs ∧ bnd s lo 0 = some l ∧ bnd s hi xs.length = some h ∧ bnd s mx xs.length = some m ∧ l ≤ h ∧ h ≤ m ∧ m ≤ xs.length ∧
      (∀ x ∈ xs, (lc x).length = size) ∧ K (s.putO d (deep ((xs.drop l).take (h - l))))
  | .mk e size bytes zero l c => ∃ kl nl kc nc, asInt (s.ev l) = some (kl, nl) ∧ asInt (s.ev c) = some (kc, nc) ∧ 0 ≤ nl ∧ nl ≤ nc ∧ nc ≤ maxLen ∧ nc * bytes ≤ 140737488355328 ∧
      K (s.putO d (lin e (List.replicate nl.toNat zero)))
  | .len x => ∃ xs, asDeep (s.ev x) = some xs ∧ K (s.putO d (.int .i64 xs.length))
  | .app e size bytes t x => ∃ xs ys, (s.t t = lin e xs ∨ (xs = [] ∧ s.t t = ns [])) ∧ asDeep (s.ev x) = some ys ∧ (∀ y ∈ xs, (lc y).length = size) ∧ (∀ y ∈ ys, (lc y).length = size) ∧ xs.length + ys.length ≤ maxLen ∧ (xs.length + ys.length) * bytes ≤ 140737488355328 ∧
      K ((s.put t (deep xs)).putO d (lin e (xs ++ ys)))
  | .call f args => ∃ T', (∀ k, T' k → n0 ≤ k ∨ T k) ∧ (∀ k row, T' k → s.H k = some row → rowNoLin row) ∧ C f (args.map s.ev) s.H s.nx T' fun p H' nx' => K { (s.putO d p) with H := H', nx := nx' }
  | .mkf f first caps => K (s.putO d (clo f (first.map s.ev) (caps.map s.ev)))
  | .callv x args => ∃ f first caps, s.ev x = clo f first caps ∧ okFn P f = true ∧
      ∃ T', (∀ k, T' k → n0 ≤ k ∨ T k) ∧ (∀ k row, T' k → s.H k = some row → rowNoLin row) ∧ C f (first ++ args.map s.ev ++ caps) s.H s.nx T' fun p H' nx' => K { (s.putO d p) with H := H', nx := nx' }

  | .cns => K (s.putO d (ns []))
  | .mks0 => K (s.putO d (ns []))
  | .stN x => ∃ k off row, s.ev x = ptr k off ∧ s.H k = some row ∧ off < row.length ∧ (T k ∨ n0 ≤ k) ∧ K (PS.putO { s with H := upd s.H k (some (row.set off (ns []))) } d undef)
  | .mkB _ bytes zero l c => ∃ kl nl kc nc, asInt (s.ev l) = some (kl, nl) ∧ asInt (s.ev c) = some (kc, nc) ∧ 0 ≤ nl ∧ nl ≤ nc ∧ nc ≤ maxLen ∧ nc * bytes ≤ 140737488355328 ∧
      K { (s.putO d (slc s.nx 0 nl.toNat nc.toNat)) with H := upd s.H s.nx (some (List.replicate nc.toNat zero).flatten), nx := s.nx + 1 }
  | .appB size bytes zero t x => ∃ m cells, srcV s.H (s.ev x) size = some (m, cells) ∧
      ((∃ xs, s.t t = ns xs ∧ (∀ y ∈ xs, (lc y).length = size) ∧ xs.length + m ≤ maxLen ∧ (xs.length + m) * bytes ≤ 140737488355328 ∧ (m = 0 → K (s.putO d (ns xs))) ∧
        (0 < m → ∀ cap, xs.length + m ≤ cap → cap ≤ maxLen →
          K { (s.putO d (slc s.nx 0 (xs.length + m) cap)) with H := upd s.H s.nx (some ((xs.flatMap lc).map dg1 ++ cells ++ (List.replicate (cap - (xs.length + m)) zero).flatten)), nx := s.nx + 1 })) ∨
      (∃ k off n cap row, s.t t = slc k off n cap ∧ s.H k = some row ∧ off + cap * size ≤ row.length ∧ n ≤ cap ∧ (T k ∨ n0 ≤ k) ∧ n + m ≤ maxLen ∧ (n + m) * bytes ≤ 140737488355328 ∧
        (n + m ≤ cap → K { (s.putO d (slc k off (n + m) cap)) with H := upd s.H k (some (row.take (off + n * size) ++ cells ++ row.drop (off + (n + m) * size))) }) ∧
        (cap < n + m → ∀ cap', n + m ≤ cap' → cap' ≤ maxLen →
          K { (s.putO d (slc s.nx 0 (n + m) cap')) with H := upd s.H s.nx (some (((row.drop off).take (n * size)).map dg1 ++ cells ++ (List.replicate (cap' - (n + m)) zero).flatten)), nx := s.nx + 1 })))
  | .cpy size x y => ∃ k off n cap row m cells, s.ev x = slc k off n cap ∧ s.H k = some row ∧ off + n * size ≤ row.length ∧ (T k ∨ n0 ≤ k) ∧ srcV s.H (s.ev y) size = some (m, cells) ∧
      K { (s.putO d (.int .i64 (min n m : Nat))) with H := upd s.H k (some (row.take off ++ cells.take (min n m * size) ++ row.drop (off + min n m * size))) }
  | .ixB size x i => ∃ k n v, asInt (s.ev i) = some (k, n) ∧ elemV (s.ev x) n size = some v ∧ K (s.putO d v)
  | .lenB x => ∃ n, lenV (s.ev x) = some n ∧ K (s.putO d (.int .i64 n))
  | .capB x => ∃ k off n cap, s.ev x = slc k off n cap ∧ K (s.putO d (.int .i64 cap))
  | .slB size x lo hi mx => ∃ n c l h m v, lenV (s.ev x) = some n ∧ capV (s.ev x) = some c ∧ bnd s lo 0 = some l ∧ bnd s hi n = some h ∧ bnd s mx c = some m ∧ slV (s.ev x) l h m size mx.isSome = some v ∧ K (s.putO d v)
  | .mkM N => ∀ b, K { (s.putO d (.map (some b))) with t := upd (s.putO d (.map (some b))).t (N + b) (mpe []) }
  | .mset N x k v => ∃ b es kb vb, s.ev x = .map (some b) ∧ s.t (N + b) = mpe es ∧ asStr (s.ev k) = some kb ∧ asBool (s.ev v) = some vb ∧ K (PS.putO { s with t := upd s.t (N + b) (mpe (setM kb vb es)) } d undef)
  | .mget N x k => ∃ b es kb, s.ev x = .map (some b) ∧ s.t (N + b) = mpe es ∧ asStr (s.ev k) = some kb ∧ K (s.putO d (.bool (getM kb es)))
  | .mdel N x k => ∃ b es kb, s.ev x = .map (some b) ∧ s.t (N + b) = mpe es ∧ asStr (s.ev k) = some kb ∧ K (PS.putO { s with t := upd s.t (N + b) (mpe (delM kb es)) } d (tup []))
  | .b2s x => ∃ xs ns, asDeep (s.ev x) = some xs ∧ u8s xs = some ns ∧ K (s.putO d (.string (strOfNums ns)))
  | .xcall f args => ∃ p, XC P T n0 f (args.map s.ev) s.H s.nx p ∧ plain p = true ∧ K (s.putO d p)
  | .nilS neg x => (∃ xs, asDeep (s.ev x) = some xs ∧ (xs = [] → K (s.putO d (.bool (!neg)))) ∧ K (s.putO d (.bool neg))) ∨ (∃ k off n cap, s.ev x = slc k off n cap ∧ K (s.putO d (.bool neg)))
  | .callB f args => ∃ H1 args', Sub n0 H1 s.H ∧ Cvs n0 s.H H1 (args.map s.ev) args' ∧
      ((∃ T', (∀ k, T' k → n0 ≤ k ∨ T k) ∧ (∀ k row, T' k → H1 k = some row → rowNoLin row) ∧ C f args' H1 s.nx T' fun p H' nx' => K { (s.putO d p) with H := H', nx := nx' }) ∨
      (∃ v, plain v = true ∧ C f args' H1 s.nx (fun _ => False) (fun p _ _ => p = v) ∧ K (s.putO d v)))
/-- a type's zero value as an element -/
def zeroEl (z : Value) : Value := match z with | .agg cs => ag (cs.toList.map opv) | v => opv v
def notTup : Value → Bool | .tuple _ => false | _ => true

/-- of many cells? -/
def aggD : TypeDesc → Bool
  | .struct _ | .array _ _ => true
  | _ => false

section compile
variable (P : Program) (N : Nat) (ops : Array Oper)

def okOpd : Operand → Bool
  | .tmp t => t < N
  | .const v => scal v
  | .global g => g < P.globals.size
  | .func _ => true
def sz (t : TypeId) : Option Nat := (P.info? t).map (·.size)
def isAggB (t : TypeId) : Option Bool := (P.underlying t).map aggD
def sliceElem (t : TypeId) : Option Nat := match P.underlying t with | some (.slice e) => some e | _ => none
def isTuple (t : TypeId) : Bool := match P.underlying t with | some (.tuple _) => true | _ => false

/-- is the slot's value wanted with its right to be appended to? -/
def wants (d : Nat) : Bool := ops.toList.any fun o => match o.op with
  | .call { callee := .builtin .append, args := ⟨.tmp t :: _⟩, .. } => t == d
  | .assign (.tmp t) => t == d
  | .store _ _ (.tmp t) => t == d
  | _ => false
def wantsO (d : Option Nat) : Bool := match d with | some d => wants ops d | none => false

/-- the elements' types of the slices among a type's cells, in order; what is not a slice has 0 -/
def cellElems : Nat → TypeId → List Nat
  | 0, _ => []
  | n + 1, t => match P.underlying t with
    | some (.struct fs) => fs.toList.flatMap fun f => cellElems n f.type
    | some (.array len e) => (List.replicate len (cellElems n e)).flatten
    | some (.slice e) => [e]
    | _ => [0]
def zrowOf (es : List Nat) (z : List Value) : List Value := (z.zip es).map fun | (.slice none 0 0, e) => lin e [] | (c, _) => c
def zrow (t : TypeId) : Option (List Value) := do
  let i ← P.info? t
  let z ← i.zero
  let cs := z.cells.toList
  let r := zrowOf (cellElems P 8 t) cs
  if r.length = cs.length ∧ cs.all scal then some r else none
def blocks : List Nat → List Value → List (List Value)
  | [], _ => []
  | n :: ns, l => l.take n :: blocks ns (l.drop n)
/-- the parts of a value that is put together: what stands for each block -/
def partsOf (zf : Value → Value) : List (List Value) → Nat → List (Nat × Operand) → Option (List (List Value ⊕ (Operand × Nat)))
  | [], _, [] => some []
  | [], _, _ :: _ => none
  | z :: zs, i, (j, x) :: ps =>
    if i = j then (if okOpd P N x then (partsOf zf zs (i + 1) ps).map (.inr (x, z.length) :: ·) else none)
    else (partsOf zf zs (i + 1) ((j, x) :: ps)).map (.inl (z.map zf) :: ·)
  | z :: zs, i, [] => (partsOf zf zs (i + 1) []).map (.inl (z.map zf) :: ·)
/-- the sizes of a struct's fields, which lie one behind the other -/
def fieldSizes : List Field → Nat → Option (List Nat)
  | [], _ => some []
  | f :: fs, off => if f.offset = off then (match sz P f.type with
    | some n => (fieldSizes fs (off + n)).map (n :: ·)
    | none => none) else none
def zeroCells (t : TypeId) (n : Nat) : Option (List Value) := match P.info? t with
  | some i => match i.zero with
    | some z => if z.cells.size = n ∧ z.cells.toList.all scal then some z.cells.toList else none
    | none => none
  | none => none
/-- the parts in the order of the fields -/
def insP (x : Nat × Operand) : List (Nat × Operand) → List (Nat × Operand)
  | [] => [x]
  | y :: r => if x.1 ≤ y.1 then x :: y :: r else y :: insP x r
def sortP : List (Nat × Operand) → List (Nat × Operand)
  | [] => []
  | x :: r => insP x (sortP r)
def buildOf (zf : Value → Value) (t : TypeId) (ns : List Nat) (parts : List (Nat × Operand)) : Option PI :=
  match zeroCells P t ns.sum with
  | some z => (partsOf P N zf (blocks ns z) 0 (sortP parts)).map .build
  | none => none

/-- the kinds of the cells of fields that lie one behind the other -/
def cksF (rec : TypeId → Option (List CK)) : List Field → Nat → Option (List CK)
  | [], _ => some []
  | f :: fs, off => if f.name ≠ "_" ∧ f.offset = off then (match rec f.type with
    | some l => if sz P f.type = some l.length then (cksF rec fs (off + l.length)).map (l ++ ·) else none
    | none => none) else none
/-- the kinds of a type's cells, where all of them may be compared one by one -/
def cks : Nat → TypeId → Option (List CK)
  | 0, _ => none
  | n + 1, t => match P.underlying t with
    | some (.int k) => some [.int k]
    | some .bool => some [.bool]
    | some .string => some [.string]
    | some (.struct fs) => if P.stoodInHeld t then none else cksF P (cks n) fs.toList 0
    | some (.array len e) => match cks n e with
      | some l => if sz P e = some l.length then some (List.replicate len l).flatten else none
      | none => none
    | _ => none

def okAll (l : List Operand) : Bool := l.all (okOpd P N)

def compOp (o : Oper) : Option PI :=
  match o.op with
  | .move (.const (.slice none 0 0)) | .assign (.const (.slice none 0 0)) => (sliceElem P o.type).map .cnil
  | .move (.tmp t) => if isTuple P o.type || ((sliceElem P o.type).isSome && wantsO ops o.dst) then some (.steal t) else some (.mv (.tmp t))
  | .assign (.tmp t) => if isTuple P o.type || (sliceElem P o.type).isSome then some (.steal t) else some (.mv (.tmp t))
  | .move x | .assign x => some (.mv x)
  | .pick c a b => some (.pick c a b)
  | .alloc t => (zrow P t).map .alloc
  | .box t x => (sz P t).map fun n => .box n x
  | .build t parts => match P.underlying t with
    | some (.struct fs) => match fieldSizes P fs.toList 0 with
      | some ns => buildOf P N opv t ns parts.toList
      | none => none
    | some (.array len e) => match sz P e with
      | some n => buildOf P N opv t (List.replicate len n) parts.toList
      | none => none
    | _ => none
  | .buildSlice t len parts => match sliceElem P t with
    | some e => match sz P e with
      | some n => if parts.toList.map (·.1) == List.range len && n != 0 && decide (len * n ≤ 2 ^ 24) && ((P.info? e).bind (·.zero)).isSome then some (.mks e n (wantsO ops o.dst) (parts.toList.map (·.2))) else none
      | none => none
    | none => none
  | .load t x => match isAggB P t, sz P t with
    | some true, some n => some (.ldA n x)
    | some false, _ => some (.ld ((sliceElem P t).isSome && wantsO ops o.dst) x)
    | _, _ => none
  | .store t x v => match sz P t with
    | some n => match sliceElem P t, v with
      | some _, .tmp u => if n = 1 then some (.sts x u) else none
      | _, _ => some (.st n x v)
    | none => none
  | .nilCheck x => some (.nilc x)
  | .binOp op t x y _ => match P.underlying t with
    | some (.int _) | some .string => some (.bi op x y)
    | some .bool => match op with
      | .eql => some (.bb false x y)
      | .neq => some (.bb true x y)
      | _ => none
    | some (.struct _) | some (.array _ _) => if P.eqGuardType P.depth t then none else match cks P 8 t with
      | some ks => match op with
        | .eql => some (.eqA false ks x y)
        | .neq => some (.eqA true ks x y)
        | _ => none
      | none => none
    | _ => some (.sc o.op o.type)
  | .unOp op _ x => some (.un op x)
  | .convert a b x => match P.underlying a, P.underlying b with
    | some (.int _), some (.int k) => some (.cv k x)
    | _, _ => some (.sc o.op o.type)
  | .fieldAddr t x f => match P.underlying t with
    | some (.struct fs) => match fs[f]? with
      | some fl => match sz P fl.type with | some n => if n = 0 then none else some (.fa fl.offset x) | none => none
      | none => none
    | _ => none
  | .field t x f => match P.underlying t with
    | some (.struct fs) => match fs[f]? with
      | some fl => match isAggB P fl.type, sz P fl.type with
        | some true, some n => some (.fldA fl.offset n x)
        | some false, _ => some (.fld fl.offset x)
        | _, _ => none
      | none => none
    | _ => none
  | .indexAddr t x i => match P.underlying t with
    | some (.slice e) => (sz P e).map fun n => .ixS n x i
    | some (.array len e) => (sz P e).map fun n => .ixP len n x i
    | _ => none
  | .index t x i => match P.underlying t with
    | some (.array len e) => match isAggB P e, sz P e with
      | some true, some n => some (.ixA len n x i)
      | some false, some n => if n = 1 then some (.ix len x i) else none
      | _, _ => none
    | some .string => some (.six x i)
    | _ => none
  | .extract (.tmp t) i => some (.extr t i)
  | .slice t x lo hi mx => match P.underlying t with
    | some (.slice e) => if mx.isSome && hi.isNone then none else (sz P e).map fun n => .slS n x lo hi mx
    | some .string => if mx.isSome then none else some (.ssl x lo hi)
    | _ => none
  | .makeSlice t l c => match sliceElem P t with
    | some e => match P.info? e with
      | some i => match i.zero with
        | some z => if z.cells.size = i.size ∧ i.size ≠ 0 ∧ z.cells.toList.all scal ∧ notTup z then some (.mk e i.size i.bytes (zeroEl z) l c) else none
        | none => none
      | none => none
    | none => none
  | .call { callee := .builtin .len, args := ⟨[x]⟩, argTypes := ⟨[t]⟩ } => match P.underlying t with
    | some (.slice _) => some (.len x)
    | some .string => some (.slen x)
    | _ => none
  | .call { callee := .builtin .append, args := ⟨[.tmp t, x]⟩, argTypes := ⟨[u, v]⟩ } => if u ≠ v then none else match sliceElem P u with
    | some e => match P.info? e with
      | some i => match i.zero with
        | some z => if z.cells.size = i.size ∧ i.size ≠ 0 then some (.app e i.size i.bytes t x) else none
        | none => none
      | none => none
    | none => none
  | .call { callee := .builtin .min, args := ⟨[x, y]⟩, .. } => some (.mm false x y)
  | .call { callee := .builtin .max, args := ⟨[x, y]⟩, .. } => some (.mm true x y)
  | .call { callee := .value (.func f), args, .. } => match P.funcs[f]? with
    | some fn => if fn.body.isSome && fn.name != "runtime.NumGoroutine" then some (.call f args.toList) else if fn.body.isNone then some (.xcall f args.toList) else none
    | none => none
  | .call { callee := .value (.tmp t), args, .. } => some (.callv (.tmp t) args.toList)
  | .makeFunc (.func f) first caps => some (.mkf f first.toList caps.toList)
  | _ => none

/-! the same, where slices of some types lie in boxes: bx names the types of their elements -/
variable (bx : List Nat)
def bxElem (t : TypeId) : Option Nat := match sliceElem P t with | some e => if bx.contains e then some e else none | none => none
def zeroOf (e : Nat) : Option (TypeInfo × List Value) := match P.info? e with
  | some i => match i.zero with
    | some z => if z.cells.size = i.size ∧ i.size ≠ 0 ∧ z.cells.toList.all scal then some (i, z.cells.toList.map opv) else none
    | none => none
  | none => none
def linOfBx : Value → Bool
  | .func (.yield 1) ⟨[]⟩ ⟨[.int .i64 e]⟩ => bx.contains e.toNat
  | _ => false
def nsRow (row : List Value) : List Value := row.map fun c => if linOfBx bx c then ns [] else c
def compB (o : Oper) : Option PI :=
  match o.op with
  | .move (.const (.slice none 0 0)) | .assign (.const (.slice none 0 0)) => (bxElem P bx o.type).map fun _ => .cns
  | .alloc t => match zrow P t with
    | some row => if row.any (linOfBx bx) then some (.alloc (nsRow bx row)) else none
    | none => none
  | .store t x (.const (.slice none 0 0)) => if sz P t = some 1 then (bxElem P bx t).map fun _ => .stN x else none
  | .store t x (.tmp u) => if bx.isEmpty || bx.contains 1000000 || (bxElem P bx t).isSome || (sliceElem P t).isNone then none else if sz P t = some 1 then some (.st 1 x (.tmp u)) else none
  | .makeSlice t l c => match bxElem P bx t with
    | some e => (zeroOf P e).map fun (i, z) => .mkB i.size i.bytes z l c
    | none => none
  | .buildSlice t 0 ⟨[]⟩ => match bxElem P bx t with | some e => (sz P e).map fun _ => .mks0 | none => none
  | .call { callee := .builtin .append, args := ⟨[.tmp t, x]⟩, argTypes := ⟨[u, v]⟩ } => if u ≠ v then none else match bxElem P bx u with
    | some e => (zeroOf P e).map fun (i, z) => .appB i.size i.bytes z t x
    | none => none
  | .call { callee := .builtin .copy, args := ⟨[x, y]⟩, argTypes := ⟨[u, v]⟩ } => if u ≠ v then none else match bxElem P bx u with
    | some e => match sz P e with | some n => if n = 0 then none else some (.cpy n x y) | none => none
    | none => none
  | .call { callee := .builtin .len, args := ⟨[x]⟩, argTypes := ⟨[t]⟩ } => (bxElem P bx t).map fun _ => .lenB x
  | .call { callee := .builtin .cap, args := ⟨[x]⟩, argTypes := ⟨[t]⟩ } => (bxElem P bx t).map fun _ => .capB x
  | .indexAddr t x i => match bxElem P bx t with
    | some e => match sz P e with | some n => if n = 0 then none else some (.ixB n x i) | none => none
    | none => none
  | .slice t x lo hi mx => match bxElem P bx t with
    | some e => match sz P e with | some n => if n = 0 || (mx.isSome && hi.isNone) then none else some (.slB n x lo hi mx) | none => none
    | none => none
  | .call { callee := .value (.func f), args, .. } => if bx.isEmpty then none else match P.funcs[f]? with
    | some fn => if fn.body.isSome && fn.name != "runtime.NumGoroutine" then some (.callB f args.toList) else none
    | none => none
  | _ => none
/-- a map from strings to truth values -/
def strMap (t : TypeId) : Bool := match P.underlying t with
  | some (.map k e) => (match P.underlying k, P.underlying e, (P.info? e).bind (·.zero) with | some .string, some .bool, some (.bool false) => true | _, _, _ => false)
  | _ => false
def u8Slice (t : TypeId) : Bool := match P.underlying t with
  | some (.slice e) => (match P.underlying e with | some (.int .u8) => true | _ => false)
  | _ => false
def isString (t : TypeId) : Bool := match P.underlying t with | some .string => true | _ => false
def compM (o : Oper) : Option PI :=
  match o.op with
  | .makeMap t none => if strMap P t then some (.mkM N) else none
  | .mapUpdate t m k v => if strMap P t then some (.mset N m k v) else none
  | .lookup t m k false => if strMap P t then some (.mget N m k) else none
  | .call { callee := .builtin .delete, args := ⟨[m, k]⟩, argTypes := ⟨t :: _⟩ } => if strMap P t then some (.mdel N m k) else none
  | .convert a b x => if u8Slice P a && isString P b then some (.b2s x) else none
  | .binOp .eql t x (.const (.slice none 0 0)) _ => if (sliceElem P t).isSome then some (.nilS false x) else none
  | .binOp .neq t x (.const (.slice none 0 0)) _ => if (sliceElem P t).isSome then some (.nilS true x) else none
  | _ => none
def okOper (o : Oper) : Bool := okAll P N o.op.operands.toList && (match o.dst with | some d => decide (d < N) | none => true)
def comp1 (o : Oper) : Option PI := if okOper P N o then compOp P N ops o else none
/-- with the mark 1000000: what is put together has slices that one may append to -/
def compZ (o : Oper) : Option PI := if bx.contains 1000000 then (match o.op with
    | .build t ps => (match P.underlying t with
      | some (.struct fs) => (match fieldSizes P fs.toList 0 with | some ns => buildOf P N opvZ t ns ps.toList | none => none)
      | _ => none)
    | _ => none) else none
def comp1X (o : Oper) : Option PI := if okOper P N o then (match compM P N o with | some i => some i | none => match compZ P N bx o with | some i => some i | none => match compB P bx o with | some i => some i | none => match compOp P N ops o with | some i => some i | none => if bx.contains 2000000 then some (.len (.const (.bool true))) else none) else none

end compile

/-- it only reads, or calls -/
def qOK : PI → Bool
  | .mv _ | .pick .. | .build _ | .ldA .. | .ld false _ | .nilc _ | .sc .. | .bi .. | .bb .. | .un .. | .cv .. | .mm .. | .slen _ | .six .. | .ssl .. | .eqA .. | .fa .. | .fldA .. | .fld .. | .ixS .. | .ixP .. | .ixA .. | .ix .. | .slS .. | .len _ | .call .. | .mkf .. | .cns | .ixB .. | .lenB _ | .capB _ | .slB .. | .callB .. | .b2s _ | .nilS .. => true
  | _ => false
end Go.PE
namespace Go.PE
open Go

section
variable {q : Par} {own : Nat → Option Pos} {s : PS} {a : Act} {G : Gh}

def live (N : Nat) (s : PS) : Pos → Prop
  | .tmp t => t < N ∧ ∃ e xs, s.t t = lin e xs
  | .tup t i => t < N ∧ ∃ e xs, comp (s.t t) i = lin e xs
  | .cell k i => ∃ e xs, pcell s.H k i = lin e xs

theorem lin_inj {e e' : Nat} {xs xs' : List Value} (h : lin e xs = lin e' xs') : e = e' ∧ xs = xs' := by
  simp only [lin, Value.func.injEq, true_and] at h
  obtain ⟨h1, h2⟩ := h
  simp at h1 h2
  exact ⟨by omega, h1⟩

/-- the source of a move keeps the reading alone -/
theorem Inv.degrade (h : Inv q own s a G) {t : Nat} (_ht : t < q.N) : Inv q own (s.put t (dg (s.t t))) a G where
  toBase := h.toBase.putT _
  size := h.size
  defers := h.defers
  tm := fun u hu => by
    simp only [PS.put, upd]
    split
    · rename_i e; subst e; exact Rd_dg (h.tm u hu)
    · exact h.tm u hu
  ttok := fun u e xs hu hp => by
    simp only [PS.put, upd] at hp
    split at hp
    · exact absurd hp ((noLin_dg _).1 e xs)
    · exact h.ttok u e xs hu hp
  utok := fun u i e xs hu hp => by
    simp only [PS.put, upd] at hp
    split at hp
    · exact absurd hp ((noLin_dg _).2 i e xs)
    · exact h.utok u i e xs hu hp
  mps := fun b es hp => h.mps b es (by rw [← hp]; exact (upd_far _ _ _ _ht).symm)

/-- a slice without cells and room may as well be one's own -/
theorem Inv.turnNs (h : Inv q own s a G) {t e : Nat} (ht : t < q.N) (hst : s.t t = ns []) : Inv q own (s.put t (lin e [])) a G where
  toBase := h.toBase.putT _
  size := h.size
  defers := h.defers
  tm := fun u hu => by
    simp only [PS.put, upd]
    split
    · rename_i eq; subst eq
      have := Rd_dg (h.tm u hu)
      rw [hst] at this
      exact .lin _ _ _ this
    · exact h.tm u hu
  ttok := fun u e' xs hu hp => by
    simp only [PS.put, upd] at hp
    split at hp
    · rename_i eq; subst eq
      have hr := h.tm u hu
      rw [hst] at hr
      generalize a.tmps.getD u undef = v at hr
      refine .inl ?_
      generalize hw : ns [] = w at hr
      cases hr <;> first | (exfalso; rename_i hsc; rw [← hw] at hsc; simp [ns, PE.scal] at hsc; done) | (exact ⟨_, by simp [ns] at hw; subst hw; rfl⟩) | (exfalso; revert hw; simp [ns, PE.deep, PE.lin, PE.dptr, PE.slc, PE.ptr, ag, tup, clo])
    · exact h.ttok u e' xs hu hp
  utok := fun u i e' xs hu hp => by
    simp only [PS.put, upd] at hp
    split at hp
    · exact absurd hp (by simp [comp, lin, undef])
    · exact h.utok u i e' xs hu hp
  mps := fun b es hp => h.mps b es (by rw [← hp]; exact (upd_far _ _ _ ht).symm)

theorem TokOK.own_of {P : Program} {own own' : Nat → Option Pos} {base : Nat} {pos pos' : Pos} {e : Nat} {v : Value} (h : TokOK P G own base pos e v)
    (ho : ∀ g n cap, v = .slice (some ⟨g, 0, none⟩) n cap → own g = some pos → own' g = some pos') : TokOK P G own' base pos' e v := by
  rcases h with h | ⟨g, n, cap, i, xs, rfl, hi, h1, h2, h3, h4⟩
  · exact .inl h
  · exact .inr ⟨g, n, cap, i, xs, rfl, hi, h1, h2, ho g n cap rfl h3, h4⟩

/-- a value with its tokens is put into a slot -/
theorem Inv.putTok (h : Inv q own s a G) {d : Nat} (hd : d < q.N) {v p : Value} (hr : Rd G v p) (own' : Nat → Option Pos)
    (hol : ∀ g pos, own' g = some pos → g < G.w.heap.size)
    (hkeep : ∀ g pos, own g = some pos → live q.N s pos → own' g = some pos)
    (ht : ∀ e xs, p = lin e xs → TokOK q.P G own' q.B (.tmp d) e v)
    (hu : ∀ i e xs, comp p i = lin e xs → TokOK q.P G own' q.B (.tup d i) e (comp v i)) : Inv q own' (s.put d p) (a.put (some d) v) G where
  toBase := ⟨⟨h.ob, h.bn, h.nxH, h.nx, h.n0, h.inj, h.gl, h.ng, hol⟩, h.bo, h.frame, h.sz, h.os, h.tape, h.output,
    fun base k i e' xs' hb hp => (h.ctok base k i e' xs' hb hp).own_of fun g _ _ _ ho => hkeep g _ ho ⟨e', xs', hp⟩, h.hh⟩
  size := by rw [put_size]; exact h.size
  defers := h.defers
  tm := fun t ht => by
    rw [put_getD _ _ _ _ (by rw [h.size]; exact hd)]
    simp only [PS.put, upd]
    split
    · exact hr
    · exact h.tm t ht
  ttok := fun t e' xs' htN hp => by
    have hds : d < a.tmps.size := by rw [h.size]; exact hd
    simp only [PS.put, upd] at hp
    simp only [put_getD _ _ _ _ hds]
    split at hp
    · rename_i heq
      subst heq
      simpa using ht _ _ hp
    · rename_i hne; rw [if_neg hne]
      exact (h.ttok t e' xs' htN hp).own_of fun g _ _ _ ho => hkeep g _ ho ⟨htN, e', xs', hp⟩
  utok := fun t i e' xs' htN hp => by
    have hds : d < a.tmps.size := by rw [h.size]; exact hd
    simp only [PS.put, upd] at hp
    simp only [put_getD _ _ _ _ hds]
    split at hp
    · rename_i heq
      subst heq
      simpa using hu _ _ _ hp
    · rename_i hne; rw [if_neg hne]
      exact (h.utok t i e' xs' htN hp).own_of fun g _ _ _ ho => hkeep g _ ho ⟨htN, e', xs', hp⟩
  mps := fun b es hp => h.mps b es (by rw [← hp]; exact (upd_far _ _ _ hd).symm)

theorem comp_lin (e : Nat) (xs : List Value) (i : Nat) (e' : Nat) (xs' : List Value) : comp (lin e xs) i ≠ lin e' xs' := by simp [comp, lin, undef]

/-- one value with its token is put into a slot -/
theorem Inv.putLin (h : Inv q own s a G) {d : Nat} (hd : d < q.N) {v : Value} {e : Nat} {xs : List Value} (hr : Rd G v (lin e xs)) (own' : Nat → Option Pos)
    (hol : ∀ g pos, own' g = some pos → g < G.w.heap.size)
    (hkeep : ∀ g pos, own g = some pos → live q.N s pos → own' g = some pos)
    (ht : TokOK q.P G own' q.B (.tmp d) e v) : Inv q own' (s.put d (lin e xs)) (a.put (some d) v) G :=
  h.putTok hd hr own' hol hkeep (fun e' xs' he => by obtain ⟨rfl, rfl⟩ := lin_inj he; exact ht) (fun i e' xs' he => absurd he (comp_lin _ _ _ _ _))

/-- a slot's tokens go to another slot -/
def reslot (own : Nat → Option Pos) (t d : Nat) : Nat → Option Pos := fun g => match own g with
  | some (.tmp u) => if u = t then some (.tmp d) else some (.tmp u)
  | some (.tup u i) => if u = t then some (.tup d i) else some (.tup u i)
  | x => x

theorem Inv.steal (h : Inv q own s a G) {t d : Nat} (ht : t < q.N) (hd : d < q.N) :
    Inv q (reslot own t d) ((s.put t (dg (s.t t))).put d (s.t t)) (a.put (some d) (a.tmps.getD t undef)) G := by
  have h1 := h.degrade ht
  refine h1.putTok hd (h.tm t ht) _ (fun g pos hg => ?_) (fun g pos ho hl => ?_) (fun e xs he => ?_) (fun i e xs he => ?_)
  · unfold reslot at hg
    cases ho : own g with
    | none => rw [ho] at hg; simp at hg
    | some p => exact h.ol g p ho
  · unfold reslot
    rw [ho]
    cases pos with
    | tmp u =>
      by_cases hu : u = t
      · subst hu
        obtain ⟨_, e, xs, he⟩ := hl
        simp only [PS.put, upd_same] at he
        exact absurd he ((noLin_dg _).1 e xs)
      · simp [hu]
    | tup u i =>
      by_cases hu : u = t
      · subst hu
        obtain ⟨_, e, xs, he⟩ := hl
        simp only [PS.put, upd_same] at he
        exact absurd he ((noLin_dg _).2 i e xs)
      · simp [hu]
    | cell k i => rfl
  · exact (h.ttok t e xs ht he).own_of fun g _ _ _ ho => by simp [reslot, ho]
  · exact (h.utok t i e xs ht he).own_of fun g _ _ _ ho => by simp [reslot, ho]

theorem Rd_dgT {v p : Value} (h : Rd G v p) : Rd G v (dgT p) := by
  unfold dgT
  split
  · exact Rd_dg h
  · exact h

theorem comp_tup (l : List Value) (i : Nat) : comp (tup l) i = l.getD i undef := by simp [comp, tup]

/-- a part of a result goes to a slot, with its token -/
theorem Inv.extract (h : Inv q own s a G) {t d i : Nat} (ht : t < q.N) (hd : d < q.N) {l : List Value} {p : Value} (hl : s.t t = tup l) (hp : l[i]? = some p) :
    ∃ v own', (Instr.extract (a.tmps.getD t undef) i).run q.P G.w = .ok v G.w ∧ Inv q own' ((s.put t (tup (l.map dg1))).put d (dgT p)) (a.put (some d) v) G := by
  have hrd := h.tm t ht
  rw [hl] at hrd
  generalize hva : a.tmps.getD t undef = va at hrd
  obtain ⟨vs, rfl, hlen, hr⟩ : ∃ vs, va = tup vs ∧ vs.length = l.length ∧ ∀ (i : Nat) v p, vs[i]? = some v → l[i]? = some p → Rd G v p := by
    generalize hq : tup l = P at hrd
    cases hrd with
    | scal v h => subst hq; simp [tup, PE.scal] at h
    | tuple vs ps hl hr =>
      obtain rfl : l = ps := by simpa [tup] using hq
      exact ⟨vs, rfl, hl, hr⟩
    | _ => simp [tup, PE.ptr, PE.deep, PE.lin, PE.dptr, ag, PE.slc, PE.clo, PE.ns] at hq
  have hi : i < vs.length := by rw [hlen]; exact (List.getElem?_eq_some_iff.1 hp).1
  have hv : vs[i]? = some vs[i] := List.getElem?_eq_getElem hi
  have hdg : tup (l.map dg1) = dg (s.t t) := by rw [hl]; simp [tup, dg]
  have h1 := h.degrade ht
  rw [← hdg] at h1
  refine ⟨vs[i], fun g => if own g = some (.tup t i) then some (.tmp d) else own g, ?_, h1.putTok hd (Rd_dgT (hr i _ _ hv hp)) _ (fun g pos hg => ?_) (fun g pos ho hlv => ?_) (fun e xs he => ?_) (fun j e xs he => ?_)⟩
  · simp [Instr.extract, tup, hv]
  · split at hg
    · rename_i h'; exact h.ol g _ h'
    · exact h.ol g _ hg
  · rw [if_neg]
    · exact ho
    · rw [ho]
      rintro heq
      obtain rfl : pos = .tup t i := by simpa using heq
      obtain ⟨_, e, xs, he⟩ := hlv
      simp only [PS.put, upd_same] at he
      rw [hdg] at he
      exact absurd he ((noLin_dg _).2 i e xs)
  · have hp' : p = lin e xs := by
      unfold dgT at he
      split at he
      · simp [lin] at he
      · exact he
    subst hp'
    have hu := h.utok t i e xs ht (by rw [hl, comp_tup]; simp [hp])
    rw [hva, comp_tup, List.getD_eq_getElem?_getD, hv, Option.getD_some] at hu
    exact hu.own_of fun g _ _ _ ho => by simp [ho]
  · exfalso
    unfold dgT at he
    split at he
    · have := (noLin_dg (.tuple ‹_›)).2 j e xs
      exact this he
    · rename_i hno
      unfold comp at he
      split at he
      · exact hno _ rfl
      · simp [undef, lin] at he

/-- the cells of a value, purely and really -/
theorem Rd_cells {v p : Value} (h : Rd G v p) {l : List Value} (hc : cellsOf p = some l) :
    ∃ vs, lc v = vs ∧ v.cells.size = vs.length ∧ vs.length = l.length ∧ (∀ x ∈ vs, x.oneCell' = true) ∧ ∀ (i : Nat) x y, vs[i]? = some x → l[i]? = some y → Rd G x y := by
  have one : ∀ {v p : Value}, Rd G v p → v.oneCell' = true → cellsOf p = some [p] → cellsOf p = some l →
      ∃ vs, lc v = vs ∧ v.cells.size = vs.length ∧ vs.length = l.length ∧ (∀ x ∈ vs, x.oneCell' = true) ∧ ∀ (i : Nat) x y, vs[i]? = some x → l[i]? = some y → Rd G x y := by
    intro v p h h1 h2 h3
    rw [h2] at h3
    obtain rfl : [p] = l := by simpa using h3
    have hv : v.cells = #[v] := by cases v <;> first | rfl | simp [Value.oneCell'] at h1
    refine ⟨[v], by simp [lc, hv], by simp [hv], rfl, by simpa using h1, fun i x y hx hy => ?_⟩
    match i, hx, hy with
    | 0, hx, hy => simp at hx hy; subst hx hy; exact h
  cases h with
  | scal v h => exact one (.scal v h) (by cases v <;> first | rfl | simp [PE.scal] at h) (by cases v <;> first | rfl | simp [PE.scal] at h) hc
  | ptr k b off h hk => exact one (.ptr k b off h hk) rfl rfl hc
  | dead v k off h hk => exact one (.dead v k off h hk) rfl rfl hc
  | nil => exact one .nil rfl rfl hc
  | deep a cap size xs us hs hcap hcl hcc hz hr => exact one (.deep a cap size xs us hs hcap hcl hcc hz hr) rfl rfl hc
  | lin v e xs h => exact one (.lin v e xs h) (oneCell_of h rfl) rfl hc
  | dptr a off cells us hs hcc hr => exact one (.dptr a off cells us hs hcc hr) rfl rfl hc
  | agg vs ps hl h1 hn hr =>
    obtain rfl : ps = l := by simpa [cellsOf, ag] using hc
    exact ⟨vs, by simp [lc, ag, Value.cells], by simp [ag, Value.cells], hl, h1, hr⟩
  | tuple vs ps hl hr => simp [cellsOf, tup] at hc
  | slc k b off n cap h hk hn => exact one (.slc k b off n cap h hk hn) rfl rfl hc
  | slcDead k b off n cap h hk hn => exact one (.slcDead k b off n cap h hk hn) rfl rfl hc
  | clo f vs ps us qs hl hm hr hq => exact one (.clo f vs ps us qs hl hm hr hq) rfl rfl hc
  | iface t v p h => exact one (.iface t v p h) rfl rfl hc
  | ns b xs h => exact one (.ns b xs h) rfl rfl hc

theorem cells_noLin {v p : Value} (h : Rd G v p) (hp : ∀ e xs, p ≠ lin e xs) {l : List Value} (hc : cellsOf p = some l) : ∀ e xs, lin e xs ∉ l := by
  intro e xs hm
  by_cases ha : ∃ ps, p = ag ps
  · obtain ⟨ps, rfl⟩ := ha
    obtain rfl : ps = l := by simpa [cellsOf, ag] using hc
    generalize hq : ag ps = P at h
    cases h with
    | agg vs ps' hl h1 hn hr =>
      obtain rfl : ps = ps' := by simpa [ag] using hq
      exact hn e xs hm
    | scal v h => subst hq; simp [ag, PE.scal] at h
    | _ => simp [tup, PE.ptr, PE.deep, PE.lin, PE.dptr, ag, PE.slc, PE.clo, PE.ns] at hq
  · have : l = [p] := by
      cases p with
      | agg cs => exact absurd ⟨cs.toList, by simp [ag]⟩ ha
      | tuple => simp [cellsOf] at hc
      | _ => simpa [cellsOf] using hc.symm
    subst this
    exact hp e xs (List.mem_singleton.1 hm).symm

theorem opv_ne_lin (v : Value) (h : PE.scal v = true) (e : Nat) (xs : List Value) : opv v ≠ lin e xs := by
  intro he
  unfold opv at he
  split at he
  · simp [deep, lin] at he
  · subst he; simp [lin, PE.scal] at h

theorem noLin_ev {x : Operand} (hx : okOpd q.P q.N x = true) : noLin (s.ev x) := by
  cases x with
  | tmp t => exact noLin_dg _
  | const v =>
    refine ⟨fun e xs => opv_ne_lin v hx e xs, fun i e xs => ?_⟩
    simp only [PS.ev]
    intro h
    unfold opv at h
    split at h
    · simp [deep, comp, undef, lin] at h
    · cases v <;> first | (simp [okOpd, PE.scal] at hx; done) | (simp [comp, undef, lin] at h; done)
  | global g => exact ⟨fun e xs h => by simp [PS.ev, PE.ptr, lin] at h, fun i e xs h => by simp [PS.ev, PE.ptr, comp, undef, lin] at h⟩
  | func f => exact ⟨fun e xs h => by simp [PS.ev, lin] at h, fun i e xs h => by simp [PS.ev, comp, undef, lin] at h⟩

/-- an operand is read -/
theorem Rd_opv {v : Value} (h : PE.scal v = true) : Rd G v (opv v) := by
  unfold opv
  split
  · exact .nil
  · exact .scal v h

theorem Inv.rd (h : Inv q own s a G) {x : Operand} (hx : okOpd q.P q.N x = true) : Rd G (a.eval x) (s.ev x) := by
  cases x with
  | tmp t => exact Rd_dg (h.tm t (by simpa [okOpd] using hx))
  | const v => exact Rd_opv hx
  | global g =>
    have hg : g < q.P.globals.size := by simpa [okOpd] using hx
    have hlt : g < G.nx := by rw [h.nx]; exact Nat.lt_of_lt_of_le hg h.ng
    cases hb : G.be g with
    | none => exact .dead _ g 0 hb hlt
    | some b =>
      obtain rfl := h.gl g b hg hb
      exact .ptr b b 0 hb hlt
  | func f => exact .scal _ rfl

/-- tokens where the world has turned in boxes, and in new blocks alone -/
theorem TokOK.turn {P : Program} {G G' : Gh} {own own' : Nat → Option Pos} {base : Nat} {pos : Pos} {e : Nat} {v : Value} (h : TokOK P G own base pos e v)
    (hb : ∀ b, b < G.w.heap.size → (∀ k, G.be k ≠ some b) → G'.w.heap[b]? = G.w.heap[b]? ∧ G'.fr b = G.fr b ∧ ∀ k, G'.be k ≠ some b)
    (ho : ∀ g, own g = some pos → own' g = some pos) : TokOK P G' own' base pos e v := by
  rcases h with h | ⟨g, n, cap, i, xs, rfl, hi, h1, h2, h3, h4⟩
  · exact .inl h
  · obtain ⟨e1, e2, e3⟩ := hb g (own_lt h1).2 h4
    refine .inr ⟨g, n, cap, i, xs, rfl, hi, ownsRow_blk h1 (fun g' hg => ?_), by rw [e2]; exact h2, ho g h3, e3⟩
    obtain rfl : g = g' := by simpa [Value.ownBlock] using hg
    exact e1

theorem getD_some {l : List Value} {i : Nat} {v : Value} (h : l.getD i undef = v) (hv : v ≠ undef) : l[i]? = some v := by
  rw [List.getD_eq_getElem?_getD] at h
  cases hl : l[i]? with
  | none => rw [hl] at h; exact absurd h.symm hv
  | some u => rw [hl] at h; simpa using h

theorem lin_ne_undef (e : Nat) (xs : List Value) : lin e xs ≠ undef := by simp [lin, undef]

/-- nothing that there was has turned -/
structure More (G G' : Gh) : Prop where
  blk : ∀ b, b < G.w.heap.size → G'.w.heap[b]? = G.w.heap[b]? ∧ G'.fr b = G.fr b
  sz : G.w.heap.size ≤ G'.w.heap.size
  os : G'.w.os = G.w.os
  tape : G'.w.tape = G.w.tape
  output : G'.w.output = G.w.output

theorem More.alloc (G : Gh) (o : Obj) (f : Nat) (be : Nat → Option Nat) (nx : Nat) : More G ⟨G.w.alloc o, upd G.fr G.w.heap.size f, be, nx⟩ where
  blk := fun b hb => ⟨heap_alloc_old _ _ hb, upd_ne _ _ (by omega)⟩
  sz := by show _ ≤ (G.w.alloc o).heap.size; simp
  os := rfl
  tape := rfl
  output := rfl

/-- a new box -/
theorem Inv.newBox (h : Inv q own s a G) {G' : Gh} (hM : More G G') (n : Nat) (cs : Array Value) (e : TypeId) (row : List Value) (hn : G.w.heap.size ≤ n)
    (hnew : G'.w.heap[n]? = some (.cells cs e (0, 0))) (hfn : G'.fr n = 0) (hbn : G'.be s.nx = some n) (hbe : ∀ k, k ≠ s.nx → G'.be k = G.be k) (hnx : G'.nx = s.nx + 1)
    (hs : cs.size = row.length)
    (hr : ∀ (i : Nat) v p, cs[i]? = some v → row[i]? = some p → v.oneCell' = true ∧ Rd G v p)
    (hl : ∀ (i : Nat) e xs, row[i]? = some (lin e xs) → cs[i]? = some (.slice none 0 0)) :
    Inv q own { s with H := upd s.H s.nx (some row), nx := s.nx + 1 } a G' ∧ Ext G G' := by
  have hext : Ext G G' := by
    refine ⟨by rw [h.nx, hnx]; exact Nat.le_succ _, fun ad _ _ u hu => ?_, fun b hb => by rw [(hM.blk b hb).2]; exact Nat.le_refl _, fun k b hk hlt => ?_, fun k hk hlt => ?_⟩
    · rw [World.cell?_of_block (hM.blk _ (World.block_lt_of_cell? _ ad hu)).1]; exact hu
    · rw [h.nx] at hlt; left; rw [hbe k (by omega)]; exact hk
    · rw [h.nx] at hlt; rw [hbe k (by omega)]; exact hk
  have htok : ∀ {base : Nat} {pos : Pos} {e' : Nat} {v : Value}, TokOK q.P G own base pos e' v → TokOK q.P G' own base pos e' v := by
    intro base pos e' v ht
    exact ht.turn (fun b hb hk => ⟨(hM.blk b hb).1, (hM.blk b hb).2, fun k hk' => by
      by_cases hkn : k = s.nx
      · subst hkn; rw [hbn] at hk'; simp only [Option.some.injEq] at hk'; omega
      · rw [hbe k hkn] at hk'; exact hk k hk'⟩) (fun _ hg => hg)
  have hHne : ∀ k, k ≠ s.nx → upd s.H s.nx (some row) k = s.H k := fun k hk => upd_ne _ _ hk
  refine ⟨⟨⟨⟨?_, ?_, ?_, hnx, ?_, ?_, ?_, ?_, fun g pos hg => Nat.lt_of_lt_of_le (h.ol g pos hg) hM.sz⟩, ?_, ?_, Nat.le_trans h.sz hM.sz, by rw [hM.os]; exact h.os, by rw [hM.tape]; exact h.tape, by rw [hM.output]; exact h.output, ?_, fun k hk hT => by show upd s.H s.nx (some row) k = _; rw [upd_ne _ _ (by have := h.n0; omega)]; exact h.hh k hk hT⟩,
    h.size, h.defers, fun t ht => (h.tm t ht).mono hext, fun t e xs ht hp => htok (h.ttok t e xs ht hp), fun t i e xs ht hp => htok (h.utok t i e xs ht hp),
    fun b es hp => (h.mps b es hp).same (hM.blk b (h.mps b es hp).lt).1⟩, hext⟩
  · intro k r hk
    by_cases hkn : k = s.nx
    · subst hkn
      obtain rfl : row = r := by simpa using hk
      exact ⟨n, e, cs, (0, 0), hbn, hnew, hs, fun i v p hv hp => ⟨(hr i v p hv hp).1, (hr i v p hv hp).2.mono hext⟩, fun _ => ⟨hfn, rfl⟩, fun _ => Nat.le_trans h.sz hn⟩
    · have hk' : s.H k = some r := by rw [← hHne k hkn]; exact hk
      obtain ⟨b, e', cs', fz, hb, hh, hs', hr', hf, hB⟩ := h.ob k r hk'
      have hlt := hM.blk b (heap_lt hh)
      exact ⟨b, e', cs', fz, by rw [hbe k hkn]; exact hb, by rw [hlt.1]; exact hh, hs', fun i v p hv hp => ⟨(hr' i v p hv hp).1, (hr' i v p hv hp).2.mono hext⟩, by rw [hlt.2]; exact hf, hB⟩
  · intro k hk
    by_cases hkn : k = s.nx
    · subst hkn; simp at hk
    · rw [hbe k hkn]; exact h.bn k (by rw [← hHne k hkn]; exact hk)
  · intro k hk
    have hk' : s.nx + 1 ≤ k := hk
    show upd s.H s.nx (some row) k = none
    rw [hHne k (by omega)]; exact h.nxH k (by omega)
  · have := h.n0; show q.n0 ≤ s.nx + 1; omega
  · intro k k' b hk hk'
    by_cases h1 : k = s.nx <;> by_cases h2 : k' = s.nx
    · rw [h1, h2]
    · rw [hbe k' h2] at hk'
      subst h1
      rw [hbn] at hk
      simp only [Option.some.injEq] at hk
      have := (h.be_lt hk').2.1
      omega
    · rw [hbe k h1] at hk
      subst h2
      rw [hbn] at hk'
      simp only [Option.some.injEq] at hk'
      have := (h.be_lt hk).2.1
      omega
    · rw [hbe k h1] at hk; rw [hbe k' h2] at hk'; exact h.inj k k' b hk hk'
  · intro g b hg hb
    have := h.ng
    rw [hbe g (by omega)] at hb; exact h.gl g b hg hb
  · have := h.ng; show _ ≤ s.nx + 1; omega
  · intro k hk
    have := h.n0
    rw [hbe k (by omega)]; exact h.bo k hk
  · intro b hb hT
    have hlt := hM.blk b (Nat.lt_of_lt_of_le hb h.sz)
    rw [hlt.1, hlt.2]; exact h.frame b hb hT
  · intro base k i e' xs hob hp
    by_cases hkn : k = s.nx
    · subst hkn
      left
      have hp' : row.getD i undef = lin e' xs := by simpa [pcell] using hp
      have := hl i e' xs (getD_some hp' (lin_ne_undef _ _))
      simp only [rcell, hbn]
      rw [cell_of_row _ _ _ _ _ _ hnew, this]; exact ⟨none, rfl⟩
    · have hp' : pcell s.H k i = lin e' xs := by simpa [pcell, upd_ne _ _ hkn] using hp
      have hrc : rcell G' k i = rcell G k i := by
        simp only [rcell, hbe k hkn]
        cases hb : G.be k with
        | none => rfl
        | some b => simp only; rw [World.cell?_of_block (a := ⟨b, i, none⟩) (hM.blk b (h.be_lt hb).2.1).1]
      rw [hrc]
      exact htok (h.ctok base k i e' xs hob hp')

/-- a box is written -/
theorem Inv.setBox (h : Inv q own s a G) {G' : Gh} {k b : Nat} {e : TypeId} {row row' : List Value} {cs cs' : Array Value} (hk : s.H k = some row) (hb : G.be k = some b)
    (hh : G.w.heap[b]? = some (.cells cs e (0, 0))) (hh' : G'.w.heap[b]? = some (.cells cs' e (0, 0))) (ho : ∀ b', b' ≠ b → G'.w.heap[b']? = G.w.heap[b']?)
    (hfr : G'.fr = G.fr) (hbe : G'.be = G.be) (hnx : G'.nx = G.nx) (hsz : G'.w.heap.size = G.w.heap.size) (hos : G'.w.os = G.w.os) (htp : G'.w.tape = G.w.tape) (hou : G'.w.output = G.w.output)
    (hT : q.T k ∨ q.n0 ≤ k) (hs : cs'.size = row'.length)
    (hr : ∀ (i : Nat) v p, cs'[i]? = some v → row'[i]? = some p → v.oneCell' = true ∧ Rd G v p)
    (own' : Nat → Option Pos) (hol : ∀ g pos, own' g = some pos → g < G.w.heap.size) (hown : ∀ g pos, own g = some pos → live q.N s pos → (∀ i, pos ≠ .cell k i) → own' g = some pos)
    (hl : ∀ base (i : Nat) e xs v, okBase q k base → row'[i]? = some (lin e xs) → cs'[i]? = some v → TokOK q.P G own' base (.cell k i) e v) :
    Inv q own' { s with H := upd s.H k (some row') } a G' ∧ Ext G G' := by
  have hbl := h.be_lt hb
  have hext : Ext G G' := by
    refine ⟨by rw [hnx]; exact Nat.le_refl _, fun ad _ hf u hu => ?_, fun b _ => by rw [hfr]; exact Nat.le_refl _, fun k b hk _ => by rw [hbe]; exact .inl hk, fun k hk _ => by rw [hbe]; exact hk⟩
    rw [World.cell?_of_block (ho _ (fun e => by rw [e, hbl.2.2 hT] at hf; omega))]; exact hu
  have hturn : ∀ b', b' < G.w.heap.size → (∀ k, G.be k ≠ some b') → G'.w.heap[b']? = G.w.heap[b']? ∧ G'.fr b' = G.fr b' ∧ ∀ k, G'.be k ≠ some b' := fun b' _ hk' =>
    ⟨ho b' (fun e => hk' k (by rw [e]; exact hb)), by rw [hfr], by rw [hbe]; exact hk'⟩
  refine ⟨⟨⟨⟨?_, ?_, ?_, by rw [hnx]; exact h.nx, h.n0, by rw [hbe]; exact h.inj, by rw [hbe]; exact h.gl, h.ng, by rw [hsz]; exact hol⟩, by rw [hbe]; exact h.bo, ?_, by rw [hsz]; exact h.sz, by rw [hos]; exact h.os, by rw [htp]; exact h.tape, by rw [hou]; exact h.output, ?_, fun k' hk' hT' => by
      have hne : k' ≠ k := fun e => by subst e; exact hT.elim hT' (fun h => by omega)
      show upd s.H k (some row') k' = _
      rw [upd_ne _ _ hne]; exact h.hh k' hk' hT'⟩,
    h.size, h.defers, fun t ht => (h.tm t ht).mono hext, fun t e xs ht hp => (h.ttok t e xs ht hp).turn hturn (fun g hg => hown g _ hg ⟨ht, e, xs, hp⟩ (by simp)), fun t i e xs ht hp => (h.utok t i e xs ht hp).turn hturn (fun g hg => hown g _ hg ⟨ht, e, xs, hp⟩ (by simp)),
    fun b' es hp => (h.mps b' es hp).same (ho b' ((h.mps b' es hp).ne hh))⟩, hext⟩
  · intro k' r hk'
    by_cases hkk : k' = k
    · subst hkk
      obtain rfl : row' = r := by simpa using hk'
      obtain ⟨b₁, e₁, cs₁, fz₁, hb₁, hh₁, _, _, hf₁, hB₁⟩ := h.ob k' row hk
      rw [hb] at hb₁
      obtain rfl : b = b₁ := by simpa using hb₁
      exact ⟨b, e, cs', (0, 0), by rw [hbe]; exact hb, hh', hs, fun i v p hv hp => ⟨(hr i v p hv hp).1, (hr i v p hv hp).2.mono hext⟩, by rw [hfr]; exact fun hW => ⟨(hf₁ hW).1, rfl⟩, hB₁⟩
    · have hk'' : s.H k' = some r := by rw [← upd_ne s.H (some row') hkk]; exact hk'
      obtain ⟨b₁, e₁, cs₁, fz₁, hb₁, hh₁, hs₁, hr₁, hf₁, hB₁⟩ := h.ob k' r hk''
      have hne : b₁ ≠ b := fun e => hkk (h.inj k' k b₁ hb₁ (by rw [e]; exact hb))
      exact ⟨b₁, e₁, cs₁, fz₁, by rw [hbe]; exact hb₁, by rw [ho b₁ hne]; exact hh₁, hs₁, fun i v p hv hp => ⟨(hr₁ i v p hv hp).1, (hr₁ i v p hv hp).2.mono hext⟩, by rw [hfr]; exact hf₁, hB₁⟩
  · intro k' hk'
    by_cases hkk : k' = k
    · subst hkk; simp at hk'
    · rw [hbe]; exact h.bn k' (by rw [← upd_ne s.H (some row') hkk]; exact hk')
  · intro k' hk'
    have hne : k' ≠ k := fun e => by subst e; have := h.nxH k' hk'; rw [hk] at this; cases this
    show upd s.H k (some row') k' = none
    rw [upd_ne _ _ hne]; exact h.nxH k' hk'
  · intro b' hb' hT'
    have hne : b' ≠ b := by
      rintro rfl
      rcases hT with hT | hT
      · by_cases hkn : k < q.n0
        · exact hT' k (by rw [← h.bo k hkn]; exact hb) hT
        · obtain ⟨b₁, _, _, _, hb₁, _, _, _, _, hB₁⟩ := h.ob k row hk
          rw [hb] at hb₁
          obtain rfl : b' = b₁ := by simpa using hb₁
          have := hB₁ (by omega)
          omega
      · obtain ⟨b₁, _, _, _, hb₁, _, _, _, _, hB₁⟩ := h.ob k row hk
        rw [hb] at hb₁
        obtain rfl : b' = b₁ := by simpa using hb₁
        have := hB₁ hT
        omega
    rw [ho b' hne, hfr]; exact h.frame b' hb' hT'
  · intro base k' i e' xs hob hp
    by_cases hkk : k' = k
    · subst hkk
      have hp' : row'.getD i undef = lin e' xs := by simpa [pcell] using hp
      have hi := getD_some hp' (lin_ne_undef _ _)
      have hlt : i < cs'.size := by rw [hs]; exact (List.getElem?_eq_some_iff.1 hi).1
      have hv : cs'[i]? = some cs'[i] := Array.getElem?_eq_getElem hlt
      have hrc : rcell G' k' i = cs'[i] := by
        simp only [rcell, hbe, hb]
        rw [cell_of_row _ _ _ _ _ _ hh', hv]; rfl
      rw [hrc]
      exact (hl base i e' xs _ hob hi hv).turn hturn (fun _ hg => hg)
    · have hp' : pcell s.H k' i = lin e' xs := by simpa [pcell, upd_ne _ _ hkk] using hp
      have hrc : rcell G' k' i = rcell G k' i := by
        simp only [rcell, hbe]
        cases hb₁ : G.be k' with
        | none => rfl
        | some b₁ => simp only; rw [World.cell?_of_block (a := ⟨b₁, i, none⟩) (ho b₁ (fun e => hkk (h.inj k' k b₁ hb₁ (by rw [e]; exact hb))))]
      rw [hrc]
      exact (h.ctok base k' i e' xs hob hp').turn hturn (fun g hg => hown g _ hg ⟨e', xs, hp'⟩ (by simp [hkk]))

end
end Go.PE
namespace Go.PE
open Go

section
variable {q : Par} {own : Nat → Option Pos} {s : PS} {a : Act} {G : Gh} {K : PS → Prop} {Kr : Act → World → Prop} {Q : Exit → Act → World → Prop} {o : Oper}

theorem wp_val {P : Program} {w w' : World} {v : Value} (hr : (execOp a.eval o).run P w = .ok (.value v) w') (hk : Kr (a.put o.dst v) w') : o.wp P a w Kr Q := by
  unfold Oper.wp; rw [hr]; exact hk

theorem wp_skip {P : Program} {w w' : World} (hr : (execOp a.eval o).run P w = .ok .skip w') (hk : Kr (a.put o.dst undef) w') : o.wp P a w Kr Q := by
  unfold Oper.wp; rw [hr]; exact hk

theorem Inv.putO (h : Inv q own s a G) {d : Option Nat} (hd : ∀ x, d = some x → x < q.N) {v p : Value} (hr : Rd G v p) (hn : noLin p) : Inv q own (s.putO d p) (a.put d v) G := by
  cases d with
  | none => exact h
  | some d => exact h.put (hd d rfl) hr hn

theorem noLin_undef : noLin undef := ⟨fun e xs h => by simp [undef, lin] at h, fun i e xs h => by simp [undef, comp, lin] at h⟩
theorem Rd_undef : Rd G undef undef := by
  have : undef = tup [] := rfl
  rw [this]
  exact .tuple [] [] rfl (fun i v p h => by simp at h)

theorem noLin_one {p : Value} (h : p.oneCell' = true) (hl : ∀ e xs, p ≠ lin e xs) : noLin p :=
  ⟨hl, fun i e xs he => by cases p <;> simp [comp, undef, lin, Value.oneCell'] at he h⟩
theorem noLin_ag (l : List Value) : noLin (ag l) := ⟨fun e xs h => by simp [ag, lin] at h, fun i e xs h => by simp [ag, comp, undef, lin] at h⟩
theorem noLin_ptr (k o : Nat) : noLin (PE.ptr k o) := ⟨fun e xs h => by simp [PE.ptr, lin] at h, fun i e xs h => by simp [PE.ptr, comp, undef, lin] at h⟩
theorem noLin_dptr (o : Nat) (l : List Value) : noLin (dptr o l) := ⟨fun e xs h => by simp [dptr, lin] at h, fun i e xs h => by simp [dptr, comp, undef, lin] at h⟩
theorem noLin_deep (l : List Value) : noLin (deep l) := ⟨fun e xs h => by simp [deep, lin] at h, fun i e xs h => by simp [deep, comp, undef, lin] at h⟩
theorem noLin_int (k : IntKind) (n : Int) : noLin (.int k n) := ⟨fun e xs h => by simp [lin] at h, fun i e xs h => by simp [comp, undef, lin] at h⟩
theorem noLin_plain {p : Value} (h : plain p = true) : noLin p := by
  refine ⟨fun e xs he => by subst he; simp [lin, plain, PE.scal] at h, fun i e xs he => ?_⟩
  cases p <;> first | (simp [comp, undef, lin] at he; done) | (simp [plain, PE.scal] at h; done)

/-! what an operand reads as, by what it is purely -/
theorem plain_eq {v p : Value} (h : Rd G v p) (hp : plain p = true) : v = p := by
  have sc : ∀ {v p : Value}, Rd G v p → PE.scal p = true → v = p := by
    intro v p h hp
    cases h with
    | scal v h => rfl
    | ptr => simp [PE.ptr, PE.scal] at hp
    | dead => simp [PE.ptr, PE.scal] at hp
    | nil => simp [PE.deep, PE.scal] at hp
    | deep => simp [PE.deep, PE.scal] at hp
    | lin => simp [PE.lin, PE.scal] at hp
    | dptr => simp [PE.dptr, PE.scal] at hp
    | agg => simp [ag, PE.scal] at hp
    | tuple => simp [tup, PE.scal] at hp
    | iface => simp [PE.scal] at hp
    | slc => simp [PE.slc, PE.scal] at hp
    | slcDead => simp [PE.slc, PE.scal] at hp
    | ns => simp [PE.ns, PE.scal] at hp
    | clo f vs ps us qs hl hm hr hq =>
      have : ps = [] ∧ qs = [] := by
        cases ps <;> cases qs <;> simp [PE.clo, PE.scal] at hp ⊢
      obtain ⟨rfl, rfl⟩ := this
      obtain rfl : vs = [] := List.eq_nil_of_length_eq_zero (by simpa using hl)
      obtain rfl : us = [] := List.eq_nil_of_length_eq_zero (by simpa using hm)
      rfl
  by_cases ha : ∃ ps, p = ag ps
  · obtain ⟨ps, rfl⟩ := ha
    have hall : ∀ c ∈ ps, PE.scal c = true := by simpa [plain, ag] using hp
    generalize hq : ag ps = P at h
    cases h with
    | agg vs ps' hl h1 hn hr =>
      obtain rfl : ps = ps' := by simpa [ag] using hq
      congr 1
      apply List.ext_getElem? 
      intro i
      by_cases hi : i < vs.length
      · have hi' : i < ps.length := by omega
        rw [List.getElem?_eq_getElem hi, List.getElem?_eq_getElem hi']
        congr 1
        exact sc (hr i _ _ (List.getElem?_eq_getElem hi) (List.getElem?_eq_getElem hi')) (hall _ (List.getElem_mem hi'))
      · rw [List.getElem?_eq_none (by omega), List.getElem?_eq_none (by omega)]
    | scal v h => rfl
    | _ => simp [tup, PE.ptr, PE.deep, PE.lin, PE.dptr, ag, PE.slc, PE.clo, PE.ns] at hq
  · refine sc h ?_
    cases p with
    | agg cs => exact absurd ⟨cs.toList, by simp [ag]⟩ ha
    | _ => simpa [plain] using hp

theorem Rd_plain {p : Value} (hp : plain p = true) : Rd G p p := by
  by_cases ha : ∃ ps, p = ag ps
  · obtain ⟨ps, rfl⟩ := ha
    have hall : ∀ c ∈ ps, PE.scal c = true := by simpa [plain, ag] using hp
    refine .agg ps ps rfl (fun v hv => ?_) (fun e xs hm => ?_) (fun i v p hv hp => ?_)
    · have := hall v hv; cases v <;> first | rfl | simp [PE.scal] at this
    · have := hall _ hm; simp [lin, PE.scal] at this
    · rw [hv] at hp
      obtain rfl : v = p := by simpa using hp
      exact .scal _ (hall _ (List.mem_of_getElem? hv))
  · refine .scal p ?_
    cases p with
    | agg cs => exact absurd ⟨cs.toList, by simp [ag]⟩ ha
    | _ => simpa [plain] using hp

theorem rd_int {v p : Value} (h : Rd G v p) {k : IntKind} {n : Int} (hp : asInt p = some (k, n)) : v = .int k n ∧ p = .int k n := by
  have : p = .int k n := by cases p <;> simp [PE.asInt] at hp ⊢; exact hp
  subst this
  exact ⟨plain_eq h rfl, rfl⟩
theorem rd_bool {v p : Value} (h : Rd G v p) {b : Bool} (hp : asBool p = some b) : v = .bool b ∧ p = .bool b := by
  have : p = .bool b := by cases p <;> simp [PE.asBool] at hp ⊢; exact hp
  subst this
  exact ⟨plain_eq h rfl, rfl⟩

theorem asDeep_eq {p : Value} {xs : List Value} (h : asDeep p = some xs) (hl : ∃ v, Rd G v p) : p = deep xs := by
  obtain ⟨v, hv⟩ := hl
  generalize hq : p = P at hv
  cases hv with
  | scal v h' => subst hq; unfold asDeep at h; split at h <;> simp [PE.scal] at h h'
  | nil => subst hq; simpa [asDeep, deep] using h.symm
  | deep a cap size ys us hs hcap hcl hc hz hr =>
    subst hq
    have : ys = xs := by simpa [asDeep, deep] using h
    rw [this]
  | _ => subst hq; simp [asDeep, PE.ptr, PE.lin, PE.dptr, ag, tup, PE.slc, PE.clo, PE.ns] at h

theorem asAg_eq {p : Value} {l : List Value} (h : asAg p = some l) : p = ag l := by
  cases p <;> simp [asAg] at h
  subst h; simp [ag]

/-- a pointer moved on -/
theorem rd_addOff {v p : Value} (h : Rd G v p) (n : Nat) {p' : Value} (hp : addOff p n = some p') :
    ∃ a, v = .pointer (some a) ∧ Rd G (.pointer (some (a.add n))) p' ∧ noLin p' := by
  cases h with
  | scal v h =>
    unfold addOff at hp
    split at hp <;> simp [PE.scal] at h hp
  | ptr k b off h hk =>
    obtain rfl : PE.ptr k (off + n) = p' := by simpa [addOff, PE.ptr] using hp
    refine ⟨_, rfl, ?_, noLin_ptr _ _⟩
    rw [add_off _ rfl]
    exact .ptr k b (off + n) h hk
  | dead a k off h hk =>
    obtain rfl : PE.ptr k (off + n) = p' := by simpa [addOff, PE.ptr] using hp
    exact ⟨_, rfl, .dead _ k (off + n) h hk, noLin_ptr _ _⟩
  | nil => simp [addOff, PE.deep] at hp
  | deep => simp [addOff, PE.deep] at hp
  | lin => simp [addOff, PE.lin] at hp
  | dptr a off cells us hs hc hr =>
    obtain rfl : dptr (off + n) cells = p' := by simpa [addOff, dptr] using hp
    refine ⟨_, rfl, ?_, noLin_dptr _ _⟩
    rw [add_off _ hs, add_off _ rfl]
    have := Rd.dptr (G := G) a (off + n) cells us hs hc hr
    rw [add_off _ hs] at this
    simpa [Nat.add_assoc] using this
  | agg => simp [addOff, ag] at hp
  | tuple => simp [addOff, tup] at hp
  | iface => simp [addOff] at hp
  | slc => simp [addOff, PE.slc] at hp
  | slcDead => simp [addOff, PE.slc] at hp
  | ns => simp [addOff, PE.ns] at hp
  | clo => simp [addOff, PE.clo] at hp

/-- what a pointer leads to -/
theorem rd_lead (h : Inv q own s a G) {v p : Value} (hv : Rd G v p) {row : List Value} {off : Nat} (hp : lead s.H p = some (row, off)) :
    ∃ (ad : Addr) (vs : List Value), v = .pointer (some ad) ∧ vs.length = row.length - off ∧ (∀ (j : Nat) u, vs[j]? = some u → G.w.cell? (ad.add j) = some u ∧ u.oneCell' = true) ∧
      (∀ (j : Nat) u y, vs[j]? = some u → row[off + j]? = some y → Rd G u y) := by
  cases hv with
  | scal v h =>
    unfold lead at hp
    split at hp <;> simp [PE.scal] at h hp
  | ptr k b off' hb hk =>
    have hp' : s.H k = some row ∧ off' = off := by
      simp only [lead, PE.ptr, Option.map_eq_some_iff, Prod.mk.injEq] at hp
      obtain ⟨r, h1, h2, h3⟩ := hp
      exact ⟨by rw [h1, h2], h3⟩
    obtain ⟨hH, rfl⟩ := hp'
    obtain ⟨b', e, cs, fz, hb', hh, hs, hr, _, _⟩ := h.ob k row hH
    rw [hb] at hb'
    obtain rfl : b = b' := by simpa using hb'
    refine ⟨_, cs.toList.drop off', rfl, by simp [hs], fun j u hu => ?_, fun j u y hu hy => ?_⟩
    · rw [List.getElem?_drop, Array.getElem?_toList] at hu
      rw [add_off _ rfl, cell_of_row _ _ _ _ _ _ hh]
      have hlt : off' + j < row.length := by rw [← hs]; exact (Array.getElem?_eq_some_iff.1 hu).1
      exact ⟨hu, (hr _ _ _ hu (List.getElem?_eq_getElem hlt)).1⟩
    · rw [List.getElem?_drop, Array.getElem?_toList] at hu
      exact (hr _ _ _ hu hy).2
  | dead a k off' hb hk =>
    exfalso
    simp only [lead, PE.ptr, Option.map_eq_some_iff, Prod.mk.injEq] at hp
    obtain ⟨r, h1, _⟩ := hp
    obtain ⟨b', _, _, _, hb', _⟩ := h.ob k r h1
    rw [hb] at hb'; cases hb'
  | nil => simp [lead, PE.deep] at hp
  | deep => simp [lead, PE.deep] at hp
  | lin => simp [lead, PE.lin] at hp
  | dptr a off' cells us hs hc hr =>
    have hp' : cells = row ∧ off' = off := by simpa [lead, dptr] using hp
    obtain ⟨rfl, rfl⟩ := hp'
    refine ⟨_, (List.range (cells.length - off')).map fun j => us (off' + j), rfl, by simp, fun j u hu => ?_, fun j u y hu hy => ?_⟩
    · rw [List.getElem?_map] at hu
      by_cases hj : j < cells.length - off'
      · rw [List.getElem?_range hj] at hu
        obtain rfl : us (off' + j) = u := by simpa using hu
        obtain ⟨h1, _, h3⟩ := hc (off' + j) (by omega)
        rw [add_off _ hs] at h1 ⊢
        rw [add_off _ rfl]
        simp only [Nat.add_assoc]
        exact ⟨h1, h3⟩
      · rw [List.getElem?_eq_none (by simpa using hj)] at hu; simp at hu
    · rw [List.getElem?_map] at hu
      by_cases hj : j < cells.length - off'
      · rw [List.getElem?_range hj] at hu
        obtain rfl : us (off' + j) = u := by simpa using hu
        exact hr _ _ hy
      · rw [List.getElem?_eq_none (by simpa using hj)] at hu; simp at hu
  | agg => simp [lead, ag] at hp
  | tuple => simp [lead, tup] at hp
  | iface => simp [lead] at hp
  | slc => simp [lead, PE.slc] at hp
  | slcDead => simp [lead, PE.slc] at hp
  | ns => simp [lead, PE.ns] at hp
  | clo => simp [lead, PE.clo] at hp

/-- a box that is written: its block -/
theorem rd_box (h : Inv q own s a G) {v : Value} {k off : Nat} (hv : Rd G v (PE.ptr k off)) {row : List Value} (hH : s.H k = some row) (hT : q.T k ∨ q.n0 ≤ k) :
    ∃ b e cs, v = .pointer (some ⟨b, off, none⟩) ∧ G.be k = some b ∧ G.w.heap[b]? = some (.cells cs e (0, 0)) ∧ cs.size = row.length ∧
      (∀ (i : Nat) v p, cs[i]? = some v → row[i]? = some p → v.oneCell' = true ∧ Rd G v p) := by
  obtain ⟨b, e, cs, fz, hb, hh, hs, hr, hW, _⟩ := h.ob k row hH
  obtain rfl := (hW hT).2
  generalize hq : PE.ptr k off = p at hv
  cases hv with
  | ptr k' b' off' hb' hk =>
    obtain ⟨rfl, rfl⟩ : k = k' ∧ off = off' := by simpa [PE.ptr] using hq
    rw [hb'] at hb
    obtain rfl : b' = b := by simpa using hb
    exact ⟨b', e, cs, rfl, hb', hh, hs, hr⟩
  | dead a k' off' hb' hk =>
    obtain ⟨rfl, rfl⟩ : k = k' ∧ off = off' := by simpa [PE.ptr] using hq
    rw [hb'] at hb; cases hb
  | scal v h => subst hq; simp [PE.ptr, PE.scal] at h
  | _ => simp [PE.ptr, PE.deep, PE.lin, dptr, ag, tup, PE.slc, PE.clo, PE.ns] at hq

end
end Go.PE
namespace Go.PE
open Go

section
variable {q : Par} {own : Nat → Option Pos} {s : PS} {a : Act} {G : Gh} {K : PS → Prop} {Kr : Act → World → Prop} {Q : Exit → Act → World → Prop} {o : Oper} {C : Known}

/-- what follows an operation -/
def Then (q : Par) (K : PS → Prop) (Kr : Act → World → Prop) : Prop := ∀ own s a G, Inv q own s a G → K s → Kr a G.w
/-- operation o does what the pure instruction i says -/
def Does (q : Par) (C : Known) (o : Oper) (i : PI) : Prop := ∀ own s a G K Kr Q, Inv q own s a G → step C q.P q.T q.n0 o.dst i s K → Then q K Kr → o.wp q.P a G.w Kr Q
/-- .. and it only reads: its value is one, whatever has been laid besides -/
def Still (q : Par) (C : Known) (o : Oper) (i : PI) : Prop := ∀ own s a G K, Inv q own s a G → step C q.P q.T q.n0 o.dst i s K →
  ∃ v p, Rd G v p ∧ noLin p ∧ K (s.putO o.dst p) ∧ ∀ G', Keep G G' → (execOp a.eval o).run q.P G'.w = .ok (.value v) G'.w
def okDst (q : Par) (o : Oper) : Prop := ∀ x, o.dst = some x → x < q.N

theorem Keep.refl (G : Gh) : Keep G G := ⟨fun _ _ => ⟨rfl, rfl⟩, rfl, rfl, Nat.le_refl _, rfl, rfl, rfl⟩
theorem Keep.cell {G' : Gh} (h : Keep G G') {a : Addr} {u : Value} (hu : G.w.cell? a = some u) : G'.w.cell? a = some u := by
  rw [World.cell?_of_block (h.blk _ (World.block_lt_of_cell? _ a hu)).1]; exact hu
theorem still_mk {v p : Value} (hr : Rd G v p) (hn : noLin p) (hs : K (s.putO o.dst p)) (hrun : ∀ G', Keep G G' → (execOp a.eval o).run q.P G'.w = .ok (.value v) G'.w) :
    ∃ v p, Rd G v p ∧ noLin p ∧ K (s.putO o.dst p) ∧ ∀ G', Keep G G' → (execOp a.eval o).run q.P G'.w = .ok (.value v) G'.w := ⟨v, p, hr, hn, hs, hrun⟩
theorem Still.does {i : PI} (h : Still q C o i) (hd : okDst q o) : Does q C o i := by
  intro own s a G K Kr Q hi hs hK
  obtain ⟨v, p, hr, hn, hk, hrun⟩ := h own s a G K hi hs
  exact wp_val (hrun G (Keep.refl G)) (hK _ _ _ _ (hi.putO hd hr hn) hk)

theorem still_mv {x : Operand} (ho : o.op = .move x ∨ o.op = .assign x) (hx : okOpd q.P q.N x = true) : Still q C o (.mv x) := by
  intro own s a G K h hs
  exact still_mk (v := a.eval x) (h.rd hx) (noLin_ev hx) hs (fun G' hk' => by rcases ho with ho | ho <;> simp [execOp, ho])

theorem does_steal {t : Nat} (ho : o.op = .move (.tmp t) ∨ o.op = .assign (.tmp t)) (hx : t < q.N) (hd : okDst q o) : Does q C o (.steal t) := by
  intro own s a G K Kr Q h hs hK
  refine wp_val (v := a.eval (.tmp t)) (w' := G.w) (by rcases ho with ho | ho <;> simp [execOp, ho]) ?_
  simp only [step] at hs
  cases hdo : o.dst with
  | none => rw [hdo] at hs; exact hK _ _ _ _ (h.degrade hx) hs
  | some d => rw [hdo] at hs; exact hK _ _ _ _ (h.steal hx (hd d hdo)) hs

theorem Rd_nil_lin (e : Nat) : Rd G (.slice none 0 0) (lin e []) := .lin _ _ _ .nil

theorem Inv.putNil (h : Inv q own s a G) {d : Option Nat} (hd : ∀ x, d = some x → x < q.N) (e : Nat) : Inv q own (s.putO d (lin e [])) (a.put d (.slice none 0 0)) G := by
  cases d with
  | none => exact h
  | some d => exact h.putLin (hd d rfl) (Rd_nil_lin e) own h.ol (fun _ _ h _ => h) (.inl ⟨_, rfl⟩)

theorem does_cnil {e : Nat} (ho : o.op = .move (.const (.slice none 0 0)) ∨ o.op = .assign (.const (.slice none 0 0))) (hd : okDst q o) : Does q C o (.cnil e) := by
  intro own s a G K Kr Q h hs hK
  refine wp_val (v := .slice none 0 0) (w' := G.w) (by rcases ho with ho | ho <;> simp [execOp, ho, Act.eval]) ?_
  exact hK _ _ _ _ (h.putNil hd e) hs

theorem still_pick {c x y : Operand} (ho : o.op = .pick c x y) (hc : okOpd q.P q.N c = true) (hx : okOpd q.P q.N x = true) (hy : okOpd q.P q.N y = true) : Still q C o (.pick c x y) := by
  intro own s a G K h hs
  obtain ⟨t, ht, hs⟩ := hs
  have hb := (rd_bool (h.rd hc) ht).1
  cases t
  · exact still_mk (v := a.eval y) (h.rd hy) (noLin_ev hy) (by simpa using hs) (fun G' hk' => by simp [execOp, ho, hb, Go.asBool])
  · exact still_mk (v := a.eval x) (h.rd hx) (noLin_ev hx) (by simpa using hs) (fun G' hk' => by simp [execOp, ho, hb, Go.asBool])

theorem info_of_sz {P : Program} {t n : Nat} (h : sz P t = some n) : ∃ i, P.info? t = some i ∧ i.size = n := by
  simpa [sz, Option.map_eq_some_iff] using h

theorem run_sizeOf' {P : Program} {w : World} {t n : Nat} (h : sz P t = some n) : (sizeOf t).run P w = .ok n w := by
  obtain ⟨i, hi, hn⟩ := info_of_sz h
  simp [sizeOf, typeInfo, hi, hn]

theorem run_isAgg' {P : Program} {w : World} {t : Nat} {b : Bool} (h : isAggB P t = some b) : (isAgg t).run P w = .ok b w := by
  simp only [isAggB, Option.map_eq_some_iff] at h
  obtain ⟨d, hd, hb⟩ := h
  subst hb
  cases d <;> simp [isAgg, run_underlying hd, aggD]

/-- a new box, whose address goes to a slot -/
theorem Inv.boxed (h : Inv q own s a G) {d : Option Nat} (hd : ∀ x, d = some x → x < q.N) (cs : Array Value) (e : TypeId) (row : List Value) (hs : cs.size = row.length)
    (hr : ∀ (i : Nat) v p, cs[i]? = some v → row[i]? = some p → v.oneCell' = true ∧ Rd G v p)
    (hl : ∀ (i : Nat) e xs, row[i]? = some (lin e xs) → cs[i]? = some (.slice none 0 0)) :
    ∃ G', G'.w = G.w.alloc (.cells cs e) ∧ Inv q own { (s.putO d (PE.ptr s.nx 0)) with H := upd s.H s.nx (some row), nx := s.nx + 1 } (a.put d (.pointer (some ⟨G.w.heap.size, 0, none⟩))) G' := by
  have hM := More.alloc G (.cells cs e) 0 (upd G.be s.nx (some G.w.heap.size)) (s.nx + 1)
  obtain ⟨h1, _⟩ := h.newBox hM G.w.heap.size cs e row (Nat.le_refl _) (heap_alloc_new _ _) (by simp) (by simp) (fun k hk => upd_ne _ _ hk) rfl hs hr hl
  refine ⟨⟨G.w.alloc (.cells cs e), upd G.fr G.w.heap.size 0, upd G.be s.nx (some G.w.heap.size), s.nx + 1⟩, rfl, ?_⟩
  have := h1.putO (d := d) hd (v := .pointer (some ⟨G.w.heap.size, 0, none⟩)) (p := PE.ptr s.nx 0) (.ptr s.nx _ 0 (by simp) (by simp)) (noLin_ptr _ _)
  cases d <;> exact this

theorem zrow_spec {P : Program} {t : Nat} {row : List Value} (h : zrow P t = some row) :
    ∃ i z, P.info? t = some i ∧ i.zero = some z ∧ z.cells.size = row.length ∧
      (∀ (j : Nat) v p, z.cells[j]? = some v → row[j]? = some p → v.oneCell' = true ∧ ∀ G, Rd G v p) ∧
      (∀ (j : Nat) e xs, row[j]? = some (lin e xs) → z.cells[j]? = some (.slice none 0 0)) := by
  simp only [zrow, Option.bind_eq_bind, Option.bind_eq_some_iff] at h
  obtain ⟨i, hi, z, hz, h⟩ := h
  split at h
  · rename_i hc
    obtain ⟨hlen, hall⟩ := hc
    obtain rfl : zrowOf (cellElems P 8 t) z.cells.toList = row := by simpa using h
    have hsc : ∀ c ∈ z.cells.toList, PE.scal c = true := List.all_eq_true.1 hall
    have key : ∀ (j : Nat) p, (zrowOf (cellElems P 8 t) z.cells.toList)[j]? = some p → ∃ v, z.cells[j]? = some v ∧ PE.scal v = true ∧ ((v = .slice none 0 0 ∧ ∃ e, p = lin e []) ∨ (p = v)) := by
      intro j p hp
      simp only [zrowOf, List.getElem?_map, Option.map_eq_some_iff] at hp
      obtain ⟨⟨c, e⟩, hce, hp⟩ := hp
      have hc : z.cells.toList[j]? = some c := by
        rw [List.getElem?_zip_eq_some] at hce
        exact hce.1
      have hsv := hsc c (List.mem_of_getElem? hc)
      refine ⟨c, by simpa using hc, hsv, ?_⟩
      split at hp
      · rename_i heq
        simp only [Prod.mk.injEq] at heq
        exact .inl ⟨heq.1, _, hp.symm⟩
      · rename_i heq
        simp only [Prod.mk.injEq] at heq
        exact .inr (by rw [heq.1, hp])
    refine ⟨i, z, hi, hz, by simpa using hlen.symm, fun j v p hv hp => ?_, fun j e xs hp => ?_⟩
    · obtain ⟨v', hv', hsv, hpv⟩ := key j p hp
      rw [hv] at hv'
      obtain rfl : v = v' := by simpa using hv'
      refine ⟨by cases v <;> first | rfl | simp [PE.scal] at hsv, fun G => ?_⟩
      rcases hpv with ⟨rfl, e, rfl⟩ | rfl
      · exact Rd_nil_lin e
      · exact .scal _ hsv
    · obtain ⟨v', hv', hsv, hpv⟩ := key j _ hp
      rcases hpv with ⟨rfl, _⟩ | hpv
      · exact hv'
      · subst hpv; simp [lin, PE.scal] at hsv
  · cases h

theorem does_alloc {t : Nat} {row : List Value} (ho : o.op = .alloc t) (hz : zrow q.P t = some row) (hd : okDst q o) : Does q C o (.alloc row) := by
  intro own s a G K Kr Q h hs hK
  obtain ⟨i, z, hi, hz, hsz, hr, hl⟩ := zrow_spec hz
  obtain ⟨G', hw, hinv⟩ := h.boxed (d := o.dst) hd z.cells t row hsz (fun j v p hv hp => ⟨(hr j v p hv hp).1, (hr j v p hv hp).2 G⟩) hl
  refine wp_val (v := .pointer (some ⟨G.w.heap.size, 0, none⟩)) (w' := G'.w) ?_ (hK _ _ _ _ hinv hs)
  rw [hw]
  simp [execOp, ho, Instr.alloc, zeroValue, typeInfo, hi, hz, newVar, newRow]

theorem does_box {t n : Nat} {x : Operand} (ho : o.op = .box t x) (hx : okOpd q.P q.N x = true) (hd : okDst q o) : Does q C o (.box n x) := by
  intro own s a G K Kr Q h hs hK
  obtain ⟨l, hl, _, hs⟩ := hs
  obtain ⟨vs, hlc, hsz, hlen, h1, hr⟩ := Rd_cells (h.rd hx) hl
  have hnl := cells_noLin (h.rd hx) (noLin_ev hx).1 hl
  have hcs : ∀ (i : Nat), (a.eval x).cells[i]? = vs[i]? := fun i => by rw [← hlc]; simp [lc]
  obtain ⟨G', hw, hinv⟩ := h.boxed (d := o.dst) hd (a.eval x).cells t l (by rw [hsz, hlen]) (fun j v p hv hp => by
    rw [hcs] at hv; exact ⟨h1 v (List.mem_of_getElem? hv), hr j v p hv hp⟩) (fun j e xs hp => absurd (List.mem_of_getElem? hp) (hnl e xs))
  refine wp_val (v := .pointer (some ⟨G.w.heap.size, 0, none⟩)) (w' := G'.w) ?_ (hK _ _ _ _ hinv hs)
  rw [hw]
  simp [execOp, ho, Instr.box, newVar, newRow]

theorem still_ldA {t n : Nat} {x : Operand} (ho : o.op = .load t x) (ha : isAggB q.P t = some true) (hn : sz q.P t = some n) (hx : okOpd q.P q.N x = true) : Still q C o (.ldA n x) := by
  intro own s a G K h hs
  obtain ⟨row, off, hp, hle, hs⟩ := hs
  obtain ⟨ad, vs, hv, hlen, hc, hr⟩ := rd_lead h (h.rd hx) hp
  have hrun : ∀ G', Keep G G' → (loadCells ad n).run q.P G'.w = .ok (vs.take n).toArray G'.w := fun G' hk' => by
    have := run_loadCells_list (P := q.P) G'.w ad (vs.take n) (fun j u hu => by
      rw [List.getElem?_take] at hu
      split at hu
      · exact hk'.cell (hc j u hu).1
      · cases hu)
    rwa [List.length_take, hlen, Nat.min_eq_left (by omega)] at this
  refine still_mk (v := ag (vs.take n)) (p := ag (((row.drop off).take n).map dg1)) ?_ (noLin_ag _) hs (fun G' hk' => ?_)
  rotate_left
  · simp [execOp, ho, Instr.loadAt, Instr.sureAddr, hv, loadVar, run_isAgg' ha, run_sizeOf' hn, hrun G' hk', ag]
  · refine .agg _ _ (by simp [hlen]) (fun u hu => ?_) (fun e xs hm => ?_) (fun j u y hu hy => ?_)
    · obtain ⟨j, hj⟩ := List.getElem?_of_mem hu
      rw [List.getElem?_take] at hj
      split at hj
      · exact (hc j u hj).2
      · cases hj
    · obtain ⟨y, _, hy⟩ := List.mem_map.1 hm
      exact dg1_ne_lin y e xs hy
    · rw [List.getElem?_take] at hu
      split at hu
      · rename_i hj
        simp only [List.getElem?_map, List.getElem?_take, hj, if_true, List.getElem?_drop, Option.map_eq_some_iff] at hy
        obtain ⟨y', hy', rfl⟩ := hy
        exact Rd_dg1 (hr j u y' hu hy')
      · cases hu

theorem oneCell_row {v p : Value} (h : Rd G v p) (h1 : v.oneCell' = true) : p.oneCell' = true := by
  cases h with
  | scal v h => exact h1
  | agg vs ps => simp [ag, Value.oneCell'] at h1
  | tuple vs ps => simp [tup, Value.oneCell'] at h1
  | _ => rfl

theorem dg1_oneCell {p : Value} (h : p.oneCell' = true) : (dg1 p).oneCell' = true := by
  unfold dg1
  split
  · rfl
  · exact h

theorem still_ld {t : Nat} {x : Operand} (ho : o.op = .load t x) (ha : isAggB q.P t = some false) (hx : okOpd q.P q.N x = true) : Still q C o (.ld false x) := by
  intro own s a G K h hs
  obtain ⟨row, off, c, hp, hcell, hs⟩ := hs
  obtain ⟨ad, vs, hv, hlen, hc, hr⟩ := rd_lead h (h.rd hx) hp
  have hlt : off < row.length := (List.getElem?_eq_some_iff.1 hcell).1
  have hu : vs[0]? = some (vs[0]'(by omega)) := List.getElem?_eq_getElem _
  have hrd := hr 0 _ c hu (by simpa using hcell)
  obtain ⟨hcu, h1⟩ := hc 0 _ hu
  refine still_mk (v := vs[0]'(by omega)) (Rd_dg1 hrd) (noLin_one (dg1_oneCell (oneCell_row hrd h1)) (dg1_ne_lin _)) hs (fun G' hk' => ?_)
  have hcu' : G'.w.cell? ad = some (vs[0]'(by omega)) := hk'.cell (by simpa [Addr.add] using hcu)
  simp [execOp, ho, Instr.loadAt, Instr.sureAddr, hv, loadVar, run_isAgg' ha, hcu']

theorem still_nilc {x : Operand} (ho : o.op = .nilCheck x) (hx : okOpd q.P q.N x = true) : Still q C o (.nilc x) := by
  intro own s a G K h hs
  obtain ⟨hp, hs⟩ := hs
  obtain ⟨p', hp'⟩ := Option.isSome_iff_exists.1 hp
  obtain ⟨ad, hv, _, _⟩ := rd_addOff (h.rd hx) 0 hp'
  refine still_mk (v := a.eval x) (h.rd hx) (noLin_ev hx) hs (fun G' hk' => (by simp [execOp, ho, hv]))

theorem still_fa {t f : Nat} {x : Operand} {fs : Array Field} {fl : Field} {n : Nat} (ho : o.op = .fieldAddr t x f) (ht : q.P.underlying t = some (.struct fs)) (hf : fs[f]? = some fl) (hn : sz q.P fl.type = some n) (h0 : n ≠ 0)
    (hx : okOpd q.P q.N x = true) : Still q C o (.fa fl.offset x) := by
  intro own s a G K h hs
  obtain ⟨v, hp, hs⟩ := hs
  obtain ⟨ad, hv, hr, hl⟩ := rd_addOff (h.rd hx) _ hp
  refine still_mk (v := .pointer (some (ad.add fl.offset))) hr hl hs (fun G' hk' => ?_)
  simp [execOp, ho, Instr.fieldAt, run_underlying ht, hf, Instr.sureAddr, hv, fieldPlace, run_sizeOf' hn, h0]

theorem ag_rd {v : Value} {l : List Value} (h : Rd G v (ag l)) : ∃ vs, v = ag vs ∧ vs.length = l.length ∧ (∀ v ∈ vs, v.oneCell' = true) ∧ (∀ e xs, lin e xs ∉ l) ∧ ∀ (i : Nat) v p, vs[i]? = some v → l[i]? = some p → Rd G v p := by
  generalize hq : ag l = P at h
  cases h with
  | agg vs ps hl h1 hn hr =>
    obtain rfl : l = ps := by simpa [ag] using hq
    exact ⟨vs, rfl, hl, h1, hn, hr⟩
  | scal v h => subst hq; simp [ag, PE.scal] at h
  | _ => simp [tup, PE.ptr, PE.deep, PE.lin, PE.dptr, ag, PE.slc, PE.clo, PE.ns] at hq

/-- a part of an aggregate that is an aggregate -/
theorem Rd_part {vs l : List Value} (hlen : vs.length = l.length) (h1 : ∀ v ∈ vs, v.oneCell' = true) (hn : ∀ e xs, lin e xs ∉ l) (hr : ∀ (i : Nat) v p, vs[i]? = some v → l[i]? = some p → Rd G v p) (off n : Nat) :
    Rd G (ag ((vs.drop off).take n)) (ag ((l.drop off).take n)) := by
  refine .agg _ _ (by simp [hlen]) (fun u hu => h1 u (List.mem_of_mem_drop (List.mem_of_mem_take hu))) (fun e xs hm => hn e xs (List.mem_of_mem_drop (List.mem_of_mem_take hm))) (fun j u y hu hy => ?_)
  rw [List.getElem?_take] at hu hy
  split at hu
  · rename_i hj
    rw [if_pos hj, List.getElem?_drop] at hy
    rw [List.getElem?_drop] at hu
    exact hr _ u y hu hy
  · cases hu

theorem run_part_agg {P : Program} {w : World} {t n off : Nat} {vs : List Value} (ha : isAggB P t = some true) (hn : sz P t = some n) : (part t vs.toArray off).run P w = .ok (ag ((vs.drop off).take n)) w := by
  simp only [part, Sem.run_bind, run_isAgg' ha, Result.andThen_ok, if_true, run_sizeOf' hn, Sem.run_pure, ag]
  congr 2
  simp [List.extract_eq_take_drop]

theorem run_part_one {P : Program} {w : World} {t off : Nat} {vs : List Value} {v : Value} (ha : isAggB P t = some false) (hv : vs[off]? = some v) : (part t vs.toArray off).run P w = .ok v w := by
  simp [part, run_isAgg' ha, hv]

theorem still_fldA {t f : Nat} {x : Operand} {fs : Array Field} {fl : Field} {n : Nat} (ho : o.op = .field t x f) (ht : q.P.underlying t = some (.struct fs)) (hf : fs[f]? = some fl) (ha : isAggB q.P fl.type = some true) (hn : sz q.P fl.type = some n)
    (hx : okOpd q.P q.N x = true) : Still q C o (.fldA fl.offset n x) := by
  intro own s a G K h hs
  obtain ⟨l, hp, hle, hs⟩ := hs
  have hrd := h.rd hx
  rw [asAg_eq hp] at hrd
  obtain ⟨vs, hv, hlen, h1, hnl, hr⟩ := ag_rd hrd
  refine still_mk (v := ag ((vs.drop fl.offset).take n)) (Rd_part hlen h1 hnl hr _ _) (noLin_ag _) hs (fun G' hk' => ?_)
  simp [execOp, ho, Instr.field, run_underlying ht, hf, hv, ag, asAgg, run_part_agg ha hn]

theorem still_fld {t f : Nat} {x : Operand} {fs : Array Field} {fl : Field} (ho : o.op = .field t x f) (ht : q.P.underlying t = some (.struct fs)) (hf : fs[f]? = some fl) (ha : isAggB q.P fl.type = some false)
    (hx : okOpd q.P q.N x = true) : Still q C o (.fld fl.offset x) := by
  intro own s a G K h hs
  obtain ⟨l, c, hp, hc, hs⟩ := hs
  have hrd := h.rd hx
  rw [asAg_eq hp] at hrd
  obtain ⟨vs, hv, hlen, h1, hnl, hr⟩ := ag_rd hrd
  have hlt : fl.offset < vs.length := by rw [hlen]; exact (List.getElem?_eq_some_iff.1 hc).1
  have hu : vs[fl.offset]? = some vs[fl.offset] := List.getElem?_eq_getElem hlt
  have hru := hr _ _ _ hu hc
  refine still_mk (v := vs[fl.offset]) hru (noLin_one (oneCell_row hru (h1 _ (List.mem_of_getElem? hu))) (fun e xs he => hnl e xs (by rw [← he]; exact List.mem_of_getElem? hc))) hs (fun G' hk' => ?_)
  simp [execOp, ho, Instr.field, run_underlying ht, hf, hv, ag, asAgg, run_part_one ha hu]

theorem deep_rd {v : Value} {xs : List Value} (h : Rd G v (deep xs)) : (v = .slice none 0 0 ∧ xs = []) ∨ ∃ (a : Addr) (cap size : Nat) (us : Nat → Value), v = .slice (some a) xs.length cap ∧ (xs ≠ [] → a.spot = none) ∧ xs.length ≤ cap ∧ cap ≤ maxLen ∧
      (∀ q, q < xs.length * size → G.w.cell? (a.add q) = some (us q) ∧ a.off + q < G.fr a.block ∧ (us q).oneCell' = true) ∧
      (∀ (i : Nat) x, xs[i]? = some x → (lc x).length = size) ∧ (∀ (i : Nat) x (j : Nat) y, xs[i]? = some x → (lc x)[j]? = some y → Rd G (us (i * size + j)) y) := by
  generalize hq : deep xs = P at h
  cases h with
  | nil => left; exact ⟨rfl, by simpa [deep] using hq⟩
  | deep a cap size ys us hs hcap hcl hc hz hr =>
    obtain rfl : xs = ys := by simpa [deep] using hq
    exact .inr ⟨a, cap, size, us, rfl, hs, hcap, hcl, hc, hz, hr⟩
  | scal v h => subst hq; simp [deep, PE.scal] at h
  | _ => simp [tup, PE.ptr, PE.deep, PE.lin, PE.dptr, ag, PE.slc, PE.clo, PE.ns] at hq

theorem cellsOf_lc {p : Value} {l : List Value} (h : cellsOf p = some l) : lc p = l := by
  cases p <;> simp [cellsOf, lc, Value.cells] at h ⊢ <;> exact h

theorem add_add_ (a : Addr) (hs : a.spot = none) (m n : Nat) : (a.add m).add n = a.add (m + n) := by
  rw [add_off _ hs, add_off _ rfl, add_off _ hs, Nat.add_assoc]

theorem still_ixS {t e n : Nat} {x i : Operand} (ho : o.op = .indexAddr t x i) (ht : q.P.underlying t = some (.slice e)) (hn : sz q.P e = some n)
    (hx : okOpd q.P q.N x = true) (hi : okOpd q.P q.N i = true) : Still q C o (.ixS n x i) := by
  intro own s a G K h hs
  obtain ⟨xs, k, j, el, l, hxs, hj, h0, hel, hl, hln, hs⟩ := hs
  have hrd := h.rd hx
  rw [asDeep_eq hxs ⟨_, hrd⟩] at hrd
  have hiv := (rd_int (h.rd hi) hj).1
  have hlt : j.toNat < xs.length := (List.getElem?_eq_some_iff.1 hel).1
  rcases deep_rd hrd with ⟨_, rfl⟩ | ⟨ad, cap, size, us, hv, hsp, _, _, hc, hz, hr⟩
  · simp at hlt
  have hsp := hsp (fun e => by subst e; simp at hlt)
  have hlc := cellsOf_lc hl
  have hsize : n = size := by rw [← hz _ _ hel, hlc]; exact hln.symm
  subst hsize
  refine still_mk (v := .pointer (some (ad.add (j.toNat * n)))) (p := dptr 0 l) ?_ (noLin_dptr _ _) hs (fun G' hk' => ?_)
  rotate_left
  · have hlt' : j < (xs.length : Int) := by omega
    simp [execOp, ho, Instr.indexAt, hiv, hv, asIntOf, run_underlying ht, h0, hlt', run_sizeOf' hn]
  · have := Rd.dptr (G := G) (ad.add (j.toNat * n)) 0 l (fun r => us (j.toNat * n + r)) (by rw [add_off _ hsp]) (fun r hr' => ?_) (fun r y hy => hr _ _ r y hel (by rw [hlc]; exact hy))
    · simpa [Addr.add] using this
    · have hb : j.toNat * n + r < xs.length * n := by
        have : (j.toNat + 1) * n ≤ xs.length * n := Nat.mul_le_mul_right _ (by omega)
        rw [Nat.add_mul] at this; omega
      obtain ⟨e1, e2, e3⟩ := hc _ hb
      rw [add_add_ _ hsp]
      refine ⟨e1, ?_, e3⟩
      rw [add_off _ hsp]
      simp only
      omega

theorem still_ixP {t e len n : Nat} {x i : Operand} (ho : o.op = .indexAddr t x i) (ht : q.P.underlying t = some (.array len e)) (hn : sz q.P e = some n)
    (hx : okOpd q.P q.N x = true) (hi : okOpd q.P q.N i = true) : Still q C o (.ixP len n x i) := by
  intro own s a G K h hs
  obtain ⟨k, j, v, hj, h0, hlt, hp, hs⟩ := hs
  have hiv := (rd_int (h.rd hi) hj).1
  obtain ⟨ad, hv, hr, hl⟩ := rd_addOff (h.rd hx) _ hp
  refine still_mk (v := .pointer (some (ad.add (j.toNat * n)))) hr hl hs (fun G' hk' => ?_)
  simp [execOp, ho, Instr.indexAt, hiv, hv, asIntOf, run_underlying ht, h0, hlt, run_sizeOf' hn, Instr.sureAddr]

theorem still_ixA {t e len n : Nat} {x i : Operand} (ho : o.op = .index t x i) (ht : q.P.underlying t = some (.array len e)) (ha : isAggB q.P e = some true) (hn : sz q.P e = some n)
    (hx : okOpd q.P q.N x = true) (hi : okOpd q.P q.N i = true) : Still q C o (.ixA len n x i) := by
  intro own s a G K h hs
  obtain ⟨l, k, j, hp, hj, h0, hlt, hle, hs⟩ := hs
  have hiv := (rd_int (h.rd hi) hj).1
  have hrd := h.rd hx
  rw [asAg_eq hp] at hrd
  obtain ⟨vs, hv, hlen, h1, hnl, hr⟩ := ag_rd hrd
  refine still_mk (v := ag ((vs.drop (j.toNat * n)).take n)) (Rd_part hlen h1 hnl hr _ _) (noLin_ag _) hs (fun G' hk' => ?_)
  simp [execOp, ho, Instr.index, hiv, hv, ag, asIntOf, run_underlying ht, h0, hlt, run_sizeOf' hn, run_part_agg ha hn]

theorem still_ix {t e len : Nat} {x i : Operand} (ho : o.op = .index t x i) (ht : q.P.underlying t = some (.array len e)) (ha : isAggB q.P e = some false) (hn : sz q.P e = some 1)
    (hx : okOpd q.P q.N x = true) (hi : okOpd q.P q.N i = true) : Still q C o (.ix len x i) := by
  intro own s a G K h hs
  obtain ⟨l, k, j, c, hp, hj, h0, hlt, hc, hs⟩ := hs
  have hiv := (rd_int (h.rd hi) hj).1
  have hrd := h.rd hx
  rw [asAg_eq hp] at hrd
  obtain ⟨vs, hv, hlen, h1, hnl, hr⟩ := ag_rd hrd
  have hlt' : j.toNat < vs.length := by rw [hlen]; exact (List.getElem?_eq_some_iff.1 hc).1
  have hu : vs[j.toNat]? = some vs[j.toNat] := List.getElem?_eq_getElem hlt'
  have hru := hr _ _ _ hu hc
  refine still_mk (v := vs[j.toNat]) hru (noLin_one (oneCell_row hru (h1 _ (List.mem_of_getElem? hu))) (fun e xs he => hnl e xs (by rw [← he]; exact List.mem_of_getElem? hc))) hs (fun G' hk' => ?_)
  simp [execOp, ho, Instr.index, hiv, hv, ag, asIntOf, run_underlying ht, h0, hlt, run_sizeOf' hn, run_part_one ha hu]

theorem does_extr {t i : Nat} (ho : o.op = .extract (.tmp t) i) (ht : t < q.N) (hd : okDst q o) : Does q C o (.extr t i) := by
  intro own s a G K Kr Q h hs hK
  obtain ⟨l, v, hl, hv, hs⟩ := hs
  cases hdo : o.dst with
  | some d =>
    rw [hdo] at hs
    obtain ⟨rv, own', hrun, hinv⟩ := h.extract ht (hd d hdo) hl hv
    refine wp_val (v := rv) (w' := G.w) ?_ (hK _ _ _ _ (by rw [hdo]; exact hinv) hs)
    simp only [execOp, ho, Act.eval, Sem.run_bind, hrun, Result.andThen_ok, Sem.run_pure]
  | none =>
    rw [hdo] at hs
    obtain ⟨rv, own', hrun, hinv⟩ := h.extract (d := t) ht ht hl hv
    have hdg : tup (l.map dg1) = dg (s.t t) := by rw [hl]; simp [tup, dg]
    refine wp_val (v := rv) (w' := G.w) ?_ (hK own _ _ _ (by rw [hdo, hdg]; exact h.degrade ht) hs)
    simp only [execOp, ho, Act.eval, Sem.run_bind, hrun, Result.andThen_ok, Sem.run_pure]

theorem still_len {t e : Nat} {x : Operand} (ho : ∃ ts, o.op = .call { callee := .builtin .len, args := #[x], argTypes := ts } ∧ ts[0]? = some t) (ht : q.P.underlying t = some (.slice e)) (hx : okOpd q.P q.N x = true) : Still q C o (.len x) := by
  intro own s a G K h hs
  obtain ⟨xs, hxs, hs⟩ := hs
  obtain ⟨ts, ho, hts⟩ := ho
  have hrd := h.rd hx
  rw [asDeep_eq hxs ⟨_, hrd⟩] at hrd
  have hv : ∃ ad cap, a.eval x = .slice ad xs.length cap := by
    rcases deep_rd hrd with ⟨hv, rfl⟩ | ⟨ad, cap, size, us, hv, _⟩
    · exact ⟨_, _, hv⟩
    · exact ⟨_, _, hv⟩
  obtain ⟨ad, cap, hv⟩ := hv
  refine still_mk (v := .int .i64 xs.length) (.scal _ rfl) (noLin_int _ _) hs (fun G' hk' => ?_)
  simp [execOp, ho, resolve, invoke, builtin, Builtin.len_, hts, hv, run_underlying ht, goInt]

end
end Go.PE
namespace Go.PE
open Go

theorem foldl_splice : ∀ (l : List Value) (off j : Nat) (cs : Array Value), off + j + l.length ≤ cs.size →
    (l.zipIdx j).foldl (fun cs (c, j) => cs.setIfInBounds (off + j) c) cs = (cs.toList.take (off + j) ++ l ++ cs.toList.drop (off + j + l.length)).toArray
  | [], off, j, cs, _ => by simp
  | v :: r, off, j, cs, h => by
    have ih := foldl_splice r off (j + 1) (cs.setIfInBounds (off + j) v) (by simp at h ⊢; omega)
    simp only [List.zipIdx_cons, List.foldl_cons, ih]
    have e := list_seg_step cs.toList (off + j) v r (by simp at h ⊢; omega)
    simpa [Array.toList_setIfInBounds, Nat.add_assoc] using congrArg List.toArray e

theorem fill_step {place : Nat → Option (Nat × Nat)} {i : Nat} {v : Value} {rest : List (Nat × Value)} {A b D : List Value} (hp : place i = some (A.length, b.length)) (hv : (lc v).length = b.length) :
    Instr.fill place (A ++ b ++ D).toArray ((i, v) :: rest) = Instr.fill place (A ++ lc v ++ D).toArray rest := by
  have hsz : v.cells.size = b.length := by rw [← hv]; simp [lc]
  simp only [Instr.fill, hp]
  rw [if_neg (by simp [hsz])]
  congr 1
  have h1 : v.cells.zipIdx.foldl (fun cs (c, j) => cs.setIfInBounds (A.length + j) c) (A ++ b ++ D).toArray = ((lc v).zipIdx 0).foldl (fun cs (c, j) => cs.setIfInBounds (A.length + j) c) (A ++ b ++ D).toArray := by
    rw [← Array.foldl_toList, Array.toList_zipIdx]; rfl
  rw [h1, foldl_splice _ _ _ _ (by simp [hv])]
  congr 1
  simp [hv, List.append_assoc]

section
variable {q : Par} {own : Nat → Option Pos} {s : PS} {a : Act} {G : Gh} {K : PS → Prop} {Kr : Act → World → Prop} {Q : Exit → Act → World → Prop} {o : Oper} {C : Known}

theorem lc_of_cells {v p : Value} (h : Rd G v p) {l : List Value} (hc : cellsOf p = some l) : (lc v).length = l.length ∧ (∀ x ∈ lc v, x.oneCell' = true) ∧ ∀ (i : Nat) x y, (lc v)[i]? = some x → l[i]? = some y → Rd G x y := by
  obtain ⟨vs, rfl, _, h2, h3, h4⟩ := Rd_cells h hc
  exact ⟨h2, h3, h4⟩

theorem fill_parts {zf : Value → Value} (hz1 : ∀ c, PE.scal c = true → ∀ e xs, zf c ≠ lin e xs) (hz2 : ∀ (G : Gh) c, PE.scal c = true → Rd G c (zf c)) (h : Inv q own s a G) (place : Nat → Option (Nat × Nat)) : ∀ (zs : List (List Value)) (pre : List (List Value)) (A : List Value) (ps : List (Nat × Operand)) (r : List (List Value ⊕ (Operand × Nat))) (l : List Value),
    (∀ z ∈ zs, ∀ c ∈ z, PE.scal c = true) → pre.flatten.length = A.length →
    (∀ k z, zs[k]? = some z → place (pre.length + k) = some (A.length + (zs.take k).flatten.length, z.length)) →
    partsOf q.P q.N zf zs pre.length ps = some r → buildL s r = some l →
    ∃ vs, Instr.fill place (A ++ zs.flatten).toArray (ps.map fun x => (x.1, a.eval x.2)) = some (A ++ vs).toArray ∧ vs.length = l.length ∧ (∀ v ∈ vs, v.oneCell' = true) ∧ (∀ e xs, lin e xs ∉ l) ∧
      ∀ (i : Nat) v p, vs[i]? = some v → l[i]? = some p → Rd G v p := by
  intro zs
  induction zs with
  | nil =>
    intro pre A ps r l hsc hA hpl hr hl
    cases ps with
    | nil =>
      obtain rfl : r = [] := by simpa [partsOf] using hr.symm
      obtain rfl : l = [] := by simpa [buildL] using hl.symm
      exact ⟨[], by simp [Instr.fill], rfl, by simp, by simp, by simp⟩
    | cons p ps => simp [partsOf] at hr
  | cons z zs ih =>
    intro pre A ps r l hsc hA hpl hr hl
    have hsc' : ∀ z' ∈ zs, ∀ c ∈ z', PE.scal c = true := fun z' hz' => hsc z' (List.mem_cons_of_mem _ hz')
    -- a block that stays as it was
    have stay : ∀ (ps : List (Nat × Operand)) (r' : List (List Value ⊕ (Operand × Nat))), partsOf q.P q.N zf zs (pre.length + 1) ps = some r' → buildL s (.inl (z.map zf) :: r') = some l →
        ∃ vs, Instr.fill place (A ++ (z :: zs).flatten).toArray (ps.map fun x => (x.1, a.eval x.2)) = some (A ++ vs).toArray ∧ vs.length = l.length ∧ (∀ v ∈ vs, v.oneCell' = true) ∧ (∀ e xs, lin e xs ∉ l) ∧
          ∀ (i : Nat) v p, vs[i]? = some v → l[i]? = some p → Rd G v p := by
      intro ps r' hr' hl'
      simp only [buildL, Option.map_eq_some_iff] at hl'
      obtain ⟨l', hl', rfl⟩ := hl'
      obtain ⟨vs, h1, h2, h3, h4, h5⟩ := ih (pre ++ [z]) (A ++ z) ps r' l' hsc' (by simp [hA]) (fun k z' hk => by
        have := hpl (k + 1) z' (by simpa using hk)
        simpa [Nat.add_assoc, Nat.add_comm 1 k, Nat.add_left_comm] using this) (by simpa using hr') hl'
      refine ⟨z ++ vs, by simpa [List.append_assoc] using h1, by simp [h2], fun v hv => ?_, fun e xs hm => ?_, fun i v p hv hp => ?_⟩
      · rcases List.mem_append.1 hv with hv | hv
        · have := hsc z (List.mem_cons_self ..) v hv
          cases v <;> first | rfl | simp [PE.scal] at this
        · exact h3 v hv
      · rcases List.mem_append.1 hm with hm | hm
        · obtain ⟨c, hc, he⟩ := List.mem_map.1 hm
          exact hz1 c (hsc z (List.mem_cons_self ..) c hc) e xs he
        · exact h4 e xs hm
      · by_cases hi : i < z.length
        · rw [List.getElem?_append_left hi] at hv
          rw [List.getElem?_append_left (by simpa using hi), List.getElem?_map, hv] at hp
          obtain rfl : zf v = p := by simpa using hp
          exact hz2 G _ (hsc z (List.mem_cons_self ..) v (List.mem_of_getElem? hv))
        · rw [List.getElem?_append_right (by omega)] at hv
          rw [List.getElem?_append_right (by simp; omega), List.length_map] at hp
          exact h5 _ v p hv hp
    cases ps with
    | nil =>
      simp only [partsOf, Option.map_eq_some_iff] at hr
      obtain ⟨r', hr', rfl⟩ := hr
      exact stay [] r' hr' hl
    | cons p ps =>
      obtain ⟨j, x⟩ := p
      simp only [partsOf] at hr
      split at hr
      · rename_i hij
        subst hij
        split at hr
        · rename_i hx
          simp only [Option.map_eq_some_iff] at hr
          obtain ⟨r', hr', rfl⟩ := hr
          simp only [buildL] at hl
          split at hl
          · rename_i lx m hlx hm
            split at hl
            · rename_i hlen
              obtain rfl : lx ++ m = l := by simpa using hl
              have hrd := h.rd hx
              obtain ⟨c1, c2, c3⟩ := lc_of_cells hrd hlx
              have hz0 := hpl 0 z rfl
              simp only [Nat.add_zero, List.take_zero, List.flatten_nil, List.length_nil] at hz0
              obtain ⟨vs, h1, h2, h3, h4, h5⟩ := ih (pre ++ [lc (a.eval x)]) (A ++ lc (a.eval x)) ps r' m hsc' (by simp [hA]) (fun k z' hk => by
                have := hpl (k + 1) z' (by simpa using hk)
                simpa [Nat.add_assoc, Nat.add_comm 1 k, Nat.add_left_comm, c1, hlen] using this) (by simpa using hr') hm
              refine ⟨lc (a.eval x) ++ vs, ?_, by simp [h2, c1], fun v hv => ?_, fun e xs hmm => ?_, fun i v p hv hp => ?_⟩
              · have hst := fill_step (place := place) (i := pre.length) (v := a.eval x) (rest := ps.map fun x => (x.1, a.eval x.2)) (A := A) (b := z) (D := zs.flatten) hz0 (by rw [c1, hlen])
                simp only [List.map_cons, List.flatten_cons]
                rw [← List.append_assoc, hst]
                simpa [List.append_assoc] using h1
              · rcases List.mem_append.1 hv with hv | hv
                · exact c2 v hv
                · exact h3 v hv
              · rcases List.mem_append.1 hmm with hmm | hmm
                · exact cells_noLin hrd (noLin_ev hx).1 hlx e xs hmm
                · exact h4 e xs hmm
              · by_cases hi : i < (lc (a.eval x)).length
                · rw [List.getElem?_append_left hi] at hv
                  rw [List.getElem?_append_left (by omega)] at hp
                  exact c3 i v p hv hp
                · rw [List.getElem?_append_right (by omega)] at hv
                  rw [List.getElem?_append_right (by omega)] at hp
                  rw [c1] at hv
                  exact h5 _ v p hv hp
            · cases hl
          · cases hl
        · cases hr
      · simp only [Option.map_eq_some_iff] at hr
        obtain ⟨r', hr', rfl⟩ := hr
        exact stay ((j, x) :: ps) r' hr' hl

theorem blocks_flatten : ∀ (ns : List Nat) (l : List Value), l.length = ns.sum → (blocks ns l).flatten = l
  | [], l, h => by simp at h; simp [blocks, h]
  | n :: ns, l, h => by
    simp only [blocks, List.flatten_cons]
    rw [blocks_flatten ns (l.drop n) (by simp at h ⊢; omega), List.take_append_drop]

theorem blocks_len : ∀ (ns : List Nat) (l : List Value), l.length = ns.sum → ∀ (k : Nat) z, (blocks ns l)[k]? = some z → ns[k]? = some z.length ∧ ((blocks ns l).take k).flatten.length = (ns.take k).sum
  | [], l, h, k, z, hz => by simp [blocks] at hz
  | n :: ns, l, h, 0, z, hz => by
    simp only [blocks, List.getElem?_cons_zero, Option.some.injEq] at hz
    subst hz
    simp at h
    simp; omega
  | n :: ns, l, h, k + 1, z, hz => by
    simp only [blocks, List.getElem?_cons_succ] at hz
    have ih := blocks_len ns (l.drop n) (by simp at h ⊢; omega) k z hz
    refine ⟨by simpa using ih.1, ?_⟩
    simp only [blocks, List.take_succ_cons, List.flatten_cons, List.length_append, ih.2, List.sum_cons, List.length_take]
    simp at h; omega

theorem blocks_mem : ∀ (ns : List Nat) (l : List Value), ∀ z ∈ blocks ns l, ∀ c ∈ z, c ∈ l
  | [], l, z, hz, c, hc => by simp [blocks] at hz
  | n :: ns, l, z, hz, c, hc => by
    simp only [blocks, List.mem_cons] at hz
    rcases hz with rfl | hz
    · exact List.mem_of_mem_take hc
    · exact List.mem_of_mem_drop (blocks_mem ns (l.drop n) z hz c hc)

theorem zeroCells_spec {P : Program} {t n : Nat} {z : List Value} (h : zeroCells P t n = some z) : ∃ i zv, P.info? t = some i ∧ i.zero = some zv ∧ zv.cells.toList = z ∧ z.length = n ∧ ∀ c ∈ z, PE.scal c = true := by
  unfold zeroCells at h
  split at h
  · rename_i i hi
    split at h
    · rename_i zv hz
      split at h
      · rename_i hc
        obtain rfl : zv.cells.toList = z := by simpa using h
        exact ⟨i, zv, hi, hz, rfl, by simpa using hc.1, List.all_eq_true.1 hc.2⟩
      · cases h
    · cases h
  · cases h

/-! fields in another order -/
def splice (off : Nat) (cs : Array Value) (l : List (Value × Nat)) : Array Value := l.foldl (fun cs (c, j) => cs.setIfInBounds (off + j) c) cs
theorem splice_size (off : Nat) : ∀ (l : List (Value × Nat)) (cs : Array Value), (splice off cs l).size = cs.size
  | [], _ => rfl
  | (c, j) :: l, cs => by
    show (splice off (cs.setIfInBounds (off + j) c) l).size = _
    rw [splice_size off l]; simp
theorem splice_set (off : Nat) : ∀ (l : List (Value × Nat)) (cs : Array Value) (i : Nat) (v : Value), (∀ x ∈ l, off + x.2 ≠ i) → splice off (cs.setIfInBounds i v) l = (splice off cs l).setIfInBounds i v
  | [], _, _, _, _ => rfl
  | (c, j) :: l, cs, i, v, h => by
    show splice off ((cs.setIfInBounds i v).setIfInBounds (off + j) c) l = (splice off (cs.setIfInBounds (off + j) c) l).setIfInBounds i v
    rw [← splice_set off l _ i v (fun x hx => h x (by simp [hx]))]
    have := h (c, j) (by simp)
    rw [Array.setIfInBounds_comm _ _ (by simpa using Ne.symm this)]
theorem splice_comm (o1 o2 : Nat) : ∀ (l1 l2 : List (Value × Nat)) (cs : Array Value), (∀ x ∈ l1, ∀ y ∈ l2, o2 + y.2 ≠ o1 + x.2) → splice o2 (splice o1 cs l1) l2 = splice o1 (splice o2 cs l2) l1
  | [], _, _, _ => rfl
  | (c, j) :: l, l2, cs, h => by
    show splice o2 (splice o1 (cs.setIfInBounds (o1 + j) c) l) l2 = splice o1 ((splice o2 cs l2).setIfInBounds (o1 + j) c) l
    rw [splice_comm o1 o2 l l2 _ (fun x hx => h x (by simp [hx])), splice_set o2 l2 cs (o1 + j) c (fun y hy => h (c, j) (by simp) y hy)]
theorem zipIdx_lt (v : Value) : ∀ x ∈ v.cells.zipIdx.toList, x.2 < v.cells.size := fun x hx => by
  rw [Array.toList_zipIdx] at hx
  have := List.mem_zipIdx hx
  simp at this
  omega
theorem fill_swap {place : Nat → Option (Nat × Nat)} (hd : ∀ i j oi ni oj nj, i < j → place i = some (oi, ni) → place j = some (oj, nj) → oi + ni ≤ oj) {x y : Nat × Value} (hxy : y.1 < x.1) (cs : Array Value) (r : List (Nat × Value)) :
    Instr.fill place cs (x :: y :: r) = Instr.fill place cs (y :: x :: r) := by
  obtain ⟨i, v⟩ := x
  obtain ⟨j, w⟩ := y
  simp only at hxy
  simp only [Instr.fill]
  cases hi : place i with
  | none =>
    cases hj : place j with
    | none => rfl
    | some q => obtain ⟨oj, nj⟩ := q; simp only; split <;> rfl
  | some q =>
    obtain ⟨oi, ni⟩ := q
    cases hj : place j with
    | none => simp only; split <;> rfl
    | some q =>
      obtain ⟨oj, nj⟩ := q
      simp only
      have hdis := hd j i oj nj oi ni hxy hj hi
      have s1 : ∀ (u : Value) (o : Nat) (c : Array Value), u.cells.zipIdx.foldl (fun cs (c, j) => cs.setIfInBounds (o + j) c) c = splice o c u.cells.zipIdx.toList := fun u o c => by
        rw [← Array.foldl_toList]; rfl
      simp only [s1, splice_size]
      by_cases h1 : (decide (v.cells.size ≠ ni) || decide (oi + v.cells.size > cs.size)) = true
      · by_cases h2 : (decide (w.cells.size ≠ nj) || decide (oj + w.cells.size > cs.size)) = true
        · rw [if_pos h1, if_pos h2]
        · rw [if_pos h1, if_neg h2, if_pos h1]
      · by_cases h2 : (decide (w.cells.size ≠ nj) || decide (oj + w.cells.size > cs.size)) = true
        · rw [if_neg h1, if_pos h2, if_pos h2]
        · rw [if_neg h1, if_neg h2, if_neg h2, if_neg h1, splice_comm]
          intro a ha b hb
          have := zipIdx_lt v a ha
          have := zipIdx_lt w b hb
          simp only [Bool.or_eq_true, decide_eq_true_eq, not_or, Decidable.not_not] at h1 h2
          omega
theorem fill_cons {place : Nat → Option (Nat × Nat)} {x : Nat × Value} {r r' : List (Nat × Value)} (h : ∀ cs, Instr.fill place cs r = Instr.fill place cs r') (cs : Array Value) : Instr.fill place cs (x :: r) = Instr.fill place cs (x :: r') := by
  obtain ⟨i, v⟩ := x
  simp only [Instr.fill, h]
theorem fill_ins {place : Nat → Option (Nat × Nat)} (hd : ∀ i j oi ni oj nj, i < j → place i = some (oi, ni) → place j = some (oj, nj) → oi + ni ≤ oj) (e : Operand → Value) (x : Nat × Operand) : ∀ (l : List (Nat × Operand)) (cs : Array Value),
    Instr.fill place cs ((x :: l).map fun x => (x.1, e x.2)) = Instr.fill place cs ((insP x l).map fun x => (x.1, e x.2))
  | [], _ => rfl
  | y :: r, cs => by
    unfold insP
    split
    · rfl
    · rename_i h
      have ih := fill_ins hd e x r
      rw [List.map_cons, List.map_cons, fill_swap hd (by simp only; omega)]
      rw [List.map_cons]
      exact fill_cons (fun cs => by simpa using ih cs) cs
theorem fill_sort {place : Nat → Option (Nat × Nat)} (hd : ∀ i j oi ni oj nj, i < j → place i = some (oi, ni) → place j = some (oj, nj) → oi + ni ≤ oj) (e : Operand → Value) : ∀ (l : List (Nat × Operand)) (cs : Array Value),
    Instr.fill place cs (l.map fun x => (x.1, e x.2)) = Instr.fill place cs ((sortP l).map fun x => (x.1, e x.2))
  | [], _ => rfl
  | x :: l, cs => by
    unfold sortP
    rw [← fill_ins hd e x (sortP l) cs, List.map_cons, List.map_cons]
    exact fill_cons (fun cs => fill_sort hd e l cs) cs
/-- the common part of putting a struct and an array together -/
theorem build_common {zf : Value → Value} (hz1 : ∀ c, PE.scal c = true → ∀ e xs, zf c ≠ lin e xs) (hz2 : ∀ (G : Gh) c, PE.scal c = true → Rd G c (zf c)) (h : Inv q own s a G) {t : Nat} {ns : List Nat} {parts : List (Nat × Operand)} {i : PI} (hb : buildOf q.P q.N zf t ns parts = some i) (place : Nat → Option (Nat × Nat))
    (hpl : ∀ k n, ns[k]? = some n → place k = some ((ns.take k).sum, n)) (hdj : ∀ i j oi ni oj nj, i < j → place i = some (oi, ni) → place j = some (oj, nj) → oi + ni ≤ oj) {d : Option Nat} (hs : step C q.P q.T q.n0 d i s K) :
    ∃ inf zv vs l, q.P.info? t = some inf ∧ inf.zero = some zv ∧ Instr.fill place zv.cells (parts.map fun x => (x.1, a.eval x.2)) = some vs.toArray ∧ Rd G (ag vs) (ag l) ∧ K (s.putO d (ag l)) := by
  unfold buildOf at hb
  split at hb
  · rename_i z hz
    simp only [Option.map_eq_some_iff] at hb
    obtain ⟨r, hr, rfl⟩ := hb
    obtain ⟨inf, zv, hi, hzv, hzc, hzl, hsc⟩ := zeroCells_spec hz
    obtain ⟨l, hl, hs⟩ := hs
    obtain ⟨vs, h1, h2, h3, h4, h5⟩ := fill_parts hz1 hz2 h place (blocks ns z) [] [] (sortP parts) r l (fun b hb c hc => hsc c (blocks_mem ns z b hb c hc)) rfl (fun k b hk => by
      obtain ⟨e1, e2⟩ := blocks_len ns z hzl k b hk
      simp only [List.length_nil, Nat.zero_add, e2]
      exact hpl k _ e1) hr hl
    refine ⟨inf, zv, vs, l, hi, hzv, ?_, .agg vs l h2 h3 h4 h5, hs⟩
    rw [fill_sort hdj a.eval]
    simp only [List.nil_append, blocks_flatten ns z hzl] at h1
    rw [← hzc, Array.toArray_toList] at h1
    exact h1
  · cases hb

theorem run_mapM_sizes {P : Program} : ∀ (fs : List Field) (off : Nat) (ns : List Nat), fieldSizes P fs off = some ns →
    ∃ pl : List (Nat × Nat), pl.length = ns.length ∧ (∀ (k : Nat) n, ns[k]? = some n → pl[k]? = some (off + (ns.take k).sum, n)) ∧
      ∀ w, (fs.mapM fun f => (do pure (f.offset, ← sizeOf f.type) : Sem (Nat × Nat))).run P w = .ok pl w
  | [], off, ns, h => by
    obtain rfl : ns = [] := by simpa [fieldSizes] using h.symm
    exact ⟨[], rfl, by simp, by simp⟩
  | f :: fs, off, ns, h => by
    simp only [fieldSizes] at h
    split at h
    · rename_i hoff
      split at h
      · rename_i n hn
        simp only [Option.map_eq_some_iff] at h
        obtain ⟨ns', hns, rfl⟩ := h
        obtain ⟨pl, h2, h3, h1⟩ := run_mapM_sizes (P := P) fs (off + n) ns' hns
        refine ⟨(off, n) :: pl, by simp [h2], fun k m hk => ?_, fun w => ?_⟩
        · cases k with
          | zero => simp at hk ⊢; exact hk
          | succ k => simpa [Nat.add_assoc] using h3 k m (by simpa using hk)
        · simp only [List.mapM_cons, Sem.run_bind, run_sizeOf' hn, Result.andThen_ok, Sem.run_pure, h1, hoff]
      · cases h
    · cases h

theorem take_sum_mono : ∀ (ns : List Nat) (i j n : Nat), i < j → ns[i]? = some n → (ns.take i).sum + n ≤ (ns.take j).sum
  | [], i, j, n, _, h => by simp at h
  | m :: ns, 0, j + 1, n, _, h => by
    simp at h; subst h
    simp
  | m :: ns, i + 1, j + 1, n, hij, h => by
    have := take_sum_mono ns i j n (by omega) (by simpa using h)
    simp only [List.take_succ_cons, List.sum_cons]; omega
theorem place_mono {pl : List (Nat × Nat)} {ns : List Nat} (h1 : pl.length = ns.length) (h2 : ∀ (k : Nat) n, ns[k]? = some n → pl[k]? = some (0 + (ns.take k).sum, n)) : ∀ (i j oi ni oj nj : Nat), i < j → pl[i]? = some (oi, ni) → pl[j]? = some (oj, nj) → oi + ni ≤ oj := by
  intro i j oi ni oj nj hij hi hj
  have li : i < ns.length := by rw [← h1]; exact (List.getElem?_eq_some_iff.1 hi).1
  have lj : j < ns.length := by rw [← h1]; exact (List.getElem?_eq_some_iff.1 hj).1
  have ei := h2 i _ (List.getElem?_eq_getElem li)
  have ej := h2 j _ (List.getElem?_eq_getElem lj)
  rw [hi] at ei; rw [hj] at ej
  simp only [Option.some.injEq, Prod.mk.injEq] at ei ej
  obtain ⟨rfl, rfl⟩ := ei
  obtain ⟨rfl, rfl⟩ := ej
  have := take_sum_mono ns i j _ hij (List.getElem?_eq_getElem li)
  omega
theorem still_buildS {zf : Value → Value} (hz1 : ∀ c, PE.scal c = true → ∀ e xs, zf c ≠ lin e xs) (hz2 : ∀ (G : Gh) c, PE.scal c = true → Rd G c (zf c)) {t : Nat} {parts : Array (Nat × Operand)} {fs : Array Field} {ns : List Nat} {i : PI} (ho : o.op = .build t parts) (ht : q.P.underlying t = some (.struct fs)) (hns : fieldSizes q.P fs.toList 0 = some ns)
    (hb : buildOf q.P q.N zf t ns parts.toList = some i) : Still q C o i := by
  intro own s a G K h hs
  obtain ⟨pl, hp2, hp3, hp1⟩ := run_mapM_sizes (P := q.P) fs.toList 0 ns hns
  obtain ⟨inf, zv, vs, l, hi, hz, hf, hrd, hk⟩ := build_common hz1 hz2 h hb (pl[·]?) (fun k n hk => by simpa using hp3 k n hk) (place_mono hp2 hp3) hs
  refine still_mk (v := ag vs) hrd (noLin_ag _) hk (fun G' hk' => ?_)
  have hm : (fs.mapM fun f => (do pure (f.offset, ← sizeOf f.type) : Sem (Nat × Nat))).run q.P G'.w = .ok pl.toArray G'.w := by
    rw [Array.mapM_eq_mapM_toList]
    show Sem.run q.P (Bind.bind (fs.toList.mapM fun f => (do pure (f.offset, ← sizeOf f.type) : Sem (Nat × Nat))) (Pure.pure ∘ List.toArray)) G'.w = _
    rw [Sem.run_bind, hp1 G'.w]
    rfl
  have hm' : (fs.mapM fun f => Functor.map (Prod.mk f.offset) (sizeOf f.type)).run q.P G'.w = .ok pl.toArray G'.w := hm
  simp [execOp, ho, Instr.build, zeroValue, typeInfo, run_underlying ht, hm', hi, hz, ag, hf]

theorem still_buildA {zf : Value → Value} (hz1 : ∀ c, PE.scal c = true → ∀ e xs, zf c ≠ lin e xs) (hz2 : ∀ (G : Gh) c, PE.scal c = true → Rd G c (zf c)) {t e len n : Nat} {parts : Array (Nat × Operand)} {i : PI} (ho : o.op = .build t parts) (ht : q.P.underlying t = some (.array len e)) (hn : sz q.P e = some n)
    (hb : buildOf q.P q.N zf t (List.replicate len n) parts.toList = some i) : Still q C o i := by
  intro own s a G K h hs
  obtain ⟨inf, zv, vs, l, hi, hz, hf, hrd, hk⟩ := build_common hz1 hz2 h hb (fun i => some (i * n, n)) (fun k m hk => by
    have hk' := List.getElem?_eq_some_iff.1 hk
    obtain ⟨hlt, he⟩ := hk'
    simp only [List.getElem_replicate] at he
    subst he
    simp at hlt
    simp [List.take_replicate, Nat.min_eq_left (Nat.le_of_lt hlt)]) (fun i j oi ni oj nj hij h1 h2 => by
    simp only [Option.some.injEq, Prod.mk.injEq] at h1 h2
    obtain ⟨rfl, rfl⟩ := h1
    obtain ⟨rfl, rfl⟩ := h2
    have := Nat.mul_le_mul_right n (show i + 1 ≤ j by omega)
    rw [Nat.add_mul, Nat.one_mul] at this; exact this) hs
  refine still_mk (v := ag vs) hrd (noLin_ag _) hk (fun G' hk' => ?_)
  simp [execOp, ho, Instr.build, zeroValue, typeInfo, run_underlying ht, run_sizeOf' hn, hi, hz, ag, hf]

/-- a new row as a slice -/
theorem Rd_row {G' : Gh} {n len cap size e : Nat} {cs : Array Value} {xs : List Value} (hh : G'.w.heap[n]? = some (.cells cs e (0, 0))) (hf : G'.fr n = len * size) (hlen : len = xs.length) (hcap : len ≤ cap) (hcl : cap ≤ maxLen) (h0 : 0 < size)
    (hz : ∀ (i : Nat) x, xs[i]? = some x → (lc x).length = size)
    (hr : ∀ (i : Nat) x (j : Nat) y, xs[i]? = some x → (lc x)[j]? = some y → ∃ u, cs[i * size + j]? = some u ∧ u.oneCell' = true ∧ Rd G' u y) :
    Rd G' (.slice (some ⟨n, 0, none⟩) len cap) (deep xs) := by
  subst hlen
  have hpos : ∀ r, r < xs.length * size → ∃ (x y : Value), xs[r / size]? = some x ∧ (lc x)[r % size]? = some y := fun r hr' => by
    have h1 : r / size < xs.length := Nat.div_lt_of_lt_mul (by rw [Nat.mul_comm]; exact hr')
    have hx : xs[r / size]? = some xs[r / size] := List.getElem?_eq_getElem h1
    have h2 : r % size < (lc xs[r / size]).length := by rw [hz _ _ hx]; exact Nat.mod_lt _ h0
    exact ⟨_, _, hx, List.getElem?_eq_getElem h2⟩
  refine .deep ⟨n, 0, none⟩ cap size xs (fun r => cs.getD r undef) (fun _ => rfl) hcap hcl (fun r hr' => ?_) hz (fun i x j y hx hy => ?_)
  · obtain ⟨x, y, hx, hy⟩ := hpos r hr'
    obtain ⟨u, hu, h1, _⟩ := hr _ x _ y hx hy
    rw [Nat.div_add_mod'] at hu
    rw [add_off _ rfl, cell_of_row _ _ _ _ _ _ hh]
    simp only [Nat.zero_add, Array.getD_eq_getD_getElem?, hu, Option.getD_some]
    exact ⟨trivial, by rw [hf]; exact hr', h1⟩
  · obtain ⟨u, hu, _, hru⟩ := hr i x j y hx hy
    simpa [Array.getD_eq_getD_getElem?, hu] using hru

theorem Keep.of_more {G G' : Gh} (h : More G G') (hb : G'.be = G.be) (hn : G'.nx = G.nx) : Keep G G' := ⟨h.blk, hb, hn, h.sz, h.os, h.tape, h.output⟩

/-- a list of parts as one row of cells -/
theorem parts_row (h : Inv q own s a G) {size : Nat} : ∀ (ps : List Operand) (A : List Value) (i0 : Nat), A.length = i0 * size → (∀ x ∈ ps, okOpd q.P q.N x = true ∧ ∃ l, cellsOf (s.ev x) = some l ∧ l.length = size) →
    ∀ (D : List Value), D.length = ps.length * size →
    Instr.fill (fun i => some (i * size, size)) (A ++ D).toArray (((List.range' i0 ps.length).zip ps).map fun x => (x.1, a.eval x.2)) = some (A ++ (ps.map fun x => lc (a.eval x)).flatten).toArray
  | [], A, i0, hA, hp, D, hD => by simp at hD; simp [Instr.fill, hD]
  | x :: ps, A, i0, hA, hp, D, hD => by
    obtain ⟨hx, l, hl, hlen⟩ := hp x (List.mem_cons_self ..)
    obtain ⟨c1, _, _⟩ := lc_of_cells (h.rd hx) hl
    have hD' : D = D.take size ++ D.drop size := (List.take_append_drop ..).symm
    have htl : (D.take size).length = size := by
      rw [List.length_take, hD]; simp only [List.length_cons, Nat.add_mul]; omega
    have hst := fill_step (place := fun i => some (i * size, size)) (i := i0) (v := a.eval x) (rest := ((List.range' (i0 + 1) ps.length).zip ps).map fun x => (x.1, a.eval x.2)) (A := A) (b := D.take size) (D := D.drop size)
      (by simp [hA, htl]) (by rw [c1, hlen, htl])
    have ih := parts_row h ps (A ++ lc (a.eval x)) (i0 + 1) (by simp [hA, c1, hlen, Nat.add_mul]) (fun y hy => hp y (List.mem_cons_of_mem _ hy)) (D.drop size) (by rw [List.length_drop, hD]; simp only [List.length_cons, Nat.add_mul]; omega)
    simp only [List.length_cons, List.range'_succ, List.zip_cons_cons, List.map_cons, List.flatten_cons]
    rw [List.append_assoc, ← hD'] at hst
    rw [hst, ih, List.append_assoc]

theorem flatten_at {α : Type} {size : Nat} : ∀ (L : List (List α)) (i : Nat) (x : List α) (j : Nat) (y : α), (∀ b ∈ L, b.length = size) → L[i]? = some x → x[j]? = some y → L.flatten[i * size + j]? = some y
  | b :: L, 0, x, j, y, hl, hx, hy => by
    simp at hx; subst hx
    have := (List.getElem?_eq_some_iff.1 hy).1
    simp only [List.flatten_cons, Nat.zero_mul, Nat.zero_add]
    rw [List.getElem?_append_left this]; exact hy
  | b :: L, i + 1, x, j, y, hl, hx, hy => by
    have ih := flatten_at L i x j y (fun b hb => hl b (List.mem_cons_of_mem _ hb)) (by simpa using hx) hy
    have hb := hl b (List.mem_cons_self ..)
    simp only [List.flatten_cons]
    rw [List.getElem?_append_right (by rw [hb, Nat.add_mul]; omega), hb]
    have : (i + 1) * size + j - size = i * size + j := by rw [Nat.add_mul]; omega
    rw [this]; exact ih
  | [], i, x, j, y, hl, hx, hy => by simp at hx

theorem does_mks {t e size len : Nat} {tk : Bool} {parts : Array (Nat × Operand)} (ho : o.op = .buildSlice t len parts) (ht : q.P.underlying t = some (.slice e)) (hn : sz q.P e = some size) (h0 : size ≠ 0) (hidx : parts.toList.map (·.1) = List.range len)
    (hsm : len * size ≤ 2 ^ 24) (hz : ((q.P.info? e).bind (·.zero)).isSome) (hx : ∀ x ∈ parts.toList.map (·.2), okOpd q.P q.N x = true) (hd : okDst q o) : Does q C o (.mks e size tk (parts.toList.map (·.2))) := by
  intro own s a G K Kr Q h hs hK
  obtain ⟨hp, hs⟩ := hs
  obtain ⟨inf, hinf, hsz⟩ := info_of_sz hn
  obtain ⟨zv, hzv⟩ := Option.isSome_iff_exists.1 hz
  rw [hinf, Option.bind_some] at hzv
  let ps := parts.toList.map (·.2)
  have hlen : ps.length = len := by
    have := congrArg List.length hidx
    simpa [ps] using this
  have hparts : parts.toList = (List.range' 0 ps.length).zip ps := by
    rw [hlen, ← List.range_eq_range', ← hidx]
    simp only [ps]
    rw [List.zip_map']
    simp
  let cs : List Value := (ps.map fun x => lc (a.eval x)).flatten
  have hblk : ∀ b ∈ ps.map fun x => lc (a.eval x), b.length = size := fun b hb => by
    obtain ⟨x, hxm, rfl⟩ := List.mem_map.1 hb
    obtain ⟨l, hl, hll⟩ := hp x hxm
    rw [(lc_of_cells (h.rd (hx x hxm)) hl).1, hll]
  have hrun : (execOp a.eval o).run q.P G.w = .ok (.value (.slice (some ⟨G.w.heap.size, 0, none⟩) len len)) (G.w.alloc (.cells cs.toArray e)) := by
    have hfill : ∀ z : Array Value, z.size = len * size → Instr.fill (fun i => some (i * size, size)) z (parts.toList.map fun x => (x.1, a.eval x.2)) = some cs.toArray := fun z hzz => by
      have := parts_row h ps [] 0 (by simp) (fun x hxm => ⟨hx x hxm, hp x hxm⟩) z.toList (by simp [hzz, hlen])
      rw [← hparts] at this
      simpa using this
    by_cases hl0 : len = 0
    · have := hfill ((Array.range 0).map fun _ => default) (by simp [hl0])
      simp [execOp, ho, Instr.buildSlice, run_underlying ht, run_sizeOf' hn, hl0, newRow, this]
    · have hpos : ¬ (len * size = 0) := fun hh => (Nat.mul_eq_zero.1 hh).elim hl0 h0
      have h24 : ¬ (16777216 < len * size) := by simp at hsm; omega
      have := hfill ((Array.range (len * size)).map (zv.cells[· % zv.cells.size]!)) (by simp)
      simp [execOp, ho, Instr.buildSlice, run_underlying ht, run_sizeOf' hn, newRow, zeroValue, typeInfo, hinf, hzv, h24]
      rw [if_neg hpos]
      simp [this]
  let G' : Gh := ⟨G.w.alloc (.cells cs.toArray e), upd G.fr G.w.heap.size (len * size), G.be, G.nx⟩
  have hM : More G G' := More.alloc G _ _ _ _
  have hkeep : Keep G G' := Keep.of_more hM rfl rfl
  have hnew : G'.w.heap[G.w.heap.size]? = some (.cells cs.toArray e (0, 0)) := heap_alloc_new _ _
  have hml : len ≤ maxLen := by
    have : len * 1 ≤ len * size := Nat.mul_le_mul_left _ (by omega)
    simp only [maxLen]; omega
  have hrd : Rd G' (.slice (some ⟨G.w.heap.size, 0, none⟩) len len) (deep (ps.map s.ev)) := by
    refine Rd_row (size := size) hnew (by simp [G']) (by simp [hlen]) (Nat.le_refl _) hml (Nat.pos_of_ne_zero h0) (fun i x hxi => ?_) (fun i x j y hxi hyj => ?_)
    · rw [List.getElem?_map, Option.map_eq_some_iff] at hxi
      obtain ⟨x', hx', rfl⟩ := hxi
      obtain ⟨l, hl, hll⟩ := hp x' (List.mem_of_getElem? hx')
      rw [cellsOf_lc hl, hll]
    · rw [List.getElem?_map, Option.map_eq_some_iff] at hxi
      obtain ⟨x', hx', rfl⟩ := hxi
      obtain ⟨l, hl, hll⟩ := hp x' (List.mem_of_getElem? hx')
      rw [cellsOf_lc hl] at hyj
      obtain ⟨c1, c2, c3⟩ := lc_of_cells (h.rd (hx x' (List.mem_of_getElem? hx'))) hl
      have hj : j < (lc (a.eval x')).length := by rw [c1]; exact (List.getElem?_eq_some_iff.1 hyj).1
      have hu : (lc (a.eval x'))[j]? = some (lc (a.eval x'))[j] := List.getElem?_eq_getElem hj
      refine ⟨_, ?_, c2 _ (List.mem_of_getElem? hu), (c3 j _ y hu hyj).mono hkeep.ext⟩
      rw [List.getElem?_toArray]
      exact flatten_at (ps.map fun x => lc (a.eval x)) i _ j _ hblk (by simp [hx']) hu
  refine wp_val hrun ?_
  cases tk with
  | false => exact hK _ _ _ G' ((h.keep hkeep).putO hd hrd (noLin_deep _)) (by simpa [ps] using hs)
  | true =>
    simp only [if_true] at hs
    cases hdo : o.dst with
    | none => rw [hdo] at hs; exact hK own _ _ G' (h.keep hkeep) hs
    | some d =>
      rw [hdo] at hs
      have hcl : cs.length = len * size := by
        have : ∀ (L : List (List Value)), (∀ b ∈ L, b.length = size) → L.flatten.length = L.length * size := by
          intro L
          induction L with
          | nil => intro _; simp
          | cons b L ih => intro hb; simp only [List.flatten_cons, List.length_append, hb b (List.mem_cons_self ..), ih (fun b' hb' => hb b' (List.mem_cons_of_mem _ hb')), List.length_cons, Nat.add_mul]; omega
        rw [this _ hblk, List.length_map, hlen]
      refine hK (upd own G.w.heap.size (some (.tmp d))) _ _ G' ((h.keep hkeep).putLin (hd d hdo) (.lin _ _ _ hrd) _ (fun g pos hg => ?_) (fun g pos hg _ => ?_) ?_) hs
      · by_cases hgn : g = G.w.heap.size
        · subst hgn; exact heap_lt hnew
        · rw [upd_ne _ _ hgn] at hg; exact Nat.lt_of_lt_of_le (h.ol g pos hg) hM.sz
      · rw [upd_ne _ _ (by have := h.ol g pos hg; omega)]; exact hg
      · refine .inr ⟨G.w.heap.size, len, len, inf, cs, rfl, hinf, ?_, by simp [G', hsz], by simp, fun k hk => ?_⟩
        · have := World.ownsRow_lit (base := q.B) (e := e) (size := inf.size) G.w cs.toArray len h.sz hml (by simp [hcl, hsz])
          simpa using this
        · have := (h.be_lt hk).2.1; omega

end
end Go.PE
namespace Go.PE
open Go

theorem splice_at {α : Type} (A X : List α) (off n i : Nat) (hn : X.length = n) (hle : off + n ≤ A.length) :
    (A.take off ++ X ++ A.drop (off + n))[i]? = if off ≤ i ∧ i < off + n then X[i - off]? else A[i]? := by
  subst hn
  have h1 : (A.take off).length = off := by rw [List.length_take]; omega
  by_cases h : i < off
  · rw [if_neg (by omega), List.append_assoc, List.getElem?_append_left (by omega), List.getElem?_take, if_pos h]
  · by_cases h' : i < off + X.length
    · rw [if_pos ⟨by omega, h'⟩, List.append_assoc, List.getElem?_append_right (by omega), h1, List.getElem?_append_left (by omega)]
    · rw [if_neg (by omega), List.append_assoc, List.getElem?_append_right (by omega), h1, List.getElem?_append_right (by omega), List.getElem?_drop]
      congr 1; omega

theorem TokOK.le {P : Program} {G : Gh} {own : Nat → Option Pos} {base base' : Nat} {pos : Pos} {e : Nat} {v : Value} (h : TokOK P G own base pos e v) (hb : base' ≤ base) : TokOK P G own base' pos e v := by
  rcases h with h | ⟨g, n, cap, i, xs, rfl, hi, h1, h2, h3, h4⟩
  · exact .inl h
  · refine .inr ⟨g, n, cap, i, xs, rfl, hi, ⟨h1.1, ?_⟩, h2, h3, h4⟩
    rcases h1.2 with h | ⟨g', c', cur, e1, e2, e3⟩
    · exact .inl h
    · exact .inr ⟨g', c', cur, e1, Nat.le_trans hb e2, e3⟩

theorem okBase_le {q : Par} {k base : Nat} (h : okBase q k base) : base ≤ q.B := by
  rcases h with rfl | ⟨_, rfl⟩
  · exact Nat.zero_le _
  · exact Nat.le_refl _

section
variable {q : Par} {own : Nat → Option Pos} {s : PS} {a : Act} {G : Gh} {K : PS → Prop} {Kr : Act → World → Prop} {Q : Exit → Act → World → Prop} {o : Oper} {C : Known}

theorem still_sc (hsel : ∀ cs b, o.op ≠ .select cs b) (hx : ∀ x ∈ o.op.operands.toList, okOpd q.P q.N x = true) : Still q C o (.sc o.op o.type) := by
  intro own s a G K h hs
  obtain ⟨hp, r, hr, hpr, hs⟩ := hs
  have he : execOp a.eval o = execOp s.ev o := execOp_congr o hsel fun x hxm => by
    have hxm' : x ∈ o.op.operands.toList := by simpa using hxm
    exact plain_eq (h.rd (hx x hxm')) (hp x hxm')
  exact still_mk (Rd_plain hpr) (noLin_plain hpr) hs (fun G' hk' => by rw [he]; exact hr _)

/-- cells of a box are written -/
theorem Inv.stored (h : Inv q own s a G) {k b off : Nat} {e : TypeId} {row l vs : List Value} {cs : Array Value} (hk : s.H k = some row) (hb : G.be k = some b) (hh : G.w.heap[b]? = some (.cells cs e (0, 0)))
    (hT : q.T k ∨ q.n0 ≤ k) (hsz : cs.size = row.length) (hr : ∀ (i : Nat) v p, cs[i]? = some v → row[i]? = some p → v.oneCell' = true ∧ Rd G v p)
    (hlen : vs.length = l.length) (hle : off + l.length ≤ row.length) (h1 : ∀ v ∈ vs, v.oneCell' = true) (hrl : ∀ (i : Nat) v p, vs[i]? = some v → l[i]? = some p → Rd G v p)
    (own' : Nat → Option Pos) (hol : ∀ g pos, own' g = some pos → g < G.w.heap.size) (hown : ∀ g pos, own g = some pos → live q.N s pos → own' g = some pos)
    (hl : ∀ (i : Nat) e xs v, l[i]? = some (lin e xs) → vs[i]? = some v → TokOK q.P G own' q.B (.cell k (off + i)) e v) :
    ∃ G', G'.w = G.w.setRow b (cs.toList.take off ++ vs ++ cs.toList.drop (off + vs.length)).toArray ∧ Ext G G' ∧
      Inv q own' { s with H := upd s.H k (some (row.take off ++ l ++ row.drop (off + l.length))) } a G' := by
  let cs' := (cs.toList.take off ++ vs ++ cs.toList.drop (off + vs.length)).toArray
  let G' : Gh := { G with w := G.w.setRow b cs' }
  have hcs : ∀ i : Nat, cs'[i]? = if off ≤ i ∧ i < off + l.length then vs[i - off]? else cs[i]? := fun i => by
    show ((cs.toList.take off ++ vs ++ cs.toList.drop (off + vs.length)).toArray)[i]? = _
    rw [List.getElem?_toArray, splice_at cs.toList vs off vs.length i rfl (by simp [hsz, hlen]; omega), hlen]
    simp
  have hrow : ∀ i : Nat, (row.take off ++ l ++ row.drop (off + l.length))[i]? = if off ≤ i ∧ i < off + l.length then l[i - off]? else row[i]? := fun i =>
    splice_at row l off l.length i rfl hle
  obtain ⟨hinv, hext⟩ := h.setBox (G' := G') (row' := row.take off ++ l ++ row.drop (off + l.length)) (cs' := cs') hk hb hh (setRow_heap _ _ _ _ _ _ hh) (fun b' hb' => setRow_other _ _ _ _ hb')
    rfl rfl rfl (size_setRow _ _ _) rfl rfl rfl hT (by simp [cs', hlen, hsz]) (fun i v p hv hp => by
      rw [hcs] at hv; rw [hrow] at hp
      split at hv
      · rename_i hi; rw [if_pos hi] at hp; exact ⟨h1 v (List.mem_of_getElem? hv), hrl _ v p hv hp⟩
      · rename_i hi; rw [if_neg hi] at hp; exact hr i v p hv hp) own' hol (fun g pos hg hlv _ => hown g pos hg hlv) (fun base i e' xs v hob hp hv => by
      rw [hcs] at hv; rw [hrow] at hp
      split at hv
      · rename_i hi
        rw [if_pos hi] at hp
        have := hl (i - off) e' xs v hp hv
        rw [show off + (i - off) = i by omega] at this
        exact this.le (okBase_le hob)
      · rename_i hi
        rw [if_neg hi] at hp
        have hpc : pcell s.H k i = lin e' xs := by simp [pcell, hk, List.getD_eq_getElem?_getD, hp]
        have hrc : rcell G k i = v := by simp only [rcell, hb]; rw [cell_of_row _ _ _ _ _ _ hh, hv]; rfl
        have := h.ctok base k i e' xs hob hpc
        rw [hrc] at this
        exact this.own_of fun g _ _ _ hg => hown g _ hg ⟨e', xs, hpc⟩)
  exact ⟨G', rfl, hext, hinv⟩

theorem cells_toList_lc (v : Value) : v.cells.toList = lc v := rfl

theorem does_st {t n : Nat} {x v : Operand} (ho : o.op = .store t x v) (hn : sz q.P t = some n) (hx : okOpd q.P q.N x = true) (hv : okOpd q.P q.N v = true) (hd : okDst q o) : Does q C o (.st n x v) := by
  intro own s a G K Kr Q h hs hK
  obtain ⟨k, off, row, l, hp, hH, hl, hln, hle, hT, hs⟩ := hs
  have hrx := h.rd hx
  rw [hp] at hrx
  obtain ⟨b, e, cs, hvx, hb, hh, hsz, hr⟩ := rd_box h hrx hH hT
  obtain ⟨c1, c2, c3⟩ := lc_of_cells (h.rd hv) hl
  have hnl := cells_noLin (h.rd hv) (noLin_ev hv).1 hl
  obtain ⟨G', hw, hext, hinv⟩ := h.stored (off := off) hH hb hh hT hsz hr c1 (by omega) c2 c3 own h.ol (fun g pos hg _ => hg) (fun i e xs v hp _ => absurd (List.mem_of_getElem? hp) (hnl e xs))
  rw [hln] at hinv
  refine wp_skip (w' := G'.w) ?_ (hK _ _ _ _ (hinv.putO hd Rd_undef noLin_undef) hs)
  have hst := run_storeCells_at q.P b off e (lc (a.eval v)) 0 cs G.w hh (by omega) c2
  rw [hw]
  have hsize : (a.eval v).cells.size = n := by rw [← hln, ← c1]; simp [lc]
  simp only [Nat.add_zero] at hst
  simp [execOp, ho, Instr.storeAt, Instr.sureAddr, hvx, storeVar, run_sizeOf' hn, hsize, cells_toList_lc, hst]

theorem oneCell_cells {v : Value} (h : v.oneCell' = true) : v.cells = #[v] := by cases v <;> first | rfl | simp [Value.oneCell'] at h

theorem does_sts {t u : Nat} {x : Operand} (ho : o.op = .store t x (.tmp u)) (hn : sz q.P t = some 1) (hx : okOpd q.P q.N x = true) (hu : u < q.N) (hd : okDst q o) : Does q C o (.sts x u) := by
  intro own s a G K Kr Q h hs hK
  obtain ⟨k, off, row, hp, hH, hlt, hT, hnt, hna, hs⟩ := hs
  have h' := h.degrade hu
  have hrx := h.rd hx
  rw [hp] at hrx
  obtain ⟨b, e, cs, hvx, hb, hh, hsz, hr⟩ := rd_box h hrx hH hT
  have hru := h.tm u hu
  have hpone : (s.t u).oneCell' = true := by
    cases hq : s.t u with
    | tuple ps => exact absurd hq (hnt ps)
    | agg ps => exact absurd hq (hna ps)
    | _ => rfl
  have hone := oneCell_of hru hpone
  have hev : a.eval (.tmp u) = a.tmps.getD u undef := rfl
  obtain ⟨G', hw, hext, hinv⟩ := h'.stored (off := off) (l := [s.t u]) (vs := [a.tmps.getD u undef]) hH hb hh hT hsz hr rfl (by simp; omega) (by simpa using hone)
    (fun i v p hv hp => by
      match i, hv, hp with
      | 0, hv, hp => simp at hv hp; subst hv hp; simpa [Array.getD_eq_getD_getElem?] using hru)
    (fun g => if own g = some (.tmp u) then some (.cell k off) else own g)
    (fun g pos hg => by
      split at hg
      · rename_i h1; exact h.ol g _ h1
      · exact h.ol g _ hg)
    (fun g pos hg hlv => by
      rw [if_neg]
      · exact hg
      · rw [hg]
        intro heq
        obtain rfl : pos = .tmp u := by simpa using heq
        obtain ⟨_, e', xs, he⟩ := hlv
        simp only [PS.put, upd_same] at he
        exact (noLin_dg _).1 e' xs he)
    (fun i e' xs v hp hv => by
      match i, hp, hv with
      | 0, hp, hv =>
        simp at hp hv
        subst hv
        have := h.ttok u e' xs hu hp
        rw [Array.getD_eq_getD_getElem?] at this
        exact this.own_of fun g _ _ _ hg => by simp [hg])
  have e1 : row.take off ++ [s.t u] ++ row.drop (off + 1) = row.set off (s.t u) := by
    rw [List.set_eq_take_append_cons_drop, if_pos hlt]; simp
  rw [List.length_singleton, e1] at hinv
  refine wp_skip (w' := G'.w) ?_ (hK _ _ _ _ (hinv.putO hd Rd_undef noLin_undef) hs)
  have hst := run_storeCells_at q.P b off e [a.tmps.getD u undef] 0 cs G.w hh (by simp; omega) (by simpa using hone)
  rw [hw]
  simp only [Nat.add_zero] at hst
  have hcl : (a.tmps.getD u undef).cells = #[a.tmps.getD u undef] := oneCell_cells hone
  simp only [execOp, ho, Instr.storeAt, Instr.sureAddr, hvx, storeVar, hev, hcl, Sem.run_bind, Sem.run_pure, Result.andThen_ok, run_sizeOf' hn, List.size_toArray, List.length_singleton, ne_eq, not_true_eq_false, if_false, hst]

theorem does_ldt {t : Nat} {x : Operand} (ho : o.op = .load t x) (ha : isAggB q.P t = some false) (hx : okOpd q.P q.N x = true) (hd : okDst q o) : Does q C o (.ld true x) := by
  intro own s a G K Kr Q h hs hK
  rcases hs with ⟨k, off, row, c, hp, hH, hc, hT, hs⟩ | ⟨_, hs⟩
  case inr => exact (still_ld (C := C) ho ha hx).does hd own s a G K Kr Q h hs hK
  have hrx := h.rd hx
  rw [hp] at hrx
  obtain ⟨b, e, cs, hvx, hb, hh, hsz, hr⟩ := rd_box h hrx hH hT
  have hlt : off < row.length := (List.getElem?_eq_some_iff.1 hc).1
  have hcell : cs[off]? = some cs[off] := Array.getElem?_eq_getElem (by omega)
  obtain ⟨h1, hrd⟩ := hr _ _ _ hcell hc
  obtain ⟨hinv, _⟩ := h.setBox (G' := G) (row' := row.set off (dg1 c)) (cs' := cs) hH hb hh hh (fun _ _ => rfl) rfl rfl rfl rfl rfl rfl rfl hT (by simp [hsz]) (fun i v p hv hp => by
      rw [List.getElem?_set] at hp
      split at hp
      · rename_i hi
        subst hi
        obtain rfl : dg1 c = p := by simpa using hp
        rw [hcell] at hv
        obtain rfl : cs[off] = v := by simpa using hv
        exact ⟨h1, Rd_dg1 hrd⟩
      · exact hr i v p hv hp) own h.ol (fun _ _ hg _ _ => hg) (fun base i e' xs v hob hp hv => by
      rw [List.getElem?_set] at hp
      split at hp
      · rename_i hi
        subst hi
        exact absurd (by simpa using hp) (dg1_ne_lin c e' xs)
      · have hpc : pcell s.H k i = lin e' xs := by simp [pcell, hH, List.getD_eq_getElem?_getD, hp]
        have hrc : rcell G k i = v := by simp only [rcell, hb]; rw [cell_of_row _ _ _ _ _ _ hh, hv]; rfl
        have := h.ctok base k i e' xs hob hpc
        rwa [hrc] at this)
  have hrun : (execOp a.eval o).run q.P G.w = .ok (.value cs[off]) G.w := by
    have hcu : G.w.cell? ⟨b, off, none⟩ = some cs[off] := by rw [cell_of_row _ _ _ _ _ _ hh, hcell]
    simp [execOp, ho, Instr.loadAt, Instr.sureAddr, hvx, loadVar, run_isAgg' ha, hcu]
  refine wp_val hrun ?_
  cases hdo : o.dst with
  | none => rw [hdo] at hs; exact hK own _ _ G hinv hs
  | some d =>
    rw [hdo] at hs
    have hone := oneCell_row hrd h1
    refine hK _ _ _ G (hinv.putTok (hd d hdo) hrd (fun g => if own g = some (.cell k off) then some (.tmp d) else own g) (fun g pos hg => ?_) (fun g pos hg hlv => ?_) (fun e' xs he => ?_) (fun i e' xs he => ?_)) hs
    · split at hg
      · rename_i h1; exact h.ol g _ h1
      · exact h.ol g _ hg
    · rw [if_neg]
      · exact hg
      · rw [hg]
        intro heq
        obtain rfl : pos = .cell k off := by simpa using heq
        obtain ⟨e', xs, he⟩ := hlv
        simp only [pcell, upd_same, List.getD_eq_getElem?_getD, List.getElem?_set, hlt, if_true, Option.getD_some] at he
        exact dg1_ne_lin c e' xs he
    · subst he
      have hpc : pcell s.H k off = lin e' xs := by simp [pcell, hH, List.getD_eq_getElem?_getD, hc]
      have hrc : rcell G k off = cs[off] := by simp only [rcell, hb]; rw [cell_of_row _ _ _ _ _ _ hh, hcell]; rfl
      have := h.ctok q.B k off e' xs (.inr ⟨hT, rfl⟩) hpc
      rw [hrc] at this
      exact this.own_of fun g _ _ _ hg => by simp [hg]
    · cases c <;> simp [comp, undef, lin, Value.oneCell'] at he hone

theorem bnd_some (h : Inv q own s a G) {x : Operand} (hx : okOpd q.P q.N x = true) {d n : Nat} (hb : bnd s (some x) d = some n) : ∃ k, a.eval x = .int k (n : Int) := by
  simp only [bnd] at hb
  split at hb
  · rename_i k i hi
    split at hb
    · rename_i h0
      obtain rfl : i.toNat = n := by simpa using hb
      exact ⟨k, by rw [(rd_int (h.rd hx) hi).1]; congr 1; omega⟩
    · cases hb
  · cases hb

theorem run_bound {P : Program} {w : World} (k : IntKind) (n y : Nat) (c : BoundsCode) (h : n ≤ y) : (Instr.sliceBound (.int k (n : Int)) y c).run P w = .ok n w := by
  have h1 : (0 : Int) ≤ (n : Int) ∧ (n : Int) ≤ (y : Int) := by omega
  simp only [Instr.sliceBound, asIntOf, Sem.run_bind, Sem.run_pure, Result.andThen_ok]
  rw [if_pos h1]
  simp

end
end Go.PE
namespace Go.PE
open Go

theorem fitsL_len : ∀ (ks : List CK) (l : List Value), fitsL ks l = true → l.length = ks.length
  | [], [], _ => rfl
  | [], _ :: _, h => by simp [fitsL] at h
  | _ :: _, [], h => by simp [fitsL] at h
  | k :: ks, v :: vs, h => by
    simp only [fitsL, Bool.and_eq_true] at h
    simp [fitsL_len ks vs h.2]

theorem fitsL_append : ∀ (a b : List CK) (l : List Value), fitsL (a ++ b) l = true → fitsL a (l.take a.length) = true ∧ fitsL b (l.drop a.length) = true
  | [], b, l, h => by simpa [fitsL] using h
  | k :: a, b, [], h => by simp [fitsL] at h
  | k :: a, b, v :: l, h => by
    simp only [List.cons_append, fitsL, Bool.and_eq_true] at h
    have := fitsL_append a b l h.2
    simp only [List.length_cons, List.take_succ_cons, List.drop_succ_cons, fitsL, Bool.and_eq_true]
    exact ⟨⟨h.1, this.1⟩, this.2⟩

theorem eqL_append : ∀ (a b c d : List Value), a.length = c.length → eqL (a ++ b) (c ++ d) = (eqL a c && eqL b d)
  | [], b, [], d, _ => by simp [eqL]
  | [], b, _ :: _, d, h => by simp at h
  | _ :: _, b, [], d, h => by simp at h
  | x :: a, b, y :: c, d, h => by
    simp only [List.cons_append, eqL, eqL_append a b c d (by simpa using h), Bool.and_assoc]

theorem eqL_split (l m : List Value) (n : Nat) (h : l.length = m.length) : eqL l m = (eqL (l.take n) (m.take n) && eqL (l.drop n) (m.drop n)) := by
  rw [← eqL_append _ _ _ _ (by simp [h]), List.take_append_drop, List.take_append_drop]

def asVal (P : Program) (t : TypeId) (l : List Value) : Value := match isAggB P t with | some true => .agg l.toArray | _ => l.headD undef

theorem isAggB_of {P : Program} {t : Nat} {d : TypeDesc} (h : P.underlying t = some d) : isAggB P t = some (aggD d) := by
  unfold isAggB; rw [h]; rfl

section
variable {P : Program}

/-- a part, by its kinds -/
theorem run_part_val {w : World} {t off n : Nat} {xs : List Value} (hb : ∃ b, isAggB P t = some b ∧ (b = false → n = 1)) (hn : sz P t = some n) (hle : off + n ≤ xs.length) :
    (part t xs.toArray off).run P w = .ok (asVal P t ((xs.drop off).take n)) w := by
  obtain ⟨b, hb, h1⟩ := hb
  cases b with
  | true =>
    rw [run_part_agg hb hn]
    simp [asVal, hb, ag]
  | false =>
    have : n = 1 := h1 rfl
    subst this
    have hu : xs[off]? = some xs[off] := List.getElem?_eq_getElem (by omega)
    rw [run_part_one hb hu]
    simp [asVal, hb, List.take_one, List.head?_drop, hu]

theorem cks_one {n t : Nat} {ks : List CK} (h : cks P n t = some ks) : ∃ b, isAggB P t = some b ∧ (b = false → ks.length = 1) := by
  cases n with
  | zero => simp [cks] at h
  | succ n =>
    unfold cks at h
    split at h <;> rename_i ht
    · exact ⟨false, isAggB_of ht, fun _ => by obtain rfl := Option.some.inj h; rfl⟩
    · exact ⟨false, isAggB_of ht, fun _ => by obtain rfl := Option.some.inj h; rfl⟩
    · exact ⟨false, isAggB_of ht, fun _ => by obtain rfl := Option.some.inj h; rfl⟩
    · exact ⟨true, isAggB_of ht, fun h => by cases h⟩
    · exact ⟨true, isAggB_of ht, fun h => by cases h⟩
    · cases h

theorem run_eqFields {d : Nat} {rec : TypeId → Option (List CK)} (hrec : ∀ t ks l m, rec t = some ks → fitsL ks l = true → fitsL ks m = true → ∀ w, (Op.equalIn d t (asVal P t l) (asVal P t m)).run P w = .ok (eqL l m) w)
    (hone : ∀ t ks, rec t = some ks → ∃ b, isAggB P t = some b ∧ (b = false → ks.length = 1)) (xs ys : List Value) (hxy : xs.length = ys.length) :
    ∀ (fs : List Field) (off : Nat) (ks : List CK), off ≤ xs.length → cksF P rec fs off = some ks → fitsL ks (xs.drop off) = true → fitsL ks (ys.drop off) = true → ∀ w, (Op.eqFields d xs.toArray ys.toArray fs).run P w = .ok (eqL (xs.drop off) (ys.drop off)) w
  | [], off, ks, ho, h, hx, hy, w => by
    obtain rfl : ks = [] := by simpa [cksF] using h.symm
    have e1 := fitsL_len _ _ hx
    have e2 := fitsL_len _ _ hy
    rw [List.eq_nil_of_length_eq_zero e1, List.eq_nil_of_length_eq_zero e2]
    simp [Op.eqFields, eqL]
  | f :: fs, off, ks, ho, h, hx, hy, w => by
    simp only [cksF] at h
    split at h
    · rename_i hc
      split at h
      · rename_i l hl
        split at h
        · rename_i hsz
          obtain ⟨r, hr, rfl⟩ := Option.map_eq_some_iff.1 h
          obtain ⟨hx1, hx2⟩ := fitsL_append _ _ _ hx
          obtain ⟨hy1, hy2⟩ := fitsL_append _ _ _ hy
          have lx := fitsL_len _ _ hx
          have ly := fitsL_len _ _ hy
          simp only [List.length_append, List.length_drop] at lx ly
          have ih := run_eqFields hrec hone xs ys hxy fs (off + l.length) r (by omega) hr (by rw [← List.drop_drop]; exact hx2) (by rw [← List.drop_drop]; exact hy2)
          have px := fun w => run_part_val (P := P) (w := w) (t := f.type) (off := off) (n := l.length) (xs := xs) (hone _ _ hl) hsz (by omega)
          have py := fun w => run_part_val (P := P) (w := w) (t := f.type) (off := off) (n := l.length) (xs := ys) (hone _ _ hl) hsz (by omega)
          have he := hrec _ _ _ _ hl hx1 hy1
          rw [Op.eqFields, if_pos hc.1]
          simp only [Sem.run_bind, hc.2, px, py, he, Result.andThen_ok, Sem.run_ite]
          rw [eqL_split (xs.drop off) (ys.drop off) l.length (by simp [hxy])]
          cases hb : eqL ((xs.drop off).take l.length) ((ys.drop off).take l.length)
          · simp
          · simp [ih, List.drop_drop]
        · cases h
      · cases h
    · cases h

theorem run_eqItems {d e n : Nat} {ks : List CK} (hn : sz P e = some n) (hk : ks.length = n) (hone : ∃ b, isAggB P e = some b ∧ (b = false → n = 1))
    (hrec : ∀ l m, fitsL ks l = true → fitsL ks m = true → ∀ w, (Op.equalIn d e (asVal P e l) (asVal P e m)).run P w = .ok (eqL l m) w) (xs ys : List Value) (hxy : xs.length = ys.length) :
    ∀ (c i : Nat), i * n ≤ xs.length → fitsL (List.replicate c ks).flatten (xs.drop (i * n)) = true → fitsL (List.replicate c ks).flatten (ys.drop (i * n)) = true → ∀ w,
      (Op.eqItems d e n xs.toArray ys.toArray (List.range' i c)).run P w = .ok (eqL (xs.drop (i * n)) (ys.drop (i * n))) w
  | 0, i, ho, hx, hy, w => by
    have e1 := fitsL_len _ _ hx
    have e2 := fitsL_len _ _ hy
    have h1 : xs.drop (i * n) = [] := List.eq_nil_of_length_eq_zero (by rw [e1]; rfl)
    have h2 : ys.drop (i * n) = [] := List.eq_nil_of_length_eq_zero (by rw [e2]; rfl)
    rw [h1, h2]
    simp [Op.eqItems, eqL]
  | c + 1, i, ho, hx, hy, w => by
    rw [List.replicate_succ, List.flatten_cons] at hx hy
    obtain ⟨hx1, hx2⟩ := fitsL_append _ _ _ hx
    obtain ⟨hy1, hy2⟩ := fitsL_append _ _ _ hy
    have lx := fitsL_len _ _ hx
    have ly := fitsL_len _ _ hy
    simp only [List.length_append, List.length_drop, hk] at lx ly
    have e1 : (i + 1) * n = i * n + n := by rw [Nat.add_mul, Nat.one_mul]
    have ih := run_eqItems hn hk hone hrec xs ys hxy c (i + 1) (by rw [e1]; omega) (by rw [e1, ← List.drop_drop]; rw [hk] at hx2; exact hx2) (by rw [e1, ← List.drop_drop]; rw [hk] at hy2; exact hy2)
    have px := fun w => run_part_val (P := P) (w := w) (t := e) (off := i * n) (n := n) (xs := xs) hone hn (by omega)
    have py := fun w => run_part_val (P := P) (w := w) (t := e) (off := i * n) (n := n) (xs := ys) hone hn (by omega)
    rw [hk] at hx1 hy1
    have he := hrec _ _ hx1 hy1
    simp only [List.range'_succ, Op.eqItems, Sem.run_bind, px, py, he, Result.andThen_ok, Sem.run_ite]
    rw [eqL_split (xs.drop (i * n)) (ys.drop (i * n)) n (by simp [hxy])]
    cases hb : eqL ((xs.drop (i * n)).take n) ((ys.drop (i * n)).take n)
    · simp
    · simp [ih, e1, List.drop_drop]

theorem sz_cellsOf {t n : Nat} (h : sz P t = some n) : P.cellsOf t = n := by
  obtain ⟨i, hi, hn⟩ := info_of_sz h
  simp [Program.cellsOf, hi, hn]

theorem run_equalIn_cks : ∀ (n d t : Nat) (ks : List CK) (l m : List Value), n ≤ d → cks P n t = some ks → fitsL ks l = true → fitsL ks m = true →
    ∀ w, (Op.equalIn d t (asVal P t l) (asVal P t m)).run P w = .ok (eqL l m) w
  | 0, d, t, ks, l, m, hd, hc, hl, hm, w => by simp [cks] at hc
  | n + 1, 0, t, ks, l, m, hd, hc, hl, hm, w => by omega
  | n + 1, d + 1, t, ks, l, m, hd, hc, hl, hm, w => by
    have ih := fun t ks l m h1 h2 h3 => run_equalIn_cks n d t ks l m (by omega) h1 h2 h3
    unfold cks at hc
    split at hc <;> rename_i ht
    · obtain rfl := Option.some.inj hc
      have ha := isAggB_of ht
      simp only [aggD] at ha
      match l, m, hl, hm with
      | [x], [y], hl, hm =>
        simp only [fitsL, Bool.and_true] at hl hm
        cases x <;> simp [CK.fits] at hl
        cases y <;> simp [CK.fits] at hm
        subst hl hm
        simp [asVal, ha, run_equalIn_int _ _ _ _ _ _ _ ht, eqL, eqC]
      | [], _, hl, _ => simp [fitsL] at hl
      | _ :: _ :: _, _, hl, _ => simp [fitsL] at hl
      | [_], [], _, hm => simp [fitsL] at hm
      | [_], _ :: _ :: _, _, hm => simp [fitsL] at hm
    · obtain rfl := Option.some.inj hc
      have ha := isAggB_of ht
      simp only [aggD] at ha
      match l, m, hl, hm with
      | [x], [y], hl, hm =>
        simp only [fitsL, Bool.and_true] at hl hm
        cases x <;> simp [CK.fits] at hl
        cases y <;> simp [CK.fits] at hm
        simp [asVal, ha, run_equalIn_bool' _ _ _ _ _ ht, eqL, eqC]
      | [], _, hl, _ => simp [fitsL] at hl
      | _ :: _ :: _, _, hl, _ => simp [fitsL] at hl
      | [_], [], _, hm => simp [fitsL] at hm
      | [_], _ :: _ :: _, _, hm => simp [fitsL] at hm
    · obtain rfl := Option.some.inj hc
      have ha := isAggB_of ht
      simp only [aggD] at ha
      match l, m, hl, hm with
      | [x], [y], hl, hm =>
        simp only [fitsL, Bool.and_true] at hl hm
        cases x <;> simp [CK.fits] at hl
        cases y <;> simp [CK.fits] at hm
        simp only [asVal, ha, List.headD_cons]
        rw [run_equalIn_string _ _ _ _ _ ht]
        simp [eqL, eqC, beq_toListBytes]
      | [], _, hl, _ => simp [fitsL] at hl
      | _ :: _ :: _, _, hl, _ => simp [fitsL] at hl
      | [_], [], _, hm => simp [fitsL] at hm
      | [_], _ :: _ :: _, _, hm => simp [fitsL] at hm
    · rename_i fs
      split at hc
      · cases hc
      · rename_i hst
        have ha := isAggB_of ht
        simp only [aggD] at ha
        have hfs : P.fieldsOf t = fs := by simp [Program.fieldsOf, ht]
        have e1 := fitsL_len _ _ hl
        have e2 := fitsL_len _ _ hm
        have := run_eqFields ih (fun t ks h => cks_one h) l m (by omega) fs.toList 0 ks (Nat.zero_le _) hc (by simpa using hl) (by simpa using hm) w
        simp only [asVal, ha]
        rw [run_equalIn_struct w d t l.toArray m.toArray (by rw [hfs]; exact ht) (by simpa using hst), hfs, this]
        simp
    · rename_i len e
      split at hc
      · rename_i l' hl'
        split at hc
        · rename_i hsz
          obtain rfl := Option.some.inj hc
          have ha := isAggB_of ht
          simp only [aggD] at ha
          have e1 := fitsL_len _ _ hl
          have e2 := fitsL_len _ _ hm
          obtain ⟨i, hi, _⟩ := info_of_sz hsz
          have := run_eqItems hsz rfl (cks_one hl') (fun l m h1 h2 => ih e l' l m hl' h1 h2) l m (by omega) len 0 (by simp) (by simpa using hl) (by simpa using hm) w
          simp only [asVal, ha]
          rw [run_equalIn_array (P := P) w d l.toArray m.toArray ht hi, sz_cellsOf hsz, List.range_eq_range', this]
          simp
        · cases hc
      · cases hc
    · cases hc
end

section
variable {q : Par} {own : Nat → Option Pos} {s : PS} {a : Act} {G : Gh} {K : PS → Prop} {o : Oper} {C : Known}

theorem rd_str {v p : Value} (h : Rd G v p) {b : ByteArray} (hp : asStr p = some b) : v = .string b ∧ p = .string b := by
  have : p = .string b := by cases p <;> simp [PE.asStr] at hp ⊢; exact hp
  subst this
  exact ⟨plain_eq h rfl, rfl⟩

theorem noLin_bool (b : Bool) : noLin (.bool b) := noLin_plain rfl
theorem noLin_string (b : ByteArray) : noLin (.string b) := noLin_plain rfl

theorem run_binV {P : Program} {op : BinOp} {t : Nat} {x y : Operand} {u v r : Value} (h : binV op u v = some r) (w : World) :
    (do eqGuard op t x y u v; binOp op t u v : Sem Value).run P w = .ok r w ∧ plain r = true := by
  unfold binV at h
  split at h
  · rename_i k n k' m
    have hg : ∀ w, (eqGuard op t x y (.int k n) (.int k' m)).run P w = .ok () w := fun w => by
      unfold eqGuard; cases op <;> simp
    split at h
    · split at h
      · rename_i h0
        obtain rfl := Option.some.inj h
        have h0' : ¬ m < 0 := by omega
        simp [hg, binOp, Op.shift, h0', plain, PE.scal]
      · cases h
    · split at h
      · rename_i h0
        obtain rfl := Option.some.inj h
        have h0' : ¬ m < 0 := by omega
        simp [hg, binOp, Op.shift, h0', plain, PE.scal]
      · cases h
    · rename_i hns hnr
      split at h
      · rename_i hk
        subst hk
        unfold intV at h
        split at h
        all_goals first
          | (obtain rfl := Option.some.inj h; simp [hg, binOp, Op.intArith, Op.intCmp, Op.intBits, bitsV, plain, PE.scal]; done)
          | (split at h
             · cases h
             · rename_i h0
               obtain rfl := Option.some.inj h
               simp [hg, binOp, Op.intDiv, h0, plain, PE.scal])
          | cases h
      · cases h
  · rename_i b c
    have hg : ∀ w, (eqGuard op t x y (.string b) (.string c)).run P w = .ok () w := fun w => by
      unfold eqGuard; cases op <;> simp
    unfold strV at h
    split at h
    all_goals first
      | (obtain rfl := Option.some.inj h; simp [hg, binOp, Op.stringOp, plain, PE.scal]; done)
      | (split at h
         · rename_i h0
           obtain rfl := Option.some.inj h
           have h0' : ¬ (((b.size + c.size : Nat) : Int) > IntKind.i64.max) := by
             have : IntKind.i64.max = 9223372036854775807 := by decide
             rw [this]; omega
           simp only [Sem.run_bind, hg, Result.andThen_ok, binOp, Op.stringOp]
           rw [if_neg h0']
           simp [plain, PE.scal]
         · cases h)
      | cases h
  · cases h

theorem binV_plain {op : BinOp} {u v r : Value} (h : binV op u v = some r) : plain u = true ∧ plain v = true := by
  unfold binV at h
  split at h
  · exact ⟨rfl, rfl⟩
  · exact ⟨rfl, rfl⟩
  · cases h

theorem still_bi {op : BinOp} {t u : Nat} {x y : Operand} (ho : o.op = .binOp op t x y u) (hx : okOpd q.P q.N x = true) (hy : okOpd q.P q.N y = true) : Still q C o (.bi op x y) := by
  intro own s a G K h hs
  obtain ⟨r, hr, hs⟩ := hs
  obtain ⟨p1, p2⟩ := binV_plain hr
  have e1 := plain_eq (h.rd hx) p1
  have e2 := plain_eq (h.rd hy) p2
  have hrun := fun w => (run_binV (P := q.P) (t := t) (x := x) (y := y) hr w).1
  have hpr := (run_binV (P := q.P) (t := t) (x := x) (y := y) hr G.w).2
  refine still_mk (v := r) (Rd_plain hpr) (noLin_plain hpr) hs (fun G' _ => ?_)
  have := hrun G'.w
  simp only [execOp, ho, e1, e2]
  rw [Sem.run_bind, this]
  rfl

theorem still_bb {op : BinOp} {t u : Nat} {x y : Operand} {neg : Bool} (ho : o.op = .binOp op t x y u) (hop : op = if neg then .neq else .eql) (ht : q.P.underlying t = some .bool) (hx : okOpd q.P q.N x = true) (hy : okOpd q.P q.N y = true) : Still q C o (.bb neg x y) := by
  intro own s a G K h hs
  obtain ⟨b, c, hb, hc, hs⟩ := hs
  have e1 := (rd_bool (h.rd hx) hb).1
  have e2 := (rd_bool (h.rd hy) hc).1
  refine still_mk (v := .bool (if neg then !(b == c) else b == c)) (.scal _ rfl) (noLin_bool _) hs (fun G' _ => ?_)
  subst hop
  cases neg
  · simp [execOp, ho, e1, e2, eqGuard, binOp, Op.equal, Op.maxDepth, run_equalIn_bool' _ _ _ _ _ ht]
  · simp [execOp, ho, e1, e2, eqGuard, binOp, Op.equal, Op.maxDepth, run_equalIn_bool' _ _ _ _ _ ht]

theorem still_un {op : UnOp} {t : Nat} {x : Operand} (ho : o.op = .unOp op t x) (hx : okOpd q.P q.N x = true) : Still q C o (.un op x) := by
  intro own s a G K h hs
  obtain ⟨r, hr, hs⟩ := hs
  have hpl : plain (s.ev x) = true ∧ plain r = true ∧ ∀ w, (Op.unary op (s.ev x)).run q.P w = .ok r w := by
    unfold unV at hr
    split at hr
    all_goals first
      | (rename_i he; rw [he]; obtain rfl := Option.some.inj hr; refine ⟨rfl, rfl, fun w => ?_⟩; simp [Op.unary, Op.intArith, Op.intBits, bitsV]; done)
      | cases hr
  have he := plain_eq (h.rd hx) hpl.1
  exact still_mk (Rd_plain hpl.2.1) (noLin_plain hpl.2.1) hs (fun G' _ => by simp [execOp, ho, he, hpl.2.2])

theorem still_cv {t u : Nat} {k k0 : IntKind} {x : Operand} (ho : o.op = .convert t u x) (_ht : q.P.underlying t = some (.int k0)) (hu : q.P.underlying u = some (.int k)) (hx : okOpd q.P q.N x = true) : Still q C o (.cv k x) := by
  intro own s a G K h hs
  obtain ⟨k', n, hn, hs⟩ := hs
  have he := (rd_int (h.rd hx) hn).1
  exact still_mk (v := .int k (k.wrap n)) (.scal _ rfl) (noLin_int _ _) hs (fun G' _ => by simp [execOp, ho, convert, run_underlying hu, run_underlying _ht, he, Conv.intToInt])

theorem still_mm {mx : Bool} {x y : Operand} {ts : Array TypeId} (ho : o.op = .call { callee := .builtin (if mx then .max else .min), args := #[x, y], argTypes := ts }) (hx : okOpd q.P q.N x = true) (hy : okOpd q.P q.N y = true) : Still q C o (.mm mx x y) := by
  intro own s a G K h hs
  obtain ⟨r, hr, hs⟩ := hs
  unfold mmV at hr
  split at hr
  · rename_i k n k' m hx' hy'
    obtain rfl := Option.some.inj hr
    have e1 : a.eval x = .int k n := by have := h.rd hx; rw [hx'] at this; exact plain_eq this rfl
    have e2 : a.eval y = .int k' m := by have := h.rd hy; rw [hy'] at this; exact plain_eq this rfl
    refine still_mk (.scal _ rfl) (noLin_int _ _) hs (fun G' _ => ?_)
    cases mx
    · simp [execOp, ho, resolve, invoke, builtin, Builtin.min_, Builtin.min2, e1, e2]
    · simp [execOp, ho, resolve, invoke, builtin, Builtin.max_, Builtin.max2, e1, e2]
  · cases hr

theorem still_slen {t : Nat} {x : Operand} {ts : Array TypeId} (ho : o.op = .call { callee := .builtin .len, args := #[x], argTypes := ts }) (hts : ts[0]? = some t) (ht : q.P.underlying t = some .string) (hx : okOpd q.P q.N x = true) : Still q C o (.slen x) := by
  intro own s a G K h hs
  obtain ⟨b, hb, hs⟩ := hs
  have e1 := (rd_str (h.rd hx) hb).1
  exact still_mk (v := .int .i64 b.size) (.scal _ rfl) (noLin_int _ _) hs (fun G' _ => by simp [execOp, ho, resolve, invoke, builtin, Builtin.len_, hts, e1, run_underlying ht, goInt])

theorem still_six {t : Nat} {x i : Operand} (ho : o.op = .index t x i) (ht : q.P.underlying t = some .string) (hx : okOpd q.P q.N x = true) (hi : okOpd q.P q.N i = true) : Still q C o (.six x i) := by
  intro own s a G K h hs
  obtain ⟨b, k, n, u, hb, hn, h0, hu, hs⟩ := hs
  have e1 := (rd_str (h.rd hx) hb).1
  have e2 := (rd_int (h.rd hi) hn).1
  refine still_mk (v := .int .u8 u.toNat) (.scal _ rfl) (noLin_int _ _) hs (fun G' _ => ?_)
  simp only [execOp, ho, Instr.index, e1, e2, asIntOf, Sem.run_bind, Sem.run_pure, Result.andThen_ok, run_underlying ht]
  rw [if_pos h0, hu]
  rfl

theorem still_ssl {t : Nat} {x : Operand} {lo hi : Option Operand} (ho : o.op = .slice t x lo hi none) (ht : q.P.underlying t = some .string) (hx : okOpd q.P q.N x = true)
    (hlo : ∀ y, lo = some y → okOpd q.P q.N y = true) (hhi : ∀ y, hi = some y → okOpd q.P q.N y = true) : Still q C o (.ssl x lo hi) := by
  intro own s a G K h hs
  obtain ⟨b, l, hh, hb, hl, hh', h1, h2, hs⟩ := hs
  have e1 := (rd_str (h.rd hx) hb).1
  have hbounds : ∀ w, (Instr.sliceBounds false b.size b.size (lo.map a.eval) (hi.map a.eval) none).run q.P w = .ok (l, hh, b.size) w := by
    intro w
    cases hi with
    | none =>
      have hh2 : hh = b.size := by simpa [bnd] using hh'.symm
      cases lo with
      | none =>
        have : l = 0 := by simpa [bnd] using hl.symm
        subst this hh2
        simp [Instr.sliceBounds]
      | some y =>
        obtain ⟨k, hk⟩ := bnd_some h (hlo y rfl) hl
        subst hh2
        simp [Instr.sliceBounds, hk, run_bound _ _ _ _ h1]
    | some z =>
      obtain ⟨kh, hkh⟩ := bnd_some h (hhi z rfl) hh'
      cases lo with
      | none =>
        have : l = 0 := by simpa [bnd] using hl.symm
        subst this
        simp [Instr.sliceBounds, hkh, run_bound _ _ _ _ h2]
      | some y =>
        obtain ⟨k, hk⟩ := bnd_some h (hlo y rfl) hl
        simp [Instr.sliceBounds, hk, hkh, run_bound _ _ _ _ h1, run_bound _ _ _ _ h2]
  refine still_mk (v := .string (b.extract l hh)) (.scal _ rfl) (noLin_string _) hs (fun G' _ => ?_)
  simp [execOp, ho, Instr.sliceAt, Instr.slice, run_underlying ht, e1, hbounds]

theorem still_eqA {op : BinOp} {t u : Nat} {x y : Operand} {ks : List CK} {neg : Bool} (ho : o.op = .binOp op t x y u) (hop : op = if neg then .neq else .eql) (hg : q.P.eqGuardType q.P.depth t = false) (ha : isAggB q.P t = some true) (hk : cks q.P 8 t = some ks)
    (hx : okOpd q.P q.N x = true) (hy : okOpd q.P q.N y = true) : Still q C o (.eqA neg ks x y) := by
  intro own s a G K h hs
  obtain ⟨l, m, hl, hm, fl, fm, hs⟩ := hs
  have hpl : ∀ (ks : List CK) (l : List Value), fitsL ks l = true → l.all PE.scal = true := by
    intro ks
    induction ks with
    | nil => intro l hl; cases l <;> simp [fitsL] at hl ⊢
    | cons k ks ih =>
      intro l hl
      cases l with
      | nil => simp
      | cons v l =>
        simp only [fitsL, Bool.and_eq_true] at hl
        simp only [List.all_cons, Bool.and_eq_true]
        refine ⟨?_, ih l hl.2⟩
        cases k <;> cases v <;> simp [CK.fits, PE.scal] at hl ⊢
  have ex : a.eval x = ag l := by
    have := h.rd hx
    rw [asAg_eq hl] at this
    exact plain_eq this (by simpa [plain, ag] using hpl ks l fl)
  have ey : a.eval y = ag m := by
    have := h.rd hy
    rw [asAg_eq hm] at this
    exact plain_eq this (by simpa [plain, ag] using hpl ks m fm)
  have heq := run_equalIn_cks (P := q.P) 8 10000 t ks l m (by omega) hk fl fm
  simp only [asVal, ha] at heq
  refine still_mk (v := .bool (if neg then !eqL l m else eqL l m)) (.scal _ rfl) (noLin_bool _) hs (fun G' _ => ?_)
  subst hop
  cases neg
  · simp only [execOp, ho, ex, ey, ag, Sem.run_bind, run_eqGuard_agg _ _ _ _ _ _ _ hg, Result.andThen_ok, Bool.false_eq_true, if_false, run_eql_struct, heq, Sem.run_pure]
  · simp only [execOp, ho, ex, ey, ag, Sem.run_bind, run_eqGuard_agg _ _ _ _ _ _ _ hg, Result.andThen_ok, if_true, run_neq_struct, heq, Sem.run_pure]

end
end Go.PE
namespace Go.PE
open Go

section
variable {q : Par} {own : Nat → Option Pos} {s : PS} {a : Act} {G : Gh} {K : PS → Prop} {Kr : Act → World → Prop} {Q : Exit → Act → World → Prop} {o : Oper} {C : Known}

theorem slS_core {t e size : Nat} {x : Operand} {lo hi mx : Option Operand} (ho : o.op = .slice t x lo hi mx) (ht : q.P.underlying t = some (.slice e)) (hn : sz q.P e = some size) (hmh : mx.isSome → hi.isSome)
    (hx : okOpd q.P q.N x = true) (hlo : ∀ y, lo = some y → okOpd q.P q.N y = true) (hhi : ∀ y, hi = some y → okOpd q.P q.N y = true) (hmx : ∀ y, mx = some y → okOpd q.P q.N y = true)
    (h : Inv q own s a G) {xs : List Value} {l hh m : Nat} (hxs : asDeep (s.ev x) = some xs) (hl : bnd s lo 0 = some l) (hh' : bnd s hi xs.length = some hh) (hm : bnd s mx xs.length = some m) (h1 : l ≤ hh) (h2 : hh ≤ m) (h3 : m ≤ xs.length) (hsz : ∀ x ∈ xs, (lc x).length = size) :
    ∃ b m', (mx.isSome → m' = m) ∧ Rd G (.slice b (hh - l) (m' - l)) (deep ((xs.drop l).take (hh - l))) ∧ ∀ G', Keep G G' → (execOp a.eval o).run q.P G'.w = .ok (.value (.slice b (hh - l) (m' - l))) G'.w := by
  have hrd := h.rd hx
  rw [asDeep_eq hxs ⟨_, hrd⟩] at hrd
  -- the bounds, really
  have hund : ∀ w, (underlying t).run q.P w = .ok (.slice e) w := fun w => run_underlying ht w
  have hbounds : ∀ len cap, len = xs.length → xs.length ≤ cap → ∃ m', (mx.isSome → m' = m) ∧ (mx = none → m' = cap) ∧ hh ≤ m' ∧ m' ≤ cap ∧
      ∀ w, (Instr.sliceBounds true len cap (lo.map a.eval) (hi.map a.eval) (mx.map a.eval)).run q.P w = .ok (l, hh, m') w := by
    intro len cap hlen hcap
    subst hlen
    cases mx with
    | none =>
      have hm' : m = xs.length := by simpa [bnd] using hm.symm
      cases hi with
      | none =>
        have hh2 : hh = xs.length := by simpa [bnd] using hh'.symm
        cases lo with
        | none =>
          have : l = 0 := by simpa [bnd] using hl.symm
          subst this hh2
          exact ⟨cap, fun h => by simp at h, fun _ => rfl, hcap, Nat.le_refl _, by simp [Instr.sliceBounds]⟩
        | some y =>
          obtain ⟨k, hk⟩ := bnd_some h (hlo y rfl) hl
          have b1 : l ≤ hh := by omega
          exact ⟨cap, fun h => by simp at h, fun _ => rfl, by omega, Nat.le_refl _, by subst hh2; simp [Instr.sliceBounds, hk, run_bound _ _ _ _ b1]⟩
      | some z =>
        obtain ⟨kh, hkh⟩ := bnd_some h (hhi z rfl) hh'
        have b2 : hh ≤ cap := by omega
        cases lo with
        | none =>
          have : l = 0 := by simpa [bnd] using hl.symm
          subst this
          exact ⟨cap, fun h => by simp at h, fun _ => rfl, by omega, Nat.le_refl _, by simp [Instr.sliceBounds, hkh, run_bound _ _ _ _ b2]⟩
        | some y =>
          obtain ⟨k, hk⟩ := bnd_some h (hlo y rfl) hl
          have b1 : l ≤ hh := by omega
          exact ⟨cap, fun h => by simp at h, fun _ => rfl, by omega, Nat.le_refl _, by simp [Instr.sliceBounds, hk, hkh, run_bound _ _ _ _ b1, run_bound _ _ _ _ b2]⟩
    | some u =>
      obtain ⟨km, hkm⟩ := bnd_some h (hmx u rfl) hm
      cases hi with
      | none => simp at hmh
      | some z =>
        obtain ⟨kh, hkh⟩ := bnd_some h (hhi z rfl) hh'
        have b2 : hh ≤ m := by omega
        have b3 : m ≤ cap := by omega
        cases lo with
        | none =>
          have : l = 0 := by simpa [bnd] using hl.symm
          subst this
          exact ⟨m, fun _ => rfl, by simp, by omega, by omega, by simp [Instr.sliceBounds, hkh, hkm, run_bound _ _ _ _ b2, run_bound _ _ _ _ b3]⟩
        | some y =>
          obtain ⟨k, hk⟩ := bnd_some h (hlo y rfl) hl
          have b1 : l ≤ hh := by omega
          exact ⟨m, fun _ => rfl, by simp, by omega, by omega, by simp [Instr.sliceBounds, hk, hkh, hkm, run_bound _ _ _ _ b1, run_bound _ _ _ _ b2, run_bound _ _ _ _ b3]⟩
  have hlen : ((xs.drop l).take (hh - l)).length = hh - l := by simp; omega
  rcases deep_rd hrd with ⟨hv, rfl⟩ | ⟨ad, cap, size', us, hv, hsp, hcap, hcl, hc, hz, hr⟩
  · obtain ⟨m', hms, hm1, hm2, hm3, hrun⟩ := hbounds 0 0 rfl (Nat.le_refl _)
    have e0 : m' = 0 := by omega
    have e1 : hh = 0 := by simp at h3; omega
    have e2 : l = 0 := by omega
    subst e0 e1 e2
    refine ⟨none, 0, hms, .nil, fun G' hk' => ?_⟩
    simp [execOp, ho, Instr.sliceAt, Instr.slice, hund, hv, hrun, run_sizeOf' hn]
  · obtain ⟨m', hms, hm1, hm2, hm3, hrun⟩ := hbounds xs.length cap rfl hcap
    refine ⟨some (if m' = l then ad else ad.add (l * size)), m', hms, ?_, fun G' hk' => ?_⟩
    rotate_left
    · simp only [execOp, ho, Instr.sliceAt, Instr.slice, hund, hv, hrun, run_sizeOf' hn, Sem.run_bind, Result.andThen_ok, Sem.run_pure]
      split <;> rfl
    · have key : ∀ ad' : Addr, ((xs.drop l).take (hh - l) ≠ [] → ad'.spot = none) → (∀ r, r < (hh - l) * size → ad'.add r = ad.add (l * size + r) ∧ ad'.block = ad.block ∧ ad'.off = ad.off + l * size) →
          Rd G (.slice (some ad') (hh - l) (m' - l)) (deep ((xs.drop l).take (hh - l))) := by
        intro ad' hsp' had
        have hsame : xs ≠ [] → size' = size := fun hne => by
          obtain ⟨x0, r0, rfl⟩ := List.exists_cons_of_ne_nil hne
          rw [← hz 0 x0 rfl]; exact hsz x0 (List.mem_cons_self ..)
        have hmem : ∀ (i : Nat) x, ((xs.drop l).take (hh - l))[i]? = some x → xs[l + i]? = some x := fun i x hx => by
          rw [List.getElem?_take] at hx
          split at hx
          · rwa [List.getElem?_drop] at hx
          · cases hx
        have := Rd.deep (G := G) ad' (m' - l) size ((xs.drop l).take (hh - l)) (fun r => us (l * size + r)) hsp' (by omega) (by omega) (fun r hr' => ?_) (fun i x hx => hsz x (List.mem_of_getElem? (hmem i x hx))) (fun i x j y hx hy => ?_)
        · rwa [hlen] at this
        · rw [hlen] at hr'
          obtain ⟨e1, e2, e3⟩ := had r hr'
          have hne : xs ≠ [] := fun e => by subst e; simp at h3; have : hh - l = 0 := by omega
                                            rw [this] at hr'; omega
          have hb : l * size + r < xs.length * size' := by
            rw [hsame hne]
            have h4 : (l + (hh - l)) * size ≤ xs.length * size := Nat.mul_le_mul_right _ (by omega)
            rw [Nat.add_mul] at h4; omega
          obtain ⟨c1, c2, c3⟩ := hc _ hb
          rw [e1, e2, e3]
          exact ⟨c1, by omega, c3⟩
        · have hx' := hmem i x hx
          have hne : xs ≠ [] := fun e => by subst e; simp at hx'
          have := hr (l + i) x j y hx' hy
          rw [hsame hne, Nat.add_mul, Nat.add_assoc] at this
          exact this
      have hx0 : ∀ {r : Nat}, r < (hh - l) * size → xs ≠ [] := fun {r} hr' e => by
        subst e
        simp at h3
        have : hh - l = 0 := by omega
        rw [this] at hr'; omega
      split
      · rename_i hml
        exact key ad (fun hne => hsp (fun e => hne (by subst e; simp))) (fun r hr' => by
          have : hh - l = 0 := by omega
          rw [this] at hr'; omega)
      · exact key (ad.add (l * size)) (fun hne => by rw [add_off _ (hsp (fun e => hne (by subst e; simp)))]) (fun r hr' => by
          have hsp := hsp (hx0 hr')
          exact ⟨add_add_ _ hsp _ _, by rw [add_off _ hsp], by rw [add_off _ hsp]⟩)

theorem still_slS {t e size : Nat} {x : Operand} {lo hi mx : Option Operand} (ho : o.op = .slice t x lo hi mx) (ht : q.P.underlying t = some (.slice e)) (hn : sz q.P e = some size) (hmh : mx.isSome → hi.isSome)
    (hx : okOpd q.P q.N x = true) (hlo : ∀ y, lo = some y → okOpd q.P q.N y = true) (hhi : ∀ y, hi = some y → okOpd q.P q.N y = true) (hmx : ∀ y, mx = some y → okOpd q.P q.N y = true) : Still q C o (.slS size x lo hi mx) := by
  intro own s a G K h hs
  obtain ⟨xs, l, hh, m, hxs, hl, hh', hm, h1, h2, h3, hsz, hs⟩ := hs
  obtain ⟨b, m', _, hrd, hrun⟩ := slS_core ho ht hn hmh hx hlo hhi hmx h hxs hl hh' hm h1 h2 h3 hsz
  exact still_mk hrd (noLin_deep _) hs hrun

theorem Rd_zero {z : Value} (hsc : ∀ c ∈ lc z, PE.scal c = true) (hnt : notTup z = true) :
    (lc (zeroEl z)).length = (lc z).length ∧ ∀ (j : Nat) u y, (lc z)[j]? = some u → (lc (zeroEl z))[j]? = some y → u.oneCell' = true ∧ ∀ G, Rd G u y := by
  have hone : ∀ c, PE.scal c = true → c.oneCell' = true := fun c hc => by cases c <;> first | rfl | simp [PE.scal] at hc
  cases z with
  | agg cs =>
    refine ⟨by simp [lc, Value.cells, ag, zeroEl], fun j u y hu hy => ?_⟩
    have hy' : (((lc (.agg cs)).map opv))[j]? = some y := by simpa [lc, Value.cells, ag, zeroEl] using hy
    rw [List.getElem?_map, hu] at hy'
    obtain rfl : opv u = y := by simpa using hy'
    have := hsc u (List.mem_of_getElem? hu)
    exact ⟨hone u this, fun G => Rd_opv this⟩
  | tuple vs => simp [notTup] at hnt
  | _ =>
    simp only [zeroEl]
    have h1 := hsc _ (by simp [lc, Value.cells]; rfl)
    have h2 : ∀ c, PE.scal c = true → (opv c).cells = #[opv c] := fun c hc => by
      unfold opv; split
      · rfl
      · exact oneCell_cells (hone c hc)
    refine ⟨by simp only [lc]; rw [h2 _ h1]; rfl, fun j u y hu hy => ?_⟩
    simp only [lc] at hu hy
    rw [h2 _ h1] at hy
    match j, hu, hy with
    | 0, hu, hy =>
      simp [Value.cells] at hu hy
      subst hu hy
      exact ⟨hone _ h1, fun G => Rd_opv h1⟩

theorem does_mk {t e : Nat} {l c : Operand} {i : TypeInfo} {z : Value} (ho : o.op = .makeSlice t l c) (ht : q.P.underlying t = some (.slice e)) (hi : q.P.info? e = some i) (hz : i.zero = some z) (hzs : z.cells.size = i.size) (h0 : i.size ≠ 0) (hsc : z.cells.toList.all PE.scal = true) (hnt : notTup z = true)
    (hl : okOpd q.P q.N l = true) (hc : okOpd q.P q.N c = true) (hd : okDst q o) : Does q C o (.mk e i.size i.bytes (zeroEl z) l c) := by
  intro own s a G K Kr Q h hs hK
  obtain ⟨kl, nl, kc, nc, hnl, hnc, g0, g1, g2, g3, hs⟩ := hs
  have el := (rd_int (h.rd hl) hnl).1
  have ec := (rd_int (h.rd hc) hnc).1
  have g2' : nc ≤ 9223372036854775807 := by simp only [maxLen] at g2; omega
  have hrun := run_make (P := q.P) G.w t e i z ht hi hz kl kc nl nc g0 g1 (by rw [Int.mul_comm]; omega) g2'
  let cs := madeCells z.cells (nc.toNat * i.size)
  let G' : Gh := ⟨G.w.alloc (.cells cs e), upd G.fr G.w.heap.size (nl.toNat * i.size), G.be, G.nx⟩
  have hM : More G G' := More.alloc G _ _ _ _
  have hkeep : Keep G G' := Keep.of_more hM rfl rfl
  have hnew : G'.w.heap[G.w.heap.size]? = some (.cells cs e (0, 0)) := heap_alloc_new _ _
  obtain ⟨zl, zr⟩ := Rd_zero (List.all_eq_true.1 hsc) hnt
  generalize hz' : zeroEl z = z' at *
  have zlen : (lc z).length = i.size := by simp [lc, hzs]
  have hcm : nc.toNat ≤ maxLen := by simp only [maxLen] at g2 ⊢; omega
  have hrd : Rd G' (.slice (some ⟨G.w.heap.size, 0, none⟩) nl.toNat nc.toNat) (deep (List.replicate nl.toNat z')) := by
    refine Rd_row (size := i.size) hnew (by simp [G']) (by simp) (by omega) hcm (Nat.pos_of_ne_zero h0) (fun k x hx => ?_) (fun k x j y hx hy => ?_)
    · obtain rfl : z' = x := by have := List.mem_of_getElem? hx; simp at this; exact this.2.symm
      rw [zl, zlen]
    · have hk : k < nl.toNat := by simpa using (List.getElem?_eq_some_iff.1 hx).1
      obtain rfl : z' = x := by have := List.mem_of_getElem? hx; simp at this; exact this.2.symm
      have hj : j < i.size := by rw [← zlen, ← zl]; exact (List.getElem?_eq_some_iff.1 hy).1
      have hu : (lc z)[j]? = some ((lc z)[j]'(by omega)) := List.getElem?_eq_getElem _
      refine ⟨_, ?_, (zr j _ y hu hy).1, (zr j _ y hu hy).2 G'⟩
      have hb : k * i.size + j < nc.toNat * i.size := by
        have : (k + 1) * i.size ≤ nc.toNat * i.size := Nat.mul_le_mul_right _ (by omega)
        rw [Nat.add_mul] at this; omega
      show (madeCells z.cells (nc.toNat * i.size))[k * i.size + j]? = _
      simp only [madeCells, Array.getElem?_map, Array.getElem?_range, hb, if_true, Option.map_some]
      congr 1
      rw [hzs, Nat.mul_comm k, Nat.mul_add_mod, Nat.mod_eq_of_lt hj]
      have hj' : j < z.cells.size := by omega
      rw [getElem!_pos z.cells j hj']
      simp [lc]
  refine wp_val (v := .slice (some ⟨G.w.heap.size, 0, none⟩) nl.toNat nc.toNat) (w' := G'.w) (by simp only [execOp, ho, el, ec, Sem.run_bind, hrun, Result.andThen_ok, Sem.run_pure]; rfl) ?_
  cases hdo : o.dst with
  | none => rw [hdo] at hs; exact hK own _ _ G' (h.keep hkeep) hs
  | some d =>
    rw [hdo] at hs
    refine hK (upd own G.w.heap.size (some (.tmp d))) _ _ G' ((h.keep hkeep).putLin (hd d hdo) (.lin _ _ _ hrd) _ (fun g pos hg => ?_) (fun g pos hg _ => ?_) ?_) hs
    · by_cases hgn : g = G.w.heap.size
      · subst hgn; exact heap_lt hnew
      · rw [upd_ne _ _ hgn] at hg; exact Nat.lt_of_lt_of_le (h.ol g pos hg) hM.sz
    · rw [upd_ne _ _ (by have := h.ol g pos hg; omega)]; exact hg
    · refine .inr ⟨G.w.heap.size, nl.toNat, nc.toNat, i, cs.toList.take (nl.toNat * i.size), rfl, hi, ⟨?_, .inr ⟨_, _, cs, rfl, h.sz, hnew, by omega, hcm, size_madeCells _ _, rfl⟩⟩, by simp [G'], by simp, fun k hk => ?_⟩
      · rw [List.length_take, Array.length_toList, size_madeCells]
        exact Nat.min_eq_left (Nat.mul_le_mul_right _ (by omega))
      · have := (h.be_lt hk).2.1; omega

end
end Go.PE
namespace Go.PE
open Go

section
variable {q : Par} {own : Nat → Option Pos} {s : PS} {a : Act} {G : Gh} {K : PS → Prop} {Kr : Act → World → Prop} {Q : Exit → Act → World → Prop} {o : Oper} {C : Known}

/-- a row of the call's own is written behind what is read of it -/
theorem Inv.inplace (h : Inv q own s a G) {G' : Gh} {g : Nat} {cur cur' : Array Value} {e : TypeId} (hg : G.w.heap[g]? = some (.cells cur e (0, 0))) (hg' : G'.w.heap[g]? = some (.cells cur' e (0, 0)))
    (hB : q.B ≤ g) (hbe0 : ∀ k, G.be k ≠ some g) (hfree : ∀ pos, own g = some pos → ¬ live q.N s pos)
    (ho : ∀ b, b ≠ g → G'.w.heap[b]? = G.w.heap[b]? ∧ G'.fr b = G.fr b) (hsame : ∀ i, i < G.fr g → cur'[i]? = cur[i]?) (hfr : G.fr g ≤ G'.fr g)
    (hbe : G'.be = G.be) (hnx : G'.nx = G.nx) (hsz : G.w.heap.size ≤ G'.w.heap.size) (hos : G'.w.os = G.w.os) (htp : G'.w.tape = G.w.tape) (hou : G'.w.output = G.w.output) :
    Inv q own s a G' ∧ Ext G G' := by
  have hext : Ext G G' := by
    refine ⟨by rw [hnx]; exact Nat.le_refl _, fun ad hsp hf u hu => ?_, fun b _ => ?_, fun k b hk _ => by rw [hbe]; exact .inl hk, fun k hk _ => by rw [hbe]; exact hk⟩
    · by_cases hb : ad.block = g
      · obtain ⟨b, off, sp⟩ := ad
        simp only at hsp hb hf
        subst hsp hb
        rw [cell_of_row _ _ _ _ _ _ hg] at hu
        rw [cell_of_row _ _ _ _ _ _ hg', hsame off hf]; exact hu
      · rw [World.cell?_of_block (ho _ hb).1]; exact hu
    · by_cases hb : b = g
      · subst hb; exact hfr
      · rw [(ho b hb).2]; exact Nat.le_refl _
  have htok : ∀ {base : Nat} {pos : Pos} {e' : Nat} {v : Value}, TokOK q.P G own base pos e' v → live q.N s pos → TokOK q.P G' own base pos e' v := by
    intro base pos e' v ht hl
    rcases ht with ht | ⟨g', n, cap, i, xs, rfl, hi, h1, h2, h3, h4⟩
    · exact .inl ht
    · have hne : g' ≠ g := fun e => by subst e; exact hfree pos h3 hl
      refine .inr ⟨g', n, cap, i, xs, rfl, hi, ownsRow_blk h1 (fun g'' hg'' => ?_), by rw [(ho g' hne).2]; exact h2, h3, by rw [hbe]; exact h4⟩
      obtain rfl : g' = g'' := by simpa [Value.ownBlock] using hg''
      exact (ho g' hne).1
  have hbne : ∀ k b, G.be k = some b → b ≠ g := fun k b hk e => hbe0 k (by rw [← e]; exact hk)
  refine ⟨⟨⟨⟨fun k row hk => ?_, by rw [hbe]; exact h.bn, h.nxH, by rw [hnx]; exact h.nx, h.n0, by rw [hbe]; exact h.inj, by rw [hbe]; exact h.gl, h.ng, fun g' pos hg' => Nat.lt_of_lt_of_le (h.ol g' pos hg') hsz⟩, by rw [hbe]; exact h.bo, fun b hb hT => ?_, Nat.le_trans h.sz hsz, by rw [hos]; exact h.os, by rw [htp]; exact h.tape, by rw [hou]; exact h.output, fun base k i e' xs hob hp => ?_, h.hh⟩,
    h.size, h.defers, fun t ht => (h.tm t ht).mono hext, fun t e xs ht hp => htok (h.ttok t e xs ht hp) ⟨ht, e, xs, hp⟩, fun t i e xs ht hp => htok (h.utok t i e xs ht hp) ⟨ht, e, xs, hp⟩,
    fun b es hp => (h.mps b es hp).same (ho b ((h.mps b es hp).ne hg)).1⟩, hext⟩
  · obtain ⟨b, e', cs, fz, hb, hh, hs, hr, hf, hB'⟩ := h.ob k row hk
    have hne := hbne k b hb
    exact ⟨b, e', cs, fz, by rw [hbe]; exact hb, by rw [(ho b hne).1]; exact hh, hs, fun i v p hv hp => ⟨(hr i v p hv hp).1, (hr i v p hv hp).2.mono hext⟩, by rw [(ho b hne).2]; exact hf, hB'⟩
  · rw [(ho b (by omega)).1, (ho b (by omega)).2]; exact h.frame b hb hT
  · have hrc : rcell G' k i = rcell G k i := by
      simp only [rcell, hbe]
      cases hb : G.be k with
      | none => rfl
      | some b => simp only; rw [World.cell?_of_block (a := ⟨b, i, none⟩) (ho b (hbne k b hb)).1]
    rw [hrc]
    exact htok (h.ctok base k i e' xs hob hp) ⟨e', xs, hp⟩

/-- a deep slice's cells as one list -/
theorem deep_cells {ad : Addr} {size m : Nat} {us : Nat → Value} (hc : ∀ r, r < m * size → G.w.cell? (ad.add r) = some (us r)) :
    ((List.range (m * size)).map us).length = m * size ∧ ∀ (j : Nat) u, ((List.range (m * size)).map us)[j]? = some u → G.w.cell? (ad.add j) = some u := by
  refine ⟨by simp, fun j u hu => ?_⟩
  rw [List.getElem?_map] at hu
  by_cases hj : j < m * size
  · rw [List.getElem?_range hj] at hu
    obtain rfl : us j = u := by simpa using hu
    exact hc j hj
  · rw [List.getElem?_eq_none (by simpa using hj)] at hu; simp at hu

theorem run_append_none {P : Program} {w : World} (t ty e : TypeId) (ht : P.underlying t = some (.slice e)) (i : TypeInfo) (hi : P.info? e = some i) (b : Option Addr) (n cap : Nat) (hnc : n ≤ cap) :
    (Builtin.append_ #[t, t] ty #[.slice b n cap, .slice none 0 0]).run P w = .ok (.slice b n cap) w := by
  cases b <;> simp [Builtin.append_, run_underlying ht, sizeOf, typeInfo, hi, Builtin.lenOf, Builtin.firstCells, hnc, storeCells]

theorem app_core {u e t ty : Nat} {x : Operand} {i : TypeInfo} {z : Value} (ho : o.op = .call { callee := .builtin .append, args := #[.tmp t, x], argTypes := #[u, u] }) (hty : o.type = ty) (hu : q.P.underlying u = some (.slice e)) (hi : q.P.info? e = some i) (hz : i.zero = some z) (hzs : z.cells.size = i.size) (h0 : i.size ≠ 0)
    (ht : t < q.N) (hx : okOpd q.P q.N x = true) (hd : okDst q o) {xs ys : List Value} (h : Inv q own s a G) (hst : s.t t = lin e xs) (hxs : asDeep (s.ev x) = some ys) (hsx : ∀ y ∈ xs, (lc y).length = i.size) (hsy : ∀ y ∈ ys, (lc y).length = i.size)
    (h63 : xs.length + ys.length ≤ maxLen) (hbytes : (xs.length + ys.length) * i.bytes ≤ 140737488355328) (hs : K ((s.put t (deep xs)).putO o.dst (lin e (xs ++ ys))))
    (hK : Then q K Kr) : o.wp q.P a G.w Kr Q := by
  have hrx := h.rd hx
  rw [asDeep_eq hxs ⟨_, hrx⟩] at hrx
  have hrt := h.tm t ht
  have htk := h.ttok t e xs ht hst
  rw [hst] at hrt
  have hrt' : Rd G (a.tmps.getD t undef) (deep xs) := by simpa using Rd_dg hrt
  have hdeg := h.degrade ht
  rw [hst, dg_lin] at hdeg
  have hnolive : ∀ g pos, own g = some pos → pos = .tmp t → ¬ live q.N (s.put t (deep xs)) pos := by
    rintro g pos _ rfl ⟨_, e', xs', he⟩
    simp [PS.put, deep, lin] at he
  generalize hva : a.tmps.getD t undef = va at hrt' htk
  -- how it ends
  have fin : ∀ (v' : Value) (G' : Gh) (own' : Nat → Option Pos), Inv q own (s.put t (deep xs)) a G' → (execOp a.eval o).run q.P G.w = .ok (.value v') G'.w → Rd G' v' (deep (xs ++ ys)) →
      (∀ d, o.dst = some d → (∀ g pos, own' g = some pos → g < G'.w.heap.size) ∧ (∀ g pos, own g = some pos → live q.N (s.put t (deep xs)) pos → own' g = some pos) ∧ TokOK q.P G' own' q.B (.tmp d) e v') → o.wp q.P a G.w Kr Q := by
    intro v' G' own' hinv hrun hrd htok
    refine wp_val hrun ?_
    cases hdo : o.dst with
    | none => rw [hdo] at hs; exact hK own _ _ G' hinv hs
    | some d =>
      rw [hdo] at hs
      obtain ⟨h1, h2, h3⟩ := htok d hdo
      exact hK own' _ _ G' (hinv.putLin (hd d hdo) (.lin _ _ _ hrd) own' h1 h2 h3) hs
  have hexec : ∀ v, a.eval x = v → (execOp a.eval o).run q.P G.w = ((Builtin.append_ #[u, u] ty #[va, v]).run q.P G.w).andThen fun r w => .ok (.value r) w := by
    intro v hv
    have : a.eval (.tmp t) = va := hva
    simp [execOp, ho, resolve, invoke, builtin, hv, this, hty]
  have hsmall : xs.length + ys.length ≤ 9223372036854775807 := by simp only [maxLen] at h63; omega
  -- a source without cells
  have nothing : a.eval x = .slice none 0 0 → ys = [] → o.wp q.P a G.w Kr Q := by
    rintro hv rfl
    have hform : ∃ b n cap, va = .slice b n cap ∧ n ≤ cap := by
      rcases deep_rd hrt' with ⟨hv', rfl⟩ | ⟨ad, cap, size, us, hv', _, hcap, _⟩
      · exact ⟨_, _, _, hv', Nat.le_refl _⟩
      · exact ⟨_, _, _, hv', hcap⟩
    obtain ⟨b, n, cap, hform, hnc⟩ := hform
    refine fin va G (reslot own t (o.dst.getD t)) hdeg ?_ (by rw [List.append_nil]; exact hrt') (fun d hdo => ?_)
    · rw [hexec _ hv, hform, run_append_none u ty e hu i hi b n cap hnc]; rfl
    · rw [hdo, Option.getD_some]
      refine ⟨fun g pos hg => ?_, fun g pos hg hl => ?_, htk.own_of fun g _ _ _ hg => by simp [reslot, hg]⟩
      · unfold reslot at hg
        cases hog : own g with
        | none => rw [hog] at hg; simp at hg
        | some p => exact h.ol g p hog
      · unfold reslot
        rw [hg]
        cases pos with
        | tmp w' =>
          by_cases hw : w' = t
          · subst hw; exact absurd hl (hnolive g _ hg rfl)
          · simp [hw]
        | tup w' j =>
          by_cases hw : w' = t
          · subst hw
            obtain ⟨_, e', xs', he⟩ := hl
            simp [PS.put, deep, comp, undef, lin] at he
          · simp [hw]
        | cell k j => rfl
  rcases deep_rd hrx with ⟨hv, hy0⟩ | ⟨ad, cap2, size2, us2, hv, hsp2, _, _, hc2, hz2, hr2⟩
  · exact nothing hv hy0
  -- the new cells
  have hs2 : ys ≠ [] → size2 = i.size := fun hne => by
    obtain ⟨y0, r0, rfl⟩ := List.exists_cons_of_ne_nil hne
    rw [← hz2 0 y0 rfl]; exact hsy y0 (List.mem_cons_self ..)
  have hc2' : ∀ r, r < ys.length * i.size → G.w.cell? (ad.add r) = some (us2 r) ∧ (us2 r).oneCell' = true := fun r hr => by
    have hne : ys ≠ [] := fun e => by subst e; simp at hr
    have := hc2 r (by rw [hs2 hne]; exact hr)
    exact ⟨this.1, this.2.2⟩
  obtain ⟨hnl, hnews⟩ := deep_cells (fun r hr => (hc2' r hr).1)
  have hone : ∀ v ∈ (List.range (ys.length * i.size)).map us2, v.oneCell' = true := fun v hv' => by
    obtain ⟨r, hr, rfl⟩ := List.mem_map.1 hv'
    exact (hc2' r (List.mem_range.1 hr)).2
  generalize hN : (List.range (ys.length * i.size)).map us2 = news at hnl hnews hone
  have hnat : ∀ (k : Nat) y (j : Nat) c, ys[k]? = some y → (lc y)[j]? = some c → ∃ v, news[k * i.size + j]? = some v ∧ v.oneCell' = true ∧ Rd G v c := fun k y j c hy hcj => by
    have hne : ys ≠ [] := fun e => by subst e; simp at hy
    have hk : k < ys.length := (List.getElem?_eq_some_iff.1 hy).1
    have hj : j < i.size := by rw [← hsy y (List.mem_of_getElem? hy)]; exact (List.getElem?_eq_some_iff.1 hcj).1
    have hb : k * i.size + j < ys.length * i.size := by
      have : (k + 1) * i.size ≤ ys.length * i.size := Nat.mul_le_mul_right _ (by omega)
      rw [Nat.add_mul] at this; omega
    have hr := hr2 k y j c hy hcj
    rw [hs2 hne] at hr
    refine ⟨us2 (k * i.size + j), ?_, (hc2' _ hb).2, hr⟩
    rw [← hN, List.getElem?_map, List.getElem?_range hb]; rfl
  have hlens : ∀ (k : Nat) x, (xs ++ ys)[k]? = some x → (lc x).length = i.size := fun k x hx => by
    rcases List.mem_append.1 (List.mem_of_getElem? hx) with hm | hm
    · exact hsx x hm
    · exact hsy x hm
  -- the end with a new row
  have grew : ∀ (v' : Value) (olds : List Value) (gc : Nat), olds.length = xs.length * i.size → xs.length + ys.length ≤ gc → gc ≤ maxLen →
      (∀ (k : Nat) x (j : Nat) c, xs[k]? = some x → (lc x)[j]? = some c → ∃ v, olds[k * i.size + j]? = some v ∧ v.oneCell' = true ∧ Rd G v c) →
      v' = .slice (some ⟨G.w.heap.size, 0, none⟩) (xs.length + ys.length) gc →
      (execOp a.eval o).run q.P G.w = .ok (.value v') (G.w.drew.alloc (.cells (olds.toArray ++ news.toArray ++ Builtin.zeroCells z.cells (gc - (xs.length + ys.length))) e)) → o.wp q.P a G.w Kr Q := by
    intro v' olds gc hol hgc hgm hold hv' hrun
    let cs := olds.toArray ++ news.toArray ++ Builtin.zeroCells z.cells (gc - (xs.length + ys.length))
    let G' : Gh := ⟨G.w.drew.alloc (.cells cs e), upd G.fr G.w.heap.size ((xs.length + ys.length) * i.size), G.be, G.nx⟩
    have hM : More G G' := ⟨fun b hb => ⟨heap_alloc_old G.w.drew _ hb, upd_ne _ _ (by omega)⟩, by show _ ≤ (G.w.drew.alloc _).heap.size; simp, rfl, rfl, rfl⟩
    have hkeep : Keep G G' := Keep.of_more hM rfl rfl
    have hnew : G'.w.heap[G.w.heap.size]? = some (.cells cs e (0, 0)) := heap_alloc_new G.w.drew _
    have hcs : ∀ r, r < (xs.length + ys.length) * i.size → cs[r]? = (olds ++ news)[r]? := fun r hr => by
      show (olds.toArray ++ news.toArray ++ Builtin.zeroCells z.cells (gc - (xs.length + ys.length)))[r]? = _
      rw [Array.getElem?_append_left (by simp [hol, hnl]; rw [← Nat.add_mul]; exact hr)]
      simp
    have hrd : Rd G' v' (deep (xs ++ ys)) := by
      subst hv'
      refine Rd_row (size := i.size) hnew (by simp [G']) (by simp) hgc hgm (Nat.pos_of_ne_zero h0) hlens (fun k x j c hx hcj => ?_)
      have hk : k < xs.length + ys.length := by simpa using (List.getElem?_eq_some_iff.1 hx).1
      have hj : j < i.size := by rw [← hlens k x hx]; exact (List.getElem?_eq_some_iff.1 hcj).1
      have hb : k * i.size + j < (xs.length + ys.length) * i.size := by
        have : (k + 1) * i.size ≤ (xs.length + ys.length) * i.size := Nat.mul_le_mul_right _ (by omega)
        rw [Nat.add_mul] at this; omega
      rw [hcs _ hb]
      by_cases hkx : k < xs.length
      · rw [List.getElem?_append_left hkx] at hx
        obtain ⟨v, hv, h1, h2⟩ := hold k x j c hx hcj
        exact ⟨v, by rw [List.getElem?_append_left (List.getElem?_eq_some_iff.1 hv).1]; exact hv, h1, h2.mono hkeep.ext⟩
      · rw [List.getElem?_append_right (by omega)] at hx
        obtain ⟨v, hv, h1, h2⟩ := hnat (k - xs.length) x j c hx hcj
        have hge : olds.length ≤ k * i.size + j := by
          rw [hol]
          have : xs.length * i.size ≤ k * i.size := Nat.mul_le_mul_right _ (by omega)
          omega
        refine ⟨v, ?_, h1, h2.mono hkeep.ext⟩
        rw [List.getElem?_append_right hge, hol]
        have hge' : xs.length * i.size ≤ k * i.size := Nat.mul_le_mul_right _ (by omega)
        have : k * i.size + j - xs.length * i.size = (k - xs.length) * i.size + j := by rw [Nat.sub_mul]; omega
        rw [this]; exact hv
    refine fin v' G' (upd own G.w.heap.size (o.dst.map Pos.tmp)) (hdeg.keep hkeep) hrun hrd (fun d hdo => ⟨fun g pos hg => ?_, fun g pos hg _ => ?_, ?_⟩)
    · by_cases hgn : g = G.w.heap.size
      · subst hgn; exact heap_lt hnew
      · rw [upd_ne _ _ hgn] at hg; exact Nat.lt_of_lt_of_le (h.ol g pos hg) hM.sz
    · rw [upd_ne _ _ (by have := h.ol g pos hg; omega)]; exact hg
    · rw [hv']
      refine .inr ⟨G.w.heap.size, _, gc, i, olds ++ news, rfl, hi, ⟨by rw [List.length_append, hol, hnl, Nat.add_mul], .inr ⟨_, _, cs, rfl, h.sz, hnew, hgc, hgm, ?_, ?_⟩⟩, by simp [G'], by simp [hdo], fun k hk => ?_⟩
      · show (olds.toArray ++ news.toArray ++ Builtin.zeroCells z.cells (gc - (xs.length + ys.length))).size = _
        simp only [Array.size_append, List.size_toArray, size_zeroCells, hzs, hol, hnl, ← Nat.add_mul]
        congr 1; omega
      · show (olds.toArray ++ news.toArray ++ Builtin.zeroCells z.cells (gc - (xs.length + ys.length))).toList.take _ = _
        simp only [Array.toList_append, List.append_assoc]
        rw [← List.append_assoc, show (xs.length + ys.length) * i.size = (olds ++ news).length by rw [List.length_append, hol, hnl, Nat.add_mul]]
        exact List.take_left
      · have := (h.be_lt hk).2.1; omega
  rcases htk with hvn | ⟨g, n, cap, i', xs0, hvn, hi', hown, hfr, hog, hbg⟩
  · -- onto nil
    obtain ⟨b0, hvn⟩ := hvn
    subst hvn
    have hx0 : xs = [] := by
      rcases deep_rd hrt' with ⟨_, h'⟩ | ⟨_, _, _, _, h', _⟩
      · exact h'
      · simp at h'; exact List.length_eq_zero_iff.1 h'.2.1.symm
    subst hx0
    by_cases hy0 : ys = []
    · subst hy0
      refine fin (.slice b0 0 0) G own hdeg ?_ (by rw [List.append_nil]; exact hrt') (fun d _ => ⟨h.ol, fun g pos hg _ => hg, .inl ⟨_, rfl⟩⟩)
      rw [hexec _ hv]
      cases b0 <;> simp [Builtin.append_, run_underlying hu, sizeOf, typeInfo, hi, Builtin.lenOf, Builtin.firstCells, loadCells, loadCellsFrom, storeCells]
    · have hpos : 0 < ys.length := List.length_pos_iff.2 hy0
      have hb : ys.length * i.bytes ≤ 281474976710656 := by simp only [List.length_nil, Nat.zero_add] at hbytes; omega
      simp only [List.length_nil, Nat.zero_add] at hsmall h63
      cases b0 with
      | some b0 =>
        have hr := run_append_grow (P := q.P) G.w u ty e i z hu hi hz b0 0 0 [] (by simp) (fun j u' hj => by simp at hj) ad ys.length cap2 news hnl hnews (by omega) (by omega) (growslice_fits (by omega) hbytes)
        refine grew _ [] (grownCap G.w (0 + ys.length) 0 e) (by simp) (by simpa using grownCap_ge G.w ys.length 0 e) (grownCap_le_maxLen _ _ _ _ (by omega)) (fun k x j c hx => by simp at hx) rfl ?_
        rw [hexec _ hv, hr]
        simp
      | none =>
      have hr := run_append_nil (P := q.P) G.w u ty e i z hu hi hz ad ys.length cap2 news hnl hnews hpos (by omega) hb
      refine grew _ [] (grownCap G.w ys.length 0 e) (by simp) (by simpa using grownCap_ge G.w ys.length 0 e) (grownCap_le_maxLen _ _ _ _ h63) (fun k x j c hx => by simp at hx) rfl ?_
      rw [hexec _ hv, hr]
      simp
  · -- onto a row
    obtain rfl : i = i' := by rw [hi] at hi'; simpa using hi'
    subst hvn
    have hnx : n = xs.length := by
      rcases deep_rd hrt' with ⟨h', _⟩ | ⟨_, _, _, _, h', _⟩
      · cases h'
      · simp at h'; exact h'.2.1
    subst hnx
    obtain ⟨hl0, hrow⟩ := hown
    rcases hrow with ⟨h', _⟩ | ⟨g', cap', cur, hv', hBg, hg, hnc, hcm, hcs, htake⟩
    · cases h'
    obtain ⟨rfl, rfl⟩ : g = g' ∧ cap = cap' := by simpa using hv'
    have hold : ∀ (k : Nat) x (j : Nat) c, xs[k]? = some x → (lc x)[j]? = some c → ∃ v, cur[k * i.size + j]? = some v ∧ v.oneCell' = true ∧ Rd G v c := fun k x j c hx hcj => by
      rcases deep_rd hrt' with ⟨h', _⟩ | ⟨ad1, cap1, size1, us1, h', hsp1, _, _, hc1, hz1, hr1⟩
      · cases h'
      · have had : ad1 = ⟨g, 0, none⟩ := by simp at h'; exact h'.1.symm
        subst had
        have hs1 : size1 = i.size := by rw [← hz1 k x hx]; exact hsx x (List.mem_of_getElem? hx)
        subst hs1
        have hk : k < xs.length := (List.getElem?_eq_some_iff.1 hx).1
        have hj : j < i.size := by rw [← hsx x (List.mem_of_getElem? hx)]; exact (List.getElem?_eq_some_iff.1 hcj).1
        have hb : k * i.size + j < xs.length * i.size := by
          have : (k + 1) * i.size ≤ xs.length * i.size := Nat.mul_le_mul_right _ (by omega)
          rw [Nat.add_mul] at this; omega
        obtain ⟨c1, _, c3⟩ := hc1 _ hb
        rw [add_off _ rfl, Nat.zero_add, cell_of_row _ _ _ _ _ _ hg] at c1
        exact ⟨_, c1, c3, hr1 k x j c hx hcj⟩
    by_cases hroom : xs.length + ys.length ≤ cap
    · have hfit : xs.length * i.size + news.length ≤ cur.size := by rw [hnl, hcs, ← Nat.add_mul]; exact Nat.mul_le_mul_right _ hroom
      have hr := run_append_room (P := q.P) G.w u ty e i hu hi g xs.length cap cur hg ad ys.length cap2 news hnl hnews hone hroom hfit
      let cur' := (cur.toList.take (xs.length * i.size) ++ news ++ cur.toList.drop (xs.length * i.size + news.length)).toArray
      let G' : Gh := ⟨G.w.setRow g cur', upd G.fr g ((xs.length + ys.length) * i.size), G.be, G.nx⟩
      have hcur : ∀ r : Nat, cur'[r]? = if xs.length * i.size ≤ r ∧ r < xs.length * i.size + news.length then news[r - xs.length * i.size]? else cur[r]? := fun r => by
        show ((cur.toList.take (xs.length * i.size) ++ news ++ cur.toList.drop (xs.length * i.size + news.length)).toArray)[r]? = _
        rw [List.getElem?_toArray, splice_at cur.toList news _ _ r rfl (by simpa using hfit)]
        simp
      have hgnew : G'.w.heap[g]? = some (.cells cur' e (0, 0)) := setRow_heap _ _ _ _ _ _ hg
      obtain ⟨hinv, hext⟩ := hdeg.inplace (G' := G') hg hgnew hBg hbg (fun pos hpos => by
          rw [hog] at hpos
          exact hnolive g pos (by rw [hog]; exact hpos) (by simpa using hpos.symm))
        (fun b hb => ⟨setRow_other _ _ _ _ hb, upd_ne _ _ hb⟩) (fun r hr => by rw [hcur, if_neg (by rw [hfr] at hr; omega)]) (by rw [hfr]; simp [G']; exact Nat.mul_le_mul_right _ (by omega)) rfl rfl (by show _ ≤ (G.w.setRow _ _).heap.size; simp) rfl rfl rfl
      have hcsz : cur'.size = cur.size := by
        show (cur.toList.take (xs.length * i.size) ++ news ++ cur.toList.drop (xs.length * i.size + news.length)).toArray.size = _
        simp; omega
      have hrd : Rd G' (.slice (some ⟨g, 0, none⟩) (xs.length + ys.length) cap) (deep (xs ++ ys)) := by
        refine Rd_row (size := i.size) hgnew (by simp [G']) (by simp) hroom hcm (Nat.pos_of_ne_zero h0) hlens (fun k x j c hx hcj => ?_)
        have hj : j < i.size := by rw [← hlens k x hx]; exact (List.getElem?_eq_some_iff.1 hcj).1
        by_cases hkx : k < xs.length
        · rw [List.getElem?_append_left hkx] at hx
          obtain ⟨v, hv', h1, h2⟩ := hold k x j c hx hcj
          have hb : k * i.size + j < xs.length * i.size := by
            have : (k + 1) * i.size ≤ xs.length * i.size := Nat.mul_le_mul_right _ (by omega)
            rw [Nat.add_mul] at this; omega
          exact ⟨v, by rw [hcur, if_neg (by omega)]; exact hv', h1, h2.mono hext⟩
        · rw [List.getElem?_append_right (by omega)] at hx
          obtain ⟨v, hv', h1, h2⟩ := hnat (k - xs.length) x j c hx hcj
          have hge : xs.length * i.size ≤ k * i.size := Nat.mul_le_mul_right _ (by omega)
          have e1 : k * i.size + j - xs.length * i.size = (k - xs.length) * i.size + j := by rw [Nat.sub_mul]; omega
          have hlt := (List.getElem?_eq_some_iff.1 hv').1
          refine ⟨v, ?_, h1, h2.mono hext⟩
          rw [hcur, if_pos (by omega), e1]; exact hv'
      refine fin _ G' (upd own g (o.dst.map Pos.tmp)) hinv (by rw [hexec _ hv, hr]; rfl) hrd (fun d hdo => ⟨fun g2 pos hg2 => ?_, fun g2 pos hg2 hl => ?_, ?_⟩)
      · by_cases hgn : g2 = g
        · subst hgn; exact heap_lt hgnew
        · rw [upd_ne _ _ hgn] at hg2; have := h.ol g2 pos hg2; show _ < (G.w.setRow _ _).heap.size; simpa using this
      · by_cases hgn : g2 = g
        · subst hgn
          rw [hog] at hg2
          exact absurd hl (hnolive g2 pos (by rw [hog]; exact hg2) (by simpa using hg2.symm))
        · rw [upd_ne _ _ hgn]; exact hg2
      · refine .inr ⟨g, _, cap, i, xs0 ++ news, rfl, hi, ⟨by rw [List.length_append, hl0, hnl, Nat.add_mul], .inr ⟨_, _, cur', rfl, hBg, hgnew, hroom, hcm, by rw [hcsz]; exact hcs, ?_⟩⟩, by simp [G'], by simp [hdo], hbg⟩
        show ((cur.toList.take (xs.length * i.size) ++ news ++ cur.toList.drop (xs.length * i.size + news.length)).toArray).toList.take _ = _
        rw [htake, show (xs.length + ys.length) * i.size = (xs0 ++ news).length by rw [List.length_append, hl0, hnl, Nat.add_mul]]
        exact List.take_left
    · have holds : ∀ j u', xs0[j]? = some u' → G.w.cell? ((⟨g, 0, none⟩ : Addr).add j) = some u' := fun j u' hj => by
        rw [← htake, List.getElem?_take] at hj
        split at hj
        · rw [add_off _ rfl, Nat.zero_add, cell_of_row _ _ _ _ _ _ hg]; simpa using hj
        · cases hj
      have hr := run_append_grow (P := q.P) G.w u ty e i z hu hi hz ⟨g, 0, none⟩ xs.length cap xs0 hl0 holds ad ys.length cap2 news hnl hnews (by omega) (by omega) (growslice_fits (by omega) hbytes)
      refine grew _ xs0 (grownCap G.w (xs.length + ys.length) cap e) hl0 (grownCap_ge _ _ _ _) (grownCap_le_maxLen _ _ _ _ h63) (fun k x j c hx hcj => ?_) rfl (by rw [hexec _ hv, hr]; rfl)
      obtain ⟨v, hv', h1, h2⟩ := hold k x j c hx hcj
      have hk : k < xs.length := (List.getElem?_eq_some_iff.1 hx).1
      have hj : j < i.size := by rw [← hsx x (List.mem_of_getElem? hx)]; exact (List.getElem?_eq_some_iff.1 hcj).1
      have hb : k * i.size + j < xs.length * i.size := by
        have : (k + 1) * i.size ≤ xs.length * i.size := Nat.mul_le_mul_right _ (by omega)
        rw [Nat.add_mul] at this; omega
      refine ⟨v, ?_, h1, h2⟩
      rw [← htake, List.getElem?_take, if_pos hb]; simpa using hv'

theorem does_app {u e t ty : Nat} {x : Operand} {i : TypeInfo} {z : Value} (ho : o.op = .call { callee := .builtin .append, args := #[.tmp t, x], argTypes := #[u, u] }) (hty : o.type = ty) (hu : q.P.underlying u = some (.slice e)) (hi : q.P.info? e = some i) (hz : i.zero = some z) (hzs : z.cells.size = i.size) (h0 : i.size ≠ 0)
    (ht : t < q.N) (hx : okOpd q.P q.N x = true) (hd : okDst q o) : Does q C o (.app e i.size i.bytes t x) := by
  intro own s a G K Kr Q h hs hK
  obtain ⟨xs, ys, hst, hxs, hsx, hsy, h63, hbytes, hs⟩ := hs
  rcases hst with hst | ⟨rfl, hst⟩
  · exact app_core ho hty hu hi hz hzs h0 ht hx hd h hst hxs hsx hsy h63 hbytes hs hK
  · have he : (s.put t (lin e [])).ev x = s.ev x := by
      cases x with
      | tmp u =>
        show dg (upd s.t t (lin e []) u) = dg (s.t u)
        by_cases hut : u = t
        · subst hut; rw [upd_same, hst]; rfl
        · rw [upd_ne _ _ hut]
      | _ => rfl
    have hpp : ((s.put t (lin e [])).put t (deep [])) = s.put t (deep []) := by
      simp only [PS.put]
      congr 1
      funext j
      by_cases hj : j = t
      · subst hj; simp [upd]
      · simp [upd, hj]
    exact app_core (K := K) ho hty hu hi hz hzs h0 ht hx hd (h.turnNs (e := e) ht hst) (by simp [PS.put, upd]) (by rw [he]; exact hxs) hsx hsy h63 hbytes (by rw [hpp]; exact hs) hK

end
end Go.PE
