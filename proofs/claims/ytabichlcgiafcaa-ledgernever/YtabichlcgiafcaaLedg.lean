/- Tags and counts as plain data. The ledger: where a node is counted. Same counts, same tags. The ledger: rides are added. The ledger of the other hand: rides are added. Caveats, bundles; the limits of rides. The ledger: which nodes have a limit. The ledger: is there room? The deck: bytes, caveats, tags. Counts, plainly. The deck of the ledger: counts. The ledger: the sanity check; rides are added. The ledger: each node that was counted has one ride more. The ledger: Valid, Number and Add answer as specified. The ledger: Limited and Room answer as specified. Tags, counts, caveats and bundles among the arguments. The ledger: as long as rides are added only when there is room, no node has more rides than its limit. The ledger: LedgerNever holds. -/
import Derived.Test.YtabichlcgiafcaaCoun
import Derived.Test.YtabichlcgiafcaaPred
import Derived.Test.YtabichlcgiafcaaDeck
import Derived.Test.YtabichlcgiafcaaLaws
set_option linter.all false
namespace Go.PE
open Go
structure Tag where
  b : List Int
  hb : b.length = 32
theorem Tag.ext' {s t : Tag} (h : s.b = t.b) : s = t := by cases s; cases t; simp_all
instance tagDec : DecidableEq Tag := fun s t => if h : s.b = t.b then isTrue (Tag.ext' h) else isFalse fun e => h (by rw [e])
def Tag.cells (t : Tag) : List Value := t.b.map (.int .u8)
def Tag.v (t : Tag) : Value := ag t.cells
structure Cnt where
  tag : Tag
  n : Int
def Cnt.cells (c : Cnt) : List Value := c.tag.cells ++ [.int .i64 c.n]
def Cnt.v (c : Cnt) : Value := ag c.cells
@[simp] theorem Tag.len (t : Tag) : t.cells.length = 32 := by simp [Tag.cells, t.hb]
@[simp] theorem Cnt.len (c : Cnt) : c.cells.length = 33 := by simp [Cnt.cells]
theorem dg1_ints (k : IntKind) (l : List Int) : (l.map (Value.int k)).map dg1 = l.map (Value.int k) := by simp [Function.comp_def]
@[simp] theorem Tag.dg1s (t : Tag) : t.cells.map dg1 = t.cells := dg1_ints _ _
@[simp] theorem Cnt.dg1s (c : Cnt) : c.cells.map dg1 = c.cells := by simp [Cnt.cells]
@[simp] theorem Tag.take32 (t : Tag) : t.cells.take 32 = t.cells := List.take_of_length_le (by simp)
@[simp] theorem Cnt.take33 (c : Cnt) : c.cells.take 33 = c.cells := List.take_of_length_le (by simp)
@[simp] theorem Cnt.take32 (c : Cnt) : c.cells.take 32 = c.tag.cells := by
  unfold Cnt.cells
  rw [List.take_append_of_le_length (by simp)]; simp
@[simp] theorem Cnt.get32 (c : Cnt) : c.cells[32]? = some (.int .i64 c.n) := by
  unfold Cnt.cells
  rw [List.getElem?_append_right (by simp)]; simp
@[simp] theorem Cnt.getE32 (c : Cnt) (h : 32 < c.cells.length) : c.cells[32] = .int .i64 c.n := by
  have := c.get32
  rw [List.getElem?_eq_getElem h] at this
  exact Option.some.inj this
@[simp] theorem Tag.dgv (t : Tag) : dg t.v = t.v := _root_.id rfl
@[simp] theorem Tag.cellsOf (t : Tag) : PE.cellsOf t.v = some t.cells := _root_.id rfl
@[simp] theorem Tag.lcv (t : Tag) : lc t.v = t.cells := _root_.id rfl
@[simp] theorem Cnt.dgv (t : Cnt) : dg t.v = t.v := _root_.id rfl
@[simp] theorem Cnt.cellsOf (t : Cnt) : PE.cellsOf t.v = some t.cells := _root_.id rfl
@[simp] theorem Cnt.lcv (t : Cnt) : lc t.v = t.cells := _root_.id rfl
theorem Tag.cells_inj {s t : Tag} (h : s.cells = t.cells) : s = t := by
  apply Tag.ext'
  have : Function.Injective (Value.int IntKind.u8) := fun a b h => by simpa using h
  exact (List.map_inj_right (fun a b h => this h)).1 h
theorem fits_ints (k : IntKind) : ∀ l : List Int, fitsL (List.replicate l.length (.int k)) (l.map (Value.int k)) = true
  | [] => rfl
  | x :: l => by simp [List.replicate_succ, fits_ints k l]
theorem eq_ints (k : IntKind) : ∀ l m : List Int, l.length = m.length → eqL (l.map (Value.int k)) (m.map (Value.int k)) = decide (l = m)
  | [], [], _ => rfl
  | x :: l, y :: m, h => by
    have := eq_ints k l m (by simpa using h)
    simp [this]
    rw [Bool.eq_iff_iff]; simp
@[simp] theorem Tag.fits (t : Tag) : fitsL (List.replicate 32 (.int .u8)) t.cells = true := by
  have := fits_ints .u8 t.b
  rw [t.hb] at this; exact this
@[simp] theorem Tag.eq (s t : Tag) : eqL s.cells t.cells = decide (s = t) := by
  unfold Tag.cells
  rw [eq_ints _ _ _ (by rw [s.hb, t.hb])]
  rw [Bool.eq_iff_iff]
  simp only [decide_eq_true_eq]
  exact ⟨Tag.ext', fun h => by rw [h]⟩
instance cntDec : DecidableEq Cnt := fun s t => if h : s.tag = t.tag ∧ s.n = t.n then isTrue (by cases s; cases t; simp_all) else isFalse fun e => h (by rw [e]; exact ⟨rfl, rfl⟩)
theorem fitsL_app : ∀ {ks ms : List CK} {a b : List Value}, fitsL ks a = true → fitsL ms b = true → fitsL (ks ++ ms) (a ++ b) = true
  | [], ms, [], b, _, h => h
  | [], ms, x :: a, b, h, _ => by simp [fitsL] at h
  | k :: ks, ms, [], b, h, _ => by simp [fitsL] at h
  | k :: ks, ms, x :: a, b, h, h' => by
    simp only [fitsL_cons, Bool.and_eq_true, List.cons_append] at h ⊢
    exact ⟨h.1, fitsL_app h.2 h'⟩
@[simp] theorem Cnt.fits (c : Cnt) : fitsL [(.int .u8), (.int .u8), (.int .u8), (.int .u8), (.int .u8), (.int .u8), (.int .u8), (.int .u8), (.int .u8), (.int .u8), (.int .u8), (.int .u8), (.int .u8), (.int .u8), (.int .u8), (.int .u8), (.int .u8), (.int .u8), (.int .u8), (.int .u8), (.int .u8), (.int .u8), (.int .u8), (.int .u8), (.int .u8), (.int .u8), (.int .u8), (.int .u8), (.int .u8), (.int .u8), (.int .u8), (.int .u8), (.int .i64)] c.cells = true := by
  have h := fits_ints .u8 c.tag.b
  rw [c.tag.hb] at h
  have := fitsL_app (ks := List.replicate 32 (.int .u8)) (ms := [.int .i64]) h (show fitsL [.int .i64] [.int .i64 c.n] = true by simp)
  exact this
@[simp] theorem Cnt.eq (s t : Cnt) : eqL s.cells t.cells = decide (s = t) := by
  unfold Cnt.cells
  rw [eqL_append _ _ _ _ (by simp), Tag.eq]
  rw [Bool.eq_iff_iff]
  simp only [Bool.and_eq_true, decide_eq_true_eq, eqL_cons, eqC_int, eqL_nil, and_true, beq_iff_eq]
  exact ⟨fun ⟨h1, h2⟩ => by cases s; cases t; simp_all, fun h => by rw [h]; exact ⟨rfl, rfl⟩⟩
theorem elem_cnt {l : List Cnt} {n : Int} (h0 : 0 ≤ n) (hn : n.toNat < l.length) : elemAt (l.map Cnt.v) n 33 = some (dptr 0 l[n.toNat].cells) := elemAt_map h0 hn rfl (by simp)
theorem elem_tag {l : List Tag} {n : Int} (h0 : 0 ≤ n) (hn : n.toNat < l.length) : elemAt (l.map Tag.v) n 32 = some (dptr 0 l[n.toNat].cells) := elemAt_map h0 hn rfl (by simp)
end Go.PE
namespace Go.PE
open Go
def idxF (t : Tag) : List Cnt → Int → Int
  | [], _ => -1
  | c :: r, i => if c.tag = t then i else idxF t r (i + 1)
def idx (l : List Cnt) (t : Tag) : Int := idxF t l 0
theorem idxF_step {l : List Cnt} {t : Tag} {i : Nat} (hi : i < l.length) : idxF t (l.drop i) i = if l[i].tag = t then (i : Int) else idxF t (l.drop (i + 1)) (i + 1 : Nat) := by
  rw [List.drop_eq_getElem_cons hi]; simp [idxF]
theorem drop_all {α : Type} {l : List α} {i : Nat} (h : l.length ≤ i) : l.drop i = [] := List.drop_eq_nil_of_le h
def IndexOK (P : Program) (f : Nat) : Prop := ∀ (l : List Cnt) (t : Tag), l.length ≤ maxLen → ∀ (H : Nat → Option (List Value)) (nx : Nat),
    PCalls P f [deep (l.map Cnt.v), t.v] H nx (fun _ => False) (fun r H' _ => r = .int .i64 (idx l t) ∧ H' = H)
theorem index_ok {P : Program} {f : Nat} (hc : compFn P f = some (20, ledger_indexC, [.t 4])) : IndexOK P f := by
  intro l t hlen H nx
  refine PCalls_of hc (by simp) fun hw => ?_
  have hmx : (maxLen : Int) = 9223372036854775807 := rfl
  simp [ledger_indexC]
  refine wpc_loop _ _ _ _ _ _ (fun s => ∃ i : Nat, i ≤ l.length ∧ s.t 0 = deep (l.map Cnt.v) ∧ s.t 3 = ptr nx 0 ∧ s.t 7 = .int .i64 l.length ∧ s.t 8 = .int .i64 i ∧ s.H = upd H nx (some t.cells) ∧ idx l t = idxF t (l.drop i) i)
    (fun s => match s.t 8 with | .int _ i => (l.length - i).toNat | _ => 0) _ ⟨0, by omega, by simp, by simp, by simp, by simp, rfl, rfl⟩ ?_
  rintro ⟨T, H', nx'⟩ ⟨i, hi1, e0, e3, e7, e8, rfl, hall⟩
  simp only at e0 e3 e7 e8
  simp [e0, e3, e7, e8]
  refine wB_of (fun hlt => ?_) (fun hlt => ?_)
  · simp at hlt
    have he := elem_cnt (l := l) (n := (i : Int)) (by omega) (by simpa using hlt)
    simp at he
    simp [ledger_indexC_j1, e0, e3, e7, e8, he, -List.reduceReplicate]
    have hst := idxF_step (t := t) hlt
    refine wB_of (fun h => ?_) (fun h => ?_)
    · simp at h
      exact wF_own hw (by simp) (by simp [hall, hst, h])
    · simp at h
      try simp [e8]
      rw [w64 (x := (i : Int) + 1) (by omega) (by omega)]
      refine kLoop_nrm _ _ _ _ (Sub_refl _ _) ⟨i + 1, by omega, by simp [e0], by simp [e3], by simp [e7], by simp, rfl, ?_⟩ (by simp; omega)
      rw [hall, hst, if_neg h]
  · simp at hlt
    refine wF_own hw (by simp) ?_
    rw [drop_all hlt] at hall
    simp [hall, idxF]
/-- how many rides -/
def numF (t : Tag) : List Cnt → Int
  | [] => 0
  | c :: r => if c.tag = t then c.n else numF t r
def NumOK (P : Program) (f : Nat) : Prop := ∀ (l : List Cnt) (t : Tag), l.length ≤ maxLen → ∀ (H : Nat → Option (List Value)) (nx : Nat),
    PCalls P f [deep (l.map Cnt.v), t.v] H nx (fun _ => False) (fun r H' _ => r = .int .i64 (numF t l) ∧ H' = H)
theorem idx_num (t : Tag) : ∀ (l : List Cnt) (i : Nat), (idxF t l i = -1 ∧ numF t l = 0 ∧ ∀ c ∈ l, c.tag ≠ t) ∨ ∃ (j : Nat) (c : Cnt), idxF t l i = ((i + j : Nat) : Int) ∧ l[j]? = some c ∧ c.tag = t ∧ numF t l = c.n ∧ ∀ k, k < j → ∀ d, l[k]? = some d → d.tag ≠ t
  | [], i => .inl ⟨rfl, rfl, by simp⟩
  | c :: r, i => by
    by_cases h : c.tag = t
    · exact .inr ⟨0, c, by simp [idxF, h], rfl, h, by simp [numF, h], fun k hk => by omega⟩
    · rcases idx_num t r (i + 1) with ⟨h1, h2, h3⟩ | ⟨j, d, h1, h2, h3, h4, h5⟩
      · refine .inl ⟨by simp only [idxF, h, if_false]; exact_mod_cast h1, by simp [numF, h, h2], ?_⟩
        intro d hd
        simp only [List.mem_cons] at hd
        rcases hd with rfl | hd
        · exact h
        · exact h3 d hd
      · refine .inr ⟨j + 1, d, ?_, by simpa using h2, h3, by simp [numF, h, h4], ?_⟩
        · simp only [idxF, h, if_false]
          have : ((i : Int) + 1) = ((i + 1 : Nat) : Int) := by omega
          rw [this, h1]; omega
        · intro k hk e he
          cases k with
          | zero => simp at he; subst he; exact h
          | succ k => exact h5 k (by omega) e (by simpa using he)
theorem idx_cases (l : List Cnt) (t : Tag) : (idx l t = -1 ∧ numF t l = 0 ∧ ∀ c ∈ l, c.tag ≠ t) ∨ ∃ (j : Nat) (c : Cnt), idx l t = (j : Int) ∧ l[j]? = some c ∧ c.tag = t ∧ numF t l = c.n ∧ ∀ k, k < j → ∀ d, l[k]? = some d → d.tag ≠ t := by
  have := idx_num t l 0
  simpa [idx] using this
theorem number_ok {P : Program} {f x : Nat} (hc : compFn P f = some (16, ledger_NumberC x, [.t 4])) (hx : IndexOK P x) : NumOK P f := by
  intro l t hlen H nx
  refine PCalls_of hc (by simp) fun hw => ?_
  simp [ledger_NumberC]
  refine wCall_eq (Q := fun r => r = .int .i64 (idx l t)) (hx l t hlen _ _) fun r n1 hr hn1 => ?_
  subst hr
  rcases idx_cases l t with ⟨h1, h2, _⟩ | ⟨j, c, h1, h2, h3, h4, _⟩
  · simp [h1]
    exact wF_own hw (by simp) (by simp [h2])
  · have hj : j < l.length := (List.getElem?_eq_some_iff.1 h2).1
    have hc' : l[j] = c := (List.getElem?_eq_some_iff.1 h2).2
    have he := elem_cnt (l := l) (n := (j : Int)) (by omega) (by simpa using hj)
    simp [hc'] at he
    have h0 : ¬ (j : Int) < 0 := by omega
    simp [h1, he, h0]
    exact wF_own hw (by simp) (by simp [h4])
theorem numF_step {l : List Cnt} {t : Tag} {i : Nat} (hi : i < l.length) : numF t (l.drop i) = if l[i].tag = t then l[i].n else numF t (l.drop (i + 1)) := by
  rw [List.drop_eq_getElem_cons hi]; simp [numF]
theorem rnumber_ok {P : Program} {f : Nat} (hc : compFn P f = some (24, ref26_NumberC, [.t 4])) : NumOK P f := by
  intro l t hlen H nx
  refine PCalls_of hc (by simp) fun hw => ?_
  have hmx : (maxLen : Int) = 9223372036854775807 := rfl
  simp [ref26_NumberC]
  refine wpc_loop _ _ _ _ _ _ (fun s => ∃ i : Nat, i ≤ l.length ∧ s.t 0 = deep (l.map Cnt.v) ∧ s.t 3 = ptr nx 0 ∧ s.t 5 = .int .i64 i ∧ s.H = upd H nx (some t.cells) ∧ numF t l = numF t (l.drop i))
    (fun s => match s.t 5 with | .int _ i => (l.length - i).toNat | _ => 0) _ ⟨0, by omega, by simp, by simp, by simp, rfl, rfl⟩ ?_
  rintro ⟨T, H', nx'⟩ ⟨i, hi1, e0, e3, e5, rfl, hall⟩
  simp only at e0 e3 e5
  simp [e0, e3, e5]
  refine wB_of (fun hlt => ?_) (fun hlt => ?_)
  · simp at hlt
    have he := elem_cnt (l := l) (n := (i : Int)) (by omega) (by simpa using hlt)
    simp at he
    simp [ref26_NumberC_j1, e0, e3, e5, he, -List.reduceReplicate]
    have hst := numF_step (t := t) hlt
    refine wB_of (fun h => ?_) (fun h => ?_)
    · simp at h
      try simp [e0, e3, e5, he]
      exact wF_own hw (by simp) (by simp [hall, hst, h])
    · simp at h
      try simp [e5]
      rw [w64 (x := (i : Int) + 1) (by omega) (by omega)]
      refine kLoop_nrm _ _ _ _ (Sub_refl _ _) ⟨i + 1, by omega, by simp [e0], by simp [e3], by simp, rfl, ?_⟩ (by simp; omega)
      rw [hall, hst, if_neg h]
  · simp at hlt
    refine wF_own hw (by simp) ?_
    rw [drop_all hlt] at hall
    simp [hall, numF]
/-- are counts valid? pre: those before -/
def okF : List Cnt → List Cnt → Bool
  | _, [] => true
  | pre, c :: r => decide (1 ≤ c.n) && decide (c.n ≤ 281474976710656) && (pre.all fun d => decide (d.tag ≠ c.tag)) && okF (pre ++ [c]) r
def okC (l : List Cnt) : Bool := okF [] l
theorem okF_step {l : List Cnt} {i : Nat} (hi : i < l.length) : okF (l.take i) (l.drop i) = (decide (1 ≤ l[i].n) && decide (l[i].n ≤ 281474976710656) && ((l.take i).all fun d => decide (d.tag ≠ l[i].tag)) && okF (l.take (i + 1)) (l.drop (i + 1))) := by
  rw [List.drop_eq_getElem_cons hi]; simp only [okF]
  rw [← List.take_succ_eq_append_getElem hi]
theorem idx_lt {l : List Cnt} {i : Nat} (hi : i < l.length) : decide (idx l l[i].tag < (i : Int)) = !((l.take i).all fun d => decide (d.tag ≠ l[i].tag)) := by
  rcases idx_cases l l[i].tag with ⟨_, _, h3⟩ | ⟨j, c, h1, h2, h3, _, h5⟩
  · exact absurd rfl (h3 l[i] (List.getElem_mem hi))
  · rw [h1]
    have hji : j ≤ i := by
      rcases Nat.lt_or_ge i j with h | h
      · exact absurd rfl (h5 i h _ (List.getElem?_eq_getElem hi))
      · exact h
    by_cases hlt : j < i
    · have e1 : ((l.take i).all fun d => decide (d.tag ≠ l[i].tag)) = false := by
        rw [List.all_eq_false]
        have hm : c ∈ l.take i := List.mem_of_getElem? (by rw [List.getElem?_take, if_pos hlt]; exact h2 : (l.take i)[j]? = some c)
        exact ⟨c, hm, by simp [h3]⟩
      rw [e1]; simp; omega
    · obtain rfl : j = i := by omega
      have e1 : ((l.take j).all fun d => decide (d.tag ≠ l[j].tag)) = true := by
        rw [List.all_eq_true]
        intro d hd
        obtain ⟨k, hk⟩ := List.getElem?_of_mem hd
        rw [List.getElem?_take] at hk
        split at hk
        · rename_i hkj; simpa using h5 k hkj d hk
        · cases hk
      rw [e1]; simp
def CValOK (P : Program) (f : Nat) : Prop := ∀ (l : List Cnt), l.length ≤ maxLen → ∀ (H : Nat → Option (List Value)) (nx : Nat),
    PCalls P f [deep (l.map Cnt.v)] H nx (fun _ => False) (fun r H' _ => r = .bool (okC l) ∧ H' = H)
theorem lvalid_ok {P : Program} {f x : Nat} (hc : compFn P f = some (35, ledger_ValidC x, [.t 2])) (hx : IndexOK P x) : CValOK P f := by
  intro l hlen H nx
  refine PCalls_of hc (by simp) fun hw => ?_
  have hmx : (maxLen : Int) = 9223372036854775807 := rfl
  simp [ledger_ValidC]
  refine wpc_loop _ _ _ _ _ _ (fun s => ∃ i : Nat, i ≤ l.length ∧ s.t 0 = deep (l.map Cnt.v) ∧ s.t 5 = .int .i64 l.length ∧ s.t 6 = .int .i64 i ∧ s.H = H ∧ okC l = okF (l.take i) (l.drop i))
    (fun s => match s.t 6 with | .int _ i => (l.length - i).toNat | _ => 0) _ ⟨0, by omega, by simp, by simp, by simp, rfl, by simp [okC]⟩ ?_
  rintro ⟨T, H', nx'⟩ ⟨i, hi1, e0, e5, e6, rfl, hall⟩
  simp only at e0 e5 e6
  simp [e0, e5, e6]
  refine wB_of (fun hlt => ?_) (fun hlt => ?_)
  · simp at hlt
    have he := elem_cnt (l := l) (n := (i : Int)) (by omega) (by simpa using hlt)
    simp at he
    have hst := okF_step hlt
    have hidx := idx_lt hlt
    by_cases c1 : l[i].n < 1
    · simp [ledger_ValidC_j1, e0, e5, e6, he, c1]
      exact wF_of ⟨by simp [hall, hst, show ¬ 1 ≤ l[i].n by omega], rfl⟩
    · by_cases c2 : l[i].n > 281474976710656
      · simp [ledger_ValidC_j1, e0, e5, e6, he, c1, c2]
        exact wF_of ⟨by simp [hall, hst, show ¬ l[i].n ≤ 281474976710656 by omega], rfl⟩
      · simp [ledger_ValidC_j1, e0, e5, e6, he, c1, c2]
        refine wCall_eq (Q := fun r => r = .int .i64 (idx l l[i].tag)) (hx l l[i].tag hlen _ _) fun r n1 hr hn1 => ?_
        subst hr
        by_cases hd : idx l l[i].tag < (i : Int)
        · simp [e6, hd]
          rw [decide_eq_true hd] at hidx
          have hall2 : ((l.take i).all fun d => decide (d.tag ≠ l[i].tag)) = false := by simpa using hidx.symm
          rw [hall2] at hst
          exact wF_of ⟨by simp [hall, hst], rfl⟩
        · simp [e6, hd]
          rw [decide_eq_false hd] at hidx
          have hall2 : ((l.take i).all fun d => decide (d.tag ≠ l[i].tag)) = true := by simpa using hidx.symm
          rw [hall2] at hst
          rw [w64 (x := (i : Int) + 1) (by omega) (by omega)]
          refine kLoop_nrm _ _ _ _ (Sub_refl _ _) ⟨i + 1, by omega, by simp [e0], by simp [e5], by simp, rfl, ?_⟩ (by simp; omega)
          rw [hall, hst]
          simp [show 1 ≤ l[i].n by omega, show l[i].n ≤ 281474976710656 by omega]
  · simp at hlt
    rw [drop_all hlt] at hall
    exact wF_of ⟨by simp [hall, okF], rfl⟩
/-- the references' -/
theorem rvalidC_ok {P : Program} {f : Nat} (hc : compFn P f = some (41, ref26_CountsOkC, [.t 2])) : CValOK P f := by
  intro l hlen H nx
  refine PCalls_of hc (by simp) fun hw => ?_
  have hmx : (maxLen : Int) = 9223372036854775807 := rfl
  simp [ref26_CountsOkC]
  refine wpc_loop _ _ _ _ _ _ (fun s => ∃ i : Nat, i ≤ l.length ∧ s.t 0 = deep (l.map Cnt.v) ∧ s.t 3 = .int .i64 i ∧ s.H = H ∧ okC l = okF (l.take i) (l.drop i))
    (fun s => match s.t 3 with | .int _ i => (l.length - i).toNat | _ => 0) _ ⟨0, by omega, by simp, by simp, rfl, by simp [okC]⟩ ?_
  rintro ⟨T, H', nx'⟩ ⟨i, hi1, e0, e3, rfl, hall⟩
  simp only at e0 e3
  simp [e0, e3]
  refine wB_of (fun hlt => ?_) (fun hlt => ?_)
  · simp at hlt
    have he := elem_cnt (l := l) (n := (i : Int)) (by omega) (by simpa using hlt)
    simp at he
    have hst := okF_step hlt
    by_cases c1 : l[i].n < 1
    · simp [ref26_CountsOkC_j3, e0, e3, he, c1]
      exact wF_of ⟨by simp [hall, hst, show ¬ 1 ≤ l[i].n by omega], rfl⟩
    · by_cases c2 : l[i].n > 281474976710656
      · simp [ref26_CountsOkC_j3, e0, e3, he, c1, c2]
        exact wF_of ⟨by simp [hall, hst, show ¬ l[i].n ≤ 281474976710656 by omega], rfl⟩
      · simp [ref26_CountsOkC_j3, ref26_CountsOkC_j2, e0, e3, he, c1, c2]
        refine wpc_loop _ _ _ _ _ _ (fun s => ∃ j : Nat, j ≤ i ∧ s.t 0 = deep (l.map Cnt.v) ∧ s.t 3 = .int .i64 i ∧ s.t 4 = .int .i64 j ∧ s.H = H' ∧ ∀ k, k < j → ∀ d, l[k]? = some d → d.tag ≠ l[i].tag)
          (fun s => match s.t 4 with | .int _ j => (i - j).toNat | _ => 0) _ ⟨0, by omega, by simp [e0], by simp [e3], by simp, rfl, fun k hk => by omega⟩ ?_
        rintro ⟨T2, H2, nx2⟩ ⟨j, hj1, f0, f3, f4, rfl, hno⟩
        simp only at f0 f3 f4
        simp [f0, f3, f4]
        refine wB_of (fun hjt => ?_) (fun hjt => ?_)
        · simp at hjt
          have hjl : j < l.length := by omega
          have hej := elem_cnt (l := l) (n := (j : Int)) (by omega) (by simpa using hjl)
          simp at hej
          simp [ref26_CountsOkC_j1, f0, f3, f4, he, hej, -List.reduceReplicate]
          refine wB_of (fun h => ?_) (fun h => ?_)
          · simp at h
            have hall2 : ((l.take i).all fun d => decide (d.tag ≠ l[i].tag)) = false := by
              rw [List.all_eq_false]
              exact ⟨l[j], List.mem_of_getElem? (by rw [List.getElem?_take, if_pos hjt]; exact List.getElem?_eq_getElem hjl : (l.take i)[j]? = some l[j]), by simp [h]⟩
            rw [hall2] at hst
            exact wF_of ⟨by simp [hall, hst], rfl⟩
          · simp at h
            try simp [f4]
            rw [w64 (x := (j : Int) + 1) (by omega) (by omega)]
            refine kLoop_nrm _ _ _ _ (Sub_refl _ _) ⟨j + 1, by omega, by simp [f0], by simp [f3], by simp, rfl, fun k hk d hd => ?_⟩ (by simp; omega)
            by_cases hkj : k < j
            · exact hno k hkj d hd
            · obtain rfl : k = j := by omega
              rw [List.getElem?_eq_getElem hjl] at hd
              obtain rfl := Option.some.inj hd
              exact h
        · simp at hjt
          have hall2 : ((l.take i).all fun d => decide (d.tag ≠ l[i].tag)) = true := by
            rw [List.all_eq_true]
            intro d hd
            obtain ⟨k, hk⟩ := List.getElem?_of_mem hd
            rw [List.getElem?_take] at hk
            split at hk
            · rename_i hki; simpa using hno k (by omega) d hk
            · cases hk
          rw [hall2] at hst
          try simp [f3]
          rw [w64 (x := (i : Int) + 1) (by omega) (by omega)]
          refine kLoop_nrm _ _ _ _ (Sub_refl _ _) ⟨i + 1, by omega, by simp [f0], by simp, rfl, ?_⟩ (by simp; omega)
          rw [hall, hst]
          simp [show 1 ≤ l[i].n by omega, show l[i].n ≤ 281474976710656 by omega]
  · simp at hlt
    rw [drop_all hlt] at hall
    exact wF_of ⟨by simp [hall, okF], rfl⟩
end Go.PE
namespace Go.PE
open Go
theorem drop_eq {α : Type} {la lb : List α} {i : Nat} (ha : i < la.length) (hb : i < lb.length) : (la.drop i = lb.drop i) ↔ (la[i] = lb[i] ∧ la.drop (i + 1) = lb.drop (i + 1)) := by
  rw [List.drop_eq_getElem_cons ha, List.drop_eq_getElem_cons hb, List.cons.injEq]
def SameCOK (P : Program) (f : Nat) : Prop := ∀ (la lb : List Cnt), la.length ≤ maxLen → lb.length ≤ maxLen → ∀ (H : Nat → Option (List Value)) (nx : Nat),
    PCalls P f [deep (la.map Cnt.v), deep (lb.map Cnt.v)] H nx (fun _ => False) (fun r H' _ => r = .bool (decide (la = lb)) ∧ H' = H)
theorem sameC_ok {P : Program} {f : Nat} (hc : compFn P f = some (26, ref26_SameCountsC, [.t 4])) : SameCOK P f := by
  intro la lb hla hlb H nx
  refine PCalls_of hc (by simp) fun hw => ?_
  have hmx : (maxLen : Int) = 9223372036854775807 := rfl
  simp [ref26_SameCountsC]
  refine wB_of (fun h => ?_) (fun h => ?_)
  · simp at h
    exact wF_of ⟨by simp; intro e; rw [e] at h; exact h rfl, rfl⟩
  simp at h
  simp [ref26_SameCountsC_j2]
  refine wpc_loop _ _ _ _ _ _ (fun s => ∃ i : Nat, i ≤ la.length ∧ s.t 0 = deep (la.map Cnt.v) ∧ s.t 1 = deep (lb.map Cnt.v) ∧ s.t 5 = .int .i64 i ∧ s.H = H ∧ (la = lb ↔ la.drop i = lb.drop i))
    (fun s => match s.t 5 with | .int _ i => (la.length - i).toNat | _ => 0) _ ⟨0, by omega, by simp, by simp, by simp, rfl, by simp⟩ ?_
  rintro ⟨T, H', nx'⟩ ⟨i, hi1, e0, e1, e5, rfl, hall⟩
  simp only at e0 e1 e5
  simp [e0, e1, e5]
  refine wB_of (fun hlt => ?_) (fun hlt => ?_)
  · simp at hlt
    have hlt' : i < lb.length := by omega
    have he := elem_cnt (l := la) (n := (i : Int)) (by omega) (by simpa using hlt)
    have he' := elem_cnt (l := lb) (n := (i : Int)) (by omega) (by simpa using hlt')
    simp at he he'
    simp [ref26_SameCountsC_j1, e0, e1, e5, he, he', -List.reduceReplicate]
    have hst := drop_eq hlt hlt'
    refine wB_of (fun h => ?_) (fun h => ?_)
    · simp at h
      refine wF_of ⟨by simp [hall, hst, h], rfl⟩
    · simp at h
      try simp [e5]
      rw [w64 (x := (i : Int) + 1) (by omega) (by omega)]
      refine kLoop_nrm _ _ _ _ (Sub_refl _ _) ⟨i + 1, by omega, by simp [e0], by simp [e1], by simp, rfl, ?_⟩ (by simp; omega)
      rw [hall, hst]; simp [h]
  · simp at hlt
    refine wF_of ⟨?_, rfl⟩
    rw [drop_all hlt, drop_all (by omega)] at hall
    simp [hall]
def SameTOK (P : Program) (f : Nat) : Prop := ∀ (la lb : List Tag), la.length ≤ maxLen → lb.length ≤ maxLen → ∀ (H : Nat → Option (List Value)) (nx : Nat),
    PCalls P f [deep (la.map Tag.v), deep (lb.map Tag.v)] H nx (fun _ => False) (fun r H' _ => r = .bool (decide (la = lb)) ∧ H' = H)
theorem sameT_ok {P : Program} {f : Nat} (hc : compFn P f = some (26, ref01_SameTagsC, [.t 4])) : SameTOK P f := by
  intro la lb hla hlb H nx
  refine PCalls_of hc (by simp) fun hw => ?_
  have hmx : (maxLen : Int) = 9223372036854775807 := rfl
  simp [ref01_SameTagsC]
  refine wB_of (fun h => ?_) (fun h => ?_)
  · simp at h
    exact wF_of ⟨by simp; intro e; rw [e] at h; exact h rfl, rfl⟩
  simp at h
  simp [ref01_SameTagsC_j2]
  refine wpc_loop _ _ _ _ _ _ (fun s => ∃ i : Nat, i ≤ la.length ∧ s.t 0 = deep (la.map Tag.v) ∧ s.t 1 = deep (lb.map Tag.v) ∧ s.t 5 = .int .i64 i ∧ s.H = H ∧ (la = lb ↔ la.drop i = lb.drop i))
    (fun s => match s.t 5 with | .int _ i => (la.length - i).toNat | _ => 0) _ ⟨0, by omega, by simp, by simp, by simp, rfl, by simp⟩ ?_
  rintro ⟨T, H', nx'⟩ ⟨i, hi1, e0, e1, e5, rfl, hall⟩
  simp only at e0 e1 e5
  simp [e0, e1, e5]
  refine wB_of (fun hlt => ?_) (fun hlt => ?_)
  · simp at hlt
    have hlt' : i < lb.length := by omega
    have he := elem_tag (l := la) (n := (i : Int)) (by omega) (by simpa using hlt)
    have he' := elem_tag (l := lb) (n := (i : Int)) (by omega) (by simpa using hlt')
    simp at he he'
    simp [ref01_SameTagsC_j1, e0, e1, e5, he, he', -List.reduceReplicate]
    have hst := drop_eq hlt hlt'
    refine wB_of (fun h => ?_) (fun h => ?_)
    · simp at h
      refine wF_of ⟨by simp [hall, hst, h], rfl⟩
    · simp at h
      try simp [e5]
      rw [w64 (x := (i : Int) + 1) (by omega) (by omega)]
      refine kLoop_nrm _ _ _ _ (Sub_refl _ _) ⟨i + 1, by omega, by simp [e0], by simp [e1], by simp, rfl, ?_⟩ (by simp; omega)
      rw [hall, hst]; simp [h]
  · simp at hlt
    refine wF_of ⟨?_, rfl⟩
    rw [drop_all hlt, drop_all (by omega)] at hall
    simp [hall]
end Go.PE
namespace Go.PE
open Go
def cntEl : El Cnt := ⟨Cnt.cells, Cnt.v, 33, fun _ => rfl, Cnt.len, Cnt.dg1s⟩
def bump : List Cnt → Tag → List Cnt
  | [], t => [⟨t, 1⟩]
  | c :: r, t => if c.tag = t then ⟨c.tag, c.n + 1⟩ :: r else c :: bump r t
def addV (l : List Cnt) (ns : List Tag) : List Cnt := ns.foldl bump l
def over (l : List Cnt) : Bool := l.any fun c => decide (281474976710656 < c.n)
theorem bump_len (t : Tag) : ∀ l : List Cnt, (bump l t).length ≤ l.length + 1 ∧ l.length ≤ (bump l t).length
  | [] => by simp [bump]
  | c :: r => by
    have := bump_len t r
    unfold bump; split
    · simp
    · simp; omega
theorem bump_new {t : Tag} : ∀ {l : List Cnt}, (∀ c ∈ l, c.tag ≠ t) → bump l t = l ++ [⟨t, 1⟩]
  | [], _ => rfl
  | c :: r, h => by
    unfold bump
    rw [if_neg (h c (by simp)), bump_new fun d hd => h d (by simp [hd])]; rfl
theorem bump_old {t : Tag} : ∀ {l : List Cnt} {j : Nat} {c : Cnt}, l[j]? = some c → c.tag = t → (∀ k, k < j → ∀ d, l[k]? = some d → d.tag ≠ t) → bump l t = l.set j ⟨c.tag, c.n + 1⟩
  | [], j, c, h, _, _ => by simp at h
  | d :: r, 0, c, h, h2, _ => by
    simp at h; subst h
    unfold bump; rw [if_pos h2]; rfl
  | d :: r, j + 1, c, h, h2, h3 => by
    unfold bump; rw [if_neg (h3 0 (by omega) d rfl), List.set_cons_succ, bump_old (by simpa using h) h2 fun k hk e he => h3 (k + 1) (by omega) e (by simpa using he)]
theorem over_cons (c : Cnt) (r : List Cnt) : over (c :: r) = (decide (281474976710656 < c.n) || over r) := rfl
theorem over_bump (t : Tag) : ∀ l : List Cnt, over l = true → over (bump l t) = true
  | [], h => by simp [over] at h
  | c :: r, h => by
    have ih := over_bump t r
    rw [over_cons, Bool.or_eq_true, decide_eq_true_eq] at h
    unfold bump
    split
    · rw [over_cons, Bool.or_eq_true, decide_eq_true_eq]
      exact h.imp (fun h => by show _ < c.n + 1; omega) id
    · rw [over_cons, Bool.or_eq_true, decide_eq_true_eq]
      exact h.imp id ih
theorem over_add : ∀ (ns : List Tag) (l : List Cnt), over l = true → over (addV l ns) = true
  | [], _, h => h
  | t :: r, l, h => over_add r _ (over_bump t l h)
theorem addV_len : ∀ (ns : List Tag) (l : List Cnt), (addV l ns).length ≤ l.length + ns.length
  | [], l => by simp [addV]
  | t :: r, l => by
    have := addV_len r (bump l t)
    have := (bump_len t l).1
    simp [addV] at *; omega
def addR (l : List Cnt) (ns' : List Tag) (v : Value) : Prop :=
  if okC l then if over (addV l ns') then v = tup [ns [], .int .i64 1] else ∃ v', (v' = ns [] ∧ addV l ns' = [] ∨ v' = deep ((addV l ns').map Cnt.v)) ∧ v = tup [v', .int .i64 0]
  else v = tup [ns [], .int .i64 5]
/-- within the limit -/
def small (l : List Cnt) : Prop := ∀ c ∈ l, 1 ≤ c.n ∧ c.n ≤ 281474976710656
theorem okF_small : ∀ {l pre : List Cnt}, okF pre l = true → small l
  | [], _, _ => fun c hc => by simp at hc
  | c :: r, pre, h => by
    unfold okF at h
    simp only [Bool.and_eq_true, decide_eq_true_eq] at h
    intro d hd
    rcases List.mem_cons.1 hd with rfl | hd
    · exact ⟨h.1.1.1, h.1.1.2⟩
    · exact okF_small h.2 d hd
theorem over_small {l : List Cnt} (h : small l) : over l = false := by
  rw [over, List.any_eq_false]
  intro c hc
  have := (h c hc).2
  simpa using this
def AddOK (P : Program) (f : Nat) : Prop := ∀ (l : List Cnt) (ns : List Tag), (l.length + ns.length) * 40 ≤ 140737488355328 → ∀ (H : Nat → Option (List Value)) (nx : Nat),
    PCalls P f [deep (l.map Cnt.v), deep (ns.map Tag.v)] H nx (fun _ => False) (fun r H' _ => addR l ns r ∧ H' = H)
theorem add_ok {P : Program} {f x y t : Nat} (hc : compFnX P [t] f = some (60, ledger_Add_BC x y t, [.t 4, .t 5])) (hx : CValOK P x) (hy : IndexOK P y) : AddOK P f := by
  intro l ns' hlen H nx
  refine PCalls_ofX hc (by simp) fun hw => ?_
  have hmx : (maxLen : Int) = 9223372036854775807 := rfl
  simp [ledger_Add_BC]
  refine wCallB_of (wCall_eq (Q := fun r => r = .bool (okC l)) (hx l (by omega) _ _) fun r n1 hr hn1 => ?_)
  subst hr
  replace hn1 : nx ≤ n1 := hn1
  simp
  refine wB_of (fun h => ?_) (fun h => ?_)
  · simp at h
    exact wF_of ⟨by simp [addR, h], rfl⟩
  simp at h
  simp [ledger_Add_BC_j3]
  rw [w64 (x := (l.length : Int) + ns'.length) (by omega) (by omega)]
  refine ⟨by omega, by omega, by omega, ?_⟩
  have ec : ((l.length : Int) + ns'.length).toNat = l.length + ns'.length := by omega
  rw [ec]
  refine Bx.cpy (E := cntEl) (n0 := nx) (H0 := H) rfl ?hz (by simp [hn1]) hn1 (by simp) (upd_same _ _ _) (by omega) (by omega) fun H2 hB => ?_
  case hz => rfl
  replace hB : Bx cntEl nx H H2 (n1 + 1) _ l := hB
  simp
  refine wpc_loop _ _ _ _ _ _ (fun s => ∃ i : Nat, i ≤ ns'.length ∧ s.t 1 = deep (ns'.map Tag.v) ∧ s.t 24 = .int .i64 ns'.length ∧ s.t 25 = .int .i64 i ∧ ∃ m : List Cnt, Bx cntEl nx H s.H s.nx (s.t 6) m ∧ m.length ≤ l.length + i ∧ small m ∧ addV l ns' = addV m (ns'.drop i))
    (fun s => match s.t 25 with | .int _ i => (ns'.length - i).toNat | _ => 0) _ ⟨0, by omega, by simp, by simp, by simp, l, hB, by omega, okF_small h, by simp⟩ ?_
  rintro ⟨T, H', nx'⟩ ⟨i, hi1, e1, e24, e25, m, hB, hm, hsm, hall⟩
  simp only at e1 e24 e25 hB
  obtain ⟨v, e6⟩ : ∃ v, T 6 = v := ⟨_, rfl⟩
  rw [e6] at hB
  have hml : m.length ≤ maxLen := by omega
  simp [e1, e6, e24, e25]
  refine wB_of (fun hlt => ?_) (fun hlt => ?_)
  · simp at hlt
    have he := elem_tag (l := ns') (n := (i : Int)) (by omega) (by simpa using hlt)
    simp at he
    have hst : addV l ns' = addV (bump m ns'[i]) (ns'.drop (i + 1)) := by rw [hall, List.drop_eq_getElem_cons hlt]; rfl
    simp [ledger_Add_BC_j2, e1, e6, e24, e25, he, -List.reduceReplicate]
    refine Bx.call (E := cntEl) (m := m) hB (w := .int .i64 (idx m ns'[i])) hml rfl (fun H1 => (hy m ns'[i] hml H1 nx').mono fun p _ _ hp => hp.1) ?_
    rcases idx_cases m ns'[i] with ⟨h1, _, h3⟩ | ⟨j, c, h1, h2, h3, _, h5⟩
    · simp [h1, e1, e6, e24, e25, he, -List.reduceReplicate]
      refine Bx.app (E := cntEl) (l := [⟨ns'[i], 1⟩]) hB rfl rfl (by simp; omega) (by simp; omega) fun v' H3 nx3 hB3 => ?_
      simp [e1, e24, e25]
      rw [w64 (x := (i : Int) + 1) (by omega) (by omega)]
      refine kLoop_nrm _ _ _ _ (Sub_refl _ _) ⟨i + 1, by omega, by simp [e1], by simp [e24], by simp, m ++ [⟨ns'[i], 1⟩], by simpa using hB3, by simp; omega, ?_, ?_⟩ (by simp; omega)
      · intro d hd
        rcases List.mem_append.1 hd with hd | hd
        · exact hsm d hd
        · simp at hd; subst hd; simp
      · rw [hst, bump_new h3]
    · have hj : j < m.length := (List.getElem?_eq_some_iff.1 h2).1
      have hjc : m[j] = c := (List.getElem?_eq_some_iff.1 h2).2
      obtain ⟨k, cap, rest, rfl, a2, a3, a4, a5, a6, a7⟩ := hB.at (by omega)
      replace a4 : H' k = some (m.flatMap Cnt.cells ++ rest) := a4
      have hget := fl_get Cnt.cells 33 Cnt.len rest (i := j) (o := 32) hj (by omega)
      have hcs := hsm c (List.mem_of_getElem? h2)
      rw [hjc] at hget
      have h0 : ¬ (j : Int) < 0 := by omega
      have hrow : j * 33 + 32 + 1 ≤ (m.flatMap Cnt.cells ++ rest).length := by
        rw [List.length_append, fl_len Cnt.cells 33 Cnt.len]; omega
      have hset : Bx cntEl nx H (upd H' k (some ((m.flatMap Cnt.cells ++ rest).take (j * 33 + 32) ++ (.int .i64 (c.n + 1) :: (m.flatMap Cnt.cells ++ rest).drop (j * 33 + 32 + 1))))) nx' (slc k 0 m.length cap) (m.set j ⟨c.tag, c.n + 1⟩) := by
        refine Bx.set (E := cntEl) (o := 32) (vs := [.int .i64 (c.n + 1)]) (rest := rest) hB.own a2 a3 a5 a6 a7 hj (by simp [cntEl]) ?_ (by simp [cntEl])
        show Cnt.cells _ = _
        rw [hjc]
        show c.tag.cells ++ [.int .i64 (c.n + 1)] = (c.tag.cells ++ [Value.int .i64 c.n]).take 32 ++ [.int .i64 (c.n + 1)] ++ (c.tag.cells ++ [Value.int .i64 c.n]).drop 33
        rw [List.take_append_of_le_length (by simp), Tag.take32, List.drop_of_length_le (by simp)]; simp
      generalize hr : m.flatMap Cnt.cells ++ rest = row at a4 hget hrow hset
      have hg2 := fun x t => mid_get hrow x t
      simp [h1, h0, e1, e6, e24, e25, hj, a4, hget, ledger_Add_BC_j1, hrow, a2, hg2, -List.reduceReplicate]
      rw [w64 (x := c.n + 1) (by omega) (by omega)]
      have hb : bump m ns'[i] = m.set j ⟨c.tag, c.n + 1⟩ := bump_old h2 h3 h5
      refine wB_of (fun hg => ?_) (fun hg => ?_)
      · simp at hg
        refine wF_own hw (by simp [a2]; exact hB.own) ⟨?_, rfl⟩
        have hov : over (addV l ns') = true := by
          rw [hst, hb]
          refine over_add _ _ (List.any_eq_true.2 ⟨⟨c.tag, c.n + 1⟩, List.mem_set hj _, by simpa using hg⟩)
        simp [addR, h, hov]
      · simp at hg
        try simp [e25]
        rw [w64 (x := (i : Int) + 1) (by omega) (by omega)]
        refine kLoop_nrm _ _ _ _ (Sub_refl _ _) ⟨i + 1, by omega, by simp [e1], by simp [e24], by simp, m.set j ⟨c.tag, c.n + 1⟩, by simpa [e6] using hset, by simp; omega, ?_, ?_⟩ (by simp; omega)
        · intro d hd
          rcases List.mem_or_eq_of_mem_set hd with hd | rfl
          · exact hsm d hd
          · exact ⟨by show 1 ≤ c.n + 1; omega, hg⟩
        · rw [hst, hb]
  · simp at hlt
    have : i = ns'.length := by omega
    subst this
    have hall' : addV l ns' = m := by rw [hall, List.drop_length]; rfl
    refine Bx.fin (E := cntEl) hB hw fun v' hv' => ⟨?_, rfl⟩
    have hov := over_small hsm
    simp only [addR, h, hall', hov]
    exact ⟨v', hv', rfl⟩
end Go.PE
namespace Go.PE
open Go
/-- counts within 2^48 and i -/
def nearly (i : Nat) (l : List Cnt) : Prop := ∀ c ∈ l, 1 ≤ c.n ∧ c.n ≤ 281474976710656 + i
theorem nearly_bump {i : Nat} {t : Tag} : ∀ {l : List Cnt}, nearly i l → nearly (i + 1) (bump l t)
  | [], _ => fun d hd => by
    simp [bump] at hd; subst hd; simp; omega
  | c :: r, h => by
    have hc := h c (by simp)
    unfold bump; split
    · intro d hd
      rcases List.mem_cons.1 hd with rfl | hd
      · exact ⟨by show 1 ≤ c.n + 1; omega, by show c.n + 1 ≤ _; omega⟩
      · have := h d (by simp [hd]); omega
    · intro d hd
      rcases List.mem_cons.1 hd with rfl | hd
      · omega
      · exact nearly_bump (fun e he => h e (by simp [he])) d hd
def ridesIn (nx : Nat) (H : Nat → Option (List Value)) (ns' : List Tag) (i : Nat) (m : List Cnt) (tg : Tag) (s : PS) : Prop :=
  ∃ (j : Nat) (b : Bool) (mm : List Cnt), j ≤ m.length ∧ s.t 1 = deep (ns'.map Tag.v) ∧ s.t 7 = .int .i64 i ∧ s.t 9 = .int .i64 j ∧ s.t 8 = .bool b ∧ Bx cntEl nx H s.H s.nx (s.t 6) mm ∧ mm.length = m.length ∧
        (b = false → mm = m ∧ ∀ k, k < j → ∀ d, m[k]? = some d → d.tag ≠ tg) ∧ (b = true → mm = bump m tg)
theorem rides_core {P : Program} {f x t : Nat} (hc : compFnX P [t] f = some (74, ref26_AddRides_BC x t, [.t 4, .t 5])) (hx : CValOK P x)
    (l : List Cnt) (ns' : List Tag) (hlen : (l.length + ns'.length) * 40 ≤ 140737488355328) (H : Nat → Option (List Value)) (nx : Nat) (R : Post)
    (h5 : okC l = false → ∀ nx', R (tup [ns [], .int .i64 5]) H nx') (h1 : okC l = true → over (addV l ns') = true → ∀ nx', R (tup [ns [], .int .i64 1]) H nx')
    (hk : (∀ k, nx ≤ k → H k = none) → okC l = true → over (addV l ns') = false → ∀ v H' nx', Bx cntEl nx H H' nx' v (addV l ns') → wF (some [v, .int .i64 0]) nx R H' nx') :
    PCalls P f [deep (l.map Cnt.v), deep (ns'.map Tag.v)] H nx (fun _ => False) R := by
  refine PCalls_ofX hc (by simp) fun hw => ?_
  have hmx : (maxLen : Int) = 9223372036854775807 := rfl
  simp [ref26_AddRides_BC]
  refine wCallB_of (wCall_eq (Q := fun r => r = .bool (okC l)) (hx l (by omega) _ _) fun r n1 hr hn1 => ?_)
  subst hr
  replace hn1 : nx ≤ n1 := hn1
  simp
  refine wB_of (fun h => ?_) (fun h => ?_)
  · simp at h
    exact wF_of (h5 h _)
  simp at h
  simp [ref26_AddRides_BC_j6]
  refine Bx.app (E := cntEl) (m := []) (l := l) (n0 := nx) (H0 := H) (Bx.nil (own_refl _ _) hn1) rfl rfl (by simp; omega) (by simp; omega) fun v0 H2 nx2 hB => ?_
  simp
  rw [List.nil_append] at hB
  refine wpc_loop _ _ _ _ _ _ (fun s => ∃ i : Nat, i ≤ ns'.length ∧ s.t 1 = deep (ns'.map Tag.v) ∧ s.t 7 = .int .i64 i ∧ ∃ m : List Cnt, Bx cntEl nx H s.H s.nx (s.t 6) m ∧ m.length ≤ l.length + i ∧ nearly i m ∧ addV l ns' = addV m (ns'.drop i))
    (fun s => match s.t 7 with | .int _ i => (ns'.length - i).toNat | _ => 0) _ ⟨0, by omega, by simp, by simp, l, by simpa using hB, by omega, fun c hc => by have := okF_small h c hc; simpa using this, by simp⟩ ?_
  rintro ⟨T, H', nx'⟩ ⟨i, hi1, e1, e7, m, hB, hm, hsm, hall⟩
  simp only at e1 e7 hB
  obtain ⟨v, e6⟩ : ∃ v, T 6 = v := ⟨_, rfl⟩
  rw [e6] at hB
  have hml : m.length ≤ maxLen := by omega
  simp [e1, e6, e7]
  refine wB_of (fun hlt => ?_) (fun hlt => ?_)
  · simp at hlt
    have he := elem_tag (l := ns') (n := (i : Int)) (by omega) (by simpa using hlt)
    simp at he
    have hst : addV l ns' = addV (bump m ns'[i]) (ns'.drop (i + 1)) := by rw [hall, List.drop_eq_getElem_cons hlt]; rfl
    simp [ref26_AddRides_BC_j3]
    refine wpc_loop _ _ _ _ _ _ (fun s => ridesIn nx H ns' i m ns'[i] s)
      (fun s => match s.t 9 with | .int _ i => (m.length - i).toNat | _ => 0) _ ⟨0, false, m, by omega, by simp [e1], by simp [e7], by simp, by simp, by simpa [e6] using hB, rfl, by simp, by simp⟩ ?_
    clear hB
    rintro ⟨T', H', nx'⟩ ⟨j, b, mm, hj1, e1, e7, e9, e8, hB, hmm, hb0, hb1⟩
    simp only at e1 e7 e8 e9 hB
    obtain ⟨v, e6⟩ : ∃ v, T' 6 = v := ⟨_, rfl⟩
    rw [e6] at hB
    have hlv := hB.len
    by_cases hgo : j < m.length ∧ b = false
    · obtain ⟨hj, rfl⟩ := hgo
      obtain ⟨rfl, hk5⟩ := hb0 rfl
      obtain ⟨k, cap, rest, rfl, a2, a3, a4, a5, a6, a7⟩ := hB.at (by omega)
      replace a4 : H' k = some (mm.flatMap Cnt.cells ++ rest) := a4
      have hget := fl_get Cnt.cells 33 Cnt.len rest (i := j) (o := 32) hj (by omega)
      have hcut := fl_cut Cnt.cells 33 Cnt.len rest (i := j) (o := 0) (n := 32) hj (by omega)
      rw [Nat.add_zero, List.drop_zero, Cnt.take32] at hcut
      have hcs := hsm _ (List.getElem_mem hj)
      have hrow : j * 33 + 32 + 1 ≤ (mm.flatMap Cnt.cells ++ rest).length := by
        rw [List.length_append, fl_len Cnt.cells 33 Cnt.len]; omega
      have hset : Bx cntEl nx H (upd H' k (some ((mm.flatMap Cnt.cells ++ rest).take (j * 33 + 32) ++ (.int .i64 (mm[j].n + 1) :: (mm.flatMap Cnt.cells ++ rest).drop (j * 33 + 32 + 1))))) nx' (slc k 0 mm.length cap) (mm.set j ⟨mm[j].tag, mm[j].n + 1⟩) := by
        refine Bx.set (E := cntEl) (o := 32) (vs := [.int .i64 (mm[j].n + 1)]) (rest := rest) hB.own a2 a3 a5 a6 a7 hj (by simp [cntEl]) ?_ (by simp [cntEl])
        show mm[j].tag.cells ++ [.int .i64 (mm[j].n + 1)] = (mm[j].tag.cells ++ [Value.int .i64 mm[j].n]).take 32 ++ [.int .i64 (mm[j].n + 1)] ++ (mm[j].tag.cells ++ [Value.int .i64 mm[j].n]).drop 33
        rw [List.take_append_of_le_length (by simp), Tag.take32, List.drop_of_length_le (by simp)]; simp
      generalize hr : mm.flatMap Cnt.cells ++ rest = row at a4 hget hrow hset hcut
      replace hcut : List.take 32 (List.drop (j * 33) (List.map dg1 row)) = mm[j].tag.cells := by rw [← List.map_drop, ← List.map_take, hcut, Tag.dg1s]
      have hrow2 : j * 33 + 32 ≤ row.length := by omega
      simp [e1, e6, e7, e8, e9, hj, ref26_AddRides_BC_j1, he, a4, hcut, hrow2, -List.reduceReplicate]
      refine wB_of (fun heq => ?_) (fun heq => ?_)
      · simp at heq
        simp [e1, e6, e7, e8, e9, hj, hget, hrow, a2, a4]
        rw [w64 (x := mm[j].n + 1) (by omega) (by omega)]
        rw [w64 (x := (j : Int) + 1) (by omega) (by omega)]
        have hb : bump mm ns'[i] = mm.set j ⟨mm[j].tag, mm[j].n + 1⟩ := bump_old (List.getElem?_eq_getElem hj) heq hk5
        refine kLoop_nrm _ _ _ _ (Sub_refl _ _) ⟨j + 1, true, _, by omega, by simp [e1], by simp [e7], by simp, by simp, by simpa [e6] using hset, by simp, by simp, fun _ => hb.symm⟩ (by simp; omega)
      · simp at heq
        try simp [e1, e6, e7, e8, e9]
        rw [w64 (x := (j : Int) + 1) (by omega) (by omega)]
        refine kLoop_nrm _ _ _ _ (Sub_refl _ _) ⟨j + 1, false, mm, by omega, by simp [e1], by simp [e7], by simp, by simp [e8], by simpa [e6] using hB, rfl, fun _ => ⟨rfl, ?_⟩, by simp⟩ (by simp; omega)
        intro k hk d hd
        rcases Nat.lt_or_ge k j with h | h
        · exact hk5 k h d hd
        · obtain rfl : k = j := by omega
          rw [List.getElem?_eq_getElem hj] at hd
          rw [← Option.some.inj hd]; exact heq
    · by_cases hb : b = true
      · subst hb
        have hmm' := hb1 rfl
        have hend : bump m ns'[i] = mm := hmm'.symm
        by_cases hj : j < m.length
        all_goals
          simp [e1, e6, e7, e8, e9, hj, hlv, hmm, ref26_AddRides_BC_j2]
          rw [w64 (x := (i : Int) + 1) (by omega) (by omega)]
          refine kLoop_nrm _ _ _ _ (Sub_refl _ _) ⟨i + 1, by omega, by simp [e1], by simp, mm, by simpa [e6] using hB, by omega, by rw [← hend]; exact nearly_bump hsm, by rw [hst, hend]⟩ (by simp; omega)
      · have hbf : b = false := by simpa using hb
        subst hbf
        obtain ⟨rfl, hk5⟩ := hb0 rfl
        have hj : ¬ j < mm.length := fun h => hgo ⟨h, rfl⟩
        simp [e1, e6, e7, e8, e9, hj, hlv, ref26_AddRides_BC_j2, he, -List.reduceReplicate]
        refine Bx.app (E := cntEl) (l := [⟨ns'[i], 1⟩]) hB rfl rfl (by simp; omega) (by simp; omega) fun v' H3 nx3 hB3 => ?_
        simp [e1, e7]
        rw [w64 (x := (i : Int) + 1) (by omega) (by omega)]
        have hnew : bump mm ns'[i] = mm ++ [⟨ns'[i], 1⟩] := bump_new fun c hc => by
          obtain ⟨k, hk, rfl⟩ := List.getElem_of_mem hc
          exact hk5 k (by omega) _ (List.getElem?_eq_getElem hk)
        refine kLoop_nrm _ _ _ _ (Sub_refl _ _) ⟨i + 1, by omega, by simp [e1], by simp, _, by simpa using hB3, by simp; omega, ?_, ?_⟩ (by simp; omega)
        · rw [← hnew]; exact nearly_bump hsm
        · rw [hst, hnew]
  · simp at hlt
    have : i = ns'.length := by omega
    subst this
    have hall' : addV l ns' = m := by rw [hall, List.drop_length]; rfl
    simp [ref26_AddRides_BC_j5]
    refine wpc_loop _ _ _ _ _ _ (fun s => ∃ j : Nat, j ≤ m.length ∧ s.t 10 = .int .i64 j ∧ Bx cntEl nx H s.H s.nx (s.t 6) m ∧ ∀ k, k < j → ∀ d, m[k]? = some d → d.n ≤ 281474976710656)
      (fun s => match s.t 10 with | .int _ i => (m.length - i).toNat | _ => 0) _ ⟨0, by omega, by simp, by simpa [e6] using hB, by simp⟩ ?_
    clear hB
    rintro ⟨T', H', nx'⟩ ⟨j, hj1, e10, hB, hk5⟩
    simp only at e10 hB
    obtain ⟨v, e6⟩ : ∃ v, T' 6 = v := ⟨_, rfl⟩
    rw [e6] at hB
    have hlv := hB.len
    simp [e6, e10, hlv]
    refine wB_of (fun hj => ?_) (fun hj => ?_)
    · simp at hj
      obtain ⟨k, cap, rest, rfl, a2, a3, a4, a5, a6, a7⟩ := hB.at (by omega)
      replace a4 : H' k = some (m.flatMap Cnt.cells ++ rest) := a4
      have hget := fl_get Cnt.cells 33 Cnt.len rest (i := j) (o := 32) hj (by omega)
      generalize hr : m.flatMap Cnt.cells ++ rest = row at a4 hget
      simp [e6, e10, hj, ref26_AddRides_BC_j4, a4, hget]
      refine wB_of (fun hg => ?_) (fun hg => ?_)
      · simp at hg
        refine wF_own hw (by exact hB.own) (h1 h ?_ _)
        rw [hall']
        exact List.any_eq_true.2 ⟨m[j], List.getElem_mem hj, by simpa using hg⟩
      · simp at hg
        try simp [e10]
        rw [w64 (x := (j : Int) + 1) (by omega) (by omega)]
        refine kLoop_nrm _ _ _ _ (Sub_refl _ _) ⟨j + 1, by omega, by simp, by simpa [e6] using hB, ?_⟩ (by simp; omega)
        intro k hk d hd
        rcases Nat.lt_or_ge k j with h | h
        · exact hk5 k h d hd
        · obtain rfl : k = j := by omega
          rw [List.getElem?_eq_getElem hj] at hd
          rw [← Option.some.inj hd]; exact hg
    · simp at hj
      have hov : over (addV l ns') = false := by
        rw [hall', over, List.any_eq_false]
        intro c hc
        obtain ⟨k, hk, rfl⟩ := List.getElem_of_mem hc
        have := hk5 k (by omega) _ (List.getElem?_eq_getElem hk)
        simpa using this
      try simp [e6]
      exact hk hw h hov _ _ _ (by rw [hall']; exact hB)
theorem radd_ok {P : Program} {f x t : Nat} (hc : compFnX P [t] f = some (74, ref26_AddRides_BC x t, [.t 4, .t 5])) (hx : CValOK P x) : AddOK P f := by
  intro l ns' hlen H nx
  refine rides_core hc hx l ns' hlen H nx _ (fun h n => ⟨by simp [addR, h], rfl⟩) (fun h h2 n => ⟨by simp [addR, h, h2], rfl⟩) fun hw h h2 v H' nx' hB => ?_
  refine Bx.fin (E := cntEl) hB hw fun v' hv' => ⟨?_, rfl⟩
  simp only [addR, h, h2]
  exact ⟨v', hv', rfl⟩
end Go.PE
namespace Go.PE
open Go
structure Cav where
  third : Bool
  p : Pred
  party : Int
  tk : List Int
  bx : List Int
def bytesV (l : List Int) : Value := deep (l.map (.int .u8))
def Cav.cells (c : Cav) : List Value := .bool c.third :: c.p.cells ++ [.int .i64 c.party, bytesV c.tk, bytesV c.bx]
def Cav.v (c : Cav) : Value := ag c.cells
@[simp] theorem dg1_bytesV (l : List Int) : dg1 (bytesV l) = bytesV l := _root_.id rfl
@[simp] theorem dg_bytesV (l : List Int) : dg (bytesV l) = bytesV l := _root_.id rfl
@[simp] theorem Cav.len (c : Cav) : c.cells.length = 10 := by simp [Cav.cells, Pred.cells]
@[simp] theorem Cav.dg1s (c : Cav) : c.cells.map dg1 = c.cells := by simp [Cav.cells, Pred.cells]
@[simp] theorem Cav.dgv (c : Cav) : dg c.v = c.v := _root_.id rfl
@[simp] theorem Cav.cellsOf (c : Cav) : PE.cellsOf c.v = some c.cells := _root_.id rfl
@[simp] theorem Cav.lcv (c : Cav) : lc c.v = c.cells := _root_.id rfl
@[simp] theorem Cav.take10 (c : Cav) : c.cells.take 10 = c.cells := List.take_of_length_le (by simp)
@[simp] theorem Cav.get0 (c : Cav) : c.cells[0]? = some (.bool c.third) := _root_.id rfl
@[simp] theorem Cav.get1 (c : Cav) : c.cells[1]? = some (.int .i64 c.p.kind) := _root_.id rfl
@[simp] theorem Cav.get6 (c : Cav) : c.cells[6]? = some (.int .i64 c.p.num) := _root_.id rfl
theorem getE_of {l : List Value} {i : Nat} {v : Value} (h : l[i]? = some v) (hi : i < l.length) : l[i] = v := by
  rw [List.getElem?_eq_getElem hi] at h; exact Option.some.inj h
@[simp] theorem Cav.getE0 (c : Cav) (h : 0 < c.cells.length) : c.cells[0] = .bool c.third := _root_.id rfl
@[simp] theorem Cav.getE1 (c : Cav) (h : 1 < c.cells.length) : c.cells[1] = .int .i64 c.p.kind := _root_.id rfl
@[simp] theorem Cav.getE6 (c : Cav) (h : 6 < c.cells.length) : c.cells[6] = .int .i64 c.p.num := _root_.id rfl
structure Bun where
  g : Int
  n : Int
  e : Int
  s : Int
  cavs : List Cav
  proof : Tag
  dis : List Value
def Bun.cells (b : Bun) : List Value := [.int .i64 b.g, .int .i64 b.n, .int .i64 b.e, .int .i64 b.s, deep (b.cavs.map Cav.v)] ++ b.proof.cells ++ [deep b.dis]
def Bun.v (b : Bun) : Value := ag b.cells
@[simp] theorem Bun.len (b : Bun) : b.cells.length = 38 := by simp [Bun.cells]
@[simp] theorem Bun.dg1s (b : Bun) : b.cells.map dg1 = b.cells := by simp [Bun.cells]
@[simp] theorem Bun.dgv (b : Bun) : dg b.v = b.v := _root_.id rfl
@[simp] theorem Bun.cellsOf (b : Bun) : PE.cellsOf b.v = some b.cells := _root_.id rfl
@[simp] theorem Bun.take38 (b : Bun) : b.cells.take 38 = b.cells := List.take_of_length_le (by simp)
@[simp] theorem Bun.get4 (b : Bun) : b.cells[4]? = some (deep (b.cavs.map Cav.v)) := _root_.id rfl
@[simp] theorem Bun.getE4 (b : Bun) (h : 4 < b.cells.length) : b.cells[4] = deep (b.cavs.map Cav.v) := _root_.id rfl
theorem Bun.ag (b : Bun) : PE.ag b.cells = b.v := rfl
theorem elem_cav {l : List Cav} {n : Int} (h0 : 0 ≤ n) (hn : n.toNat < l.length) : elemAt (l.map Cav.v) n 10 = some (dptr 0 l[n.toNat].cells) := elemAt_map h0 hn rfl (by simp)
def limF : List Cav → Nat → List Int
  | [], _ => []
  | c :: r, i => if c.third = false ∧ c.p.kind = 7 then ((i : Int) + 1) :: limF r (i + 1) else limF r (i + 1)
def limV (l : List Cav) : List Int := limF l 0
theorem limF_step {l : List Cav} {i : Nat} (hi : i < l.length) : limF (l.drop i) i = (if l[i].third = false ∧ l[i].p.kind = 7 then [(i : Int) + 1] else []) ++ limF (l.drop (i + 1)) (i + 1) := by
  rw [List.drop_eq_getElem_cons hi]; simp only [limF]; split <;> simp
theorem limF_mem : ∀ {l : List Cav} {i : Nat} {x : Int}, x ∈ limF l i → (i : Int) + 1 ≤ x ∧ x ≤ i + l.length
  | [], _, _, h => by simp [limF] at h
  | c :: r, i, x, h => by
    unfold limF at h
    have ih := fun hx => limF_mem (l := r) (i := i + 1) (x := x) hx
    simp only [List.length_cons]
    split at h
    · rcases List.mem_cons.1 h with rfl | h
      · omega
      · have := ih h; omega
    · have := ih h; omega
theorem limF_len : ∀ (l : List Cav) (i : Nat), (limF l i).length ≤ l.length
  | [], _ => by simp [limF]
  | c :: r, i => by
    have := limF_len r (i + 1)
    unfold limF; split
    · simp; omega
    · simp; omega
def LimOK (P : Program) (f e : Nat) : Prop := ∀ (b : Bun), b.cavs.length ≤ 1000000 → ∀ (H : Nat → Option (List Value)) (nx : Nat),
    PCalls P f [b.v] H nx (fun _ => False) (fun r H' _ => r = lin e ((limV b.cavs).map (.int .i64)) ∧ H' = H)
theorem lim_ok {P : Program} {f t u : Nat} (hc : compFn P f = some (30, verify_LimitsC t u, [.t 2])) : LimOK P f t := by
  intro b hlen H nx
  refine PCalls_of hc (by simp) fun hw => ?_
  have hmx : (maxLen : Int) = 9223372036854775807 := rfl
  simp [verify_LimitsC]
  refine wpc_loop _ _ _ _ _ _ (fun s => ∃ i : Nat, i ≤ b.cavs.length ∧ s.t 7 = deep (b.cavs.map Cav.v) ∧ s.t 8 = .int .i64 b.cavs.length ∧ s.t 9 = .int .i64 i ∧ nx ≤ s.nx ∧ Own nx H s.H ∧ ∃ acc : List Int, s.t 3 = lin t (acc.map (.int .i64)) ∧ acc.length ≤ i ∧ limV b.cavs = acc ++ limF (b.cavs.drop i) i)
    (fun s => match s.t 9 with | .int _ i => (b.cavs.length - i).toNat | _ => 0) _ ⟨0, by omega, by simp, by simp, by simp, by simp, by simp, [], by simp, by simp, by simp [limV]⟩ ?_
  rintro ⟨T, H', nx'⟩ ⟨i, hi1, e7, e8, e9, hnx, hown, acc, e3, hacc, hall⟩
  simp only at e7 e8 e9 e3 hnx hown
  simp [e3, e7, e8, e9]
  refine wB_of (fun hlt => ?_) (fun hlt => ?_)
  · simp at hlt
    have he := elem_cav (l := b.cavs) (n := (i : Int)) (by omega) (by simpa using hlt)
    simp at he
    have hst := limF_step hlt
    by_cases hA : b.cavs[i].third = false ∧ b.cavs[i].p.kind = 7
    · rw [if_pos hA] at hst
      obtain ⟨h1, h2⟩ := hA
      simp [verify_LimitsC_j1, e3, e7, e8, e9, he, h1, h2, hnx]
      refine ⟨by omega, by omega, ?_⟩
      rw [w64 (x := (i : Int) + 1) (by omega) (by omega)]
      refine kLoop_nrm _ _ _ _ (Sub_refl _ _) ⟨i + 1, by omega, by simp [e7], by simp [e8], by simp, by simp; omega, by simpa [hnx] using hown, acc ++ [(i : Int) + 1], by simp, by simp; omega, by rw [hall, hst, List.append_assoc]⟩ (by simp; omega)
    · rw [if_neg hA] at hst
      cases h1 : b.cavs[i].third with
      | true =>
        simp [verify_LimitsC_j1, e3, e7, e8, e9, he, h1, hnx]
        rw [w64 (x := (i : Int) + 1) (by omega) (by omega)]
        refine kLoop_nrm _ _ _ _ (Sub_refl _ _) ⟨i + 1, by omega, by simp [e7], by simp [e8], by simp, by simp; omega, by simpa [hnx] using hown, acc, by simp [e3], by omega, by rw [hall, hst]; rfl⟩ (by simp; omega)
      | false =>
        have h2 : (b.cavs[i].p.kind == 7) = false := by simpa using fun h => hA ⟨h1, h⟩
        simp [verify_LimitsC_j1, e3, e7, e8, e9, he, h1, h2, hnx]
        rw [w64 (x := (i : Int) + 1) (by omega) (by omega)]
        refine kLoop_nrm _ _ _ _ (Sub_refl _ _) ⟨i + 1, by omega, by simp [e7], by simp [e8], by simp, by simp; omega, by simpa [hnx] using hown, acc, by simp [e3], by omega, by rw [hall, hst]; rfl⟩ (by simp; omega)
  · simp at hlt
    rw [drop_all hlt, limF, List.append_nil] at hall
    exact wF_own hw hown ⟨by rw [hall]; rfl, rfl⟩
theorem rlim_ok {P : Program} {f t : Nat} (hc : compFn P f = some (35, ref16_LimitsC t, [.t 2])) : LimOK P f t := by
  intro b hlen H nx
  refine PCalls_of hc (by simp) fun hw => ?_
  have hmx : (maxLen : Int) = 9223372036854775807 := rfl
  simp [ref16_LimitsC]
  refine wpc_loop _ _ _ _ _ _ (fun s => ∃ i : Nat, i ≤ b.cavs.length ∧ s.t 1 = ptr nx 0 ∧ s.t 4 = .int .i64 i ∧ s.H = upd H nx (some b.cells) ∧ ∃ acc : List Int, s.t 3 = lin t (acc.map (.int .i64)) ∧ acc.length ≤ i ∧ limV b.cavs = acc ++ limF (b.cavs.drop i) i)
    (fun s => match s.t 4 with | .int _ i => (b.cavs.length - i).toNat | _ => 0) _ ⟨0, by omega, by simp, by simp, rfl, [], by simp, by simp, by simp [limV]⟩ ?_
  rintro ⟨T, H', nx'⟩ ⟨i, hi1, e1, e4, rfl, acc, e3, hacc, hall⟩
  simp only at e1 e4 e3
  simp [e1, e3, e4]
  refine wB_of (fun hlt => ?_) (fun hlt => ?_)
  · simp at hlt
    have he := elem_cav (l := b.cavs) (n := (i : Int)) (by omega) (by simpa using hlt)
    simp at he
    have hst := limF_step hlt
    by_cases hA : b.cavs[i].third = false ∧ b.cavs[i].p.kind = 7
    · rw [if_pos hA] at hst
      obtain ⟨h1, h2⟩ := hA
      simp [ref16_LimitsC_j1, e1, e3, e4, he, h1, h2]
      refine ⟨by omega, by omega, ?_⟩
      rw [w64 (x := (i : Int) + 1) (by omega) (by omega)]
      refine kLoop_nrm _ _ _ _ (Sub_refl _ _) ⟨i + 1, by omega, by simp [e1], by simp, rfl, acc ++ [(i : Int) + 1], by simp, by simp; omega, by rw [hall, hst, List.append_assoc]⟩ (by simp; omega)
    · rw [if_neg hA] at hst
      cases h1 : b.cavs[i].third with
      | true =>
        simp [ref16_LimitsC_j1, e1, e3, e4, he, h1]
        rw [w64 (x := (i : Int) + 1) (by omega) (by omega)]
        refine kLoop_nrm _ _ _ _ (Sub_refl _ _) ⟨i + 1, by omega, by simp [e1], by simp, rfl, acc, by simp [e3], by omega, by rw [hall, hst]; rfl⟩ (by simp; omega)
      | false =>
        have h2 : (b.cavs[i].p.kind == 7) = false := by simpa using fun h => hA ⟨h1, h⟩
        simp [ref16_LimitsC_j1, e1, e3, e4, he, h1, h2]
        rw [w64 (x := (i : Int) + 1) (by omega) (by omega)]
        refine kLoop_nrm _ _ _ _ (Sub_refl _ _) ⟨i + 1, by omega, by simp [e1], by simp, rfl, acc, by simp [e3], by omega, by rw [hall, hst]; rfl⟩ (by simp; omega)
  · simp at hlt
    rw [drop_all hlt, limF, List.append_nil] at hall
    exact wF_own hw (by simp) ⟨by rw [hall]; rfl, rfl⟩
end Go.PE
namespace Go.PE
open Go
theorem elem_int {k : IntKind} {l : List Int} {n : Int} (h0 : 0 ≤ n) (hn : n.toNat < l.length) : elemAt (l.map (Value.int k)) n 1 = some (dptr 0 [.int k l[n.toNat]]) := elemAt_map h0 hn rfl rfl
def limdF (nodes : List Tag) (ls : List Int) : List Tag := ls.filterMap fun i => nodes[i.toNat]?
def limdV (b : Bun) (nodes : List Tag) : List Tag := limdF nodes (limV b.cavs)
theorem limdF_step {nodes : List Tag} {ls : List Int} {i : Nat} (hi : i < ls.length) : limdF nodes (ls.drop i) = (nodes[ls[i].toNat]?).toList ++ limdF nodes (ls.drop (i + 1)) := by
  rw [List.drop_eq_getElem_cons hi, limdF, List.filterMap_cons]
  cases nodes[ls[i].toNat]? <;> rfl
theorem limV_mem {l : List Cav} {x : Int} (h : x ∈ limV l) : 1 ≤ x ∧ x ≤ l.length := by
  have := limF_mem h; omega
def LimdOK (P : Program) (f e : Nat) : Prop := ∀ (b : Bun) (nodes : List Tag), b.cavs.length ≤ 1000000 → nodes.length ≤ maxLen → ∀ (H : Nat → Option (List Value)) (nx : Nat),
    PCalls P f [b.v, deep (nodes.map Tag.v)] H nx (fun _ => False) (fun r H' _ => r = lin e ((limdV b nodes).map Tag.v) ∧ H' = H)
theorem limd_ok {P : Program} {f t x u : Nat} (hc : compFn P f = some (28, ledger_LimitedC t x, [.t 4])) (hx : LimOK P x u) : LimdOK P f t := by
  intro b nodes hlen hnl H nx
  refine PCalls_of hc (by simp) fun hw => ?_
  have hmx : (maxLen : Int) = 9223372036854775807 := rfl
  have hll := limF_len b.cavs 0
  rw [← limV] at hll
  have hmem := fun (x : Int) (h : x ∈ limV b.cavs) => limV_mem h
  simp [ledger_LimitedC, Bun.ag]
  refine wCall_eq (Q := fun r => r = lin u ((limV b.cavs).map (.int .i64))) (hx b hlen _ _) fun r n1 hr hn1 => ?_
  subst hr
  replace hn1 : nx + 1 ≤ n1 := hn1
  generalize hls : limV b.cavs = ls at hll hmem
  have hv : limdV b nodes = limdF nodes ls := by rw [limdV, hls]
  simp
  refine wpc_loop _ _ _ _ _ _ (fun s => ∃ i : Nat, i ≤ ls.length ∧ s.t 1 = deep (nodes.map Tag.v) ∧ dg (s.t 9) = deep (ls.map (.int .i64)) ∧ s.t 10 = .int .i64 ls.length ∧ s.t 11 = .int .i64 i ∧ s.H = upd H nx (some b.cells) ∧ ∃ acc : List Tag, s.t 5 = lin t (acc.map Tag.v) ∧ acc.length ≤ i ∧ limdV b nodes = acc ++ limdF nodes (ls.drop i))
    (fun s => match s.t 11 with | .int _ i => (ls.length - i).toNat | _ => 0) _ ⟨0, by omega, by simp, by simp, by simp, by simp, rfl, [], by simp, by simp, by simp [hv]⟩ ?_
  rintro ⟨T, H', nx'⟩ ⟨i, hi1, e1, e9, e10, e11, rfl, acc, e5, hacc, hall⟩
  simp only at e1 e9 e10 e11 e5
  simp [e1, e5, e9, e10, e11]
  refine wB_of (fun hlt => ?_) (fun hlt => ?_)
  · simp at hlt
    have he := elem_int (k := .i64) (l := ls) (n := (i : Int)) (by omega) (by simpa using hlt)
    simp at he
    have hst := limdF_step (nodes := nodes) hlt
    have hm := hmem _ (List.getElem_mem hlt)
    by_cases hA : ls[i] < nodes.length
    · have hA' : ls[i].toNat < nodes.length := by omega
      have he2 := elem_tag (l := nodes) (n := ls[i]) (by omega) hA'
      rw [List.getElem?_eq_getElem hA'] at hst
      simp [ledger_LimitedC_j1, e1, e5, e9, e10, e11, he, hA, he2, -List.reduceReplicate]
      refine ⟨by omega, by omega, ?_⟩
      rw [w64 (x := (i : Int) + 1) (by omega) (by omega)]
      refine kLoop_nrm _ _ _ _ (Sub_refl _ _) ⟨i + 1, by omega, by simp [e1], by simp [e9], by simp [e10], by simp, rfl, acc ++ [nodes[ls[i].toNat]], by simp; rfl, by simp; omega, by rw [hall, hst, List.append_assoc]; rfl⟩ (by simp; omega)
    · rw [List.getElem?_eq_none (by omega)] at hst
      simp [ledger_LimitedC_j1, e1, e5, e9, e10, e11, he, hA, -List.reduceReplicate]
      rw [w64 (x := (i : Int) + 1) (by omega) (by omega)]
      refine kLoop_nrm _ _ _ _ (Sub_refl _ _) ⟨i + 1, by omega, by simp [e1], by simp [e9], by simp [e10], by simp, rfl, acc, by simp [e5], by omega, by rw [hall, hst]; rfl⟩ (by simp; omega)
  · simp at hlt
    rw [drop_all hlt, limdF, List.filterMap_nil, List.append_nil] at hall
    exact wF_own hw (by simp) ⟨by rw [hall]; rfl, rfl⟩
theorem rlimd_ok {P : Program} {f t x u : Nat} (hc : compFn P f = some (34, ref26_LimitedC t x, [.t 4])) (hx : LimOK P x u) : LimdOK P f t := by
  intro b nodes hlen hnl H nx
  refine PCalls_of hc (by simp) fun hw => ?_
  have hmx : (maxLen : Int) = 9223372036854775807 := rfl
  have hll := limF_len b.cavs 0
  rw [← limV] at hll
  have hmem := fun (x : Int) (h : x ∈ limV b.cavs) => limV_mem h
  simp [ref26_LimitedC, Bun.ag]
  refine wCall_eq (Q := fun r => r = lin u ((limV b.cavs).map (.int .i64))) (hx b hlen _ _) fun r n1 hr hn1 => ?_
  subst hr
  replace hn1 : nx + 1 ≤ n1 := hn1
  generalize hls : limV b.cavs = ls at hll hmem
  have hv : limdV b nodes = limdF nodes ls := by rw [limdV, hls]
  simp
  refine wpc_loop _ _ _ _ _ _ (fun s => ∃ i : Nat, i ≤ ls.length ∧ s.t 1 = deep (nodes.map Tag.v) ∧ dg (s.t 6) = deep (ls.map (.int .i64)) ∧ s.t 7 = .int .i64 i ∧ s.H = upd H nx (some b.cells) ∧ ∃ acc : List Tag, s.t 5 = lin t (acc.map Tag.v) ∧ acc.length ≤ i ∧ limdV b nodes = acc ++ limdF nodes (ls.drop i))
    (fun s => match s.t 7 with | .int _ i => (ls.length - i).toNat | _ => 0) _ ⟨0, by omega, by simp, by simp, by simp, rfl, [], by simp, by simp, by simp [hv]⟩ ?_
  rintro ⟨T, H', nx'⟩ ⟨i, hi1, e1, e6, e7, rfl, acc, e5, hacc, hall⟩
  simp only at e1 e6 e7 e5
  simp [e1, e5, e6, e7]
  refine wB_of (fun hlt => ?_) (fun hlt => ?_)
  · simp at hlt
    have he := elem_int (k := .i64) (l := ls) (n := (i : Int)) (by omega) (by simpa using hlt)
    simp at he
    have hst := limdF_step (nodes := nodes) hlt
    have hm := hmem _ (List.getElem_mem hlt)
    by_cases hA : ls[i] < nodes.length
    · have hA' : ls[i].toNat < nodes.length := by omega
      have he2 := elem_tag (l := nodes) (n := ls[i]) (by omega) hA'
      rw [List.getElem?_eq_getElem hA'] at hst
      simp [ref26_LimitedC_j1, e1, e5, e6, e7, he, hA, he2, -List.reduceReplicate]
      refine ⟨by omega, by omega, ?_⟩
      rw [w64 (x := (i : Int) + 1) (by omega) (by omega)]
      refine kLoop_nrm _ _ _ _ (Sub_refl _ _) ⟨i + 1, by omega, by simp [e1], by simp [e6], by simp, rfl, acc ++ [nodes[ls[i].toNat]], by simp; rfl, by simp; omega, by rw [hall, hst, List.append_assoc]; rfl⟩ (by simp; omega)
    · rw [List.getElem?_eq_none (by omega)] at hst
      simp [ref26_LimitedC_j1, e1, e5, e6, e7, he, hA, -List.reduceReplicate]
      rw [w64 (x := (i : Int) + 1) (by omega) (by omega)]
      refine kLoop_nrm _ _ _ _ (Sub_refl _ _) ⟨i + 1, by omega, by simp [e1], by simp [e6], by simp, rfl, acc, by simp [e5], by omega, by rw [hall, hst]; rfl⟩ (by simp; omega)
  · simp at hlt
    rw [drop_all hlt, limdF, List.filterMap_nil, List.append_nil] at hall
    exact wF_own hw (by simp) ⟨by rw [hall]; rfl, rfl⟩
end Go.PE
namespace Go.PE
open Go
def roomB (l : List Cnt) (cavs : List Cav) (nodes : List Tag) (i : Int) : Bool :=
  match nodes[i.toNat]? with
  | none => false
  | some t => match cavs[(i - 1).toNat]? with
    | none => false
    | some c => decide (c.p.num ≤ numF t l)
def roomV (l : List Cnt) (b : Bun) (nodes : List Tag) : Int := if (limV b.cavs).any (roomB l b.cavs nodes) then 24 else 0
theorem any_step {α : Type} {p : α → Bool} {ls : List α} {i : Nat} (hi : i < ls.length) : (ls.drop i).any p = (p ls[i] || (ls.drop (i + 1)).any p) := by
  rw [List.drop_eq_getElem_cons hi, List.any_cons]
def RoomOK (P : Program) (f : Nat) : Prop := ∀ (l : List Cnt) (b : Bun) (nodes : List Tag), l.length ≤ maxLen → b.cavs.length ≤ 1000000 → nodes.length ≤ maxLen → ∀ (H : Nat → Option (List Value)) (nx : Nat),
    PCalls P f [deep (l.map Cnt.v), b.v, deep (nodes.map Tag.v)] H nx (fun _ => False) (fun r H' _ => r = .int .i64 (roomV l b nodes) ∧ H' = H)
theorem room_ok {P : Program} {f x y u : Nat} (hc : compFn P f = some (38, ledger_RoomC x y, [.t 6])) (hx : LimOK P x u) (hy : NumOK P y) : RoomOK P f := by
  intro l b nodes hl hlen hnl H nx
  refine PCalls_of hc (by simp) fun hw => ?_
  have hmx : (maxLen : Int) = 9223372036854775807 := rfl
  have hll := limF_len b.cavs 0
  rw [← limV] at hll
  have hmem := fun (x : Int) (h : x ∈ limV b.cavs) => limV_mem h
  simp [ledger_RoomC, Bun.ag]
  refine wCall_eq (Q := fun r => r = lin u ((limV b.cavs).map (.int .i64))) (hx b hlen _ _) fun r n1 hr hn1 => ?_
  subst hr
  replace hn1 : nx + 1 ≤ n1 := hn1
  generalize hls : limV b.cavs = ls at hll hmem
  have hv : roomV l b nodes = if ls.any (roomB l b.cavs nodes) then 24 else 0 := by rw [roomV, hls]
  simp
  refine wpc_loop _ _ _ _ _ _ (fun s => ∃ i : Nat, i ≤ ls.length ∧ s.t 0 = deep (l.map Cnt.v) ∧ s.t 2 = deep (nodes.map Tag.v) ∧ s.t 4 = ptr nx 0 ∧ dg (s.t 10) = deep (ls.map (.int .i64)) ∧ s.t 11 = .int .i64 ls.length ∧ s.t 12 = .int .i64 i ∧ s.H = upd H nx (some b.cells) ∧ (ls.any (roomB l b.cavs nodes) = (ls.drop i).any (roomB l b.cavs nodes)))
    (fun s => match s.t 12 with | .int _ i => (ls.length - i).toNat | _ => 0) _ ⟨0, by omega, by simp, by simp, by simp, by simp, by simp, by simp, rfl, by simp⟩ ?_
  rintro ⟨T, H', nx'⟩ ⟨i, hi1, e0, e2, e4, e10, e11, e12, rfl, hall⟩
  simp only at e0 e2 e4 e10 e11 e12
  simp [e0, e2, e4, e10, e11, e12]
  refine wB_of (fun hlt => ?_) (fun hlt => ?_)
  · simp at hlt
    have he := elem_int (k := .i64) (l := ls) (n := (i : Int)) (by omega) (by simpa using hlt)
    simp at he
    have hst := any_step (p := roomB l b.cavs nodes) hlt
    have hm := hmem _ (List.getElem_mem hlt)
    have hrb : roomB l b.cavs nodes ls[i] = (match nodes[ls[i].toNat]? with
      | none => false
      | some t => match b.cavs[(ls[i] - 1).toNat]? with
        | none => false
        | some c => decide (c.p.num ≤ numF t l)) := rfl
    by_cases hA : ls[i] < nodes.length
    · have hA' : ls[i].toNat < nodes.length := by omega
      have he2 := elem_tag (l := nodes) (n := ls[i]) (by omega) hA'
      have hA3 : (ls[i] - 1).toNat < b.cavs.length := by omega
      have he3 := elem_cav (l := b.cavs) (n := ls[i] - 1) (by omega) hA3
      rw [List.getElem?_eq_getElem hA', List.getElem?_eq_getElem hA3] at hrb
      have hwr := w64 (x := ls[i] - 1) (by omega) (by omega)
      simp [ledger_RoomC_j1, e0, e2, e4, e10, e11, e12, he, hA, he2, -List.reduceReplicate]
      refine wqCall_of (hy l nodes[ls[i].toNat] hl _ _) rfl (fun _ _ _ h => h.1) ?_
      simp [e0, e2, e4, e10, e11, e12, hwr, he3]
      refine wB_of (fun hg => ?_) (fun hg => ?_)
      · simp at hg
        refine wF_own hw (by simp) ⟨?_, rfl⟩
        have h1 : roomB l b.cavs nodes ls[i] = true := by rw [hrb]; simpa using hg
        rw [hv, hall, hst, h1]; rfl
      · simp at hg
        have h1 : roomB l b.cavs nodes ls[i] = false := by rw [hrb]; simpa using hg
        try simp [e12]
        rw [w64 (x := (i : Int) + 1) (by omega) (by omega)]
        refine kLoop_nrm _ _ _ _ (Sub_refl _ _) ⟨i + 1, by omega, by simp [e0], by simp [e2], by simp [e4], by simp [e10], by simp [e11], by simp, rfl, by rw [hall, hst, h1]; rfl⟩ (by simp; omega)
    · rw [List.getElem?_eq_none (by omega)] at hrb
      simp [ledger_RoomC_j1, e0, e2, e4, e10, e11, e12, he, hA, -List.reduceReplicate]
      rw [w64 (x := (i : Int) + 1) (by omega) (by omega)]
      refine kLoop_nrm _ _ _ _ (Sub_refl _ _) ⟨i + 1, by omega, by simp [e0], by simp [e2], by simp [e4], by simp [e10], by simp [e11], by simp, rfl, by rw [hall, hst, hrb]; rfl⟩ (by simp; omega)
  · simp at hlt
    rw [drop_all hlt, List.any_nil] at hall
    rw [hall] at hv
    exact wF_own hw (by simp) ⟨by rw [hv]; rfl, rfl⟩
theorem rroom_ok {P : Program} {f x y u : Nat} (hc : compFn P f = some (47, ref26_RoomC x y, [.t 6])) (hx : LimOK P x u) (hy : NumOK P y) : RoomOK P f := by
  intro l b nodes hl hlen hnl H nx
  refine PCalls_of hc (by simp) fun hw => ?_
  have hmx : (maxLen : Int) = 9223372036854775807 := rfl
  have hll := limF_len b.cavs 0
  rw [← limV] at hll
  have hmem := fun (x : Int) (h : x ∈ limV b.cavs) => limV_mem h
  simp [ref26_RoomC, Bun.ag]
  refine wCall_eq (Q := fun r => r = lin u ((limV b.cavs).map (.int .i64))) (hx b hlen _ _) fun r n1 hr hn1 => ?_
  subst hr
  replace hn1 : nx + 1 ≤ n1 := hn1
  generalize hls : limV b.cavs = ls at hll hmem
  have hv : roomV l b nodes = if ls.any (roomB l b.cavs nodes) then 24 else 0 := by rw [roomV, hls]
  simp
  refine wpc_loop _ _ _ _ _ _ (fun s => ∃ i : Nat, i ≤ ls.length ∧ s.t 0 = deep (l.map Cnt.v) ∧ s.t 2 = deep (nodes.map Tag.v) ∧ s.t 4 = ptr nx 0 ∧ dg (s.t 7) = deep (ls.map (.int .i64)) ∧ s.t 8 = .int .i64 i ∧ s.H = upd H nx (some b.cells) ∧ (ls.any (roomB l b.cavs nodes) = (ls.drop i).any (roomB l b.cavs nodes)))
    (fun s => match s.t 8 with | .int _ i => (ls.length - i).toNat | _ => 0) _ ⟨0, by omega, by simp, by simp, by simp, by simp, by simp, rfl, by simp⟩ ?_
  rintro ⟨T, H', nx'⟩ ⟨i, hi1, e0, e2, e4, e7, e8, rfl, hall⟩
  simp only at e0 e2 e4 e7 e8
  simp [e0, e2, e4, e7, e8]
  refine wB_of (fun hlt => ?_) (fun hlt => ?_)
  · simp at hlt
    have he := elem_int (k := .i64) (l := ls) (n := (i : Int)) (by omega) (by simpa using hlt)
    simp at he
    have hst := any_step (p := roomB l b.cavs nodes) hlt
    have hm := hmem _ (List.getElem_mem hlt)
    have hrb : roomB l b.cavs nodes ls[i] = (match nodes[ls[i].toNat]? with
      | none => false
      | some t => match b.cavs[(ls[i] - 1).toNat]? with
        | none => false
        | some c => decide (c.p.num ≤ numF t l)) := rfl
    by_cases hA : ls[i] < nodes.length
    · have hA' : ls[i].toNat < nodes.length := by omega
      have he2 := elem_tag (l := nodes) (n := ls[i]) (by omega) hA'
      have hA3 : (ls[i] - 1).toNat < b.cavs.length := by omega
      have he3 := elem_cav (l := b.cavs) (n := ls[i] - 1) (by omega) hA3
      rw [List.getElem?_eq_getElem hA', List.getElem?_eq_getElem hA3] at hrb
      have hwr := w64 (x := ls[i] - 1) (by omega) (by omega)
      simp [ref26_RoomC_j1, e0, e2, e4, e7, e8, he, hA, he2, -List.reduceReplicate]
      refine wqCall_of (hy l nodes[ls[i].toNat] hl _ _) rfl (fun _ _ _ h => h.1) ?_
      simp [e0, e2, e4, e7, e8, hwr, he, he3]
      refine wB_of (fun hg => ?_) (fun hg => ?_)
      · simp at hg
        refine wF_own hw (by simp) ⟨?_, rfl⟩
        have h1 : roomB l b.cavs nodes ls[i] = true := by rw [hrb]; simpa using hg
        rw [hv, hall, hst, h1]; rfl
      · simp at hg
        have h1 : roomB l b.cavs nodes ls[i] = false := by rw [hrb]; simpa using hg
        try simp [e8]
        rw [w64 (x := (i : Int) + 1) (by omega) (by omega)]
        refine kLoop_nrm _ _ _ _ (Sub_refl _ _) ⟨i + 1, by omega, by simp [e0], by simp [e2], by simp [e4], by simp [e7], by simp, rfl, by rw [hall, hst, h1]; rfl⟩ (by simp; omega)
    · rw [List.getElem?_eq_none (by omega)] at hrb
      simp [ref26_RoomC_j1, e0, e2, e4, e7, e8, he, hA, -List.reduceReplicate]
      rw [w64 (x := (i : Int) + 1) (by omega) (by omega)]
      refine kLoop_nrm _ _ _ _ (Sub_refl _ _) ⟨i + 1, by omega, by simp [e0], by simp [e2], by simp [e4], by simp [e7], by simp, rfl, by rw [hall, hst, hrb]; rfl⟩ (by simp; omega)
  · simp at hlt
    rw [drop_all hlt, List.any_nil] at hall
    rw [hall] at hv
    exact wF_own hw (by simp) ⟨by rw [hv]; rfl, rfl⟩
end Go.PE
namespace Go.PE
open Go
def tag1 (x : Int) : Tag := ⟨x :: List.replicate 31 0, by simp⟩
def isTags (e : Nat) (n : Int) (v : Value) : Prop := ∃ ts : List Tag, v = lin e (ts.map Tag.v) ∧ (ts.length : Int) ≤ n
def isBytes (e : Nat) (n : Int) (v : Value) : Prop := ∃ bs : List Int, v = lin e (bs.map (.int .u8)) ∧ (bs.length : Int) ≤ n
theorem tags_w {P : Program} {f e nx_ : Nat} (hc : compFn P f = some (23, law28_tagsC e nx_, [.t 4])) (hn : NextW P nx_) (n : Int) (h0 : 0 ≤ n) (h1 : n ≤ 1000000) : Draws P f [.int .i64 n] (isTags e n) := by
  intro k l at_ ha hl H nx hk
  refine PCalls_of hc (by simp) fun hw => ?_
  have hkn : k < nx := by
    rcases Nat.lt_or_ge k nx with h | h
    · exact h
    · have := hw k h; rw [hk] at this; cases this
  simp [law28_tagsC]
  rw [w64 (x := n + 1) (by omega) (by omega)]
  refine wCall_drawL (hn (n + 1) (by omega) (by omega)) ha hl (by simp [hk]) (.inr rfl) fun p1 at1 n1 hp1 ha1 hn1 => ?_
  obtain ⟨m, rfl, hm0, hm1⟩ := hp1
  simp at hn1
  simp
  refine wpc_loop _ _ _ _ _ _ (fun s => ∃ (ts : List Tag) (at' : Int), 0 ≤ at' ∧ s.t 0 = ptr k 0 ∧ s.t 5 = lin e (ts.map Tag.v) ∧ (∃ j : Int, s.t 6 = .int .i64 j ∧ 0 ≤ j ∧ j + ts.length ≤ n) ∧ s.H = upd H k (some (dk l at')) ∧ nx ≤ s.nx)
    (fun s => match s.t 6 with | .int _ i => i.toNat | _ => 0) _ ⟨[], at1, ha1, by simp, by simp, ⟨m, by simp, by omega, by simp; omega⟩, rfl, by simpa using hn1⟩ ?_
  rintro ⟨t, H', nx'⟩ ⟨ts, at', ha', e0, e5, ⟨j, e6, hj0, hj1⟩, rfl, hnx⟩
  simp only at e0 e5 e6 hnx
  simp [e0, e5, e6]
  refine wB_of (fun hlt => ?_) (fun hlt => ?_)
  · simp at hlt
    simp [law28_tagsC_j1, e0, e5, e6]
    refine wCall_drawL (hn 5 (by omega) (by omega)) ha' hl (by simp) (.inr rfl) fun p2 at2 n2 hp2 ha2 hn2 => ?_
    obtain ⟨q, rfl, hq0, hq1⟩ := hp2
    simp [e0, e5, e6, maxLen]
    refine ⟨by omega, by omega, ?_⟩
    rw [w64 (x := j - 1) (by omega) (by omega)]
    refine kLoop_nrm _ _ _ (upd H k (some (dk l at2))) (Sub_refl _ _) ⟨ts ++ [tag1 (IntKind.u8.wrap q)], at2, ha2, by simp [e0], by simp; rfl, ⟨j - 1, by simp, by omega, by simp; omega⟩, rfl, by simp at hn2; simp; omega⟩ (by simp; omega)
  · simp at hlt
    exact wF_of ⟨⟨ts, by simp, by omega⟩, at', ha', rfl⟩
theorem bytes_w {P : Program} {f e nx_ : Nat} (hc : compFn P f = some (22, made_Deck_BytesC e nx_, [.t 4])) (hn : NextW P nx_) (n : Int) (h0 : 0 ≤ n) (h1 : n ≤ 1000000) : Draws P f [.int .i64 n] (isBytes e n) := by
  intro k l at_ ha hl H nx hk
  refine PCalls_of hc (by simp) fun hw => ?_
  have hkn : k < nx := by
    rcases Nat.lt_or_ge k nx with h | h
    · exact h
    · have := hw k h; rw [hk] at this; cases this
  simp [made_Deck_BytesC]
  rw [w64 (x := n + 1) (by omega) (by omega)]
  refine wCall_drawL (hn (n + 1) (by omega) (by omega)) ha hl (by simp [hk]) (.inr rfl) fun p1 at1 n1 hp1 ha1 hn1 => ?_
  obtain ⟨m, rfl, hm0, hm1⟩ := hp1
  simp at hn1
  simp
  refine wpc_loop _ _ _ _ _ _ (fun s => ∃ (ts : List Int) (at' : Int), 0 ≤ at' ∧ s.t 0 = ptr k 0 ∧ s.t 5 = lin e (ts.map (.int .u8)) ∧ (∃ j : Int, s.t 6 = .int .i64 j ∧ 0 ≤ j ∧ j + ts.length ≤ n) ∧ s.H = upd H k (some (dk l at')) ∧ nx ≤ s.nx)
    (fun s => match s.t 6 with | .int _ i => i.toNat | _ => 0) _ ⟨[], at1, ha1, by simp, by simp, ⟨m, by simp, by omega, by simp; omega⟩, rfl, by simpa using hn1⟩ ?_
  rintro ⟨t, H', nx'⟩ ⟨ts, at', ha', e0, e5, ⟨j, e6, hj0, hj1⟩, rfl, hnx⟩
  simp only at e0 e5 e6 hnx
  simp [e0, e5, e6]
  refine wB_of (fun hlt => ?_) (fun hlt => ?_)
  · simp at hlt
    simp [made_Deck_BytesC_j1, e0, e5, e6]
    refine wCall_drawL (hn 256 (by omega) (by omega)) ha' hl (by simp) (.inr rfl) fun p2 at2 n2 hp2 ha2 hn2 => ?_
    obtain ⟨q, rfl, hq0, hq1⟩ := hp2
    simp [e0, e5, e6, maxLen]
    refine ⟨by omega, by omega, ?_⟩
    rw [w64 (x := j - 1) (by omega) (by omega)]
    refine kLoop_nrm _ _ _ (upd H k (some (dk l at2))) (Sub_refl _ _) ⟨ts ++ [IntKind.u8.wrap q], at2, ha2, by simp [e0], by simp, ⟨j - 1, by simp, by omega, by simp; omega⟩, rfl, by simp at hn2; simp; omega⟩ (by simp; omega)
  · simp at hlt
    exact wF_of ⟨⟨ts, by simp, by omega⟩, at', ha', rfl⟩
def p0 : Pred := ⟨0, 0, 0, 0, ⟨#[]⟩, 0⟩
def goodCav (c : Cav) : Prop := (c.third = false → GoodPred true c.p ∧ c.party = 0 ∧ c.tk = [] ∧ c.bx = []) ∧
  (c.third = true → c.p = p0 ∧ 0 ≤ c.party ∧ c.party ≤ 7 ∧ 1 ≤ c.tk.length ∧ c.tk.length ≤ 21 ∧ 1 ≤ c.bx.length ∧ c.bx.length ≤ 21)
def isCav (v : Value) : Prop := ∃ c : Cav, v = c.v ∧ goodCav c
theorem caveat_w {P : Program} {f e nx_ p y : Nat} (hc : compFn P f = some (20, made_Deck_CaveatC e nx_ p y, [.cA 2 10])) (hn : NextW P nx_) (hp : ∀ b, Draws P p [.bool b] (isPred b)) (hy : ∀ n, 0 ≤ n → n ≤ 1000000 → Draws P y [.int .i64 n] (isBytes e n)) : Draws P f [] isCav := by
  intro k l at_ ha hl H nx hk
  refine PCalls_of hc (by simp) fun hw => ?_
  have hkn : k < nx := by
    rcases Nat.lt_or_ge k nx with h | h
    · exact h
    · have := hw k h; rw [hk] at this; cases this
  have d1 : ¬ k = nx := by omega
  have d2 : ¬ nx = k := by omega
  simp [made_Deck_CaveatC]
  refine wCall_drawL (hn 4 (by omega) (by omega)) ha hl (by simp [hk, d1]) (.inr rfl) fun p1 at1 n1 hp1 ha1 hn1 => ?_
  obtain ⟨m, rfl, hm0, hm1⟩ := hp1
  simp at hn1
  simp
  have tail : ∀ (H' : Nat → Option (List Value)) (nx' : Nat) (at' : Int) (c : Cav), 0 ≤ at' → H' k = some (dk l at') → (∀ j, j < nx → j ≠ k → H' j = H j) → goodCav c →
      wF (some [c.v]) nx (fun p H' _ => isCav p ∧ Drew H k l H') H' nx' := by
    intro H' nx' at' c h0 ek hoth hg
    exact wF_sub ((own_k (r := some (dk l at')) ek hoth).sub (none_k hw hkn)) ⟨⟨c, rfl, hg⟩, at', h0, rfl⟩
  refine wB_of (fun hg => ?_) (fun hg => ?_)
  · simp at hg
    refine wCall_drawL (hp true) ha1 hl (by simp [d1, d2]) (.inr rfl) fun p2 at2 n2 hp2 ha2 hn2 => ?_
    obtain ⟨q, rfl, hv, hwf, hb⟩ := hp2
    simp [d1, d2]
    refine tail _ _ at2 ⟨false, q, 0, [], []⟩ ha2 (by simp [d1, d2]) (fun j hj hjk => by simp [show ¬ j = nx by omega, hjk]) ⟨fun _ => ⟨⟨hv, hwf, hb⟩, rfl, rfl, rfl⟩, by simp⟩
  · simp at hg
    simp [made_Deck_CaveatC_j1]
    refine wCall_drawL (hn 8 (by omega) (by omega)) ha1 hl (by simp [d1, d2]) (.inr rfl) fun p2 at2 n2 hp2 ha2 hn2 => ?_
    obtain ⟨q, rfl, hq0, hq1⟩ := hp2
    simp [d1, d2]
    refine wCall_drawL (hy 20 (by omega) (by omega)) ha2 hl (by simp [d1, d2]) (.inr rfl) fun p3 at3 n3 hp3 ha3 hn3 => ?_
    obtain ⟨tk, rfl, htk⟩ := hp3
    simp [d1, d2, maxLen]
    refine ⟨by omega, by omega, ?_⟩
    refine wCall_drawL (hy 20 (by omega) (by omega)) ha3 hl (by simp [d1, d2]) (.inr rfl) fun p4 at4 n4 hp4 ha4 hn4 => ?_
    obtain ⟨bx, rfl, hbx⟩ := hp4
    simp [d1, d2, maxLen]
    refine ⟨by omega, by omega, ?_⟩
    have e1 : tk.map (Value.int .u8) ++ [Value.int .u8 1] = (tk ++ [1]).map (Value.int .u8) := by simp
    have e2 : bx.map (Value.int .u8) ++ [Value.int .u8 2] = (bx ++ [2]).map (Value.int .u8) := by simp
    rw [e1, e2]
    refine tail _ _ at4 ⟨true, p0, q, tk ++ [1], bx ++ [2]⟩ ha4 (by simp [d1, d2]) (fun j hj hjk => by simp [show ¬ j = nx by omega, hjk]) ⟨by simp, fun _ => ⟨rfl, hq0, by show q ≤ 7; omega, by simp, by simp; omega, by simp, by simp; omega⟩⟩
end Go.PE
namespace Go.PE
open Go
def nd (l : List Cnt) : Prop := (l.map Cnt.tag).Nodup
theorem okF_iff : ∀ (l pre : List Cnt), okF pre l = true ↔ small l ∧ nd l ∧ ∀ c ∈ l, ∀ d ∈ pre, d.tag ≠ c.tag
  | [], pre => by simp [okF, small, nd]
  | c :: r, pre => by
    unfold okF
    rw [Bool.and_eq_true, Bool.and_eq_true, Bool.and_eq_true, decide_eq_true_eq, decide_eq_true_eq, okF_iff r, List.all_eq_true]
    simp only [small, nd, List.map_cons, List.nodup_cons, List.mem_cons, List.mem_append, List.mem_singleton, decide_eq_true_eq, List.mem_map]
    constructor
    · rintro ⟨⟨⟨h1, h2⟩, h3⟩, h4, h5, h6⟩
      refine ⟨?_, ⟨?_, h5⟩, ?_⟩
      · rintro d (rfl | hd)
        · exact ⟨h1, h2⟩
        · exact h4 d hd
      · rintro ⟨d, hd, he⟩
        exact h6 d hd c (.inr (by simp)) he.symm
      · rintro d (rfl | hd) e he
        · exact h3 e he
        · exact h6 d hd e (.inl he)
    · rintro ⟨h1, ⟨h2, h3⟩, h4⟩
      refine ⟨⟨h1 c (.inl rfl), fun d hd => h4 c (.inl rfl) d hd⟩, fun d hd => h1 d (.inr hd), h3, ?_⟩
      rintro d hd e (he | he)
      · exact h4 d (.inr hd) e he
      · simp at he; subst he
        exact fun h => h2 ⟨d, hd, h.symm⟩
theorem okC_iff (l : List Cnt) : okC l = true ↔ small l ∧ nd l := by
  rw [okC, okF_iff]; simp
theorem bump_tags (t : Tag) : ∀ l : List Cnt, (bump l t).map Cnt.tag = if t ∈ l.map Cnt.tag then l.map Cnt.tag else l.map Cnt.tag ++ [t]
  | [] => by simp [bump]
  | c :: r => by
    unfold bump
    by_cases h : c.tag = t
    · rw [if_pos h]; subst h; simp
    · rw [if_neg h, List.map_cons, bump_tags t r]
      have h' : ¬ t = c.tag := fun e => h e.symm
      by_cases h2 : t ∈ r.map Cnt.tag
      · rw [if_pos h2, if_pos (by simp only [List.map_cons, List.mem_cons]; exact .inr h2), List.map_cons]
      · rw [if_neg h2, if_neg (by simp only [List.map_cons, List.mem_cons]; rintro (h | h); exact h' h; exact h2 h), List.map_cons, List.cons_append]
theorem bump_nd {l : List Cnt} {t : Tag} (h : nd l) : nd (bump l t) := by
  unfold nd; rw [bump_tags]
  split
  · exact h
  · rename_i hn
    rw [List.nodup_append]
    refine ⟨h, by simp, ?_⟩
    intro a ha b hb
    simp at hb; subst hb
    exact fun e => hn (e ▸ ha)
theorem addV_nd : ∀ {ns : List Tag} {l : List Cnt}, nd l → nd (addV l ns)
  | [], _, h => h
  | t :: r, l, h => addV_nd (ns := r) (bump_nd h)
theorem bump_bnd {a b : Int} (ha : a ≤ 1) (hb : 1 ≤ b) {t : Tag} : ∀ {l : List Cnt}, (∀ c ∈ l, a ≤ c.n ∧ c.n ≤ b) → ∀ c ∈ bump l t, a ≤ c.n ∧ c.n ≤ b + 1
  | [], _, c, hc => by simp [bump] at hc; subst hc; exact ⟨ha, by show (1 : Int) ≤ _; omega⟩
  | d :: r, h, c, hc => by
    unfold bump at hc; split at hc
    · rcases List.mem_cons.1 hc with rfl | hc
      · have := h d (by simp); exact ⟨by show a ≤ d.n + 1; omega, by show d.n + 1 ≤ _; omega⟩
      · have := h c (by simp [hc]); omega
    · rcases List.mem_cons.1 hc with rfl | hc
      · have := h c (by simp); omega
      · exact bump_bnd ha hb (fun e he => h e (by simp [he])) c hc
theorem addV_bnd {a : Int} (ha : a ≤ 1) : ∀ {ns : List Tag} {l : List Cnt} {b : Int}, 1 ≤ b → (∀ c ∈ l, a ≤ c.n ∧ c.n ≤ b) → ∀ c ∈ addV l ns, a ≤ c.n ∧ c.n ≤ b + ns.length
  | [], l, b, _, h, c, hc => by have := h c hc; simp; exact this
  | t :: r, l, b, hb, h, c, hc => by
    have := addV_bnd ha (ns := r) (l := bump l t) (b := b + 1) (by omega) (bump_bnd ha hb h) c hc
    simp only [List.length_cons]; omega
theorem addV_pos {ns : List Tag} {l : List Cnt} (h : small l) (ho : over (addV l ns) = false) : small (addV l ns) := by
  intro c hc
  have := addV_bnd (a := 1) (by omega) (ns := ns) (l := l) (b := 281474976710656) (by omega) h c hc
  rw [over, List.any_eq_false] at ho
  have h2 := ho c hc
  simp at h2
  exact ⟨this.1, h2⟩
theorem addV_ok {ns : List Tag} {l : List Cnt} (h : okC l = true) (ho : over (addV l ns) = false) : okC (addV l ns) = true := by
  rw [okC_iff] at h ⊢
  exact ⟨addV_pos h.1 ho, addV_nd h.2⟩
theorem numF_bump (s t : Tag) : ∀ l : List Cnt, numF s (bump l t) = numF s l + if t = s then 1 else 0
  | [] => by simp [bump, numF]
  | c :: r => by
    unfold bump
    by_cases h : c.tag = t
    · rw [if_pos h]; subst h
      by_cases h2 : c.tag = s
      · simp [numF, h2]
      · simp [numF, h2]
    · rw [if_neg h]
      by_cases h2 : c.tag = s
      · have h3 : ¬ t = s := fun e => h (by rw [e, h2])
        simp [numF, h2, h3]
      · simp [numF, h2, numF_bump s t r]
theorem numF_addV (s : Tag) : ∀ (ns : List Tag) (l : List Cnt), numF s (addV l ns) = numF s l + (ns.filter fun t => decide (t = s)).length
  | [], l => by simp [addV]
  | t :: r, l => by
    have := numF_addV s r (bump l t)
    rw [show addV l (t :: r) = addV (bump l t) r from rfl, this, numF_bump]
    by_cases h : t = s
    · simp [h]; omega
    · simp [h]
theorem addV_nil_ok {ts : List Tag} (h : ts.length ≤ 1000000) : over (addV [] ts) = false ∧ okC (addV [] ts) = true := by
  have hb := addV_bnd (a := 1) (by omega) (ns := ts) (l := []) (b := 1) (by omega) (by simp)
  have ho : over (addV [] ts) = false := by
    rw [over, List.any_eq_false]
    intro c hc
    have := hb c hc
    simp; omega
  exact ⟨ho, addV_ok (by rfl) ho⟩
theorem set_ok {l : List Cnt} {j : Nat} (hj : j < l.length) {n : Int} (h : okC l = true) (h1 : 1 ≤ n) (h2 : n ≤ 281474976710656) : okC (l.set j ⟨l[j].tag, n⟩) = true := by
  rw [okC_iff] at h ⊢
  refine ⟨fun c hc => ?_, ?_⟩
  · rcases List.mem_or_eq_of_mem_set hc with hc | rfl
    · exact h.1 c hc
    · exact ⟨h1, h2⟩
  · have e : (l.set j ⟨l[j].tag, n⟩).map Cnt.tag = l.map Cnt.tag := by
      apply List.ext_getElem?
      intro i
      rw [List.getElem?_map, List.getElem?_map, List.getElem?_set]
      split
      · rename_i he; subst he; simp [hj]
      · rfl
    unfold nd; rw [e]; exact h.2
end Go.PE
namespace Go.PE
open Go
def isCounts (v : Value) : Prop := ∃ l : List Cnt, (v = ns [] ∧ l = [] ∨ v = deep (l.map Cnt.v)) ∧ okC l = true ∧ l.length ≤ 9
section
variable {α : Type} {E : El α} {n0 : Nat} {H0 H : Nat → Option (List Value)} {nx : Nat} {v : Value} {m : List α}
theorem Bx.rebase {n1 : Nat} {H1 : Nat → Option (List Value)} (h : Bx E n0 H0 H nx v m) (hn : n1 ≤ n0) (ho : Own n1 H1 H) : Bx E n1 H1 H nx v m := by
  obtain ⟨h1, h2, h3⟩ := h
  refine ⟨ho, by omega, h3.imp id ?_⟩
  rintro ⟨k, cap, rest, a1, a2, a3, a4⟩
  exact ⟨k, cap, rest, a1, by omega, a3, a4⟩
theorem Bx.draw {kd nx' : Nat} {r : Option (List Value)} (h : Bx E n0 H0 H nx v m) (hk : kd < n0) (hn : nx ≤ nx') : Bx E n0 (upd H0 kd r) (upd H kd r) nx' v m := by
  obtain ⟨h1, h2, h3⟩ := h
  refine ⟨fun j hj => ?_, by omega, h3.imp id ?_⟩
  · by_cases e : j = kd
    · subst e; simp
    · rw [upd_ne _ _ e, upd_ne _ _ e]; exact h1 j hj
  · rintro ⟨k, cap, rest, a1, a2, a3, a4, a5⟩
    exact ⟨k, cap, rest, a1, a2, by omega, by rw [upd_ne _ _ (by omega)]; exact a4, a5⟩
theorem Bx.fin1 {R : Post} (h : Bx E n0 H0 H nx v m) (hw : ∀ k, n0 ≤ k → H0 k = none) (hR : ∀ v', (v' = ns [] ∧ m = [] ∨ v' = deep (m.map E.g)) → R v' H0 nx) : wF (some [v]) n0 R H nx := by
  obtain ⟨h1, h2, ⟨rfl, rfl⟩ | ⟨k, cap, rest, rfl, a2, a3, a4, a5, a6, a7⟩⟩ := h
  · exact wF_own hw h1 (hR _ (.inl ⟨rfl, rfl⟩))
  · refine ⟨_, rfl, H0, [deep (m.map E.g)], h1.sub hw, ⟨rfl, fun i a b ha hb => ?_⟩, hR _ (.inr rfl)⟩
    cases i with
    | zero =>
      simp at ha hb; subst ha; subst hb
      exact .inl (Cv1_list E.f E.g E.hg E.size E.hf E.hd a4 (hw k a2) a2 a7)
    | succ i => simp at ha
end
theorem counts_w {P : Program} {f e t x y nx_ : Nat} (hc : compFnX P [t] f = some (30, law28_counts_BC x y nx_, [.t 2])) (hn : NextW P nx_) (hx : ∀ n, 0 ≤ n → n ≤ 1000000 → Draws P x [.int .i64 n] (isTags e n))
    {cv t' : Nat} (hy : compFnX P [t'] y = some (74, ref26_AddRides_BC cv t', [.t 4, .t 5])) (hcv : CValOK P cv) : Draws P f [] isCounts := by
  intro k l at_ ha hl H nx hk
  refine PCalls_ofX hc (by simp) fun hw => ?_
  have hkn : k < nx := by
    rcases Nat.lt_or_ge k nx with h | h
    · exact h
    · have := hw k h; rw [hk] at this; cases this
  have hmx : (maxLen : Int) = 9223372036854775807 := rfl
  simp [law28_counts_BC]
  refine wCallB_of (wCall_drawL (hx 9 (by omega) (by omega)) ha hl (by simp [hk]) (.inr rfl) fun p1 at1 n1 hp1 ha1 hn1 => ?_)
  obtain ⟨ts, rfl, hts⟩ := hp1
  replace hn1 : nx ≤ n1 := hn1
  obtain ⟨hov, hok⟩ := addV_nil_ok (ts := ts) (by omega)
  simp
  have hcall := rides_core hy hcv [] ts (by simp; omega) (upd H k (some (dk l at1))) n1 (fun r H' nx' => ∃ v, r = tup [v, .int .i64 0] ∧ Bx cntEl n1 (upd H k (some (dk l at1))) H' nx' v (addV [] ts))
    (fun h => by simp [okC, okF] at h) (fun _ h => by rw [hov] at h; cases h) fun hw' _ _ v H' nx' hB => wF_of ⟨v, rfl, hB⟩
  refine wCallB_of (wCall_le hcall fun p H2 n2 hR hn2 ho2 => ?_)
  obtain ⟨v, rfl, hB⟩ := hR
  have hlen : (addV [] ts).length ≤ 9 := by
    have := addV_len ts []
    simp at this; omega
  generalize addV [] ts = m at hB hok hlen
  replace hB : Bx cntEl nx (upd H k (some (dk l at1))) H2 n2 v m := hB.rebase hn1 (fun j hj => hB.own j (by omega))
  have hlv := hB.len
  have hd : H2 k = some (dk l at1) := by rw [hB.own k hkn]; simp
  have hT : dgT v = v := by
    rcases hB.2.2 with ⟨rfl, _⟩ | ⟨_, _, _, rfl, _⟩ <;> rfl
  have tail : ∀ (H3 : Nat → Option (List Value)) (n3 : Nat) (at' : Int) (v : Value) (m' : List Cnt), 0 ≤ at' → Bx cntEl nx (upd H k (some (dk l at'))) H3 n3 v m' → okC m' = true → m'.length ≤ 9 →
      wF (some [v]) nx (fun p H' _ => isCounts p ∧ Drew H k l H') H3 n3 := fun H3 n3 at' v m' h0 hb h1 h2 =>
    hb.fin1 (none_k hw hkn) fun v' hv' => ⟨⟨m', hv', h1, h2⟩, at', h0, rfl⟩
  have step : ∀ {H3 : Nat → Option (List Value)} {n3 n4 : Nat} {a b : Int} {v : Value}, Bx cntEl nx (upd H k (some (dk l a))) H3 n3 v m → n3 ≤ n4 → Bx cntEl nx (upd H k (some (dk l b))) (upd H3 k (some (dk l b))) n4 v m := by
    intro H3 n3 n4 a b v hb hle
    have := hb.draw (r := some (dk l b)) hkn hle
    rw [upd_upd] at this; exact this
  simp [hlv, hT]
  by_cases hm : 0 < m.length
  · obtain ⟨kb, cap, rest, rfl, a2, a3, a4, a5, a6, a7⟩ := hB.at hm
    simp [hm]
    refine wCallB_of (wCall_drawL (hn 4 (by omega) (by omega)) ha1 hl (by simp [hd]) (.inr rfl) fun p2 at2 n3 hp2 ha2 hn3 => ?_)
    obtain ⟨q, rfl, hq0, hq1⟩ := hp2
    replace hB := step (b := at2) hB hn3
    simp [hm]
    refine wB_of (fun hg => ?_) (fun hg => ?_)
    · refine wCallB_of (wCall_drawL (hn m.length (by omega) (by omega)) ha2 hl (by simp) (.inr rfl) fun p3 at3 n4 hp3 ha3 hn4 => ?_)
      obtain ⟨j, rfl, hj0, hj1⟩ := hp3
      replace hB := step (b := at3) hB hn4
      simp
      refine wCallB_of (wCall_drawL (hn 2 (by omega) (by omega)) ha3 hl (by simp) (.inr rfl) fun p4 at4 n5 hp4 ha4 hn5 => ?_)
      obtain ⟨d, rfl, hd0, hd1⟩ := hp4
      replace hB := step (b := at4) hB hn5
      have hj : j.toNat < m.length := by omega
      have hkb : ¬ kb = k := by omega
      replace a4 : H2 kb = some (m.flatMap Cnt.cells ++ rest) := a4
      have hrow : j.toNat * 33 + 32 + 1 ≤ (m.flatMap Cnt.cells ++ rest).length := by
        rw [List.length_append, fl_len Cnt.cells 33 Cnt.len]; omega
      have hset := Bx.set (E := cntEl) (nx := n5) (k := kb) (o := 32) (i := j.toNat) (vs := [.int .i64 (281474976710656 - d)]) (a := ⟨m[j.toNat].tag, 281474976710656 - d⟩) (rest := rest) hB.own a2 (by simp at hn3 hn4 hn5; omega) a5 a6 a7 hj (by simp [cntEl])
        (by
          show m[j.toNat].tag.cells ++ [.int .i64 (281474976710656 - d)] = (m[j.toNat].tag.cells ++ [Value.int .i64 m[j.toNat].n]).take 32 ++ [.int .i64 (281474976710656 - d)] ++ (m[j.toNat].tag.cells ++ [Value.int .i64 m[j.toNat].n]).drop 33
          rw [List.take_append_of_le_length (by simp), Tag.take32, List.drop_of_length_le (by simp)]; simp) rfl
      replace hset := tail _ _ at4 _ _ ha4 hset (set_ok hj hok (by omega) (by omega)) (by simpa using hlen)
      generalize hr : m.flatMap Cnt.cells ++ rest = row at a4 hrow
      have hjl : j < m.length := by omega
      simp [hj0, hjl, a4, hkb, hrow, a2]
      rw [w64 (x := 281474976710656 - d) (by omega) (by omega)]
      subst hr
      rw [List.append_assoc, upd_upd, upd_upd] at hset
      exact hset
    · exact tail _ _ at2 _ m ha2 hB hok hlen
  · have hm0 : m = [] := List.length_eq_zero_iff.1 (by omega)
    subst hm0
    simp [hm]
    exact tail _ _ at1 _ [] ha1 hB hok (by simp)
end Go.PE
namespace Go.PE
open Go
def AwOK (P : Program) (f : Nat) : Prop := ∀ (H : Nat → Option (List Value)) (nx : Nat), PCalls P f [] H nx (fun _ => False) (fun r H' _ => r = .bool true ∧ H' = H)
def awB : Bun := ⟨0, 0, 0, 0, [⟨false, ⟨1, 2, 0, 0, ⟨#[]⟩, 0⟩, 0, [], []⟩, ⟨false, ⟨7, 0, 0, 0, ⟨#[]⟩, 2⟩, 0, [], []⟩], ⟨List.replicate 32 0, by simp⟩, []⟩
theorem awake28_ok {P : Program} {f t1 t2 t3 x y z : Nat} (hc : compFn P f = some (42, law28_awakeC t1 t2 t3 x y z, [.t 0])) (hx : LimdOK P x t3) (hy : AddOK P y) (hz : NumOK P z) : AwOK P f := by
  intro H nx
  refine PCalls_of hc (by simp) fun hw => ?_
  simp [law28_awakeC, -List.reduceReplicate]
  have e1 : limdV awB [tag1 1, tag1 2, tag1 3] = [tag1 3] := rfl
  refine wCall_eq (Q := fun r => r = lin t3 ((limdV awB [tag1 1, tag1 2, tag1 3]).map Tag.v)) (hx awB [tag1 1, tag1 2, tag1 3] (by decide) (by decide) _ _) fun r n1 hr hn1 => ?_
  subst hr
  rw [e1]
  simp [-List.reduceReplicate]
  have hcall := hy [] [tag1 3] (by decide) (upd H nx (some awB.cells)) n1
  refine wCall_eq (Q := fun r => addR [] [tag1 3] r) hcall fun r n2 hr hn2 => ?_
  have e2 : addV [] [tag1 3] = [⟨tag1 3, 1⟩] := rfl
  have e3 : okC [] = true := rfl
  have e4 : over [⟨tag1 3, 1⟩] = false := rfl
  rw [addR, e2, if_pos e3, e4] at hr
  obtain ⟨v', hv', rfl⟩ : ∃ v', (v' = ns [] ∧ [(⟨tag1 3, 1⟩ : Cnt)] = [] ∨ v' = deep ([(⟨tag1 3, 1⟩ : Cnt)].map Cnt.v)) ∧ r = tup [v', .int .i64 0] := hr
  obtain rfl : v' = deep ([(⟨tag1 3, 1⟩ : Cnt)].map Cnt.v) := by
    rcases hv' with ⟨_, h⟩ | h
    · cases h
    · exact h
  have he : elemAt ([tag1 3].map Tag.v) 0 32 = some (dptr 0 (tag1 3).cells) := rfl
  simp only [List.map_cons, List.map_nil] at he
  have e5 : [Value.int .u8 3, Value.int .u8 0, Value.int .u8 0, Value.int .u8 0, Value.int .u8 0, Value.int .u8 0, Value.int .u8 0, Value.int .u8 0, Value.int .u8 0, Value.int .u8 0, Value.int .u8 0, Value.int .u8 0, Value.int .u8 0, Value.int .u8 0, Value.int .u8 0, Value.int .u8 0, Value.int .u8 0, Value.int .u8 0, Value.int .u8 0, Value.int .u8 0, Value.int .u8 0, Value.int .u8 0, Value.int .u8 0, Value.int .u8 0, Value.int .u8 0, Value.int .u8 0, Value.int .u8 0, Value.int .u8 0, Value.int .u8 0, Value.int .u8 0, Value.int .u8 0, Value.int .u8 0] = (tag1 3).cells := rfl
  simp [he, e5, -List.reduceReplicate]
  refine wCall_eq (Q := fun r => r = .int .i64 1) (hz [⟨tag1 3, 1⟩] (tag1 3) (by decide) _ _) fun r n3 hr hn3 => ?_
  subst hr
  simp
  exact wF_own hw (by simp) ⟨rfl, rfl⟩
end Go.PE
namespace Go.PE
open Go
theorem cl_dg {v : Value} {l : List Cnt} (h : v = ns [] ∧ l = [] ∨ v = deep (l.map Cnt.v)) : dg v = deep (l.map Cnt.v) ∧ dg1 v = deep (l.map Cnt.v) ∧ dgT v = v := by
  rcases h with ⟨rfl, rfl⟩ | rfl <;> exact ⟨rfl, rfl, rfl⟩
theorem numF_le {l : List Cnt} {t : Tag} (h : small l) : 0 ≤ numF t l ∧ numF t l ≤ 281474976710656 := by
  rcases idx_cases l t with ⟨_, h2, _⟩ | ⟨j, c, _, h2, _, h4, _⟩
  · omega
  · have := h c (List.mem_of_getElem? h2); omega
theorem adds_ok {P : Program} {f ne co ta e ad aw nu va : Nat} (hc : compFn P f = some (70, law28_LedgerAddsC ne co ta ad aw nu va, [.t 4])) (hne : NewOK P ne) (hco : Draws P co [] isCounts) (hta : ∀ n, 0 ≤ n → n ≤ 1000000 → Draws P ta [.int .i64 n] (isTags e n))
    (had : AddOK P ad) (haw : AwOK P aw) (hnu : NumOK P nu) (hva : CValOK P va) (l : List Int) (x : Int) (hl : l.length ≤ maxLen) (hx : 0 ≤ x ∧ x < 256) (H : Nat → Option (List Value)) (nx : Nat) :
    PCalls P f [deep (l.map (.int .i64)), .int .u8 x] H nx (fun _ => False) (fun r H' _ => r = .bool true) := by
  refine PCalls_of hc (by simp) fun hw => ?_
  have hmx : (maxLen : Int) = 9223372036854775807 := rfl
  simp [law28_LedgerAddsC]
  refine wCall_le (hne l _ _) fun r H1 n1 hR hn1 _ => ?_
  obtain ⟨rfl, rfl, rfl⟩ := hR
  simp
  refine wCall_drawL hco (l := l) (at_ := 0) (by omega) hl (by simp) (.inl (by simp)) fun v1 at1 n2 hv ha1 hn2 => ?_
  obtain ⟨cs, hcs, hok, hlen⟩ := hv
  obtain ⟨q1, q2, q3⟩ := cl_dg hcs
  simp at hn2
  simp
  refine wCall_drawL (hta 6 (by omega) (by omega)) (l := l) (at_ := at1) ha1 hl (by simp) (.inl (by simp)) fun v2 at2 n3 hv ha2 hn3 => ?_
  obtain ⟨ts, rfl, hts⟩ := hv
  simp at hn3
  simp [q1, q2, q3]
  refine wCall_eq (Q := fun r => addR cs ts r) (had cs ts (by omega) _ _) fun r n4 hr hn4 => ?_
  rw [addR, if_pos hok] at hr
  cases hov : over (addV cs ts) with
  | true =>
    rw [hov, if_pos rfl] at hr
    subst hr
    simp
    refine wCall_eq (Q := fun r => r = .bool true) (haw _ _) fun r n5 hr hn5 => ?_
    subst hr
    simp
    exact wF_of rfl
  | false =>
    rw [hov] at hr
    obtain ⟨v', hv', rfl⟩ : ∃ v', (v' = ns [] ∧ addV cs ts = [] ∨ v' = deep ((addV cs ts).map Cnt.v)) ∧ r = tup [v', .int .i64 0] := hr
    obtain ⟨w1, w2, w3⟩ := cl_dg hv'
    simp [w1, w2, w3, law28_LedgerAddsC_j3, -List.reduceReplicate]
    simp at hn4
    refine ⟨by omega, ?_⟩
    generalize hT0 : tag1 (x.tmod 6) = t0
    have hnum := numF_addV t0 ts cs
    have hsm := addV_pos ((okC_iff cs).1 hok).1 hov
    have hokA := addV_ok hok hov
    have hAl := addV_len ts cs
    generalize addV cs ts = as at hov hv' w1 w2 w3 hnum hsm hokA hAl
    refine wpc_loop _ _ _ _ _ _ (fun s => ∃ i : Nat, i ≤ ts.length ∧ dg (s.t 6) = deep (cs.map Cnt.v) ∧ dg (s.t 7) = deep (ts.map Tag.v) ∧ dg (s.t 8) = deep (as.map Cnt.v) ∧ s.t 10 = ptr n4 0 ∧ s.t 11 = .int .i64 ((ts.take i).filter fun t => decide (t = t0)).length ∧ s.t 12 = .int .i64 i ∧ s.H n4 = some t0.cells)
      (fun s => match s.t 12 with | .int _ i => (ts.length - i).toNat | _ => 0) _ ⟨0, by omega, by simp [q1], by simp, by simp [w1], by simp, by simp, by simp, by subst hT0; simp; rfl⟩ ?_
    rintro ⟨T, H', nx'⟩ ⟨i, hi1, e6, e7, e8, e10, e11, e12, eH⟩
    simp only at e6 e7 e8 e10 e11 e12 eH
    have hfl : ((ts.take i).filter fun t => decide (t = t0)).length ≤ i := Nat.le_trans (List.length_filter_le _ _) (by simp; omega)
    simp [e6, e7, e8, e10, e11, e12]
    refine wB_of (fun hlt => ?_) (fun hlt => ?_)
    · simp at hlt
      have he := elem_tag (l := ts) (n := (i : Int)) (by omega) (by simpa using hlt)
      simp at he
      have hst : (ts.take (i + 1)).filter (fun t => decide (t = t0)) = (ts.take i).filter (fun t => decide (t = t0)) ++ [ts[i]].filter (fun t => decide (t = t0)) := by
        rw [List.take_succ_eq_append_getElem hlt, List.filter_append]
      simp [law28_LedgerAddsC_j1, e6, e7, e8, e10, e11, e12, he, eH, -List.reduceReplicate]
      refine wB_of (fun hg => ?_) (fun hg => ?_)
      · simp at hg
        try simp [e11, e12]
        rw [w64 (x := (i : Int) + 1) (by omega) (by omega), w64 (x := ((((ts.take i).filter fun t => decide (t = t0)).length : Nat) : Int) + 1) (by omega) (by omega)]
        refine kLoop_nrm _ _ _ _ (Sub_refl _ _) ⟨i + 1, by omega, by simp [e6], by simp [e7], by simp [e8], by simp [e10], ?_, by simp, by simp [eH]⟩ (by simp; omega)
        rw [hst]; simp [hg]
      · simp at hg
        try simp [e11, e12]
        rw [w64 (x := (i : Int) + 1) (by omega) (by omega)]
        refine kLoop_nrm _ _ _ _ (Sub_refl _ _) ⟨i + 1, by omega, by simp [e6], by simp [e7], by simp [e8], by simp [e10], ?_, by simp, by simp [eH]⟩ (by simp; omega)
        rw [hst]; simp [hg, e11]
    · simp at hlt
      have : i = ts.length := by omega
      subst this
      rw [List.take_length] at e11
      have hcl := numF_le (t := t0) ((okC_iff cs).1 hok).1
      have hal := numF_le (t := t0) hsm
      simp [law28_LedgerAddsC_j2, e6, e7, e8, e10, e11, e12, eH, -List.reduceReplicate]
      refine wqCall_of (hnu as t0 (by omega) _ _) rfl (fun _ _ _ h => h.1) ?_
      simp [e6, e7, e8, e10, e11, e12, eH, -List.reduceReplicate]
      refine wqCall_of (hnu cs t0 (by omega) _ _) rfl (fun _ _ _ h => h.1) ?_
      simp [e6, e7, e8, e10, e11, e12, eH, -List.reduceReplicate]
      rw [w64 (x := numF t0 cs + ((ts.filter fun t => decide (t = t0)).length : Nat)) (by omega) (by omega), ← hnum]
      simp [e6, e7, e8, e10, e11, e12, eH, -List.reduceReplicate]
      refine wqCall_of (hva as (by omega) _ _) rfl (fun _ _ _ h => h.1) ?_
      simp [hokA]
      refine wqCall_of (haw _ _) rfl (fun _ _ _ h => h.1) ?_
      simp
      exact wF_of rfl
end Go.PE
namespace Go.PE
open Go
def addE (l : List Cnt) (ns' : List Tag) : Int := if okC l then if over (addV l ns') then 1 else 0 else 5
def addM (l : List Cnt) (ns' : List Tag) : List Cnt := if okC l then if over (addV l ns') then [] else addV l ns' else []
theorem addR_eq {l : List Cnt} {ns' : List Tag} {r : Value} (h : addR l ns' r) : ∃ v, r = tup [v, .int .i64 (addE l ns')] ∧ dg v = deep ((addM l ns').map Cnt.v) ∧ dg1 v = deep ((addM l ns').map Cnt.v) ∧ dgT v = v := by
  unfold addR at h
  unfold addE addM
  cases h1 : okC l with
  | false => rw [h1] at h; exact ⟨_, h, rfl, rfl, rfl⟩
  | true =>
    rw [h1, if_pos rfl] at h
    cases h2 : over (addV l ns') with
    | true => rw [h2, if_pos rfl] at h; exact ⟨_, h, rfl, rfl, rfl⟩
    | false =>
      rw [h2] at h
      obtain ⟨v', hv', rfl⟩ : ∃ v', (v' = ns [] ∧ addV l ns' = [] ∨ v' = deep ((addV l ns').map Cnt.v)) ∧ r = tup [v', .int .i64 0] := h
      obtain ⟨w1, w2, w3⟩ := cl_dg hv'
      exact ⟨v', rfl, w1, w2, w3⟩
theorem addM_len (l : List Cnt) (ns' : List Tag) : (addM l ns').length ≤ l.length + ns'.length := by
  unfold addM
  split
  · split
    · simp
    · exact addV_len ns' l
  · simp
theorem elem_list {α : Type} (g : α → Value) {ls : List (List α)} {n : Int} (h0 : 0 ≤ n) (hn : n.toNat < ls.length) : elemAt (ls.map fun l => deep (l.map g)) n 1 = some (dptr 0 [deep (ls[n.toNat].map g)]) := elemAt_map (f := fun l => deep (l.map g)) h0 hn rfl rfl
def stepsO (nx : Nat) (nodes ts : List Tag) (t : Tag) (Ls : List (List Cnt)) (i : Nat) (s : PS) : Prop := s.t 1 = deep (nodes.map Tag.v) ∧ s.t 7 = ptr nx 0 ∧ dg (s.t 11) = deep (ts.map Tag.v) ∧ dg (s.t 50) = deep (Ls.map fun l => deep (l.map Cnt.v)) ∧ s.t 51 = .int .i64 3 ∧ s.t 52 = .int .i64 i ∧ s.H nx = some t.cells
def stepsI (nx : Nat) (nodes ts : List Tag) (t : Tag) (Ls : List (List Cnt)) (i : Nat) (x : List Cnt) (Ys : List (List Tag)) (j : Nat) (s : PS) : Prop := stepsO nx nodes ts t Ls i s ∧ dg (s.t 13) = deep (x.map Cnt.v) ∧ dg (s.t 60) = deep (Ys.map fun l => deep (l.map Tag.v)) ∧ s.t 61 = .int .i64 3 ∧ s.t 62 = .int .i64 j
theorem steps_ok {P : Program} {f aw ne co ta tC nx_ tC2 tT tT2 ad ra sc va co' nu rn e : Nat} (hc : compFn P f = some (106, law28_LedgerStepsC aw ne co ta tC nx_ tC2 tT tT2 ad ra sc va co' nu rn, [.t 8])) (hne : NewOK P ne) (hn : NextW P nx_)
    (hco : Draws P co [] isCounts) (hta : ∀ n, 0 ≤ n → n ≤ 1000000 → Draws P ta [.int .i64 n] (isTags e n)) (had : AddOK P ad) (hra : AddOK P ra) (hsc : SameCOK P sc) (haw : AwOK P aw) (hnu : NumOK P nu) (hrn : NumOK P rn) (hva : CValOK P va) (hco' : CValOK P co')
    (raw : List Cnt) (nodes : List Tag) (l : List Int) (t : Tag) (hl : l.length ≤ maxLen) (hraw : raw.length ≤ maxLen) (hnodes : nodes.length ≤ maxLen) (H : Nat → Option (List Value)) (nx : Nat) :
    PCalls P f [deep (raw.map Cnt.v), deep (nodes.map Tag.v), deep (l.map (.int .i64)), t.v] H nx (fun _ => False) (fun r H' _ => r = .bool true) := by
  refine PCalls_of hc (by simp) fun hw => ?_
  have hmx : (maxLen : Int) = 9223372036854775807 := rfl
  have quit : ∀ {T : Nat → Value} {H' : Nat → Option (List Value)} {nx' : Nat} {d : Nat} {K : PS → Prop}, K ⟨upd T d (.bool true), H', nx'⟩ ∨ True → True := fun _ => trivial
  clear quit
  by_cases h60 : raw.length ≤ 60 ∧ nodes.length ≤ 60
  case neg =>
    by_cases h1 : raw.length ≤ 60
    · have h2 : ¬ nodes.length ≤ 60 := fun h => h60 ⟨h1, h⟩
      simp [law28_LedgerStepsC, h1, h2, show ¬ (60 : Int) < raw.length by omega, show (60 : Int) < nodes.length by omega, -List.reduceReplicate]
      refine wCall_eq (Q := fun r => r = .bool true) (haw _ _) fun r n5 hr hn5 => ?_
      subst hr
      simp
      exact wF_of rfl
    · simp [law28_LedgerStepsC, show (60 : Int) < raw.length by omega, -List.reduceReplicate]
      refine wCall_eq (Q := fun r => r = .bool true) (haw _ _) fun r n5 hr hn5 => ?_
      subst hr
      simp
      exact wF_of rfl
  obtain ⟨h1, h2⟩ := h60
  simp [law28_LedgerStepsC, law28_LedgerStepsC_j3, show ¬ (60 : Int) < raw.length by omega, show ¬ (60 : Int) < nodes.length by omega, -List.reduceReplicate]
  refine wCall_le (hne l _ _) fun r H1 n1 hR hn1 _ => ?_
  obtain ⟨rfl, rfl, rfl⟩ := hR
  simp
  refine wCall_drawL hco (l := l) (at_ := 0) (by omega) hl (by simp) (.inl (by simp)) fun v1 at1 n2 hv ha1 hn2 => ?_
  obtain ⟨cs, hcs, hok, hlen⟩ := hv
  obtain ⟨q1, q2, q3⟩ := cl_dg hcs
  simp at hn2
  simp
  refine wCall_drawL (hta 6 (by omega) (by omega)) (l := l) (at_ := at1) ha1 hl (by simp) (.inl (by simp)) fun v2 at2 n3 hv ha2 hn3 => ?_
  obtain ⟨ts, rfl, hts⟩ := hv
  simp at hn3
  simp [q1, q2, q3, -List.reduceReplicate]
  refine ⟨by omega, by omega, ?_⟩
  refine wCall_drawL (hn 6 (by omega) (by omega)) (l := l) (at_ := at2) ha2 hl (by simp) (.inl (by omega)) fun v3 at3 n4 hv ha3 hn4 => ?_
  obtain ⟨q, rfl, hq0, hq1⟩ := hv
  simp [-List.reduceReplicate]
  refine wCall_drawL (hn 3 (by omega) (by omega)) (l := l) (at_ := at3) ha3 hl (by simp) (.inl (by omega)) fun v4 at4 n5 hv ha4 hn5 => ?_
  obtain ⟨d, rfl, hd0, hd1⟩ := hv
  simp [-List.reduceReplicate]
  rw [w64 (x := d - 1) (by omega) (by omega)]
  refine ⟨by omega, by omega, ?_⟩
  obtain ⟨Ls, hLs⟩ : ∃ Ls : List (List Cnt), Ls = [cs, raw, cs ++ [⟨tag1 (IntKind.u8.wrap q), d - 1⟩]] := ⟨_, rfl⟩
  obtain ⟨Ys, hYs⟩ : ∃ Ys : List (List Tag), Ys = [ts, nodes, [t]] := ⟨_, rfl⟩
  have hL3 : Ls.length = 3 := by rw [hLs]; rfl
  have hY3 : Ys.length = 3 := by rw [hYs]; rfl
  have hLl : ∀ x ∈ Ls, x.length ≤ 60 := by
    rw [hLs]; intro x hx
    simp at hx
    rcases hx with rfl | rfl | rfl
    · omega
    · omega
    · simp; omega
  have hYl : ∀ x ∈ Ys, x.length ≤ 60 := by
    rw [hYs]; intro x hx
    simp at hx
    rcases hx with rfl | rfl | rfl
    · omega
    · omega
    · simp
  refine wpc_loop _ _ _ _ _ _ (fun s => ∃ i : Nat, i ≤ 3 ∧ stepsO nx nodes ts t Ls i s)
    (fun s => match s.t 52 with | .int _ i => (3 - i).toNat | _ => 0) _ ⟨0, by omega, by simp, by simp, by simp, by rw [hLs]; simp; rfl, by simp, by simp, by simp⟩ ?_
  rintro ⟨T, H', nx'⟩ ⟨i, hi, e1, e7, e11, e50, e51, e52, eH⟩
  simp only at e1 e7 e11 e50 e51 e52 eH
  simp [e51, e52]
  refine wB_of (fun hlt => ?_) (fun hlt => ?_)
  · simp at hlt
    have hlt' : i < 3 := by omega
    have he := elem_list Cnt.v (ls := Ls) (n := (i : Int)) (by omega) (by simp; omega)
    have hxl := hLl (Ls[((i : Int)).toNat]'(by simp; omega)) (List.getElem_mem _)
    generalize Ls[((i : Int)).toNat]'(by simp; omega) = x at he hxl
    simp [law28_LedgerStepsC_j2, e1, e7, e11, e50, e51, e52, he, eH, -List.reduceReplicate]
    refine wpc_loop _ _ _ _ _ _ (fun s => ∃ j : Nat, j ≤ 3 ∧ stepsI nx nodes ts t Ls i x Ys j s)
      (fun s => match s.t 62 with | .int _ i => (3 - i).toNat | _ => 0) _ ⟨0, by omega, ⟨by simp [e1], by simp [e7], by simp [e11], by simp [e50], by simp [e51], by simp [e52], by simp [eH]⟩, by simp, by rw [hYs]; simp; rfl, by simp, by simp⟩ ?_
    clear e1 e7 e11 e50 e51 e52 eH he
    rintro ⟨T, H', nx'⟩ ⟨j, hj, ⟨e1, e7, e11, e50, e51, e52, eH⟩, e13, e60, e61, e62⟩
    simp only at e1 e7 e11 e50 e51 e52 eH e13 e60 e61 e62
    simp [e61, e62]
    refine wB_of (fun hjt => ?_) (fun hjt => ?_)
    · simp at hjt
      have hjt' : j < 3 := by omega
      have he := elem_list Tag.v (ls := Ys) (n := (j : Int)) (by omega) (by simp; omega)
      have hyl := hYl (Ys[((j : Int)).toNat]'(by simp; omega)) (List.getElem_mem _)
      generalize Ys[((j : Int)).toNat]'(by simp; omega) = y at he hyl
      simp [law28_LedgerStepsC_j1, e1, e7, e11, e13, e50, e51, e52, e60, e61, e62, he, eH, -List.reduceReplicate]
      refine wCall_eq (Q := fun r => addR x y r) (had x y (by omega) _ _) fun r n6 hr hn6 => ?_
      obtain ⟨va1, rfl, w1, w2, w3⟩ := addR_eq hr
      simp [w1, w2, w3, e13]
      refine wCall_eq (Q := fun r => addR x y r) (hra x y (by omega) _ _) fun r n7 hr hn7 => ?_
      obtain ⟨va2, rfl, z1, z2, z3⟩ := addR_eq hr
      have hml := addM_len x y
      simp [w1, w2, w3, z1, z2, z3, e13]
      refine wqCall_of (hsc (addM x y) (addM x y) (by omega) (by omega) _ _) rfl (fun _ _ _ h => h.1) ?_
      simp [e13]
      refine wqCall_of (hva x (by omega) _ _) rfl (fun _ _ _ h => h.1) ?_
      simp [e13]
      refine wqCall_of (hco' x (by omega) _ _) rfl (fun _ _ _ h => h.1) ?_
      simp [e13, e7, eH, -List.reduceReplicate]
      refine wqCall_of (hnu x t (by omega) _ _) rfl (fun _ _ _ h => h.1) ?_
      simp [e13, e7, eH, -List.reduceReplicate]
      refine wqCall_of (hrn x t (by omega) _ _) rfl (fun _ _ _ h => h.1) ?_
      simp [e62]
      rw [w64 (x := (j : Int) + 1) (by omega) (by omega)]
      refine kLoop_nrm _ _ _ _ (Sub_refl _ _) ⟨j + 1, by omega, ⟨by simp [e1], by simp [e7], by simp [e11], by simp [e50], by simp [e51], by simp [e52], by simp [eH]⟩, by simp [e13], by simp [e60], by simp [e61], by simp⟩ (by simp; omega)
    · simp at hjt
      try simp [e52]
      rw [w64 (x := (i : Int) + 1) (by omega) (by omega)]
      refine kLoop_nrm _ _ _ _ (Sub_refl _ _) ⟨i + 1, by omega, by simp [e1], by simp [e7], by simp [e11], by simp [e50], by simp [e51], by simp, by simp [eH]⟩ (by simp; omega)
  · refine wCall_eq (Q := fun r => r = .bool true) (haw _ _) fun r n8 hr hn8 => ?_
    subst hr
    simp
    exact wF_of rfl
end Go.PE
namespace Go.PE
open Go
def zTag : Tag := ⟨List.replicate 32 0, by simp⟩
/-- the row of a bundle that is being filled -/
def bunRow (tC tB : Nat) (cavs : List Cav) : List Value := [.int .i64 0, .int .i64 0, .int .i64 0, .int .i64 0, lin tC (cavs.map Cav.v)] ++ zTag.cells ++ [lin tB []]
@[simp] theorem bunRow_4 (tC tB : Nat) (cavs : List Cav) : (bunRow tC tB cavs)[4]? = some (lin tC (cavs.map Cav.v)) := _root_.id rfl
@[simp] theorem bunRow_len (tC tB : Nat) (cavs : List Cav) : (bunRow tC tB cavs).length = 38 := by simp [bunRow]
@[simp] theorem bunRow_E4 (tC tB : Nat) (cavs : List Cav) (h : 4 < (bunRow tC tB cavs).length) : (bunRow tC tB cavs)[4] = lin tC (cavs.map Cav.v) := _root_.id rfl
@[simp] theorem bunRow_set (tC tB : Nat) (cavs cavs' : List Cav) (v : Value) : ((bunRow tC tB cavs).set 4 v).set 4 (lin tC (cavs'.map Cav.v)) = bunRow tC tB cavs' := _root_.id rfl
@[simp] theorem bunRow_set1 (tC tB : Nat) (cavs : List Cav) (c : Cav) : (bunRow tC tB cavs).set 4 (lin tC (cavs.map Cav.v ++ [c.v])) = bunRow tC tB (cavs ++ [c]) := by
  have : cavs.map Cav.v ++ [c.v] = (cavs ++ [c]).map Cav.v := by simp
  rw [this]; rfl
def xBun (cavs : List Cav) : Bun := ⟨0, 0, 0, 0, cavs, zTag, []⟩
@[simp] theorem bunRow_dg (tC tB : Nat) (cavs : List Cav) : (bunRow tC tB cavs).map dg1 = (xBun cavs).cells := by simp [bunRow, xBun, Bun.cells]
theorem elem_bun {l : List Bun} {n : Int} (h0 : 0 ≤ n) (hn : n.toNat < l.length) : elemAt (l.map Bun.v) n 38 = some (dptr 0 l[n.toNat].cells) := elemAt_map h0 hn rfl (by simp)
theorem sts_of {C : Known} {P : Program} {T : Nat → Prop} {n0 : Nat} {x : Operand} {t k off e : Nat} {row xs : List Value} {s : PS} {K : PS → Prop} (hx : s.ev x = ptr k off) (hk : s.H k = some row) (ho : off < row.length) (hT : T k ∨ n0 ≤ k) (ht : s.t t = lin e xs)
    (h : K ⟨upd s.t t (deep xs), upd s.H k (some (row.set off (lin e xs))), s.nx⟩) : PE.step C P T n0 none (.sts x t) s K := by
  refine ⟨k, off, row, hx, hk, ho, hT, fun ps h => ?_, fun ps h => ?_, ?_⟩
  · rw [ht] at h; cases h
  · rw [ht] at h; cases h
  · rw [ht]; exact h
def roomO (nx n3 : Nat) (nodes ks : List Tag) (raw cs : List Cnt) (l : List Int) (Bs : List Bun) (i : Nat) (s : PS) : Prop := s.t 1 = deep (nodes.map Tag.v) ∧ s.t 3 = deep (raw.map Cnt.v) ∧ s.t 9 = ptr (nx + 1) 0 ∧ dg (s.t 10) = deep (cs.map Cnt.v) ∧ dg (s.t 12) = deep (ks.map Tag.v) ∧ dg (s.t 70) = deep (Bs.map Bun.v) ∧ s.t 71 = .int .i64 2 ∧ s.t 72 = .int .i64 i ∧ (∃ at' : Int, 0 ≤ at' ∧ s.H (nx + 1) = some (dk l at')) ∧ n3 ≤ s.nx
def roomI (nx n3 : Nat) (nodes ks : List Tag) (raw cs : List Cnt) (l : List Int) (Bs : List Bun) (i nb : Nat) (x : Bun) (Zs : List (List Tag)) (j : Nat) (s : PS) : Prop := roomO nx n3 nodes ks raw cs l Bs i s ∧ s.t 16 = ptr nb 0 ∧ s.H nb = some x.cells ∧ dg (s.t 85) = deep (Zs.map fun l => deep (l.map Tag.v)) ∧ s.t 86 = .int .i64 3 ∧ s.t 87 = .int .i64 j
set_option maxHeartbeats 4000000 in
theorem room28_ok {P : Program} {f aw ne co tC tB tT nx_ ca u8 tBu tT2 li rl st ro rr e e2 : Nat} (hc : compFn P f = some (124, law28_LedgerRoomC aw ne co tC tB tT nx_ ca u8 tBu tT2 li rl st ro rr, [.t 8])) (hne : NewOK P ne) (hn : NextW P nx_)
    (hco : Draws P co [] isCounts) (hca : Draws P ca [] isCav) (hli : LimdOK P li e) (hrl : LimdOK P rl e2) (hst : SameTOK P st) (hro : RoomOK P ro) (hrr : RoomOK P rr) (haw : AwOK P aw)
    (b : Bun) (nodes : List Tag) (l : List Int) (raw : List Cnt) (hl : l.length ≤ maxLen) (hraw : raw.length ≤ maxLen) (hnodes : nodes.length ≤ maxLen) (H : Nat → Option (List Value)) (nx : Nat) :
    PCalls P f [b.v, deep (nodes.map Tag.v), deep (l.map (.int .i64)), deep (raw.map Cnt.v)] H nx (fun _ => False) (fun r H' _ => r = .bool true) := by
  refine PCalls_of hc (by simp) fun hw => ?_
  have hmx : (maxLen : Int) = 9223372036854775807 := rfl
  by_cases h1 : b.cavs.length ≤ 70
  case neg =>
    simp [law28_LedgerRoomC, show (70 : Int) < b.cavs.length by omega, -List.reduceReplicate]
    refine wCall_eq (Q := fun r => r = .bool true) (haw _ _) fun r n5 hr hn5 => ?_
    subst hr
    simp
    exact wF_of rfl
  by_cases h2 : nodes.length ≤ 80
  case neg =>
    simp [law28_LedgerRoomC, show ¬ (70 : Int) < b.cavs.length by omega, show (80 : Int) < nodes.length by omega, -List.reduceReplicate]
    refine wCall_eq (Q := fun r => r = .bool true) (haw _ _) fun r n5 hr hn5 => ?_
    subst hr
    simp
    exact wF_of rfl
  by_cases h3 : raw.length ≤ 60
  case neg =>
    simp [law28_LedgerRoomC, show ¬ (70 : Int) < b.cavs.length by omega, show ¬ (80 : Int) < nodes.length by omega, show (60 : Int) < raw.length by omega, -List.reduceReplicate]
    refine wCall_eq (Q := fun r => r = .bool true) (haw _ _) fun r n5 hr hn5 => ?_
    subst hr
    simp
    exact wF_of rfl
  simp [law28_LedgerRoomC, law28_LedgerRoomC_j6, show ¬ (70 : Int) < b.cavs.length by omega, show ¬ (80 : Int) < nodes.length by omega, show ¬ (60 : Int) < raw.length by omega, -List.reduceReplicate]
  refine wCall_le (hne l _ _) fun r H1 n1 hR hn1 hown => ?_
  obtain ⟨rfl, rfl, rfl⟩ := hR
  clear hn1 hown
  simp [-List.reduceReplicate]
  refine wCall_drawL hco (l := l) (at_ := 0) (by omega) hl (by simp) (.inl (by simp)) fun v1 at1 n2 hv ha1 hn2 => ?_
  obtain ⟨cs, hcs, hok, hlen⟩ := hv
  obtain ⟨q1, q2, q3⟩ := cl_dg hcs
  simp at hn2
  have d1 : ¬ n2 = nx := by omega
  have d2 : ¬ n2 = nx + 1 := by omega
  have d3 : ¬ nx = n2 := by omega
  have d4 : ¬ nx + 1 = n2 := by omega
  simp [q1, q2, q3, d1, d2, d3, d4, -List.reduceReplicate]
  refine wCall_drawL (hn 6 (by omega) (by omega)) (l := l) (at_ := at1) ha1 hl (by simp [d1, d2, d3, d4]) (.inl (by omega)) fun v3 at2 n3 hv ha2 hn3 => ?_
  obtain ⟨m, rfl, hm0, hm1⟩ := hv
  simp at hn3
  simp [-List.reduceReplicate]
  refine wpc_loop _ _ _ _ _ _ (fun s => ∃ (cavs : List Cav) (ks : List Tag) (at' : Int), 0 ≤ at' ∧ s.t 1 = deep (nodes.map Tag.v) ∧ s.t 3 = deep (raw.map Cnt.v) ∧ s.t 4 = ptr nx 0 ∧ s.t 9 = ptr (nx + 1) 0 ∧ dg (s.t 10) = deep (cs.map Cnt.v) ∧ s.t 11 = ptr n2 0 ∧ s.t 12 = lin tT (ks.map Tag.v) ∧ (∃ j : Int, s.t 13 = .int .i64 j ∧ 0 ≤ j ∧ j + cavs.length ≤ 5 ∧ j + ks.length ≤ 6) ∧
      s.H nx = some b.cells ∧ s.H (nx + 1) = some (dk l at') ∧ s.H n2 = some (bunRow tC tB cavs) ∧ n3 ≤ s.nx)
    (fun s => match s.t 13 with | .int _ i => i.toNat | _ => 0) _ ⟨[], [tag1 9], at2, ha2, by simp, by simp, by simp, by simp, by simp [q1], by simp, by simp; rfl, ⟨m, by simp, by omega, by simp; omega, by simp; omega⟩, by simp [d1, d2, d3, d4], by simp [d1, d2, d3, d4], by simp [d1, d2, d3, d4]; rfl, by simp⟩ ?_
  rintro ⟨T, H', nx'⟩ ⟨cavs, ks, at', ha', e1, e3, e4, e9, e10, e11, e12, ⟨j, e13, hj0, hj1, hj2⟩, eb, ed, ex, hnx⟩
  simp only at e1 e3 e4 e9 e10 e11 e12 e13 eb ed ex hnx
  simp [e13]
  refine wB_of (fun hlt => ?_) (fun hlt => ?_)
  · simp at hlt
    simp [law28_LedgerRoomC_j2, e1, e3, e4, e9, e10, e11, e12, e13, -List.reduceReplicate]
    refine wCall_drawL hca (l := l) (at_ := at') ha' hl (by simp [ed]) (.inl (by omega)) fun v4 at3 n4 hv ha3 hn4 => ?_
    obtain ⟨c, rfl, _⟩ := hv
    simp at hn4
    simp [e9, -List.reduceReplicate]
    have b1 : ¬ nx = n4 := by omega
    have b2 : ¬ nx + 1 = n4 := by omega
    have b3 : ¬ n2 = n4 := by omega
    have b4 : ¬ n4 = nx := by omega
    have b5 : ¬ n4 = nx + 1 := by omega
    have b6 : ¬ n4 = n2 := by omega
    refine ⟨by omega, ?_⟩
    refine wCall_drawL (hn 2 (by omega) (by omega)) (l := l) (at_ := at3) ha3 hl (by simp [ed, b2]) (.inl (by omega)) fun v5 at4 n5 hv ha4 hn5 => ?_
    obtain ⟨q, rfl, hq0, hq1⟩ := hv
    simp at hn5
    simp [-List.reduceReplicate]
    refine wB_of (fun hg => ?_) (fun hg => ?_)
    · simp [e9, -List.reduceReplicate]
      refine wCall_drawL (hn 4 (by omega) (by omega)) (l := l) (at_ := at4) ha4 hl (by simp [ed, b2]) (.inl (by omega)) fun v6 at5 n6 hv ha5 hn6 => ?_
      obtain ⟨q', rfl, hq0', hq1'⟩ := hv
      simp at hn6
      simp [b1, b2, b3, b4, b5, b6, show nx ≤ n4 by omega, law28_LedgerRoomC_j1, e9, e11, e12, e13, -List.reduceReplicate]
      refine wLdT_ptr (row := bunRow tC tB cavs) (c := lin tC (cavs.map Cav.v)) (by simp [ex, b3, d1, d2, d3, d4]) (bunRow_4 _ _ _) (.inr (by omega)) ?_
      simp [b1, b2, b3, b4, b5, b6, d1, d2, d3, d4, e9, e11, e12, e13, -List.reduceReplicate]
      refine ⟨by omega, by omega, ?_⟩
      refine wCall_drawL (hn 6 (by omega) (by omega)) (l := l) (at_ := at5) ha5 hl (by simp [ed, b1, b2, b3, b4, b5, b6, d1, d2, d3, d4]) (.inl (by omega)) fun v7 at7 n7 hv ha7 hn7 => ?_
      obtain ⟨z, rfl, hz0, hz1⟩ := hv
      simp at hn7
      simp [b1, b2, b3, b4, b5, b6, d1, d2, d3, d4, e9, e11, e12, e13, -List.reduceReplicate]
      refine ⟨by omega, by omega, ?_⟩
      refine sts_of (k := n2) (off := 4) (e := tC) (xs := (cavs ++ [(⟨false, ⟨7, 0, 0, 0, ⟨#[]⟩, q'⟩, 0, [], []⟩ : Cav)]).map Cav.v) (row := (bunRow tC tB cavs).set 4 (deep (cavs.map Cav.v))) (by simp) (by simp [d1, d2, d3, d4]) (by simp) (.inr (by omega)) (by simp; rfl) ?_
      simp [b1, b2, b3, b4, b5, b6, d1, d2, d3, d4, e9, e11, e12, e13, -List.reduceReplicate]
      rw [w64 (x := j - 1) (by omega) (by omega)]
      refine kLoop_nrm _ _ _ _ (Sub_refl _ _) ⟨cavs ++ [(⟨false, ⟨7, 0, 0, 0, ⟨#[]⟩, q'⟩, 0, [], []⟩ : Cav)], ks ++ [tag1 (IntKind.u8.wrap z)], at7, ha7, by simp [e1], by simp [e3], by simp [e4], by simp [e9], by simp [e10], by simp [e11], by simp; rfl, ⟨j - 1, by simp, by omega, by simp; omega, by simp; omega⟩, by simp [eb, b1, b2, b3, b4, b5, b6, d1, d2, d3, d4], by simp [b1, b2, b3, b4, b5, b6, d1, d2, d3, d4], by simp, by simp; omega⟩ (by simp; omega)
    · simp [b1, b2, b3, b4, b5, b6, law28_LedgerRoomC_j1, e9, e11, e12, e13, -List.reduceReplicate]
      refine wLdT_ptr (row := bunRow tC tB cavs) (c := lin tC (cavs.map Cav.v)) (by simp [ex, b3, d1, d2, d3, d4]) (bunRow_4 _ _ _) (.inr (by omega)) ?_
      simp [b1, b2, b3, b4, b5, b6, d1, d2, d3, d4, e9, e11, e12, e13, -List.reduceReplicate]
      refine ⟨by omega, by omega, ?_⟩
      refine wCall_drawL (hn 6 (by omega) (by omega)) (l := l) (at_ := at4) ha4 hl (by simp [ed, b1, b2, b3, b4, b5, b6, d1, d2, d3, d4]) (.inl (by omega)) fun v7 at7 n7 hv ha7 hn7 => ?_
      obtain ⟨z, rfl, hz0, hz1⟩ := hv
      simp at hn7
      simp [b1, b2, b3, b4, b5, b6, d1, d2, d3, d4, e9, e11, e12, e13, -List.reduceReplicate]
      refine ⟨by omega, by omega, ?_⟩
      refine sts_of (k := n2) (off := 4) (e := tC) (xs := (cavs ++ [c]).map Cav.v) (row := (bunRow tC tB cavs).set 4 (deep (cavs.map Cav.v))) (by simp) (by simp [d1, d2, d3, d4]) (by simp) (.inr (by omega)) (by simp; rfl) ?_
      simp [b1, b2, b3, b4, b5, b6, d1, d2, d3, d4, e9, e11, e12, e13, -List.reduceReplicate]
      rw [w64 (x := j - 1) (by omega) (by omega)]
      refine kLoop_nrm _ _ _ _ (Sub_refl _ _) ⟨cavs ++ [c], ks ++ [tag1 (IntKind.u8.wrap z)], at7, ha7, by simp [e1], by simp [e3], by simp [e4], by simp [e9], by simp [e10], by simp [e11], by simp; rfl, ⟨j - 1, by simp, by omega, by simp; omega, by simp; omega⟩, by simp [eb, b1, b2, b3, b4, b5, b6, d1, d2, d3, d4], by simp [b1, b2, b3, b4, b5, b6, d1, d2, d3, d4], by simp, by simp; omega⟩ (by simp; omega)
  · simp at hlt
    have hkl : ks.length ≤ 6 := by omega
    clear hlt
    simp [law28_LedgerRoomC_j5, e1, e3, e4, e9, e10, e11, eb, ex, -List.reduceReplicate]
    obtain ⟨Bs, hBs⟩ : ∃ Bs : List Bun, Bs = [xBun cavs, b] := ⟨_, rfl⟩
    have hB2 : Bs.length = 2 := by rw [hBs]; rfl
    have hBl : ∀ x ∈ Bs, x.cavs.length ≤ 70 := by
      rw [hBs]; intro x hx
      simp at hx
      rcases hx with rfl | rfl
      · show cavs.length ≤ 70; omega
      · exact h1
    refine wpc_loop _ _ _ _ _ _ (fun s => ∃ i : Nat, i ≤ 2 ∧ roomO nx n3 nodes ks raw cs l Bs i s)
      (fun s => match s.t 72 with | .int _ i => (2 - i).toNat | _ => 0) _ ⟨0, by omega, by simp [e1], by simp [e3], by simp [e9], by simp [e10], by simp [e12], by rw [hBs]; simp; rfl, by simp, by simp, ⟨at', ha', by simp [ed]⟩, by simpa using hnx⟩ ?_
    clear e1 e3 e4 e9 e10 e11 e12 e13 eb ed ex hnx ha' hcs q1 q2 q3
    rintro ⟨T, H', nx'⟩ ⟨i, hi, e1, e3, e9, e10, e12, e70, e71, e72, ⟨at', ha', ed⟩, hnx⟩
    simp only at e1 e3 e9 e10 e12 e70 e71 e72 ed hnx
    simp [e71, e72]
    refine wB_of (fun hlt => ?_) (fun hlt => ?_)
    · simp at hlt
      have hlt' : i < 2 := by omega
      have he := elem_bun (l := Bs) (n := (i : Int)) (by omega) (by simp; omega)
      have hxl := hBl (Bs[((i : Int)).toNat]'(by simp; omega)) (List.getElem_mem _)
      generalize Bs[((i : Int)).toNat]'(by simp; omega) = x at he hxl
      simp [law28_LedgerRoomC_j4, e1, e3, e9, e10, e12, e70, e71, e72, he, -List.reduceReplicate]
      have f1 : ¬ nx + 1 = nx' := by omega
      have f2 : ¬ nx' = nx + 1 := by omega
      refine ⟨by omega, ?_⟩
      rw [w64 (x := (ks.length : Int) + 1) (by omega) (by omega)]
      refine wCall_drawL (hn (ks.length + 1) (by omega) (by omega)) (l := l) (at_ := at') ha' hl (by simp [ed, f1, f2]) (.inl (by omega)) fun v7 at7 n7 hv ha7 hn7 => ?_
      obtain ⟨z, rfl, hz0, hz1⟩ := hv
      simp at hn7
      have hzk : z ≤ ks.length := by omega
      have hsz : ∀ a ∈ ks, a.cells.length = 32 := fun a _ => a.len
      have hcut : cutV (ks.map Tag.v) 0 z.toNat ks.length 32 = some (deep ((ks.take z.toNat).map Tag.v)) := by
        have hlc : ∀ x ∈ ks.map Tag.v, (lc x).length = 32 := by
          intro x hx
          obtain ⟨a, _, rfl⟩ := List.mem_map.1 hx
          exact a.len
        unfold cutV
        rw [if_pos ⟨by omega, by omega, by simp, hlc⟩]
        simp [List.map_take]
      simp [hz0, hzk, hcut, -List.reduceReplicate, -List.map_take]
      obtain ⟨Zs, hZs⟩ : ∃ Zs : List (List Tag), Zs = [ks, nodes, ks.take z.toNat] := ⟨_, rfl⟩
      have hZ3 : Zs.length = 3 := by rw [hZs]; rfl
      have hZl : ∀ x ∈ Zs, x.length ≤ 80 := by
        rw [hZs]; intro x hx
        simp at hx
        rcases hx with rfl | rfl | rfl
        · omega
        · omega
        · simp; omega
      refine wpc_loop _ _ _ _ _ _ (fun s => ∃ j : Nat, j ≤ 3 ∧ roomI nx n3 nodes ks raw cs l Bs i nx' x Zs j s)
        (fun s => match s.t 87 with | .int _ i => (3 - i).toNat | _ => 0) _ ⟨0, by omega, ⟨by simp [e1], by simp [e3], by simp [e9], by simp [e10], by simp [e12], by simp [e70], by simp [e71], by simp [e72], ⟨at7, ha7, by simp⟩, by simp; omega⟩, by simp, by simp [f1, f2], by rw [hZs]; simp [-List.map_take], by simp, by simp⟩ ?_
      clear e1 e3 e9 e10 e12 e70 e71 e72 ed he ha'
      rintro ⟨T, H', nx2⟩ ⟨j, hj, ⟨e1, e3, e9, e10, e12, e70, e71, e72, ⟨at', ha', ed⟩, hnx2⟩, e16, ex, e85, e86, e87⟩
      simp only at e1 e3 e9 e10 e12 e70 e71 e72 ed hnx2 e16 ex e85 e86 e87
      simp [e86, e87]
      refine wB_of (fun hjt => ?_) (fun hjt => ?_)
      · simp at hjt
        have hjt' : j < 3 := by omega
        have he := elem_list Tag.v (ls := Zs) (n := (j : Int)) (by omega) (by simp; omega)
        have hyl := hZl (Zs[((j : Int)).toNat]'(by simp; omega)) (List.getElem_mem _)
        generalize Zs[((j : Int)).toNat]'(by simp; omega) = y at he hyl
        simp [law28_LedgerRoomC_j3, e1, e3, e9, e10, e12, e16, e70, e71, e72, e85, e86, e87, he, ex, Bun.ag, -List.reduceReplicate]
        have stp : ∀ {d : Option Nat} {s : PS} {K : PS → Prop} {fn : Nat} {as : List Value} {w : Value}, (∀ H1 n1, PCalls P fn as H1 n1 (fun _ => False) (fun r H' _ => r = w ∧ H' = H1)) → (∀ n1, s.nx ≤ n1 → K ⟨(s.putO d w).t, s.H, n1⟩) → wCall (PCalls P) (fun _ => False) nx fn as d s K :=
          fun h hK => wCall_eq (Q := fun r => r = _) (h _ _) fun r n1 hr hn1 => by subst hr; exact hK n1 hn1
        have c1 := fun H1 n1 => hli x y (by omega) (by omega) H1 n1
        have c2 := fun H1 n1 => hrl x y (by omega) (by omega) H1 n1
        have hdl : (limdV x y).length ≤ maxLen := by
          have h1 := limF_len x.cavs 0
          have : (limdV x y).length ≤ (limV x.cavs).length := List.length_filterMap_le _ _
          rw [← limV] at h1; omega
        have c3 := fun H1 n1 => hst (limdV x y) (limdV x y) hdl hdl H1 n1
        have c4 := fun H1 n1 => hro cs x y (by omega) (by omega) (by omega) H1 n1
        have c5 := fun H1 n1 => hrr cs x y (by omega) (by omega) (by omega) H1 n1
        have c6 := fun H1 n1 => hro raw x y (by omega) (by omega) (by omega) H1 n1
        have c7 := fun H1 n1 => hrr raw x y (by omega) (by omega) (by omega) H1 n1
        have hwj := w64 (x := (j : Int) + 1) (by omega) (by omega)
        repeat' first
          | refine And.intro ?_ ?_
          | (refine stp c1 fun n1 hn1 => ?_; dsimp only at hn1; simp [e1, e3, e9, e10, e12, e16, e70, e71, e72, e85, e86, e87, ex, Bun.ag, hwj, -List.reduceReplicate])
          | (refine stp c2 fun n1 hn1 => ?_; dsimp only at hn1; simp [e1, e3, e9, e10, e12, e16, e70, e71, e72, e85, e86, e87, ex, Bun.ag, hwj, -List.reduceReplicate])
          | (refine stp c3 fun n1 hn1 => ?_; dsimp only at hn1; simp [e1, e3, e9, e10, e12, e16, e70, e71, e72, e85, e86, e87, ex, Bun.ag, hwj, -List.reduceReplicate])
          | (refine stp c4 fun n1 hn1 => ?_; dsimp only at hn1; simp [e1, e3, e9, e10, e12, e16, e70, e71, e72, e85, e86, e87, ex, Bun.ag, hwj, -List.reduceReplicate])
          | (refine stp c5 fun n1 hn1 => ?_; dsimp only at hn1; simp [e1, e3, e9, e10, e12, e16, e70, e71, e72, e85, e86, e87, ex, Bun.ag, hwj, -List.reduceReplicate])
          | (refine stp c6 fun n1 hn1 => ?_; dsimp only at hn1; simp [e1, e3, e9, e10, e12, e16, e70, e71, e72, e85, e86, e87, ex, Bun.ag, hwj, -List.reduceReplicate])
          | (refine stp c7 fun n1 hn1 => ?_; dsimp only at hn1; simp [e1, e3, e9, e10, e12, e16, e70, e71, e72, e85, e86, e87, ex, Bun.ag, hwj, -List.reduceReplicate])
        all_goals
          refine kLoop_nrm _ _ _ _ (Sub_refl _ _) ⟨j + 1, by omega, ⟨by simp [e1], by simp [e3], by simp [e9], by simp [e10], by simp [e12], by simp [e70], by simp [e71], by simp [e72], ⟨at', ha', by simp [ed]⟩, by simp; omega⟩, by simp [e16], by simp [ex], by simp [e85], by simp [e86], by simp⟩ (by simp; omega)
      · simp at hjt
        try simp [e72]
        rw [w64 (x := (i : Int) + 1) (by omega) (by omega)]
        refine kLoop_nrm _ _ _ _ (Sub_refl _ _) ⟨i + 1, by omega, by simp [e1], by simp [e3], by simp [e9], by simp [e10], by simp [e12], by simp [e70], by simp [e71], by simp, ⟨at', ha', by simp [ed]⟩, by simpa using hnx2⟩ (by simp; omega)
    · refine wCall_eq (Q := fun r => r = .bool true) (haw _ _) fun r n8 hr hn8 => ?_
      subst hr
      simp
      exact wF_of rfl
end Go.PE
namespace Go.PE
open Go
theorem fk_append {P : Program} : ∀ {l ks : List FK} {xs : List Value}, fkAll P (l ++ ks) xs → ∃ a b, xs = a ++ b ∧ fkAll P l a ∧ fkAll P ks b
  | [], ks, xs, h => ⟨[], xs, rfl, trivial, h⟩
  | k :: l, ks, xs, h => by
    obtain ⟨v, vs, rfl, h1, h2⟩ := fk_cons h
    obtain ⟨a, b, rfl, h3, h4⟩ := fk_append h2
    exact ⟨v :: a, b, rfl, ⟨h1, h3⟩, h4⟩
theorem fk_rep {P : Program} {k : IntKind} : ∀ {n : Nat} {cs : List Value}, fkAll P (List.replicate n (.int k)) cs → ∃ l : List Int, cs = l.map (.int k) ∧ l.length = n
  | 0, cs, h => ⟨[], fk_nil h, rfl⟩
  | n + 1, cs, h => by
    obtain ⟨v, vs, rfl, ⟨m, rfl, _⟩, h2⟩ := fk_cons h
    obtain ⟨l, rfl, rfl⟩ := fk_rep h2
    exact ⟨m :: l, rfl, rfl⟩
theorem tag_of {P : Program} {t n e : Nat} (h : P.underlying t = some (.array n e)) (hf : flat P 3 t = some (List.replicate 32 (.int .u8))) {cs : List Value} (hp : PTy P t cs) : ∃ q : Tag, toV P t cs = q.v := by
  obtain ⟨l, rfl, hl⟩ := fk_rep (flat_ok 3 t _ cs hf hp)
  exact ⟨⟨l, hl⟩, toV_arr h _⟩
theorem cnt_of {P : Program} {t : Nat} (h : ∃ fs, P.underlying t = some (.struct fs)) (hf : flat P 4 t = some (List.replicate 32 (.int .u8) ++ [.int .i64])) {cs : List Value} (hp : PTy P t cs) : ∃ q : Cnt, toV P t cs = q.v := by
  obtain ⟨fs, h⟩ := h
  obtain ⟨a, b, rfl, h1, h2⟩ := fk_append (flat_ok 4 t _ cs hf hp)
  obtain ⟨l, rfl, hl⟩ := fk_rep h1
  obtain ⟨v, vs, rfl, ⟨n, rfl, _⟩, h3⟩ := fk_cons h2
  obtain rfl := fk_nil h3
  exact ⟨⟨⟨l, hl⟩, n⟩, toV_ag h _⟩
theorem bytes_of {P : Program} {e : Nat} (he : P.underlying e = some (.int .u8)) {v : Value} (h : FKok P (.sl e) v) : ∃ l : List Int, v = bytesV l ∧ l.length ≤ maxLen := by
  obtain ⟨xs, rfl, hl, hx⟩ := h
  obtain ⟨l, h1, h2, _⟩ := elems_of (Value.int .u8) (fun _ => True) (fun x hx => by
    obtain ⟨n, h1, _⟩ := int_of he hx
    exact ⟨n, h1, trivial⟩) xs hx
  exact ⟨l, by rw [h1]; rfl, by omega⟩
theorem cav_of {P : Program} {t e : Nat} (he : P.underlying e = some (.int .u8)) (h : ∃ fs, P.underlying t = some (.struct fs)) (hf : flat P 4 t = some [.bool, .int .i64, .int .u64, .int .i64, .int .i64, .str, .int .i64, .int .i64, .sl e, .sl e]) {cs : List Value} (hp : PTy P t cs) :
    ∃ c : Cav, toV P t cs = c.v ∧ c.p.wf ∧ c.tk.length ≤ maxLen ∧ c.bx.length ≤ maxLen := by
  obtain ⟨fs, h⟩ := h
  obtain ⟨_, w0, rfl, ⟨b, rfl⟩, k0⟩ := fk_cons (flat_ok 4 t _ cs hf hp)
  obtain ⟨_, w1, rfl, ⟨k, rfl, _, _⟩, k1⟩ := fk_cons k0
  obtain ⟨_, w2, rfl, ⟨m, rfl, hm0, hm1⟩, k2⟩ := fk_cons k1
  obtain ⟨_, w3, rfl, ⟨fr, rfl, _, _⟩, k3⟩ := fk_cons k2
  obtain ⟨_, w4, rfl, ⟨to, rfl, _, _⟩, k4⟩ := fk_cons k3
  obtain ⟨_, w5, rfl, ⟨s, rfl, hs⟩, k5⟩ := fk_cons k4
  obtain ⟨_, w6, rfl, ⟨n, rfl, _, _⟩, k6⟩ := fk_cons k5
  obtain ⟨_, w7, rfl, ⟨pa, rfl, _, _⟩, k7⟩ := fk_cons k6
  obtain ⟨_, w8, rfl, h8, k8⟩ := fk_cons k7
  obtain ⟨_, w9, rfl, h9, k9⟩ := fk_cons k8
  obtain rfl := fk_nil k9
  obtain ⟨tk, rfl, ht⟩ := bytes_of he h8
  obtain ⟨bx, rfl, hb⟩ := bytes_of he h9
  refine ⟨⟨b, ⟨k, m, fr, to, s, n⟩, pa, tk, bx⟩, toV_ag h _, ⟨?_, hm0, ?_⟩, ht, hb⟩
  · have := max_len; show (s.size : Int) ≤ _; omega
  · have : IntKind.u64.max = 18446744073709551615 := rfl
    show m < _; omega
theorem bun_of {P : Program} {t c e d : Nat} (he : P.underlying e = some (.int .u8)) (hc : ∃ fs, P.underlying c = some (.struct fs)) (hcf : flat P 4 c = some [.bool, .int .i64, .int .u64, .int .i64, .int .i64, .str, .int .i64, .int .i64, .sl e, .sl e])
    (h : ∃ fs, P.underlying t = some (.struct fs)) (hf : flat P 4 t = some ([.int .i64, .int .i64, .int .i64, .int .i64, .sl c] ++ (List.replicate 32 (.int .u8) ++ [.sl d]))) {cs : List Value} (hp : PTy P t cs) :
    ∃ b : Bun, toV P t cs = b.v ∧ b.cavs.length ≤ maxLen ∧ ∀ x ∈ b.cavs, x.p.wf ∧ x.tk.length ≤ maxLen ∧ x.bx.length ≤ maxLen := by
  obtain ⟨fs, h⟩ := h
  obtain ⟨_, w0, rfl, ⟨g, rfl, _, _⟩, k0⟩ := fk_cons (flat_ok 4 t _ cs hf hp)
  obtain ⟨_, w1, rfl, ⟨n, rfl, _, _⟩, k1⟩ := fk_cons k0
  obtain ⟨_, w2, rfl, ⟨ep, rfl, _, _⟩, k2⟩ := fk_cons k1
  obtain ⟨_, w3, rfl, ⟨s, rfl, _, _⟩, k3⟩ := fk_cons k2
  obtain ⟨_, w4, rfl, ⟨xs, rfl, hl, hx⟩, k4⟩ := fk_cons k3
  obtain ⟨a, b, rfl, h1, h2⟩ := fk_append (l := List.replicate 32 (.int .u8)) (ks := [.sl d]) k4
  obtain ⟨l, rfl, hl2⟩ := fk_rep h1
  obtain ⟨_, w5, rfl, ⟨ys, rfl, hy, _⟩, k5⟩ := fk_cons h2
  obtain rfl := fk_nil k5
  obtain ⟨cavs, e1, e2, e3⟩ := elems_of Cav.v (fun c => c.p.wf ∧ c.tk.length ≤ maxLen ∧ c.bx.length ≤ maxLen) (fun x hx => cav_of he hc hcf hx) xs hx
  rw [e1]
  exact ⟨⟨g, n, ep, s, cavs, ⟨l, hl2⟩, ys.map (toV P d)⟩, toV_ag h _, by show cavs.length ≤ _; omega, e3⟩
end Go.PE
namespace Go.PE
open Go
def rcv (q : Int) : Cav := ⟨false, ⟨7, 0, 0, 0, ⟨#[]⟩, q⟩, 0, [], []⟩
def nsT (m : Nat) : List Tag := [tag1 1, tag1 2, tag1 3, tag1 4].take m
def kT (m : Nat) : List Tag := tag1 9 :: nsT m
def cntR (m : Nat) (r : Int) : List Cnt := if r = 0 then [] else (nsT m).map fun t => ⟨t, r⟩
theorem tag1_iff (x y : Int) : tag1 x = tag1 y ↔ x = y := by
  constructor
  · intro h; have := congrArg Tag.b h; simp [tag1] at this; exact this
  · rintro rfl; rfl
theorem nsT_len {m : Nat} (h : m ≤ 4) : (nsT m).length = m := by simp [nsT]; omega
theorem kT_len {m : Nat} (h : m ≤ 4) : (kT m).length = m + 1 := by simp [kT, nsT_len h]
theorem kT_step {m : Nat} (h : m < 4) : kT m ++ [tag1 (IntKind.u8.wrap (m + 1))] = kT (m + 1) := by
  match m, h with
  | 0, _ => rfl
  | 1, _ => rfl
  | 2, _ => rfl
  | 3, _ => rfl
def leastV (qs : List Int) : Int := qs.foldl min 99
theorem limd_never {qs : List Int} (h : qs.length ≤ 4) : limdV (xBun (qs.map rcv)) (kT qs.length) = nsT qs.length := by
  match qs, h with
  | [], _ => rfl
  | [_], _ => rfl
  | [_, _], _ => rfl
  | [_, _, _], _ => rfl
  | [_, _, _, _], _ => rfl
theorem addV_never {m : Nat} {r : Int} (h : m ≤ 4) (hr : 0 ≤ r) : addV (cntR m r) (nsT m) = cntR m (r + 1) := by
  have h1 : ¬ r + 1 = 0 := by omega
  by_cases h0 : r = 0
  · subst h0
    match m, h with
    | 0, _ => rfl
    | 1, _ => simp [cntR, nsT, addV, bump]
    | 2, _ => simp [cntR, nsT, addV, bump, tag1_iff]
    | 3, _ => simp [cntR, nsT, addV, bump, tag1_iff]
    | 4, _ => simp [cntR, nsT, addV, bump, tag1_iff]
  · match m, h with
    | 0, _ => simp [cntR, nsT, addV]
    | 1, _ => simp [cntR, nsT, addV, bump, h0, h1]
    | 2, _ => simp [cntR, nsT, addV, bump, tag1_iff, h0, h1]
    | 3, _ => simp [cntR, nsT, addV, bump, tag1_iff, h0, h1]
    | 4, _ => simp [cntR, nsT, addV, bump, tag1_iff, h0, h1]
theorem numF_never {m : Nat} {r : Int} (h : m ≤ 4) (i : Nat) (hi : i < m) : numF (tag1 (i + 1)) (cntR m r) = r := by
  by_cases h0 : r = 0
  · subst h0; simp [cntR, numF]
  · match m, h, i, hi with
    | 1, _, 0, _ => simp [cntR, nsT, numF, h0]
    | 2, _, 0, _ => simp [cntR, nsT, numF, h0]
    | 2, _, 1, _ => simp [cntR, nsT, numF, h0, tag1_iff]
    | 3, _, 0, _ => simp [cntR, nsT, numF, h0]
    | 3, _, 1, _ => simp [cntR, nsT, numF, h0, tag1_iff]
    | 3, _, 2, _ => simp [cntR, nsT, numF, h0, tag1_iff]
    | 4, _, 0, _ => simp [cntR, nsT, numF, h0]
    | 4, _, 1, _ => simp [cntR, nsT, numF, h0, tag1_iff]
    | 4, _, 2, _ => simp [cntR, nsT, numF, h0, tag1_iff]
    | 4, _, 3, _ => simp [cntR, nsT, numF, h0, tag1_iff]
theorem least_le {qs : List Int} : ∀ (a : Int), (qs.foldl min a ≤ a) ∧ ∀ q ∈ qs, qs.foldl min a ≤ q := by
  induction qs with
  | nil => intro a; simp
  | cons q r ih =>
    intro a
    obtain ⟨h1, h2⟩ := ih (min a q)
    refine ⟨by simp only [List.foldl_cons]; omega, ?_⟩
    intro p hp
    rcases List.mem_cons.1 hp with rfl | hp
    · simp only [List.foldl_cons]; omega
    · exact h2 p hp
theorem least_iff (r : Int) : ∀ (qs : List Int) (a : Int), qs.foldl min a ≤ r ↔ a ≤ r ∨ ∃ q ∈ qs, q ≤ r
  | [], a => by simp
  | q :: l, a => by
    rw [List.foldl_cons, least_iff r l]
    simp only [List.mem_cons, exists_eq_or_imp]
    constructor
    · rintro (h | h)
      · by_cases h2 : a ≤ r
        · exact .inl h2
        · exact .inr (.inl (by omega))
      · exact .inr (.inr h)
    · rintro (h | h | h)
      · exact .inl (by omega)
      · exact .inl (by omega)
      · exact .inr h
theorem room_never {qs : List Int} {r : Int} (h : qs.length ≤ 4) (hr : r < 99) : roomV (cntR qs.length r) (xBun (qs.map rcv)) (kT qs.length) = if leastV qs ≤ r then 24 else 0 := by
  have hl := least_iff r qs 99
  rw [show qs.foldl min 99 = leastV qs from rfl] at hl
  have hb : (leastV qs ≤ r) ↔ ∃ q ∈ qs, q ≤ r := by rw [hl]; constructor; rintro (h | h); omega; exact h; exact .inr
  have hn := fun i hi => numF_never (m := qs.length) (r := r) h i hi
  clear hl
  unfold roomV
  suffices hs : (limV (xBun (qs.map rcv)).cavs).any (roomB (cntR qs.length r) (xBun (qs.map rcv)).cavs (kT qs.length)) = decide (∃ q ∈ qs, q ≤ r) by
    rw [hs]
    by_cases h3 : ∃ q ∈ qs, q ≤ r
    · rw [if_pos (hb.2 h3)]; simp [h3]
    · rw [if_neg (fun h => h3 (hb.1 h))]; simp only [h3, decide_false]; rfl
  clear hb
  have e : ∀ (i : Nat), i < qs.length → roomB (cntR qs.length r) (xBun (qs.map rcv)).cavs (kT qs.length) ((i : Int) + 1) = decide (qs[i]! ≤ r) := by
    intro i hi
    have h1 : (kT qs.length)[((i : Int) + 1).toNat]? = some (tag1 (i + 1)) := by
      match qs, h, i, hi with
      | [_], _, 0, _ => rfl
      | [_, _], _, 0, _ => rfl
      | [_, _], _, 1, _ => rfl
      | [_, _, _], _, 0, _ => rfl
      | [_, _, _], _, 1, _ => rfl
      | [_, _, _], _, 2, _ => rfl
      | [_, _, _, _], _, 0, _ => rfl
      | [_, _, _, _], _, 1, _ => rfl
      | [_, _, _, _], _, 2, _ => rfl
      | [_, _, _, _], _, 3, _ => rfl
    have h2 : (xBun (qs.map rcv)).cavs[((i : Int) + 1 - 1).toNat]? = some (rcv qs[i]!) := by
      have : ((i : Int) + 1 - 1).toNat = i := by omega
      rw [this]; simp [xBun, hi]
    unfold roomB
    rw [h1, h2]
    simp only [rcv, hn i hi]
  match qs, h, e with
  | [], _, _ => simp [xBun, limV, limF]
  | [a], _, e =>
    have e0 := e 0 (by simp)
    simp [xBun, limV, limF, rcv] at e0 ⊢
    simp [e0]
  | [a, b], _, e =>
    have e0 := e 0 (by simp)
    have e1 := e 1 (by simp)
    simp [xBun, limV, limF, rcv] at e0 e1 ⊢
    simp [e0, e1]
  | [a, b, c], _, e =>
    have e0 := e 0 (by simp)
    have e1 := e 1 (by simp)
    have e2 := e 2 (by simp)
    simp [xBun, limV, limF, rcv] at e0 e1 e2 ⊢
    simp [e0, e1, e2]
  | [a, b, c, d], _, e =>
    have e0 := e 0 (by simp)
    have e1 := e 1 (by simp)
    have e2 := e 2 (by simp)
    have e3 := e 3 (by simp)
    simp [xBun, limV, limF, rcv] at e0 e1 e2 e3 ⊢
    simp [e0, e1, e2, e3]
theorem kT_get {m i : Nat} (h : m ≤ 4) (hi : i < m) : (kT m)[((i : Int) + 1).toNat]? = some (tag1 (i + 1)) := by
  match m, h, i, hi with
  | 1, _, 0, _ => rfl
  | 2, _, 0, _ => rfl
  | 2, _, 1, _ => rfl
  | 3, _, 0, _ => rfl
  | 3, _, 1, _ => rfl
  | 3, _, 2, _ => rfl
  | 4, _, 0, _ => rfl
  | 4, _, 1, _ => rfl
  | 4, _, 2, _ => rfl
  | 4, _, 3, _ => rfl
theorem nsT_nd {m : Nat} (h : m ≤ 4) : (nsT m).Nodup := by
  match m, h with
  | 0, _ => simp [nsT]
  | 1, _ => simp [nsT]
  | 2, _ => simp [nsT, tag1_iff]
  | 3, _ => simp [nsT, tag1_iff]
  | 4, _ => simp [nsT, tag1_iff]
theorem cnt_ok {m : Nat} {r : Int} (h : m ≤ 4) (h0 : 0 ≤ r) (h1 : r ≤ 99) : okC (cntR m r) = true ∧ over (cntR m r) = false := by
  unfold cntR
  by_cases hr : r = 0
  · rw [if_pos hr]; exact ⟨rfl, rfl⟩
  · rw [if_neg hr]
    have hm : ∀ c ∈ (nsT m).map (fun t => (⟨t, r⟩ : Cnt)), c.n = r := by
      intro c hc; obtain ⟨t, _, rfl⟩ := List.mem_map.1 hc; rfl
    refine ⟨(okC_iff _).2 ⟨fun c hc => by have := hm c hc; omega, ?_⟩, ?_⟩
    · unfold nd
      rw [List.map_map, show (Cnt.tag ∘ fun t => (⟨t, r⟩ : Cnt)) = id from rfl, List.map_id]
      exact nsT_nd h
    · rw [over, List.any_eq_false]
      intro c hc
      have := hm c hc
      simp; omega
theorem cntR_len {m : Nat} {r : Int} (h : m ≤ 4) : (cntR m r).length ≤ 4 := by
  unfold cntR; split
  · simp
  · simp [nsT_len h]; omega
theorem if_min (x y : Int) : (if x < y then x else y) = min y x := by split <;> omega
end Go.PE
namespace Go.PE
open Go
set_option maxHeartbeats 4000000 in
theorem never28_ok {P : Program} {f ne tC tB tT nx_ u ro li ad nu aw e : Nat} (hc : compFn P f = some (108, law28_LedgerNeverC ne tC tB tT nx_ u ro li ad nu aw, [.t 2])) (hne : NewOK P ne) (hn : NextW P nx_)
    (hli : LimdOK P li e) (hro : RoomOK P ro) (had : AddOK P ad) (hnu : NumOK P nu) (haw : AwOK P aw)
    (l : List Int) (hl : l.length ≤ maxLen) (H : Nat → Option (List Value)) (nx : Nat) :
    PCalls P f [deep (l.map (.int .i64))] H nx (fun _ => False) (fun r H' _ => r = .bool true) := by
  refine PCalls_of hc (by simp) fun hw => ?_
  have hmx : (maxLen : Int) = 9223372036854775807 := rfl
  simp [law28_LedgerNeverC, -List.reduceReplicate]
  refine wCall_le (hne l _ _) fun r H1 n1 hR hn1 hown => ?_
  obtain ⟨rfl, rfl, rfl⟩ := hR
  clear hn1 hown
  simp [-List.reduceReplicate]
  refine wCall_drawL (hn 5 (by omega) (by omega)) (l := l) (at_ := 0) (by omega) hl (by simp) (.inl (by omega)) fun v3 at2 n3 hv ha2 hn3 => ?_
  obtain ⟨m, rfl, hm0, hm1⟩ := hv
  simp at hn3
  have d3 : ¬ nx = nx + 1 := by omega
  have d4 : ¬ nx + 1 = nx := by omega
  simp [-List.reduceReplicate]
  refine wpc_loop _ _ _ _ _ _ (fun s => ∃ (qs : List Int) (at' : Int), 0 ≤ at' ∧ s.t 3 = ptr nx 0 ∧ s.t 4 = ptr (nx + 1) 0 ∧ s.t 5 = lin tT ((kT qs.length).map Tag.v) ∧ (∃ j : Int, s.t 6 = .int .i64 j ∧ 0 ≤ j ∧ j + qs.length ≤ 4) ∧
      (∀ q ∈ qs, 0 ≤ q ∧ q ≤ 4) ∧ s.H nx = some (dk l at') ∧ s.H (nx + 1) = some (bunRow tC tB (qs.map rcv)) ∧ n3 ≤ s.nx)
    (fun s => match s.t 6 with | .int _ i => i.toNat | _ => 0) _ ⟨[], at2, ha2, by simp, by simp, by simp; rfl, ⟨m, by simp, by omega, by simp; omega⟩, by simp, by simp, by simp [d4]; rfl, by simp⟩ ?_
  rintro ⟨T, H', nx'⟩ ⟨qs, at', ha', e3, e4, e5, ⟨j, e6, hj0, hj1⟩, hq, ed, ex, hnx⟩
  simp only at e3 e4 e5 e6 ed ex hnx
  simp [e6]
  refine wB_of (fun hlt => ?_) (fun hlt => ?_)
  · simp at hlt
    have hkl := kT_len (m := qs.length) (by omega)
    simp [law28_LedgerNeverC_j1, e3, e4, e5, e6, d3, d4, -List.reduceReplicate]
    have d5 : ¬ nx' = nx + 1 := by omega
    have hk2 := kT_step (m := qs.length) (by omega)
    have hwj := w64 (x := j - 1) (by omega) (by omega)
    repeat' first
      | refine And.intro ?_ ?_
      | omega
      | (refine wLdT_ptr (row := bunRow tC tB (qs.map rcv)) (c := lin tC ((qs.map rcv).map Cav.v)) (by simp [ex]) (bunRow_4 _ _ _) (.inr (by omega)) ?_; simp [e3, e4, e5, e6, ed, d3, d4, -List.reduceReplicate])
      | (refine wCall_drawL (hn 5 (by omega) (by omega)) (l := l) (at_ := at') ha' hl (by simp [ed, d3, d4]) (.inl (by omega)) fun v7 at7 n7 hv ha7 hn7 => ?_; obtain ⟨z, rfl, hz0, hz1⟩ := hv; simp at hn7; simp [e3, e4, e5, e6, ed, d3, d4, -List.reduceReplicate])
    all_goals
      refine sts_of (k := nx + 1) (off := 4) (e := tC) (xs := ((qs ++ [z]).map rcv).map Cav.v) (row := (bunRow tC tB (qs.map rcv)).set 4 (deep ((qs.map rcv).map Cav.v))) (by simp) (by simp [d3, d4]) (by simp) (.inr (by omega)) (by simp; rfl) ?_
      simp [e3, e4, e6, d3, d4, hwj, -List.reduceReplicate]
      refine kLoop_nrm _ _ _ _ (Sub_refl _ _) ⟨qs ++ [z], at7, ha7, by simp [e3], by simp [e4], by simp [hkl, ← hk2, -List.reduceReplicate]; rfl, ⟨j - 1, by simp, by omega, by simp; omega⟩, ?_, by simp [d3, d4, ed], by simp [d3, d4, bunRow], by simp; omega⟩ (by simp; omega)
      intro q hq'
      rcases List.mem_append.1 hq' with hq' | hq'
      · exact hq q hq'
      · simp at hq'; subst hq'; omega
  · simp at hlt
    have hm4 : qs.length ≤ 4 := by omega
    have hlv := least_le (qs := qs) 99
    rw [show qs.foldl min 99 = leastV qs from rfl] at hlv
    have hl0 : 0 ≤ leastV qs := by
      rcases Int.lt_or_le (leastV qs) 0 with h | h
      · rcases (least_iff (-1) qs 99).1 (by show leastV qs ≤ -1; omega) with h2 | ⟨q, hq2, hq3⟩
        · omega
        · have := hq q hq2; omega
      · exact h
    simp [law28_LedgerNeverC_j9, e3, e4, e5, ex, -List.reduceReplicate]
    refine wpc_loop _ _ _ _ _ _ (fun s => ∃ i : Nat, i ≤ qs.length ∧ s.t 4 = ptr (nx + 1) 0 ∧ dg (s.t 5) = deep ((kT qs.length).map Tag.v) ∧ dg (s.t 7) = deep [] ∧ s.t 8 = .int .i64 ((qs.take i).foldl min 99) ∧ s.t 9 = .int .i64 0 ∧ s.t 10 = .int .i64 i ∧ s.H (nx + 1) = some (bunRow tC tB (qs.map rcv)) ∧ n3 ≤ s.nx)
      (fun s => match s.t 10 with | .int _ i => (qs.length - i).toNat | _ => 0) _ ⟨0, by omega, by simp [e4], by simp [e5], by simp, by simp, by simp, by simp, by simp [ex], by simpa using hnx⟩ ?_
    clear e3 e4 e5 e6 ed ex hnx
    rintro ⟨T, H', nx'⟩ ⟨i, hi, e4, e5, e7, e8, e9, e10, ex, hnx⟩
    simp only at e4 e5 e7 e8 e9 e10 ex hnx
    simp [e4, e10, ex]
    refine wB_of (fun hlt => ?_) (fun hlt => ?_)
    · simp at hlt
      have he := elem_cav (l := qs.map rcv) (n := (i : Int)) (by omega) (by simpa using hlt)
      simp at he
      simp [law28_LedgerNeverC_j2, e4, e8, e10, ex, he, -List.reduceReplicate]
      have hmin : (if (rcv qs[i]).p.num < List.foldl min 99 (List.take i qs) then (rcv qs[i]).p.num else List.foldl min 99 (List.take i qs)) = (qs.take (i + 1)).foldl min 99 := by
        rw [List.take_succ_eq_append_getElem hlt, List.foldl_append, if_min]
        rfl
      rw [hmin, w64 (x := (i : Int) + 1) (by omega) (by omega)]
      refine kLoop_nrm _ _ _ _ (Sub_refl _ _) ⟨i + 1, by omega, by simp [e4], by simp [e5], by simp [e7], by simp, by simp [e9], by simp, by simp [ex], by simpa using hnx⟩ (by simp; omega)
    · simp at hlt
      have : i = qs.length := by omega
      subst this
      rw [List.take_length, show qs.foldl min 99 = leastV qs from rfl] at e8
      have hkl := kT_len hm4
      have hnl := nsT_len hm4
      simp [law28_LedgerNeverC_j8, -List.reduceReplicate]
      refine wpc_loop _ _ _ _ _ _ (fun s => ∃ i : Nat, i ≤ 8 ∧ s.t 4 = ptr (nx + 1) 0 ∧ dg (s.t 5) = deep ((kT qs.length).map Tag.v) ∧ dg (s.t 7) = deep ((cntR qs.length (min (leastV qs) i)).map Cnt.v) ∧ s.t 8 = .int .i64 (leastV qs) ∧ s.t 9 = .int .i64 (min (leastV qs) i) ∧ s.t 11 = .int .i64 i ∧ s.H (nx + 1) = some (bunRow tC tB (qs.map rcv)) ∧ n3 ≤ s.nx)
        (fun s => match s.t 11 with | .int _ i => (8 - i).toNat | _ => 0) _ ⟨0, by omega, by simp [e4], by simp [e5], ?_, by simp [e8], ?_, by simp, by simp [ex], by simpa using hnx⟩ ?_
      · have : min (leastV qs) ((0 : Nat) : Int) = 0 := by omega
        rw [this]; simp [e7, cntR]
      · have : min (leastV qs) ((0 : Nat) : Int) = 0 := by omega
        rw [this]; simp [e9]
      clear e4 e5 e7 e8 e9 e10 ex hnx
      rintro ⟨T, H', nx'⟩ ⟨i, hi, e4, e5, e7, e8, e9, e11, ex, hnx⟩
      simp only at e4 e5 e7 e8 e9 e11 ex hnx
      simp [e11]
      have hcl : (cntR qs.length (min (leastV qs) i)).length ≤ 4 := by
        unfold cntR; split
        · simp
        · simp [hnl]; omega
      refine wB_of (fun hlt => ?_) (fun hlt => ?_)
      · simp at hlt
        have hlt' : i < 8 := by omega
        simp [law28_LedgerNeverC_j4, e4, e5, e7, ex, Bun.ag, -List.reduceReplicate]
        refine wCall_eq (Q := fun r => r = .int .i64 (roomV (cntR qs.length (min (leastV qs) i)) (xBun (qs.map rcv)) (kT qs.length))) (hro _ (xBun (qs.map rcv)) (kT qs.length) (by omega) (by simp [xBun]; omega) (by omega) _ _) fun r n4 hr hn4 => ?_
        subst hr
        rw [room_never hm4 (by omega)]
        by_cases hroom : leastV qs ≤ min (leastV qs) i
        · rw [if_pos hroom]
          simp [e11]
          rw [w64 (x := (i : Int) + 1) (by omega) (by omega)]
          have : min (leastV qs) ((i + 1 : Nat) : Int) = min (leastV qs) (i : Int) := by omega
          refine kLoop_nrm _ _ _ _ (Sub_refl _ _) ⟨i + 1, by omega, by simp [e4], by simp [e5], by rw [this]; simp [e7], by simp [e8], by rw [this]; simp [e9], by simp, by simp [ex], by simp at hn4; simp; omega⟩ (by simp; omega)
        · rw [if_neg hroom]
          simp [law28_LedgerNeverC_j3, e4, e5, e7, e9, e11, ex, Bun.ag, -List.reduceReplicate]
          refine wCall_eq (Q := fun r => r = lin e ((limdV (xBun (qs.map rcv)) (kT qs.length)).map Tag.v)) (hli (xBun (qs.map rcv)) (kT qs.length) (by simp [xBun]; omega) (by omega) _ _) fun r n5 hr hn5 => ?_
          subst hr
          rw [limd_never hm4]
          simp [e4, e5, e9, e11, -List.reduceReplicate]
          refine wCall_eq (Q := fun r => addR (cntR qs.length (min (leastV qs) i)) (nsT qs.length) r) (had _ _ (by omega) _ _) fun r n6 hr hn6 => ?_
          have hmi : min (leastV qs) (i : Int) = i := by omega
          have hmi2 : min (leastV qs) ((i + 1 : Nat) : Int) = (i : Int) + 1 := by omega
          have hav := addV_never (m := qs.length) (r := (i : Int)) hm4 (by omega)
          rw [addR, hmi, hav, if_pos (cnt_ok hm4 (by omega) (by omega)).1, (cnt_ok (r := (i : Int) + 1) hm4 (by omega) (by omega)).2] at hr
          obtain ⟨v', hv', rfl⟩ : ∃ v', (v' = ns [] ∧ cntR qs.length ((i : Int) + 1) = [] ∨ v' = deep ((cntR qs.length ((i : Int) + 1)).map Cnt.v)) ∧ r = tup [v', .int .i64 0] := hr
          obtain ⟨w1, w2, w3⟩ := cl_dg hv'
          simp [w1, w2, w3, hmi, e4, e9, e11, -List.reduceReplicate]
          rw [w64 (x := (i : Int) + 1) (by omega) (by omega)]
          refine kLoop_nrm _ _ _ _ (Sub_refl _ _) ⟨i + 1, by omega, by simp [e4], by simp [e5], by rw [hmi2]; simp [w1], by simp [e8], by rw [hmi2]; simp, by simp, by simp [ex], by simp at hn4 hn5 hn6; simp; omega⟩ (by simp; omega)
      · simp at hlt
        have : i = 8 := by omega
        subst this
        simp [law28_LedgerNeverC_j7, -List.reduceReplicate]
        refine wpc_loop _ _ _ _ _ _ (fun s => ∃ i : Nat, i ≤ qs.length ∧ s.t 4 = ptr (nx + 1) 0 ∧ dg (s.t 5) = deep ((kT qs.length).map Tag.v) ∧ dg (s.t 7) = deep ((cntR qs.length (min (leastV qs) 8)).map Cnt.v) ∧ s.t 8 = .int .i64 (leastV qs) ∧ s.t 9 = .int .i64 (min (leastV qs) 8) ∧ s.t 14 = .int .i64 i ∧ s.H (nx + 1) = some (bunRow tC tB (qs.map rcv)))
          (fun s => match s.t 14 with | .int _ i => (qs.length - i).toNat | _ => 0) _ ⟨0, by omega, by simp [e4], by simp [e5], by simp [e7], by simp [e8], by simp [e9], by simp, by simp [ex]⟩ ?_
        clear e4 e5 e7 e8 e9 e11 ex hnx
        rintro ⟨T, H', nx'⟩ ⟨i, hi, e4, e5, e7, e8, e9, e14, ex⟩
        simp only at e4 e5 e7 e8 e9 e14 ex
        simp [e4, e14, ex]
        refine wB_of (fun hlt => ?_) (fun hlt => ?_)
        · simp at hlt
          have he := elem_cav (l := qs.map rcv) (n := (i : Int)) (by omega) (by simpa using hlt)
          simp at he
          have he2 := elem_tag (l := kT qs.length) (n := (i : Int) + 1) (by omega) (by omega)
          have hte : (kT qs.length)[((i : Int) + 1).toNat]'(by omega) = tag1 (i + 1) := by
            have h1 : (kT qs.length)[((i : Int) + 1).toNat]? = some (tag1 (i + 1)) := kT_get hm4 hlt
            rw [List.getElem?_eq_getElem (by omega)] at h1
            exact Option.some.inj h1
          rw [hte] at he2
          have hw1 := w64 (x := (i : Int) + 1) (by omega) (by omega)
          simp [law28_LedgerNeverC_j5, e4, e5, e7, e14, ex, he, he2, hw1, -List.reduceReplicate]
          refine wqCall_of (hnu (cntR qs.length (min (leastV qs) 8)) (tag1 (i + 1)) (by have := cntR_len (r := min (leastV qs) 8) hm4; omega) _ _) rfl (fun _ _ _ h => h.1) ?_
          rw [numF_never hm4 i hlt]
          have hq8 : ¬ (rcv qs[i]).p.num < min (leastV qs) 8 := by
            have := hlv.2 qs[i] (List.getElem_mem _)
            show ¬ qs[i] < _
            omega
          simp [e4, e14, ex, he, hq8, hw1, -List.reduceReplicate]
          refine kLoop_nrm _ _ _ _ (Sub_refl _ _) ⟨i + 1, by omega, by simp [e4], by simp [e5], by simp [e7], by simp [e8], by simp [e9], by simp, by simp [ex]⟩ (by simp; omega)
        · simp at hlt
          simp [law28_LedgerNeverC_j6, e8, e9, if_min]
          refine wCall_eq (Q := fun r => r = .bool true) (haw _ _) fun r n8 hr hn8 => ?_
          subst hr
          simp
          exact wF_of rfl
end Go.PE
