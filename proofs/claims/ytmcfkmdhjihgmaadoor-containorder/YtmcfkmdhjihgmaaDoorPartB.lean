/- The engine, part 11: what a caller knows of a callee; calls. The engine: slices whose elements may be written lie in boxes: each operation does what its pure instruction says. The engine: slices in boxes: sources, stores, makes, copies. The engine: slices in boxes: makes, stores of nil, copies, appends. The engine: slices in boxes: appends. The engine: boxes of the call's own that are forgotten: from then on they are only read; calls. The engine, part 12: whatever is compiled does what its pure instruction says. The engine: maps from strings to truth values, of the call's own; bytes that are read as a string. The engine: slices in boxes: cuts; whatever is compiled does what its pure instruction says. The engine: each instruction's rule as an equation. The engine: which instructions may change places. The engine: regions that draw their order and write. The engine: the tree of the orders that differ, reckoned with numbers as sets. -/
import Derived.Test.YtmcfkmdhjihgmaaDoorPartA
import Derived.Laws.CopyRow
import Derived.ArgAppend
import Derived.MapKept
import Derived.Laws.Cover3
import Derived.Carry
set_option linter.all false
namespace Go.PE
open Go

structure Entry (P : Program) (T : Nat → Prop) (H : Nat → Option (List Value)) (nx : Nat) (own : Nat → Option Pos) (G : Gh) : Prop where
  heap : Heap ⟨P, G, T, nx, 0, H⟩ own ⟨fun _ => undef, H, nx⟩ G
  ctok : ∀ k i e xs, pcell H k i = lin e xs → TokOK P G own 0 (.cell k i) e (rcell G k i)
  nolin : ∀ k row, T k → H k = some row → rowNoLin row

structure Left (q : Par) (own : Nat → Option Pos) (H : Nat → Option (List Value)) (nx : Nat) (G : Gh) (v p : Value) : Prop extends Base q own ⟨fun _ => undef, H, nx⟩ G where
  res : Rd G v p
  rtok : ∀ e xs, p = lin e xs → TokOK q.P G own q.B (.tmp 0) e v
  ptok : ∀ i e xs, comp p i = lin e xs → TokOK q.P G own q.B (.tup 0 i) e (comp v i)

/-- WHAT A CALLER KNOWS OF A CALLEE -/
def PCalls (P : Program) : Known := fun f args H nx T R =>
  ∀ (G : Gh) (own : Nat → Option Pos) (vs : List Value), Entry P T H nx own G → vs.length = args.length → (∀ (i : Nat) v p, vs[i]? = some v → args[i]? = some p → Rd G v p) →
    Calls P f vs.toArray G.w fun e w' => ∃ v p G' own' H' nx', G'.w = w' ∧ e = .returned v ∧ Left ⟨P, G, T, nx, 0, H⟩ own' H' nx' G' v p ∧ R p H' nx'

section
variable {q : Par} {own : Nat → Option Pos} {s : PS} {a : Act} {G : Gh} {K : PS → Prop} {Kr : Act → World → Prop} {Q : Exit → Act → World → Prop} {o : Oper} {C : Known}

theorem Inv.entry (h : Inv q own s a G) {T' : Nat → Prop} (hTT : ∀ k, T' k → q.n0 ≤ k ∨ q.T k) (hT : ∀ k row, T' k → s.H k = some row → rowNoLin row) : Entry q.P T' s.H s.nx own G where
  heap := ⟨fun k row hk => by
      obtain ⟨b, e, cs, fz, hb, hh, hs, hr, hf, _⟩ := h.ob k row hk
      exact ⟨b, e, cs, fz, hb, hh, hs, hr, fun hW => hf (hW.elim (fun hW => (hTT k hW).symm) fun hnx => by have hnx : s.nx ≤ k := hnx; have := h.nxH k hnx; rw [hk] at this; cases this), fun hnx => by have := h.nxH k hnx; rw [hk] at this; cases this⟩, h.bn, h.nxH, h.nx, Nat.le_refl _, h.inj, h.gl, h.ng, h.ol⟩
  ctok := fun k i e xs hp => h.ctok 0 k i e xs (.inl rfl) hp
  nolin := hT

/-- the labels of a callee's tokens, as the caller has them -/
def relab (d : Nat) : Option Pos → Option Pos
  | some (.tmp 0) => some (.tmp d)
  | some (.tup 0 i) => some (.tup d i)
  | some (.cell k i) => some (.cell k i)
  | _ => none

/-- behind a call -/
theorem Inv.after (h : Inv q own s a G) {T' : Nat → Prop} (hTT : ∀ k, T' k → q.n0 ≤ k ∨ q.T k) {own' : Nat → Option Pos} {H' : Nat → Option (List Value)} {nx' : Nat} {G' : Gh} {v p : Value}
    (hL : Left ⟨q.P, G, T', s.nx, 0, s.H⟩ own' H' nx' G' v p) {d : Option Nat} (hd : ∀ x, d = some x → x < q.N) :
    ∃ own'', Inv q own'' { (s.putO d p) with H := H', nx := nx' } (a.put d v) G' := by
  have hB' : (Par.B ⟨q.P, G, T', s.nx, 0, s.H⟩) = G.w.heap.size := rfl
  have hsz : G.w.heap.size ≤ G'.w.heap.size := hL.sz
  -- what was there and no box that was written stays
  have hstay : ∀ b, b < G.w.heap.size → (∀ k, G.be k = some b → ¬ T' k) → G'.w.heap[b]? = G.w.heap[b]? ∧ G'.fr b = G.fr b := hL.frame
  have hbo : ∀ k, k < s.nx → G'.be k = G.be k := hL.bo
  have hnx : s.nx ≤ nx' := hL.n0
  have hext : Ext G G' := by
    refine ⟨by rw [h.nx, hL.nx]; exact hnx, fun ad _ hf u hu => ?_, fun b hb => ?_, fun k b hk hlt => ?_, fun k hk hlt => ?_⟩
    · have hlt := World.block_lt_of_cell? _ ad hu
      rw [World.cell?_of_block (hstay _ hlt (fun k hk hT' => by have := (h.be_lt hk).2.2 ((hTT k hT').symm); omega)).1]; exact hu
    · by_cases hbe : ∃ k, G.be k = some b
      · obtain ⟨k, hk⟩ := hbe
        by_cases hT' : T' k
        · rw [(h.be_lt hk).2.2 ((hTT k hT').symm)]; exact Nat.zero_le _
        · rw [(hstay b hb (fun k' hk' => by rw [h.inj k' k b hk' hk]; exact hT')).2]; exact Nat.le_refl _
      · rw [(hstay b hb (fun k hk => absurd ⟨k, hk⟩ hbe)).2]; exact Nat.le_refl _
    · rw [h.nx] at hlt; rw [hbo k hlt]; exact .inl hk
    · rw [h.nx] at hlt; rw [hbo k hlt]; exact hk
  let own'' : Nat → Option Pos := fun g => if g < G.w.heap.size then own g else relab (d.getD 0) (own' g)
  -- the caller's tokens
  have hnb : ∀ g, g < G.w.heap.size → (∀ k, G.be k ≠ some g) → ∀ k, G'.be k ≠ some g := fun g hg hk k hk' => by
    by_cases hkn : k < s.nx
    · rw [hbo k hkn] at hk'; exact hk k hk'
    · cases hH : H' k with
      | none => have := hL.bn k hH; rw [hk'] at this; cases this
      | some row =>
        obtain ⟨b, _, _, _, hb, _, _, _, _, hB⟩ := hL.ob k row hH
        rw [hk'] at hb
        obtain rfl : g = b := by simpa using hb
        have := hB (by show s.nx ≤ k; omega)
        rw [hB'] at this; omega
  have htok : ∀ {base : Nat} {pos : Pos} {e : Nat} {v : Value}, TokOK q.P G own base pos e v → TokOK q.P G' own'' base pos e v := by
    intro base pos e v ht
    rcases ht with ht | ⟨g, n, cap, i, xs, rfl, hi, h1, h2, h3, h4⟩
    · exact .inl ht
    · have hlt := (own_lt h1).2
      obtain ⟨e1, e2⟩ := hstay g hlt (fun k hk => absurd hk (h4 k))
      refine .inr ⟨g, n, cap, i, xs, rfl, hi, ownsRow_blk h1 (fun g' hg' => ?_), by rw [e2]; exact h2, by simp [own'', hlt, h3], hnb g hlt h4⟩
      obtain rfl : g = g' := by simpa [Value.ownBlock] using hg'
      exact e1
  -- the callee's
  have htok' : ∀ {pos pos' : Pos} {e : Nat} {v : Value}, TokOK q.P G' own' G.w.heap.size pos e v → relab (d.getD 0) (some pos) = some pos' → TokOK q.P G' own'' q.B pos' e v := by
    intro pos pos' e v ht hr
    rcases ht with ht0 | ht0
    · exact .inl ht0
    have ht : TokOK q.P G' own' G.w.heap.size pos e v := .inr ht0
    refine (ht.own_of (own' := own'') (pos' := pos') fun g n cap hv ho => ?_).le h.sz
    have hge : ¬ g < G.w.heap.size := by
      obtain ⟨g', n', cap', i, xs, hv', hi, h1, h2, h3, h4⟩ := ht0
      · rw [hv] at hv'
        obtain rfl : g = g' := by simp at hv'; exact hv'.1
        have : v = .slice (some ⟨g, 0, none⟩) n' cap' := by rw [hv]; exact hv'
        rw [this] at h1
        have := (own_lt h1).1
        exact Nat.not_lt.2 this
    simp [own'', hge, ho, hr]
  have hinv0 : Base q own'' { (s.putO d p) with H := H', nx := nx' } G' := by
    refine ⟨⟨fun k row hk => ?_, hL.bn, hL.nxH, hL.nx, Nat.le_trans h.n0 hnx, hL.inj, hL.gl, hL.ng, fun g pos hg => ?_⟩, fun k hk => ?_, fun b hb hT => ?_, Nat.le_trans h.sz hsz, by rw [hL.os]; exact h.os, by rw [hL.tape]; exact h.tape, by rw [hL.output]; exact h.output, fun base k i e xs hob hp => ?_, fun k hk hT => ?_⟩
    · obtain ⟨b, e, cs, fz, hb, hh, hs, hr, hf, hB⟩ := hL.ob k row hk
      refine ⟨b, e, cs, fz, hb, hh, hs, hr, fun hW => ?_, fun hk0 => ?_⟩
      · by_cases hkT : T' k ∨ s.nx ≤ k
        · exact hf hkT
        · have hkn : k < s.nx := by
            rcases Nat.lt_or_ge k s.nx with h1 | h1
            · exact h1
            · exact absurd (.inr h1) hkT
          have hb0 := hb
          rw [hbo k hkn] at hb0
          cases hH : s.H k with
          | none => have := h.bn k hH; rw [hb0] at this; cases this
          | some row0 =>
            obtain ⟨b', e0, cs0, fz0, hb', hh0, _, _, hW0, _⟩ := h.ob k row0 hH
            rw [hb0] at hb'
            obtain rfl : b = b' := by simpa using hb'
            obtain ⟨e1, e2⟩ := hstay b (h.be_lt hb0).2.1 (fun k' hk' => by rw [h.inj k' k b hk' hb0]; exact fun hT => hkT (.inl hT))
            rw [e1, hh0] at hh
            have hfz : fz0 = fz := by cases hh; rfl
            rw [e2, ← hfz]
            exact hW0 hW
      by_cases hkn : k < s.nx
      · rw [hbo k hkn] at hb
        cases hH : s.H k with
        | none => have := h.bn k hH; rw [hb] at this; cases this
        | some row0 =>
          obtain ⟨b', _, _, _, hb', _, _, _, _, hB0⟩ := h.ob k row0 hH
          rw [hb] at hb'
          obtain rfl : b = b' := by simpa using hb'
          exact hB0 hk0
      · exact Nat.le_trans h.sz (hB (by show s.nx ≤ k; omega))
    · simp only [own''] at hg
      split at hg
      · have := h.ol g pos hg; omega
      · cases ho : own' g with
        | none => rw [ho] at hg; simp [relab] at hg
        | some p' => exact hL.ol g p' ho
    · have := h.n0; rw [hbo k (by omega)]; exact h.bo k hk
    · have hlt := Nat.lt_of_lt_of_le hb h.sz
      have hnk : ∀ k, G.be k = some b → ¬ T' k := fun k hk hT' => by
        rcases hTT k hT' with h1 | h1
        · cases hH : s.H k with
          | none => have := h.bn k hH; rw [hk] at this; cases this
          | some row0 =>
            obtain ⟨b', _, _, _, hb', _, _, _, _, hB0⟩ := h.ob k row0 hH
            rw [hk] at hb'
            obtain rfl : b = b' := by simpa using hb'
            have := hB0 h1; omega
        · by_cases hkn : k < q.n0
          · exact hT k (by rw [← h.bo k hkn]; exact hk) h1
          · cases hH : s.H k with
            | none => have := h.bn k hH; rw [hk] at this; cases this
            | some row0 =>
              obtain ⟨b', _, _, _, hb', _, _, _, _, hB0⟩ := h.ob k row0 hH
              rw [hk] at hb'
              obtain rfl : b = b' := by simpa using hb'
              have := hB0 (by omega); omega
      obtain ⟨e1, e2⟩ := hstay b hlt hnk
      rw [e1, e2]; exact h.frame b hb hT
    · have hp' : pcell H' k i = lin e xs := hp
      by_cases hkT : k < s.nx ∧ ¬ T' k
      · have hsame : H' k = s.H k := hL.hh k hkT.1 hkT.2
        have hp0 : pcell s.H k i = lin e xs := by simpa [pcell, hsame] using hp'
        have hrc : rcell G' k i = rcell G k i := by
          simp only [rcell, hbo k hkT.1]
          cases hb : G.be k with
          | none => rfl
          | some b =>
            simp only
            rw [World.cell?_of_block (a := ⟨b, i, none⟩) (hstay b (h.be_lt hb).2.1 (fun k' hk' => by rw [h.inj k' k b hk' hb]; exact hkT.2)).1]
        rw [hrc]
        exact htok (h.ctok base k i e xs hob hp0)
      · have hb : T' k ∨ s.nx ≤ k := by
          by_cases h1 : T' k
          · exact .inl h1
          · right; have : ¬ k < s.nx := fun hlt => hkT ⟨hlt, h1⟩
            omega
        have := hL.ctok G.w.heap.size k i e xs (.inr ⟨hb, rfl⟩) hp'
        exact (htok' this rfl).le (okBase_le hob)
    · by_cases hkT : T' k
      · rcases hTT k hkT with h1 | h1
        · omega
        · exact absurd h1 hT
      · have := h.n0
        show H' k = _
        have e1 : H' k = s.H k := hL.hh k (by show k < s.nx; omega) hkT
        rw [e1]; exact h.hh k hk hT
  have hmps : ∀ b es, s.t (q.N + b) = mpe es → MpOK q.B G'.w b es := fun b es hp => by
    have hm := h.mps b es hp
    refine hm.same (hstay b hm.lt (fun k hk _ => ?_)).1
    have hH : s.H k ≠ none := fun e => by have := h.bn k e; rw [hk] at this; cases this
    cases hr : s.H k with
    | none => exact absurd hr hH
    | some row =>
      obtain ⟨b', e, cs, fz, hb, hh, _⟩ := h.ob k row hr
      rw [hk] at hb
      obtain rfl : b = b' := by simpa using hb
      exact hm.ne hh rfl
  cases hdo : d with
  | none =>
    subst hdo
    exact ⟨own'', ⟨hinv0, h.size, h.defers, fun t ht => (h.tm t ht).mono hext, fun t e xs ht hp => htok (h.ttok t e xs ht hp), fun t i e xs ht hp => htok (h.utok t i e xs ht hp), hmps⟩⟩
  | some x =>
    subst hdo
    have hx := hd x rfl
    have hxs : x < a.tmps.size := by rw [h.size]; exact hx
    refine ⟨own'', ⟨hinv0, by rw [put_size]; exact h.size, h.defers, fun t ht => ?_, fun t e xs ht hp => ?_, fun t i e xs ht hp => ?_, fun b es hp => hmps b es (by rw [← hp]; exact (upd_far _ _ _ hx).symm)⟩⟩
    · rw [put_getD _ _ _ _ hxs]
      simp only [PS.putO, PS.put, upd]
      split
      · exact hL.res
      · exact (h.tm t ht).mono hext
    · rw [put_getD _ _ _ _ hxs]
      simp only [PS.putO, PS.put, upd] at hp
      split at hp
      · rename_i he
        subst he
        rw [if_pos rfl]
        exact htok' (hL.rtok e xs hp) rfl
      · rename_i hne; rw [if_neg hne]; exact htok (h.ttok t e xs ht hp)
    · rw [put_getD _ _ _ _ hxs]
      simp only [PS.putO, PS.put, upd] at hp
      split at hp
      · rename_i he
        subst he
        rw [if_pos rfl]
        exact htok' (hL.ptok i e xs hp) rfl
      · rename_i hne; rw [if_neg hne]; exact htok (h.utok t i e xs ht hp)

theorem run_call {f : Nat} {args : Array Operand} {ts : Array TypeId} {fn : Func} {P : Program} {w : World} (ho : o.op = .call { callee := .value (.func f), args := args, argTypes := ts }) (hf : P.funcs[f]? = some fn) (hb : fn.body.isSome = true) (hnm : (fn.name == "runtime.NumGoroutine") = false) :
    (execOp a.eval o).run P w = .ok (.enter f (args.toList.map a.eval).toArray) w := by
  have e1 : (args.toList.map a.eval).toArray = args.map a.eval := by
    rw [← Array.toList_map, Array.toArray_toList]
  rw [e1]
  have hnm' : ¬ fn.name = "runtime.NumGoroutine" := by simpa using hnm
  have hbn' : ¬ fn.body = none := by intro he; rw [he] at hb; cases hb
  simp [execOp, ho, resolve, Act.eval, Deferred.ofValue, invoke, callFunc, hf]
  rw [if_neg hnm', if_neg hbn']

theorem does_call {f : Nat} {args : Array Operand} {ts : Array TypeId} {fn : Func} (ho : o.op = .call { callee := .value (.func f), args := args, argTypes := ts }) (hf : q.P.funcs[f]? = some fn) (hb : fn.body.isSome) (hnm : (fn.name == "runtime.NumGoroutine") = false)
    (hx : ∀ x ∈ args.toList, okOpd q.P q.N x = true) (hd : okDst q o) : Does q (PCalls q.P) o (.call f args.toList) := by
  intro own s a G K Kr Q h hs hK
  obtain ⟨T', hTT, hTn, hcall⟩ := hs
  have hE := h.entry hTT hTn
  have := hcall G own (args.toList.map a.eval) hE (by simp) (fun i v p hv hp => by
    rw [List.getElem?_map, Option.map_eq_some_iff] at hv hp
    obtain ⟨x, hx1, rfl⟩ := hv
    obtain ⟨x', hx2, rfl⟩ := hp
    rw [hx1] at hx2
    obtain rfl : x = x' := by simpa using hx2
    exact h.rd (hx x (List.mem_of_getElem? hx1)))
  unfold Oper.wp
  have hrun := run_call (a := a) (P := q.P) (w := G.w) ho hf hb hnm
  rw [hrun]
  show Calls q.P f _ G.w _
  refine this.mono fun e w' hpost => ?_
  obtain ⟨v, p, G', own', H', nx', rfl, rfl, hL, hR⟩ := hpost
  obtain ⟨own'', hinv⟩ := h.after hTT hL hd
  exact hK _ _ _ _ hinv hR


theorem noLin_clo (f : FuncId) (l m : List Value) : noLin (clo f l m) := ⟨fun e xs h => by simp [clo, lin] at h, fun i e xs h => by simp [comp, clo, undef, lin] at h⟩

theorem clo_rd {v : Value} {f : FuncId} {ps qs : List Value} (h : Rd G v (clo f ps qs)) : ∃ vs us, v = clo f vs us ∧ vs.length = ps.length ∧ us.length = qs.length ∧ (∀ (i : Nat) v p, vs[i]? = some v → ps[i]? = some p → Rd G v p) ∧
    ∀ (i : Nat) v p, us[i]? = some v → qs[i]? = some p → Rd G v p := by
  generalize hq : clo f ps qs = p at h
  cases h with
  | scal v h =>
    subst hq
    have : ps = [] ∧ qs = [] := by
      cases ps <;> cases qs <;> simp [PE.clo, PE.scal] at h ⊢
    obtain ⟨rfl, rfl⟩ := this
    exact ⟨[], [], rfl, rfl, rfl, fun i v p hv => by simp at hv, fun i v p hv => by simp at hv⟩
  | clo f' vs ps' us qs' hl hm hr hq' =>
    obtain ⟨rfl, rfl, rfl⟩ : f = f' ∧ ps = ps' ∧ qs = qs' := by simpa [PE.clo] using hq
    exact ⟨vs, us, rfl, hl, hm, hr, hq'⟩
  | _ => simp [tup, PE.ptr, PE.deep, PE.lin, PE.dptr, ag, PE.slc, PE.clo, PE.ns] at hq

theorem rd_map (h : Inv q own s a G) {args : List Operand} (hx : ∀ x ∈ args, okOpd q.P q.N x = true) : ∀ (i : Nat) v p, (args.map a.eval)[i]? = some v → (args.map s.ev)[i]? = some p → Rd G v p := fun i v p hv hp => by
  rw [List.getElem?_map, Option.map_eq_some_iff] at hv hp
  obtain ⟨x, hx1, rfl⟩ := hv
  obtain ⟨x', hx2, rfl⟩ := hp
  rw [hx1] at hx2
  obtain rfl : x = x' := by simpa using hx2
  exact h.rd (hx x (List.mem_of_getElem? hx1))

theorem still_mkf {f : FuncId} {first caps : Array Operand} (ho : o.op = .makeFunc (.func f) first caps) (h1 : ∀ x ∈ first.toList, okOpd q.P q.N x = true) (h2 : ∀ x ∈ caps.toList, okOpd q.P q.N x = true) : Still q C o (.mkf f first.toList caps.toList) := by
  intro own s a G K h hs
  refine still_mk (v := clo f (first.toList.map a.eval) (caps.toList.map a.eval)) (.clo f _ _ _ _ (by simp) (by simp) (rd_map h h1) (rd_map h h2)) (noLin_clo _ _ _) hs (fun G' hk' => ?_)
  have e : ∀ l : Array Operand, (l.toList.map a.eval).toArray = l.map a.eval := fun l => by rw [← Array.toList_map, Array.toArray_toList]
  simp only [clo, e]
  simp [execOp, ho, Instr.makeFunc]

theorem rd_append {l m l' m' : List Value} (hl : l.length = l'.length) (h1 : ∀ (i : Nat) v p, l[i]? = some v → l'[i]? = some p → Rd G v p) (h2 : ∀ (i : Nat) v p, m[i]? = some v → m'[i]? = some p → Rd G v p) :
    ∀ (i : Nat) v p, (l ++ m)[i]? = some v → (l' ++ m')[i]? = some p → Rd G v p := fun i v p hv hp => by
  rw [List.getElem?_append] at hv hp
  rw [← hl] at hp
  split at hv
  · rename_i hi; rw [if_pos hi] at hp; exact h1 i v p hv hp
  · rename_i hi; rw [if_neg hi] at hp; exact h2 _ v p hv hp

theorem does_callv {x : Operand} {args : Array Operand} {ts : Array TypeId} (ho : o.op = .call { callee := .value x, args := args, argTypes := ts }) (hxx : okOpd q.P q.N x = true) (hx : ∀ x ∈ args.toList, okOpd q.P q.N x = true) (hd : okDst q o) :
    Does q (PCalls q.P) o (.callv x args.toList) := by
  intro own s a G K Kr Q h hs hK
  obtain ⟨f, first, caps, hf, hok, T', hTT, hTn, hcall⟩ := hs
  have hrd := h.rd hxx
  rw [hf] at hrd
  obtain ⟨vs, us, hv, hl, hm, hr, hq⟩ := clo_rd hrd
  have hE := h.entry hTT hTn
  have := hcall G own (vs ++ args.toList.map a.eval ++ us) hE (by simp [hl, hm]) (rd_append (by simp [hl]) (rd_append hl hr (rd_map h hx)) hq)
  unfold okFn at hok
  split at hok
  · rename_i fn hfn
    simp only [Bool.and_eq_true, bne_iff_ne, ne_eq] at hok
    have hrun : (execOp a.eval o).run q.P G.w = .ok (.enter f (vs ++ args.toList.map a.eval ++ us).toArray) G.w := by
      have e1 : (vs ++ args.toList.map a.eval ++ us).toArray = vs.toArray ++ args.map a.eval ++ us.toArray := by
        rw [← List.append_toArray, ← List.append_toArray, ← Array.toList_map, Array.toArray_toList]
      rw [e1]
      have hbn' : ¬ fn.body = none := by intro he; rw [he] at hok; cases hok.1
      have hv' : a.eval x = .func (.func f) vs.toArray us.toArray := hv
      simp [execOp, ho, resolve, hv', Deferred.ofValue, invoke, callFunc, hfn]
      rw [if_neg hok.2, if_neg hbn']
    unfold Oper.wp
    rw [hrun]
    show Calls q.P f _ G.w _
    refine this.mono fun e w' hpost => ?_
    obtain ⟨v, p, G', own', H', nx', rfl, rfl, hL, hR⟩ := hpost
    obtain ⟨own'', hinv⟩ := h.after hTT hL hd
    exact hK _ _ _ _ hinv hR
  · cases hok

theorem does_xcall {f : Nat} {args : Array Operand} {ts : Array TypeId} (ho : o.op = .call { callee := .value (.func f), args := args, argTypes := ts })
    (hx : ∀ x ∈ args.toList, okOpd q.P q.N x = true) (hd : okDst q o) : Does q C o (.xcall f args.toList) := by
  intro own s a G K Kr Q h hs hK
  obtain ⟨p, hxc, hp, hk⟩ := hs
  have hrun := hxc q own s.t G (args.toList.map a.eval) rfl rfl rfl h.toBase (by simp) (rd_map h hx)
  have e1 : (args.toList.map a.eval).toArray = args.map a.eval := by rw [← Array.toList_map, Array.toArray_toList]
  rw [e1] at hrun
  refine wp_val (v := p) (w' := G.w) ?_ (hK _ _ _ _ (h.putO hd (Rd_plain hp) (noLin_plain hp)) hk)
  simp [execOp, ho, resolve, Act.eval, Deferred.ofValue, invoke]
  exact hrun
end
end Go.PE
namespace Go.PE
open Go
section
variable {q : Par} {own : Nat → Option Pos} {s : PS} {a : Act} {G : Gh} {K : PS → Prop} {Kr : Act → World → Prop} {Q : Exit → Act → World → Prop} {o : Oper} {C : Known}
theorem noLin_ns (l : List Value) : noLin (ns l) := ⟨fun e xs h => by simp [ns, lin] at h, fun i e xs h => by simp [ns, comp, undef, lin] at h⟩
theorem noLin_slc (k off n cap : Nat) : noLin (slc k off n cap) := ⟨fun e xs h => by simp [slc, lin] at h, fun i e xs h => by simp [slc, comp, undef, lin] at h⟩
theorem Rd_ns_nil : Rd G (.slice none 0 0) (ns []) := .ns none [] .nil
theorem asSlc_eq {v : Value} {k off n cap : Nat} (h : asSlc v = some (k, off, n, cap)) : v = slc k off n cap := by
  unfold asSlc at h
  split at h
  · obtain ⟨rfl, rfl, rfl, rfl⟩ : _ = k ∧ _ = off ∧ _ = n ∧ _ = cap := by simpa using h
    rfl
  · cases h
theorem slc_rd {v : Value} {k off n cap : Nat} (h : Rd G v (slc k off n cap)) : ∃ b, v = .slice (some ⟨b, off, none⟩) n cap ∧ n ≤ cap ∧ k < G.nx ∧ (G.be k = some b ∨ G.be k = none) := by
  generalize hq : slc k off n cap = p at h
  cases h with
  | slc k' b off' n' cap' hb hk hn =>
    obtain ⟨⟨rfl, rfl⟩, rfl, rfl⟩ : (k = k' ∧ off = off') ∧ n = n' ∧ cap = cap' := by simpa [PE.slc] using hq
    exact ⟨b, rfl, hn, hk, .inl hb⟩
  | slcDead k' b off' n' cap' hb hk hn =>
    obtain ⟨⟨rfl, rfl⟩, rfl, rfl⟩ : (k = k' ∧ off = off') ∧ n = n' ∧ cap = cap' := by simpa [PE.slc] using hq
    exact ⟨b, rfl, hn, hk, .inr hb⟩
  | scal v h => subst hq; simp [PE.slc, PE.scal] at h
  | _ => simp [tup, PE.ptr, PE.deep, PE.lin, PE.dptr, ag, PE.slc, PE.clo, PE.ns] at hq
theorem ns_rd {v : Value} {xs : List Value} (h : Rd G v (ns xs)) : ∃ b, v = .slice b xs.length xs.length ∧ Rd G v (deep xs) := by
  generalize hq : ns xs = p at h
  cases h with
  | ns b ys h =>
    obtain rfl : xs = ys := by simpa [PE.ns] using hq
    exact ⟨b, rfl, h⟩
  | scal v h => subst hq; simp [PE.ns, PE.scal] at h
  | lin v e ys h => simp [PE.ns, PE.lin] at hq
  | _ => simp [tup, PE.ptr, PE.deep, PE.dptr, ag, PE.slc, PE.clo, PE.ns] at hq
/-- a pointer into a box -/
theorem Rd_into {k b off : Nat} (hb : G.be k = some b ∨ G.be k = none) (hk : k < G.nx) : Rd G (.pointer (some ⟨b, off, none⟩)) (ptr k off) := by
  rcases hb with hb | hb
  · exact .ptr k b off hb hk
  · exact .dead _ k off hb hk
theorem Rd_slc {k b off n cap : Nat} (hb : G.be k = some b ∨ G.be k = none) (hk : k < G.nx) (hn : n ≤ cap) : Rd G (.slice (some ⟨b, off, none⟩) n cap) (slc k off n cap) := by
  rcases hb with hb | hb
  · exact .slc k b off n cap hb hk hn
  · exact .slcDead k b off n cap hb hk hn
theorem does_cns (ho : o.op = .move (.const (.slice none 0 0)) ∨ o.op = .assign (.const (.slice none 0 0))) : Still q C o .cns := by
  intro own s a G K h hs
  refine still_mk (v := .slice none 0 0) Rd_ns_nil (noLin_ns _) hs (fun G' hk' => ?_)
  rcases ho with ho | ho <;> simp [execOp, ho, Act.eval]
theorem still_lenB {t e : Nat} {x : Operand} {ts : Array TypeId} (ho : o.op = .call { callee := .builtin .len, args := #[x], argTypes := ts }) (hts : ts[0]? = some t) (ht : q.P.underlying t = some (.slice e)) (hx : okOpd q.P q.N x = true) : Still q C o (.lenB x) := by
  intro own s a G K h hs
  obtain ⟨n, hn, hs⟩ := hs
  have hrd := h.rd hx
  have hv : ∃ ad cap, a.eval x = .slice ad n cap := by
    unfold lenV at hn
    split at hn
    · rename_i k off len cap hsl
      obtain rfl := Option.some.inj hn
      rw [asSlc_eq hsl] at hrd
      obtain ⟨b, hv, _⟩ := slc_rd hrd
      exact ⟨_, _, hv⟩
    · cases hxs : asDeep (s.ev x) with
      | none => rw [hxs] at hn; cases hn
      | some xs =>
        rw [hxs] at hn
        obtain rfl := Option.some.inj hn
        rw [asDeep_eq hxs ⟨_, hrd⟩] at hrd
        rcases deep_rd hrd with ⟨hv, rfl⟩ | ⟨ad, cap, size, us, hv, _⟩
        · exact ⟨_, _, hv⟩
        · exact ⟨_, _, hv⟩
  obtain ⟨ad, cap, hv⟩ := hv
  refine still_mk (v := .int .i64 n) (.scal _ rfl) (noLin_int _ _) hs (fun G' hk' => ?_)
  simp [execOp, ho, resolve, invoke, builtin, Builtin.len_, hts, hv, run_underlying ht, goInt]
theorem still_capB {t e : Nat} {x : Operand} {ts : Array TypeId} (ho : o.op = .call { callee := .builtin .cap, args := #[x], argTypes := ts }) (hts : ts[0]? = some t) (ht : q.P.underlying t = some (.slice e)) (hx : okOpd q.P q.N x = true) : Still q C o (.capB x) := by
  intro own s a G K h hs
  obtain ⟨k, off, n, cap, hsl, hs⟩ := hs
  have hrd := h.rd hx
  rw [hsl] at hrd
  obtain ⟨b, hv, _⟩ := slc_rd hrd
  refine still_mk (v := .int .i64 cap) (.scal _ rfl) (noLin_int _ _) hs (fun G' hk' => ?_)
  simp [execOp, ho, resolve, invoke, builtin, Builtin.cap_, hts, hv, run_underlying ht, goInt]
theorem still_ixB {t e n : Nat} {x i : Operand} (ho : o.op = .indexAddr t x i) (ht : q.P.underlying t = some (.slice e)) (hn : sz q.P e = some n)
    (hx : okOpd q.P q.N x = true) (hi : okOpd q.P q.N i = true) : Still q C o (.ixB n x i) := by
  intro own s a G K h hs
  obtain ⟨k, j, v, hj, hv, hs⟩ := hs
  unfold elemV at hv
  split at hv
  · rename_i kb off len cap hsl
    split at hv
    · rename_i hlt
      obtain rfl := Option.some.inj hv
      have hrd := h.rd hx
      rw [asSlc_eq hsl] at hrd
      obtain ⟨b, hvv, hnc, hk, hb⟩ := slc_rd hrd
      have hiv := (rd_int (h.rd hi) hj).1
      refine still_mk (v := .pointer (some ⟨b, off + j.toNat * n, none⟩)) (Rd_into hb hk) (noLin_ptr _ _) hs (fun G' hk' => ?_)
      have hadd : (⟨b, off, none⟩ : Addr).add (j.toNat * n) = ⟨b, off + j.toNat * n, none⟩ := add_off _ rfl _
      simp [execOp, ho, Instr.indexAt, hiv, hvv, asIntOf, run_underlying ht, hlt.1, hlt.2, run_sizeOf' hn, hadd]
    · cases hv
  · cases hxs : asDeep (s.ev x) with
    | none => rw [hxs] at hv; cases hv
    | some xs =>
      rw [hxs] at hv
      simp only [Option.bind_some, elemAt] at hv
      split at hv
      · rename_i h0
        cases hel : xs[j.toNat]? with
        | none => rw [hel] at hv; cases hv
        | some el =>
          rw [hel] at hv
          simp only [Option.bind_some] at hv
          cases hl : cellsOf el with
          | none => rw [hl] at hv; cases hv
          | some l =>
            rw [hl] at hv
            simp only [Option.bind_some] at hv
            split at hv
            · rename_i hln
              obtain rfl := Option.some.inj hv
              exact still_ixS (C := C) ho ht hn hx hi own s a G K h ⟨xs, k, j, el, l, hxs, hj, h0, hel, hl, hln, hs⟩
            · cases hv
      · cases hv
end
end Go.PE
namespace Go.PE
open Go
theorem rep_len {α : Type} (l : List α) : ∀ n : Nat, (List.replicate n l).flatten.length = n * l.length
  | 0 => by simp
  | n + 1 => by rw [List.replicate_succ, List.flatten_cons, List.length_append, rep_len l n, Nat.add_mul]; omega
theorem rep_at {α : Type} (l : List α) : ∀ (n i : Nat), i < n * l.length → (List.replicate n l).flatten[i]? = l[i % l.length]?
  | 0, i, h => by simp at h
  | n + 1, i, h => by
    rw [List.replicate_succ, List.flatten_cons, List.getElem?_append]
    split
    · rename_i hi; rw [Nat.mod_eq_of_lt hi]
    · rename_i hi
      rw [rep_at l n (i - l.length) (by rw [Nat.add_mul] at h; omega), ← Nat.mod_eq_sub_mod (by omega)]
theorem flat_len {α : Type} {size : Nat} (f : α → List Value) : ∀ l : List α, (∀ x ∈ l, (f x).length = size) → (l.flatMap f).length = l.length * size
  | [], _ => by simp
  | x :: l, h => by
    rw [List.flatMap_cons, List.length_append, h x (by simp), flat_len f l (fun y hy => h y (by simp [hy])), List.length_cons, Nat.add_mul]; omega
/-- where a cell of elements laid one behind the other comes from -/
theorem flat_at {α : Type} {size : Nat} (f : α → List Value) (l : List α) (hl : ∀ x ∈ l, (f x).length = size) {r : Nat} {p : Value} (h : (l.flatMap f)[r]? = some p) :
    ∃ i x j, r = i * size + j ∧ l[i]? = some x ∧ (f x)[j]? = some p ∧ j < size := by
  induction l generalizing r with
  | nil => simp at h
  | cons x l ih =>
    rw [List.flatMap_cons, List.getElem?_append] at h
    have hx := hl x (by simp)
    split at h
    · rename_i hi
      exact ⟨0, x, r, by omega, rfl, h, by omega⟩
    · rename_i hi
      obtain ⟨i, y, j, e, hy, hj, hjs⟩ := ih (fun z hz => hl z (by simp [hz])) h
      exact ⟨i + 1, y, j, by rw [Nat.add_mul]; omega, by simpa using hy, hj, hjs⟩
section
variable {q : Par} {own : Nat → Option Pos} {s : PS} {a : Act} {G : Gh} {K : PS → Prop} {Kr : Act → World → Prop} {Q : Exit → Act → World → Prop} {o : Oper} {C : Known}
/-- a source, really -/
theorem rd_src (h : Inv q own s a G) {x : Operand} (hx : okOpd q.P q.N x = true) {size m : Nat} {cells : List Value} (hs : srcV s.H (s.ev x) size = some (m, cells)) :
    (a.eval x = .slice none 0 0 ∧ m = 0 ∧ cells = []) ∨ ∃ (ad : Addr) (cap : Nat) (us : List Value), a.eval x = .slice (some ad) m cap ∧ us.length = m * size ∧ cells.length = m * size ∧
      (∀ (j : Nat) u, us[j]? = some u → G.w.cell? (ad.add j) = some u) ∧ (∀ u ∈ us, u.oneCell' = true) ∧ (∀ (j : Nat) u p, us[j]? = some u → cells[j]? = some p → Rd G u p) ∧ ∀ e xs, lin e xs ∉ cells := by
  have hrd := h.rd hx
  unfold srcV at hs
  split at hs
  · rename_i k off n cap hsl
    rw [asSlc_eq hsl] at hrd
    obtain ⟨b, hv, hnc, hk, hb⟩ := slc_rd hrd
    split at hs
    · rename_i row hH
      split at hs
      · rename_i hle
        obtain ⟨rfl, rfl⟩ : n = m ∧ ((row.drop off).take (n * size)).map dg1 = cells := by simpa using hs
        obtain ⟨b', e, cs, fz, hb', hh, hcs, hr, _, _⟩ := h.ob k row hH
        have hbb : b = b' := by
          rcases hb with hb | hb
          · rw [hb] at hb'; exact Option.some.inj hb'
          · rw [hb] at hb'; cases hb'
        subst hbb
        right
        have hget : ∀ (j : Nat) u, ((cs.toList.drop off).take (n * size))[j]? = some u → j < n * size ∧ cs[off + j]? = some u := fun j u hu => by
          rw [List.getElem?_take] at hu
          split at hu
          · rename_i hj; rw [List.getElem?_drop] at hu; exact ⟨hj, by simpa using hu⟩
          · cases hu
        refine ⟨⟨b, off, none⟩, cap, (cs.toList.drop off).take (n * size), hv, by simp; omega, by simp; omega, fun j u hu => ?_, fun u hu => ?_, fun j u p hu hp => ?_, fun e' xs hm => ?_⟩
        · obtain ⟨hj, hc⟩ := hget j u hu
          rw [add_off _ rfl]
          simp [World.cell?, hh, hc]
        · obtain ⟨j, hj⟩ := List.getElem?_of_mem hu
          obtain ⟨hj', hc⟩ := hget j u hj
          have hlt : off + j < row.length := by rw [← hcs]; exact (Array.getElem?_eq_some_iff.1 hc).1
          exact (hr _ u _ hc (List.getElem?_eq_getElem hlt)).1
        · obtain ⟨hj, hc⟩ := hget j u hu
          rw [List.getElem?_map, List.getElem?_take, if_pos hj, List.getElem?_drop] at hp
          obtain ⟨p', hp', rfl⟩ := Option.map_eq_some_iff.1 hp
          exact Rd_dg1 (hr _ u p' hc hp').2
        · obtain ⟨c, _, hc⟩ := List.mem_map.1 hm
          exact dg1_ne_lin _ _ _ hc
      · cases hs
    · cases hs
  · split at hs
    · rename_i xs hxs
      split at hs
      · rename_i hsz
        obtain ⟨rfl, rfl⟩ : xs.length = m ∧ (xs.flatMap lc).map dg1 = cells := by simpa using hs
        rw [asDeep_eq hxs ⟨_, hrd⟩] at hrd
        have hnl : ∀ e ys, lin e ys ∉ (xs.flatMap lc).map dg1 := by
          intro e ys hm
          obtain ⟨c, _, hc⟩ := List.mem_map.1 hm
          exact dg1_ne_lin _ _ _ hc
        rcases deep_rd hrd with ⟨hv, rfl⟩ | ⟨ad, cap, size', us, hv, hsp, hcap, hcl, hc, hz, hr⟩
        · exact .inl ⟨hv, rfl, rfl⟩
        · right
          have hs2 : xs ≠ [] → size' = size := fun hne => by
            obtain ⟨y0, r0, rfl⟩ := List.exists_cons_of_ne_nil hne
            rw [← hz 0 y0 rfl]; exact hsz y0 (List.mem_cons_self ..)
          have hc' : ∀ r, r < xs.length * size → G.w.cell? (ad.add r) = some (us r) ∧ (us r).oneCell' = true := fun r hr => by
            have hne : xs ≠ [] := fun e => by subst e; simp at hr
            have := hc r (by rw [hs2 hne]; exact hr)
            exact ⟨this.1, this.2.2⟩
          obtain ⟨hl, hcells⟩ := deep_cells (fun r hr => (hc' r hr).1)
          refine ⟨ad, cap, (List.range (xs.length * size)).map us, hv, hl, by rw [List.length_map]; exact flat_len lc xs hsz, hcells, fun u hu => ?_, fun j u p hu hp => ?_, hnl⟩
          · obtain ⟨r, hr, rfl⟩ := List.mem_map.1 hu
            exact (hc' r (List.mem_range.1 hr)).2
          · rw [List.getElem?_map] at hp
            obtain ⟨p', hp', rfl⟩ := Option.map_eq_some_iff.1 hp
            obtain ⟨i, x', j', rfl, hx', hj', hjs⟩ := flat_at lc xs hsz hp'
            rw [List.getElem?_map, Option.map_eq_some_iff] at hu
            obtain ⟨r, hr', rfl⟩ := hu
            obtain rfl : i * size + j' = r := (List.getElem?_eq_some_iff.1 hr').2.symm ▸ by simp
            have := hr i x' j' p' hx' hj'
            rw [hs2 (fun e => by subst e; simp at hx')] at this
            exact Rd_dg1 this
      · cases hs
    · cases hs
end
end Go.PE
namespace Go.PE
open Go
section
variable {q : Par} {own : Nat → Option Pos} {s : PS} {a : Act} {G : Gh} {K : PS → Prop} {Kr : Act → World → Prop} {Q : Exit → Act → World → Prop} {o : Oper} {C : Known}
/-- a new row, as a box, and a slice of it -/
theorem Inv.boxSlc (h : Inv q own s a G) {d : Option Nat} (hd : ∀ x, d = some x → x < q.N) {w0 : World} (e1 : w0.heap = G.w.heap) (e2 : w0.os = G.w.os) (e3 : w0.tape = G.w.tape) (e4 : w0.output = G.w.output) (cs : Array Value) (e : TypeId) (row : List Value) (hs : cs.size = row.length)
    (hr : ∀ (i : Nat) v p, cs[i]? = some v → row[i]? = some p → v.oneCell' = true ∧ Rd G v p)
    (hl : ∀ e xs, lin e xs ∉ row) {n cap : Nat} (hn : n ≤ cap) :
    ∃ G', G'.w = w0.alloc (.cells cs e) ∧ Inv q own { (s.putO d (PE.slc s.nx 0 n cap)) with H := upd s.H s.nx (some row), nx := s.nx + 1 } (a.put d (.slice (some ⟨G.w.heap.size, 0, none⟩) n cap)) G' := by
  let G' : Gh := ⟨w0.alloc (.cells cs e), upd G.fr G.w.heap.size 0, upd G.be s.nx (some G.w.heap.size), s.nx + 1⟩
  have hold : ∀ b, b < G.w.heap.size → (w0.alloc (.cells cs e)).heap[b]? = G.w.heap[b]? := fun b hb => by rw [← e1]; exact heap_alloc_old w0 _ (by rw [e1]; exact hb)
  have hM : More G G' := ⟨fun b hb => ⟨hold b hb, upd_ne _ _ (by omega)⟩, by show _ ≤ (w0.alloc _).heap.size; simp [e1], e2, e3, e4⟩
  have hnew : G'.w.heap[G.w.heap.size]? = some (.cells cs e (0, 0)) := by
    have := heap_alloc_new w0 (.cells cs e)
    rw [e1] at this; exact this
  obtain ⟨h1, _⟩ := h.newBox hM G.w.heap.size cs e row (Nat.le_refl _) hnew (by simp [G']) (by simp [G']) (fun k hk => upd_ne _ _ hk) rfl hs hr (fun i e xs hx => absurd (List.mem_of_getElem? hx) (hl e xs))
  refine ⟨G', rfl, ?_⟩
  have := h1.putO (d := d) hd (v := .slice (some ⟨G.w.heap.size, 0, none⟩) n cap) (p := PE.slc s.nx 0 n cap) (.slc s.nx _ 0 n cap (by simp [G']) (by simp [G']) hn) (noLin_slc _ _ _ _)
  cases d <;> exact this
theorem does_mks0 {t e size : Nat} (ho : o.op = .buildSlice t 0 #[]) (ht : q.P.underlying t = some (.slice e)) (hn : sz q.P e = some size) (hd : okDst q o) : Does q C o .mks0 := by
  intro own s a G K Kr Q h hs hK
  have hrun : (execOp a.eval o).run q.P G.w = .ok (.value (.slice (some ⟨G.w.heap.size, 0, none⟩) 0 0)) (G.w.alloc (.cells #[] e)) := by
    simp [execOp, ho, Instr.buildSlice, run_underlying ht, run_sizeOf' hn, newRow, Instr.fill]
    have e0 : ((Array.range 0).map fun _ => (default : Value)) = #[] := Array.ext' (by simp)
    rw [e0]
  let G' : Gh := ⟨G.w.alloc (.cells #[] e), upd G.fr G.w.heap.size 0, G.be, G.nx⟩
  have hM : More G G' := More.alloc G _ _ _ _
  have hkeep : Keep G G' := Keep.of_more hM rfl rfl
  have hrd : Rd G' (.slice (some ⟨G.w.heap.size, 0, none⟩) 0 0) (ns []) := .ns _ [] (.deep _ 0 0 [] (fun _ => undef) (fun h => absurd rfl h) (Nat.le_refl _) (Nat.zero_le _) (fun r hr => by simp at hr) (fun i x hx => by simp at hx) (fun i x j y hx => by simp at hx))
  exact wp_val hrun (hK _ _ _ G' ((h.keep hkeep).putO hd hrd (noLin_ns _)) hs)
theorem does_stN {t : Nat} {x : Operand} (ho : o.op = .store t x (.const (.slice none 0 0))) (hn : sz q.P t = some 1) (hx : okOpd q.P q.N x = true) (hd : okDst q o) : Does q C o (.stN x) := by
  intro own s a G K Kr Q h hs hK
  obtain ⟨k, off, row, hp, hH, hlt, hT, hs⟩ := hs
  have hrx := h.rd hx
  rw [hp] at hrx
  obtain ⟨b, e, cs, hvx, hb, hh, hsz, hr⟩ := rd_box h hrx hH hT
  obtain ⟨G', hw, hext, hinv⟩ := h.stored (off := off) (l := [ns []]) (vs := [.slice none 0 0]) hH hb hh hT hsz hr rfl (by simp; omega) (by simp [Value.oneCell'])
    (fun i v p hv hp => by
      match i, hv, hp with
      | 0, hv, hp => simp at hv hp; subst hv hp; exact Rd_ns_nil)
    own (fun g pos hg => h.ol g pos hg) (fun g pos hg _ => hg)
    (fun i e' xs v hi => by
      match i, hi with
      | 0, hi => simp [ns, lin] at hi)
  have e1 : row.take off ++ [ns []] ++ row.drop (off + 1) = row.set off (ns []) := by
    rw [List.set_eq_take_append_cons_drop, if_pos hlt]; simp
  rw [List.length_singleton, e1] at hinv
  refine wp_skip (w' := G'.w) ?_ (hK _ _ _ _ (hinv.putO hd Rd_undef noLin_undef) hs)
  have hst := run_storeCells_at q.P b off e [Value.slice none 0 0] 0 cs G.w hh (by simp; omega) (by simp [Value.oneCell'])
  rw [hw]
  simp only [Nat.add_zero] at hst
  have hcl : (Value.slice none 0 0).cells = #[Value.slice none 0 0] := rfl
  have hev : a.eval (.const (.slice none 0 0)) = .slice none 0 0 := rfl
  simp only [execOp, ho, Instr.storeAt, Instr.sureAddr, hvx, storeVar, hev, hcl, Sem.run_bind, Sem.run_pure, Result.andThen_ok, run_sizeOf' hn, List.size_toArray, List.length_singleton, ne_eq, not_true_eq_false, if_false, hst]

theorem zero_row {z : Value} {size : Nat} (hzs : z.cells.size = size) (h0 : size ≠ 0) (hsc : z.cells.toList.all PE.scal = true) (n : Nat) :
    (madeCells z.cells (n * size)).size = (List.replicate n (z.cells.toList.map opv)).flatten.length ∧
    (∀ (i : Nat) v p, (madeCells z.cells (n * size))[i]? = some v → (List.replicate n (z.cells.toList.map opv)).flatten[i]? = some p → v.oneCell' = true ∧ ∀ G, Rd G v p) ∧ ∀ e xs, lin e xs ∉ (List.replicate n (z.cells.toList.map opv)).flatten := by
  have hone : ∀ c, PE.scal c = true → c.oneCell' = true := fun c hc => by cases c <;> first | rfl | simp [PE.scal] at hc
  have hall := List.all_eq_true.1 hsc
  have hlen : (z.cells.toList.map opv).length = size := by simp [hzs]
  refine ⟨by rw [size_madeCells, rep_len, hlen], fun i v p hv hp => ?_, fun e xs hm => ?_⟩
  · have hi : i < n * size := by
      have := (Array.getElem?_eq_some_iff.1 hv).1
      rwa [size_madeCells] at this
    rw [rep_at _ _ _ (by rw [hlen]; exact hi), hlen, List.getElem?_map] at hp
    obtain ⟨c, hc, rfl⟩ := Option.map_eq_some_iff.1 hp
    have hv' : v = c := by
      simp only [madeCells, Array.getElem?_map, Array.getElem?_range, hi, if_true, Option.map_some] at hv
      have hj : i % size < z.cells.size := by rw [hzs]; exact Nat.mod_lt _ (Nat.pos_of_ne_zero h0)
      rw [hzs, getElem!_pos z.cells (i % size) hj] at hv
      have hc' : z.cells[i % size]? = some c := by simpa using hc
      rw [Array.getElem?_eq_getElem hj] at hc'
      rw [← Option.some.inj hv, Option.some.inj hc']
    subst hv'
    have := hall v (List.mem_of_getElem? hc)
    exact ⟨hone _ this, fun G => Rd_opv this⟩
  · obtain ⟨l, hl, hm⟩ := List.mem_flatten.1 hm
    obtain ⟨_, rfl⟩ := List.mem_replicate.1 hl
    obtain ⟨c, hc, he⟩ := List.mem_map.1 hm
    exact opv_ne_lin c (hall c hc) e xs he
theorem does_mkB {t e : Nat} {l c : Operand} {i : TypeInfo} {z : Value} (ho : o.op = .makeSlice t l c) (ht : q.P.underlying t = some (.slice e)) (hi : q.P.info? e = some i) (hz : i.zero = some z) (hzs : z.cells.size = i.size) (h0 : i.size ≠ 0) (hsc : z.cells.toList.all PE.scal = true)
    (hl : okOpd q.P q.N l = true) (hc : okOpd q.P q.N c = true) (hd : okDst q o) : Does q C o (.mkB i.size i.bytes (z.cells.toList.map opv) l c) := by
  intro own s a G K Kr Q h hs hK
  obtain ⟨kl, nl, kc, nc, hnl, hnc, g0, g1, g2, g3, hs⟩ := hs
  have el := (rd_int (h.rd hl) hnl).1
  have ec := (rd_int (h.rd hc) hnc).1
  have g2' : nc ≤ 9223372036854775807 := by simp only [maxLen] at g2; omega
  have hrun := run_make (P := q.P) G.w t e i z ht hi hz kl kc nl nc g0 g1 (by rw [Int.mul_comm]; omega) g2'
  obtain ⟨z1, z2, z3⟩ := zero_row hzs h0 hsc nc.toNat
  obtain ⟨G', hw, hinv⟩ := h.boxSlc (d := o.dst) hd (w0 := G.w) rfl rfl rfl rfl (madeCells z.cells (nc.toNat * i.size)) e _ z1 (fun i v p hv hp => ⟨(z2 i v p hv hp).1, (z2 i v p hv hp).2 G⟩) z3 (n := nl.toNat) (cap := nc.toNat) (by omega)
  refine wp_val (v := .slice (some ⟨G.w.heap.size, 0, none⟩) nl.toNat nc.toNat) (w' := G'.w) (by rw [hw]; simp only [execOp, ho, el, ec, Sem.run_bind, hrun, Result.andThen_ok, Sem.run_pure]) (hK _ _ _ _ hinv hs)
/-- append in the room that there is, in whatever block -/
theorem run_append_roomB {P : Program} (w : World) (t ty e : TypeId) (i : TypeInfo) (ht : P.underlying t = some (.slice e)) (hi : P.info? e = some i)
    (g o sLen sCap : Nat) (cur : Array Value) (e' : TypeId) (hg : w.heap[g]? = some (.cells cur e' (0, 0)))
    (a : Addr) (m c : Nat) (news : List Value) (hl : news.length = m * i.size) (hnews : ∀ j u, news[j]? = some u → w.cell? (a.add j) = some u) (h1 : ∀ u ∈ news, u.oneCell' = true)
    (hroom : sLen + m ≤ sCap) (hfit : o + sLen * i.size + news.length ≤ cur.size) :
    (Builtin.append_ #[t, t] ty #[.slice (some ⟨g, o, none⟩) sLen sCap, .slice (some a) m c]).run P w =
      .ok (.slice (some ⟨g, o, none⟩) (sLen + m) sCap) (w.setRow g (cur.toList.take (o + sLen * i.size) ++ news ++ cur.toList.drop (o + sLen * i.size + news.length)).toArray) := by
  have hf := run_firstCells_some (P := P) w i.size m a m c news hl hnews
  have hst := run_storeCells_at P g (o + sLen * i.size) e' news 0 cur w hg (by simpa using hfit) h1
  simp only [Nat.add_zero] at hst
  have hadd : (⟨g, o, none⟩ : Addr).add (sLen * i.size) = ⟨g, o + sLen * i.size, none⟩ := add_off _ rfl _
  simp [Builtin.append_, run_underlying ht, sizeOf, typeInfo, hi, Builtin.lenOf, hroom, hf, hadd, hst]
theorem run_copyB {P : Program} (w : World) (t ty e : TypeId) (i : TypeInfo) (ht : P.underlying t = some (.slice e)) (hi : P.info? e = some i)
    (g o n cap : Nat) (cur : Array Value) (e' : TypeId) (hg : w.heap[g]? = some (.cells cur e' (0, 0)))
    (a : Addr) (m c : Nat) (news : List Value) (hl : news.length = min n m * i.size) (hnews : ∀ j u, news[j]? = some u → w.cell? (a.add j) = some u) (h1 : ∀ u ∈ news, u.oneCell' = true)
    (hfit : o + news.length ≤ cur.size) :
    (Builtin.copy_ #[t, t] ty #[.slice (some ⟨g, o, none⟩) n cap, .slice (some a) m c]).run P w =
      .ok (.int .i64 (min n m : Nat)) (w.setRow g (cur.toList.take o ++ news ++ cur.toList.drop (o + news.length)).toArray) := by
  have hmn : Nat.min m n = min n m := Nat.min_comm m n
  have hf := run_firstCells_some (P := P) w i.size (min n m) a m c news hl hnews
  have hst := run_storeCells_at P g o e' news 0 cur w hg (by simpa using hfit) h1
  simp only [Nat.add_zero] at hst
  simp [Builtin.copy_, run_underlying ht, sizeOf, typeInfo, hi, Builtin.lenOf, hmn, hf, hst, goInt]
theorem run_copyN {P : Program} (w : World) (t ty e : TypeId) (i : TypeInfo) (ht : P.underlying t = some (.slice e)) (hi : P.info? e = some i) (g o n cap : Nat) :
    (Builtin.copy_ #[t, t] ty #[.slice (some ⟨g, o, none⟩) n cap, .slice none 0 0]).run P w = .ok (.int .i64 0) w := by
  simp [Builtin.copy_, run_underlying ht, sizeOf, typeInfo, hi, Builtin.lenOf, Builtin.firstCells, storeCells, goInt]
theorem upd_self' (f : Nat → Option (List Value)) (k : Nat) (row : List Value) (h : f k = some row) : upd f k (some row) = f := by
  funext j
  by_cases e : j = k
  · subst e; simp [h]
  · exact upd_ne _ _ e
theorem does_cpy {t e : Nat} {x y : Operand} {ty : TypeId} {i : TypeInfo} (ho : o.op = .call { callee := .builtin .copy, args := #[x, y], argTypes := #[t, t] }) (hty : o.type = ty) (ht : q.P.underlying t = some (.slice e)) (hi : q.P.info? e = some i)
    (hx : okOpd q.P q.N x = true) (hy : okOpd q.P q.N y = true) (hd : okDst q o) : Does q C o (.cpy i.size x y) := by
  intro own s a G K Kr Q h hs hK
  obtain ⟨k, off, n, cap, row, m, cells, hsl, hH, hle, hT, hsrc, hs⟩ := hs
  have hrx := h.rd hx
  rw [hsl] at hrx
  obtain ⟨b, hv, hnc, hk, hb⟩ := slc_rd hrx
  obtain ⟨b', e', cs, hvx, hb', hh, hsz, hr⟩ := rd_box h (Rd_into (off := 0) hb hk) hH hT
  obtain rfl : b = b' := by
    have : Value.pointer (some ⟨b, 0, none⟩) = Value.pointer (some ⟨b', 0, none⟩) := hvx
    simpa using this
  have hexec : ∀ u v w', a.eval y = u → (Builtin.copy_ #[t, t] ty #[.slice (some ⟨b, off, none⟩) n cap, u]).run q.P G.w = .ok v w' → (execOp a.eval o).run q.P G.w = .ok (.value v) w' := by
    intro u v w' hu hrun
    simp [execOp, ho, resolve, invoke, builtin, hv, hu, hty, hrun]
  rcases rd_src h hy hsrc with ⟨hy0, rfl, rfl⟩ | ⟨ad, c2, us, hyv, hul, hcl, hcells, h1, hrd, hnl⟩
  · refine wp_val (hexec _ _ _ hy0 (run_copyN G.w t ty e i ht hi b off n cap)) (hK _ _ _ G (h.putO hd (v := .int .i64 0) (p := .int .i64 0) (.scal _ rfl) (noLin_int _ _)) ?_)
    simp only [Nat.min_zero, Nat.zero_mul, List.take_nil, List.append_nil, Nat.add_zero, List.take_append_drop] at hs
    rw [upd_self' _ _ _ hH] at hs
    cases hdo : o.dst <;> rw [hdo] at hs <;> exact hs
  · have hmul : min n m * i.size ≤ m * i.size := Nat.mul_le_mul_right _ (Nat.min_le_right _ _)
    have hmul2 : min n m * i.size ≤ n * i.size := Nat.mul_le_mul_right _ (Nat.min_le_left _ _)
    have htl : (us.take (min n m * i.size)).length = min n m * i.size := by simp; omega
    have htc : (cells.take (min n m * i.size)).length = min n m * i.size := by simp; omega
    have hrun := run_copyB (P := q.P) G.w t ty e i ht hi b off n cap cs e' hh ad m c2 (us.take (min n m * i.size)) htl (fun j u hu => by
        rw [List.getElem?_take] at hu
        split at hu
        · exact hcells j u hu
        · cases hu) (fun u hu => h1 u (List.mem_of_mem_take hu)) (by rw [htl, hsz]; omega)
    obtain ⟨G', hw, hext, hinv⟩ := h.stored (off := off) (l := cells.take (min n m * i.size)) (vs := us.take (min n m * i.size)) hH hb' hh hT hsz hr (by rw [htl, htc]) (by rw [htc]; omega) (fun u hu => h1 u (List.mem_of_mem_take hu))
      (fun j u p hu hp => by
        rw [List.getElem?_take] at hu hp
        split at hu
        · rename_i hj; rw [if_pos hj] at hp; exact hrd j u p hu hp
        · cases hu)
      own (fun g pos hg => h.ol g pos hg) (fun g pos hg _ => hg)
      (fun j e'' xs v hj _ => absurd (List.mem_of_mem_take (List.mem_of_getElem? hj)) (hnl e'' xs))
    refine wp_val (w' := G'.w) (by rw [hw]; exact hexec _ _ _ hyv hrun) (hK _ _ _ G' (hinv.putO hd (v := .int .i64 (min n m : Nat)) (p := .int .i64 (min n m : Nat)) (.scal _ rfl) (noLin_int _ _)) ?_)
    rw [htc]
    cases hdo : o.dst <;> rw [hdo] at hs <;> exact hs
end
end Go.PE
namespace Go.PE
open Go
section
variable {q : Par} {own : Nat → Option Pos} {s : PS} {a : Act} {G : Gh} {K : PS → Prop} {Kr : Act → World → Prop} {Q : Exit → Act → World → Prop} {o : Oper} {C : Known}
theorem zeroCells_eq (z : Array Value) (n : Nat) : Builtin.zeroCells z n = madeCells z (n * z.size) := rfl
theorem does_appB {u e t ty : Nat} {x : Operand} {i : TypeInfo} {z : Value} (ho : o.op = .call { callee := .builtin .append, args := #[.tmp t, x], argTypes := #[u, u] }) (hty : o.type = ty) (hu : q.P.underlying u = some (.slice e)) (hi : q.P.info? e = some i) (hz : i.zero = some z) (hzs : z.cells.size = i.size) (h0 : i.size ≠ 0)
    (hsc : z.cells.toList.all PE.scal = true) (ht : t < q.N) (hx : okOpd q.P q.N x = true) (hd : okDst q o) : Does q C o (.appB i.size i.bytes (z.cells.toList.map opv) t x) := by
  intro own s a G K Kr Q h hs hK
  obtain ⟨m, cells, hsrc, hs⟩ := hs
  have hrt := h.tm t ht
  have hexec : ∀ va v r w', a.tmps.getD t undef = va → a.eval x = v → (Builtin.append_ #[u, u] ty #[va, v]).run q.P G.w = .ok r w' → (execOp a.eval o).run q.P G.w = .ok (.value r) w' := by
    intro va v r w' hva hv hrun
    have : a.eval (.tmp t) = va := hva
    simp [execOp, ho, resolve, invoke, builtin, hv, this, hty, hrun]
  -- a new row
  have grew : ∀ (n gc : Nat) (olds news pol : List Value), olds.length = n * i.size → pol.length = n * i.size → news.length = m * i.size → cells.length = m * i.size → n + m ≤ gc →
      (∀ (j : Nat) u p, olds[j]? = some u → pol[j]? = some p → u.oneCell' = true ∧ Rd G u p) → (∀ e xs, lin e xs ∉ pol) → (∀ u ∈ news, u.oneCell' = true) → (∀ (j : Nat) u p, news[j]? = some u → cells[j]? = some p → Rd G u p) → (∀ e xs, lin e xs ∉ cells) →
      (execOp a.eval o).run q.P G.w = .ok (.value (.slice (some ⟨G.w.heap.size, 0, none⟩) (n + m) gc)) (G.w.drew.alloc (.cells (olds.toArray ++ news.toArray ++ Builtin.zeroCells z.cells (gc - (n + m))) e)) →
      K { (s.putO o.dst (PE.slc s.nx 0 (n + m) gc)) with H := upd s.H s.nx (some (pol ++ cells ++ (List.replicate (gc - (n + m)) (z.cells.toList.map opv)).flatten)), nx := s.nx + 1 } → o.wp q.P a G.w Kr Q := by
    intro n gc olds news pol hol hpl hnl hcl hgc hold hpn h1 hnew hcn hrun hk
    obtain ⟨z1, z2, z3⟩ := zero_row hzs h0 hsc (gc - (n + m))
    rw [← hzs, ← zeroCells_eq] at z1 z2
    obtain ⟨G', hw, hinv⟩ := h.boxSlc (d := o.dst) hd (w0 := G.w.drew) rfl rfl rfl rfl (olds.toArray ++ news.toArray ++ Builtin.zeroCells z.cells (gc - (n + m))) e (pol ++ cells ++ (List.replicate (gc - (n + m)) (z.cells.toList.map opv)).flatten)
      (by simp only [Array.size_append, List.size_toArray, List.length_append, z1]; omega)
      (fun j v p hv hp => by
        have hv' : (olds ++ news ++ (Builtin.zeroCells z.cells (gc - (n + m))).toList)[j]? = some v := by
          rw [← hv]; simp [← Array.getElem?_toList]
        rw [List.getElem?_append] at hv' hp
        have e1 : (olds ++ news).length = (pol ++ cells).length := by simp; omega
        rw [e1] at hv'
        split at hv'
        · rename_i hj
          rw [if_pos hj] at hp
          rw [List.getElem?_append] at hv' hp
          rw [hol] at hv'
          rw [hpl] at hp
          split at hv'
          · rename_i hj2; rw [if_pos hj2] at hp; exact hold j v p hv' hp
          · rename_i hj2; rw [if_neg hj2] at hp; exact ⟨h1 v (List.mem_of_getElem? hv'), hnew _ v p hv' hp⟩
        · rename_i hj
          rw [if_neg hj] at hp
          have := z2 _ v p (by simpa using hv') hp
          exact ⟨this.1, this.2 G⟩)
      (fun e' xs hm => by
        rcases List.mem_append.1 hm with hm | hm
        · rcases List.mem_append.1 hm with hm | hm
          · exact hpn e' xs hm
          · exact hcn e' xs hm
        · exact z3 e' xs hm) (n := n + m) (cap := gc) hgc
    exact wp_val (w' := G'.w) (by rw [hw]; exact hrun) (hK _ _ _ _ hinv hk)
  rcases hs with ⟨xs, hst, hsx, hmx, hbytes, hk0, hk1⟩ | ⟨k, off, n, cap, row, hst, hH, hle, hnc, hT, hmx, hbytes, hk0, hk1⟩
  · -- onto a slice without room
    rw [hst] at hrt
    obtain ⟨b, hva, hrd⟩ := ns_rd hrt
    rw [hva] at hrd
    by_cases hm0 : m = 0
    · have hk := hk0 hm0
      have hrun : ∃ w', w' = G.w ∧ (execOp a.eval o).run q.P G.w = .ok (.value (.slice b xs.length xs.length)) w' := by
        refine ⟨_, rfl, ?_⟩
        rcases rd_src h hx hsrc with ⟨hx0, _, _⟩ | ⟨ad, c2, us, hxv, hul, _, hcells, h1, _, _⟩
        · exact hexec _ _ _ _ hva hx0 (run_append_none u ty e hu i hi b _ _ (Nat.le_refl _))
        · subst hm0
          refine hexec _ _ _ _ hva hxv ?_
          cases b <;> simp [Builtin.append_, run_underlying hu, sizeOf, typeInfo, hi, Builtin.lenOf, Builtin.firstCells, storeCells, loadCells, loadCellsFrom]
      obtain ⟨w', rfl, hrun⟩ := hrun
      exact wp_val hrun (hK _ _ _ G (h.putO hd (v := .slice b xs.length xs.length) (p := ns xs) (.ns b xs hrd) (noLin_ns _)) hk)
    · rcases rd_src h hx hsrc with ⟨_, hm, _⟩ | ⟨ad, c2, us, hxv, hul, hcl, hcells, h1, hrdc, hnl⟩
      · exact absurd hm hm0
      have hpos : 0 < m := by omega
      rcases deep_rd hrd with ⟨hvn, rfl⟩ | ⟨ad1, cap1, size1, us1, hvd, hsp, hcap, hcl1, hc1, hz1, hr1⟩
      · have hvn' : a.tmps.getD t undef = .slice none 0 0 := by rw [hva]; exact hvn
        simp only [List.length_nil, Nat.zero_add] at hbytes hmx
        have h63 : m ≤ 9223372036854775807 := by simp only [maxLen] at hmx; omega
        have hr := run_append_nil (P := q.P) G.w u ty e i z hu hi hz ad m c2 us hul hcells hpos (by omega) (by omega)
        have hge := grownCap_ge G.w m 0 e
        have hgm := grownCap_le_maxLen G.w m 0 e hmx
        refine grew 0 (grownCap G.w m 0 e) [] us [] (by simp) (by simp) hul hcl (by simpa using hge) (fun j u p hu => by simp at hu) (by simp) h1 hrdc hnl ?_ ?_
        · have := hexec _ _ _ _ hvn' hxv hr
          simpa using this
        · have := hk1 hpos (grownCap G.w m 0 e) (by simpa using hge) hgm
          simpa using this
      · have hb : b = some ad1 := by simp at hvd; exact hvd.1
        subst hb
        have hs1 : xs ≠ [] → size1 = i.size := fun hne => by
          obtain ⟨y0, r0, rfl⟩ := List.exists_cons_of_ne_nil hne
          rw [← hz1 0 y0 rfl]; exact hsx y0 (List.mem_cons_self ..)
        have hc' : ∀ r, r < xs.length * i.size → G.w.cell? (ad1.add r) = some (us1 r) ∧ (us1 r).oneCell' = true := fun r hr => by
          have hne : xs ≠ [] := fun e => by subst e; simp at hr
          have := hc1 r (by rw [hs1 hne]; exact hr)
          exact ⟨this.1, this.2.2⟩
        obtain ⟨hol, holds⟩ := deep_cells (fun r hr => (hc' r hr).1)
        have h63 : xs.length + m ≤ 9223372036854775807 := by simp only [maxLen] at hmx; omega
        have hr := run_append_grow (P := q.P) G.w u ty e i z hu hi hz ad1 xs.length xs.length _ hol holds ad m c2 us hul hcells (by omega) (by omega) (growslice_fits (by omega) hbytes)
        have hge := grownCap_ge G.w (xs.length + m) xs.length e
        have hgm := grownCap_le_maxLen G.w (xs.length + m) xs.length e hmx
        refine grew xs.length (grownCap G.w (xs.length + m) xs.length e) _ us ((xs.flatMap lc).map dg1) hol (by rw [List.length_map]; exact flat_len lc xs hsx) hul hcl hge (fun j u p hu hp => ?_) (fun e' ys hm => ?_) h1 hrdc hnl (hexec _ _ _ _ hva hxv hr) (hk1 hpos _ hge hgm)
        · rw [List.getElem?_map] at hu hp
          obtain ⟨p', hp', rfl⟩ := Option.map_eq_some_iff.1 hp
          obtain ⟨i', x', j', rfl, hx', hj', hjs⟩ := flat_at lc xs hsx hp'
          obtain ⟨r, hr', rfl⟩ := Option.map_eq_some_iff.1 hu
          obtain rfl : i' * i.size + j' = r := (List.getElem?_eq_some_iff.1 hr').2.symm ▸ by simp
          have hlt : i' * i.size + j' < xs.length * i.size := by
            have := (List.getElem?_eq_some_iff.1 hr').1
            simpa using this
          have := hr1 i' x' j' p' hx' hj'
          rw [hs1 (fun e => by subst e; simp at hx')] at this
          exact ⟨(hc' _ hlt).2, Rd_dg1 this⟩
        · obtain ⟨c, _, hc⟩ := List.mem_map.1 hm
          exact dg1_ne_lin _ _ _ hc
  · -- onto a slice of a box
    rw [hst] at hrt
    obtain ⟨b, hva, _, hkn, hb⟩ := slc_rd hrt
    obtain ⟨b', e', cs, hvx, hb', hh, hsz, hr⟩ := rd_box h (Rd_into (off := 0) hb hkn) hH hT
    obtain rfl : b = b' := by
      have : Value.pointer (some ⟨b, 0, none⟩) = Value.pointer (some ⟨b', 0, none⟩) := hvx
      simpa using this
    have hmulc : n * i.size ≤ cap * i.size := Nat.mul_le_mul_right _ hnc
    rcases rd_src h hx hsrc with ⟨hx0, rfl, rfl⟩ | ⟨ad, c2, us, hxv, hul, hcl, hcells, h1, hrdc, hnl⟩
    · have hk := hk0 (by omega)
      simp only [Nat.add_zero, List.append_nil, List.take_append_drop] at hk
      rw [upd_self' _ _ _ hH] at hk
      refine wp_val (hexec _ _ _ _ hva hx0 (run_append_none u ty e hu i hi _ _ _ hnc)) (hK _ _ _ G (h.putO hd (v := .slice (some ⟨b, off, none⟩) n cap) (p := PE.slc k off n cap) (Rd_slc hb hkn hnc) (noLin_slc _ _ _ _)) ?_)
      cases hdo : o.dst <;> rw [hdo] at hk <;> exact hk
    · by_cases hroom : n + m ≤ cap
      · have hk := hk0 hroom
        have hmul : (n + m) * i.size ≤ cap * i.size := Nat.mul_le_mul_right _ hroom
        rw [Nat.add_mul] at hmul
        have hrun := run_append_roomB (P := q.P) G.w u ty e i hu hi b off n cap cs e' hh ad m c2 us hul hcells h1 hroom (by rw [hul, hsz]; omega)
        obtain ⟨G', hw, hext, hinv⟩ := h.stored (off := off + n * i.size) (l := cells) (vs := us) hH hb' hh hT hsz hr (by rw [hul, hcl]) (by rw [hcl]; omega) h1 hrdc
          own (fun g pos hg => h.ol g pos hg) (fun g pos hg _ => hg)
          (fun j e'' ys v hj _ => absurd (List.mem_of_getElem? hj) (hnl e'' ys))
        have hb2 : G'.be k = some b ∨ G'.be k = none := by
          rcases hext.be k b hb' hkn with h1 | h1
          · exact .inl h1
          · exact .inr h1
        refine wp_val (w' := G'.w) (by rw [hw]; exact hexec _ _ _ _ hva hxv hrun) (hK _ _ _ G' (hinv.putO hd (v := .slice (some ⟨b, off, none⟩) (n + m) cap) (p := PE.slc k off (n + m) cap) (Rd_slc hb2 (Nat.lt_of_lt_of_le hkn hext.nx) hroom) (noLin_slc _ _ _ _)) ?_)
        have e2 : off + n * i.size + cells.length = off + (n + m) * i.size := by rw [hcl, Nat.add_mul]; omega
        rw [e2]
        cases hdo : o.dst <;> rw [hdo] at hk <;> exact hk
      · have hget : ∀ (j : Nat) u, ((cs.toList.drop off).take (n * i.size))[j]? = some u → j < n * i.size ∧ cs[off + j]? = some u := fun j u hu => by
          rw [List.getElem?_take] at hu
          split at hu
          · rename_i hj; rw [List.getElem?_drop] at hu; exact ⟨hj, by simpa using hu⟩
          · cases hu
        have hol : ((cs.toList.drop off).take (n * i.size)).length = n * i.size := by simp; omega
        have h63 : n + m ≤ 9223372036854775807 := by simp only [maxLen] at hmx; omega
        have hrun := run_append_grow (P := q.P) G.w u ty e i z hu hi hz ⟨b, off, none⟩ n cap _ hol (fun j v hj => by
          obtain ⟨_, hc⟩ := hget j v hj
          rw [add_off _ rfl]
          simp [World.cell?, hh, hc]) ad m c2 us hul hcells (by omega) (by omega) (growslice_fits (by omega) hbytes)
        have hge := grownCap_ge G.w (n + m) cap e
        have hgm := grownCap_le_maxLen G.w (n + m) cap e hmx
        refine grew n (grownCap G.w (n + m) cap e) _ us (((row.drop off).take (n * i.size)).map dg1) hol (by simp; omega) hul hcl hge (fun j u p hu hp => ?_) (fun e'' ys hm => ?_) h1 hrdc hnl (hexec _ _ _ _ hva hxv hrun) (hk1 (by omega) _ hge hgm)
        · obtain ⟨hj, hc⟩ := hget j u hu
          rw [List.getElem?_map, List.getElem?_take, if_pos hj, List.getElem?_drop] at hp
          obtain ⟨p', hp', rfl⟩ := Option.map_eq_some_iff.1 hp
          have := hr _ u p' hc hp'
          exact ⟨this.1, Rd_dg1 this.2⟩
        · obtain ⟨c, _, hc⟩ := List.mem_map.1 hm
          exact dg1_ne_lin _ _ _ hc
end
end Go.PE
namespace Go.PE
open Go
def rowLen (w : World) (b : Nat) : Nat := match w.heap[b]? with | some (.cells c _ _) => c.size | _ => 0
section
variable {q : Par} {own : Nat → Option Pos} {s : PS} {a : Act} {G : Gh} {K : PS → Prop} {Kr : Act → World → Prop} {Q : Exit → Act → World → Prop} {o : Oper}
open Classical in
/-- the moment with boxes forgotten -/
noncomputable def frz (G : Gh) (H1 : Nat → Option (List Value)) : Gh :=
  ⟨G.w, fun b => if ∃ k, G.be k = some b ∧ H1 k = none then rowLen G.w b else G.fr b, fun k => match H1 k with | none => none | some _ => G.be k, G.nx⟩
theorem Base.freeze (h : Base q own s G) {H1 : Nat → Option (List Value)} (hs : Sub q.n0 H1 s.H) :
    Base q own { s with H := H1 } (frz G H1) ∧ Ext G (frz G H1) ∧ ∀ {base : Nat} {pos : Pos} {e : Nat} {v : Value}, TokOK q.P G own base pos e v → TokOK q.P (frz G H1) own base pos e v := by
  let G' : Gh := frz G H1
  have hbe : ∀ k, G'.be k = G.be k ∨ G'.be k = none := fun k => by
    cases hH : H1 k with
    | none => right; show (match H1 k with | none => none | some _ => G.be k) = _; rw [hH]
    | some r => left; show (match H1 k with | none => none | some _ => G.be k) = _; rw [hH]
  have hbe' : ∀ k b, G'.be k = some b → G.be k = some b ∧ H1 k ≠ none := fun k b hk => by
    have hk' : (match H1 k with | none => none | some _ => G.be k) = some b := hk
    cases hH : H1 k with
    | none => rw [hH] at hk'; cases hk'
    | some r => rw [hH] at hk'; exact ⟨hk', by simp⟩
  have hsome : ∀ k row, H1 k = some row → s.H k = some row ∧ G'.be k = G.be k := fun k row hk => by
    refine ⟨?_, ?_⟩
    · rcases hs k with h1 | ⟨_, h1⟩
      · rw [← h1]; exact hk
      · rw [hk] at h1; cases h1
    · show (match H1 k with | none => none | some _ => G.be k) = _
      rw [hk]
  -- what is dropped is the call's own
  have hdrop : ∀ k b, G.be k = some b → H1 k = none → q.n0 ≤ k ∧ G.fr b = 0 ∧ q.B ≤ b := fun k b hk h1 => by
    cases hH : s.H k with
    | none => have := h.bn k hH; rw [hk] at this; cases this
    | some row =>
      obtain ⟨b', e, cs, fz, hb', hh, hsz, hr, hf, hB⟩ := h.ob k row hH
      rw [hk] at hb'
      obtain rfl : b = b' := by simpa using hb'
      have hn : q.n0 ≤ k := by
        rcases hs k with h2 | ⟨h2, _⟩
        · rw [h1, hH] at h2; cases h2
        · exact h2
      exact ⟨hn, (hf (.inr hn)).1, hB hn⟩
  have hfr : ∀ b, (¬ ∃ k, G.be k = some b ∧ H1 k = none) → G'.fr b = G.fr b := fun b hb => by
    exact if_neg hb
  have hext : Ext G G' := ⟨Nat.le_refl _, fun _ _ _ _ hu => hu, fun b _ => by
    by_cases hb : ∃ k, G.be k = some b ∧ H1 k = none
    · obtain ⟨k, hk, h1⟩ := hb
      rw [(hdrop k b hk h1).2.1]; exact Nat.zero_le _
    · rw [hfr b hb]; exact Nat.le_refl _, fun k b hk _ => by rw [← hk]; exact hbe k, fun k hk _ => by
    rcases hbe k with h1 | h1
    · rw [h1]; exact hk
    · exact h1⟩
  have htok : ∀ {base : Nat} {pos : Pos} {e : Nat} {v : Value}, TokOK q.P G own base pos e v → TokOK q.P G' own base pos e v := by
    intro base pos e v ht
    exact ht.turn (fun b _ hk => ⟨rfl, hfr b (fun ⟨k, hk', _⟩ => hk k hk'), fun k hk' => hk k (hbe' k b hk').1⟩) (fun _ hg => hg)
  refine ⟨⟨⟨fun k row hk => ?_, fun k hk => ?_, fun k hk => ?_, h.nx, h.n0, fun k k' b hk hk' => h.inj k k' b (hbe' k b hk).1 (hbe' k' b hk').1, fun g b hg hb => h.gl g b hg (hbe' g b hb).1, h.ng, h.ol⟩, fun k hk => ?_, fun b hb hT => ?_, h.sz, h.os, h.tape, h.output, fun base k i e xs hob hp => ?_, fun k hk hT => ?_⟩, hext, htok⟩
  · obtain ⟨hH, hb⟩ := hsome k row hk
    obtain ⟨b, e, cs, fz, hb', hh, hsz, hr, hf, hB⟩ := h.ob k row hH
    refine ⟨b, e, cs, fz, by rw [← hb'] ; exact hb, hh, hsz, fun i v p hv hp => ⟨(hr i v p hv hp).1, (hr i v p hv hp).2.mono hext⟩, fun hW => ⟨?_, (hf hW).2⟩, hB⟩
    have e2 : G'.fr b = G.fr b := hfr b (fun ⟨k', hk', h1⟩ => by
      have := h.inj k k' b hb' hk'
      subst this
      have hk' : H1 k = some row := hk
      rw [hk'] at h1; cases h1)
    show G'.fr b = 0
    rw [e2]; exact (hf hW).1
  · have hk' : H1 k = none := hk
    show (match H1 k with | none => none | some _ => G.be k) = none
    rw [hk']
  · rcases hs k with h1 | ⟨_, h1⟩
    · show H1 k = none
      rw [h1]; exact h.nxH k hk
    · exact h1
  · have h1 : H1 k = s.H k := by
      rcases hs k with h1 | ⟨h0, _⟩
      · exact h1
      · omega
    rw [← h.bo k hk]
    cases hH : s.H k with
    | none =>
      have : G'.be k = none := by
        show (match H1 k with | none => none | some _ => G.be k) = none
        rw [h1, hH]
      have e3 : (frz G H1).be k = none := this
      rw [e3, h.bn k hH]
    | some row => exact (hsome k row (by rw [h1, hH])).2
  · obtain ⟨e1, e2⟩ := h.frame b hb hT
    refine ⟨e1, ?_⟩
    rw [← e2]
    exact hfr b (fun ⟨k, hk, h1⟩ => by have := (hdrop k b hk h1).2.2; omega)
  · have hp' : pcell H1 k i = lin e xs := hp
    cases hH : H1 k with
    | none => simp [pcell, hH, undef, lin] at hp'
    | some row =>
      obtain ⟨hH', hb⟩ := hsome k row hH
      have hrc : rcell G' k i = rcell G k i := by simp only [rcell, hb]; rfl
      have : rcell (frz G H1) k i = rcell G k i := hrc
      rw [this]
      exact htok (h.ctok base k i e xs hob (by simpa [pcell, hH, hH'] using hp'))
  · rcases hs k with h1 | ⟨h0, _⟩
    · show H1 k = _
      rw [h1]; exact h.hh k hk hT
    · omega
theorem Inv.freeze (h : Inv q own s a G) {H1 : Nat → Option (List Value)} (hs : Sub q.n0 H1 s.H) : Inv q own { s with H := H1 } a (frz G H1) := by
  obtain ⟨hb, hext, htok⟩ := h.toBase.freeze hs
  exact ⟨hb, h.size, h.defers, fun t ht => (h.tm t ht).mono hext, fun t e xs ht hp => htok (h.ttok t e xs ht hp), fun t i e xs ht hp => htok (h.utok t i e xs ht hp), fun b es hp => (h.mps b es hp).same rfl⟩
/-- a slice of a box that is forgotten reads as it stood -/
theorem Cv1_rd (h : Base q own s G) {H1 : Nat → Option (List Value)} (hs : Sub q.n0 H1 s.H) {v p p' : Value} (hr : Rd G v p) (hc : Cv1 q.n0 s.H H1 p p') : Rd (frz G H1) v p' := by
  obtain ⟨_, hext, _⟩ := h.freeze hs
  rcases hc with rfl | ⟨k, off, n, cap, size, row, xs, rfl, rfl, hH, h1, hn0, hcap, hlen, hle, hx⟩
  · exact hr.mono hext
  · obtain ⟨b, rfl, hnc, hk, hb⟩ := slc_rd hr
    obtain ⟨b', e, cs, fz, hb', hh, hsz, hrr, _, _⟩ := h.ob k row hH
    have hbb : b = b' := by
      rcases hb with hb | hb
      · rw [hb] at hb'; exact Option.some.inj hb'
      · rw [hb] at hb'; cases hb'
    subst hbb
    subst hlen
    have hlt : ∀ r, r < xs.length * size → off + r < cs.size := fun r hr => by omega
    have hfr : (frz G H1).fr b = cs.size := by
      have e1 : (frz G H1).fr b = rowLen G.w b := if_pos ⟨k, hb', h1⟩
      rw [e1]
      simp [rowLen, hh]
    have hget : ∀ (i : Nat) x (j : Nat) y, xs[i]? = some x → (lc x)[j]? = some y → j < size ∧ ∃ y', row[off + (i * size + j)]? = some y' ∧ dg1 y' = y := fun i x j y hxi hy => by
      rw [hx i x hxi, List.getElem?_map, List.getElem?_take] at hy
      obtain ⟨y', hy', rfl⟩ := Option.map_eq_some_iff.1 hy
      split at hy'
      · rename_i hj
        rw [List.getElem?_drop] at hy'
        exact ⟨hj, y', by rw [← Nat.add_assoc]; exact hy', rfl⟩
      · cases hy'
    have := Rd.deep (G := frz G H1) ⟨b, off, none⟩ cap size xs (fun r => (cs[off + r]?).getD undef) (fun _ => rfl) hnc hcap (fun r hr' => ?_) (fun i x hxi => ?_) (fun i x j y hxi hy => ?_)
    · exact this
    · have hlt := hlt r hr'
      rw [add_off _ rfl]
      have hc : cs[off + r]? = some cs[off + r] := Array.getElem?_eq_getElem hlt
      refine ⟨?_, by rw [hfr]; exact hlt, ?_⟩
      · show G.w.cell? _ = _
        simp [World.cell?, hh, hc]
      · rw [hc]
        have hlt2 : off + r < row.length := by omega
        exact (hrr _ _ _ hc (List.getElem?_eq_getElem hlt2)).1
    · rw [hx i x hxi]
      have hi := (List.getElem?_eq_some_iff.1 hxi).1
      have : (i + 1) * size ≤ xs.length * size := Nat.mul_le_mul_right _ (by omega)
      rw [Nat.add_mul] at this
      simp; omega
    · obtain ⟨hj, y', hy', rfl⟩ := hget i x j y hxi hy
      have hlt2 : off + (i * size + j) < cs.size := by rw [hsz]; exact (List.getElem?_eq_some_iff.1 hy').1
      have hc : cs[off + (i * size + j)]? = some cs[off + (i * size + j)] := Array.getElem?_eq_getElem hlt2
      rw [hc]
      exact Rd_dg1 ((hrr _ _ y' hc hy').2.mono hext)
theorem Cv1_noLin {n0 : Nat} {H H1 : Nat → Option (List Value)} {p p' : Value} (h : Cv1 n0 H H1 p p') (e : Nat) (xs : List Value) (hp : p' = lin e xs) : p = lin e xs := by
  rcases h with rfl | ⟨k, off, n, cap, size, row, ys, rfl, rfl, _⟩
  · exact hp
  · simp [deep, lin] at hp
theorem Cv_rd (h : Base q own s G) {H1 : Nat → Option (List Value)} (hs : Sub q.n0 H1 s.H) {v p p' : Value} (hr : Rd G v p) (hc : Cv q.n0 s.H H1 p p') : Rd (frz G H1) v p' := by
  rcases hc with hc | ⟨l, l', rfl, rfl, hl, hc⟩
  · exact Cv1_rd h hs hr hc
  · obtain ⟨vs, rfl, hvl, h1, hn, hrr⟩ := ag_rd hr
    refine .agg vs l' (by omega) h1 (fun e xs hm => ?_) (fun i v p hv hp => ?_)
    · obtain ⟨i, hi⟩ := List.getElem?_of_mem hm
      have hlt : i < l.length := by rw [hl]; exact (List.getElem?_eq_some_iff.1 hi).1
      have := Cv1_noLin (hc i _ _ (List.getElem?_eq_getElem hlt) hi) e xs rfl
      exact hn e xs (this ▸ List.getElem_mem hlt)
    · have hlt : i < l.length := by rw [hl]; exact (List.getElem?_eq_some_iff.1 hp).1
      exact Cv1_rd h hs (hrr i v _ hv (List.getElem?_eq_getElem hlt)) (hc i _ _ (List.getElem?_eq_getElem hlt) hp)
theorem rd_cvs (h : Inv q own s a G) {H1 : Nat → Option (List Value)} (hs : Sub q.n0 H1 s.H) {args : List Operand} (hx : ∀ x ∈ args, okOpd q.P q.N x = true) {args' : List Value} (hc : Cvs q.n0 s.H H1 (args.map s.ev) args') :
    (args.map a.eval).length = args'.length ∧ ∀ (i : Nat) v p, (args.map a.eval)[i]? = some v → args'[i]? = some p → Rd (frz G H1) v p := by
  obtain ⟨hl, hc⟩ := hc
  refine ⟨by simpa using hl, fun i v p hv hp => ?_⟩
  rw [List.getElem?_map] at hv
  obtain ⟨x, hx1, rfl⟩ := Option.map_eq_some_iff.1 hv
  exact Cv_rd h.toBase hs (h.rd (hx x (List.mem_of_getElem? hx1))) (hc i (s.ev x) p (by rw [List.getElem?_map, hx1]; rfl) hp)
theorem does_callB {f : Nat} {args : Array Operand} {ts : Array TypeId} {fn : Func} (ho : o.op = .call { callee := .value (.func f), args := args, argTypes := ts }) (hf : q.P.funcs[f]? = some fn) (hb : fn.body.isSome) (hnm : (fn.name == "runtime.NumGoroutine") = false)
    (hx : ∀ x ∈ args.toList, okOpd q.P q.N x = true) (hd : okDst q o) : Does q (PCalls q.P) o (.callB f args.toList) := by
  intro own s a G K Kr Q h hs hK
  obtain ⟨H1, args', hsub, hcv, hs⟩ := hs
  have hF := h.freeze hsub
  obtain ⟨hl, hrd⟩ := rd_cvs h hsub hx hcv
  rcases hs with ⟨T', hTT, hTn, hcall⟩ | ⟨v, hpv, hcall, hk⟩
  · have hE := hF.entry hTT hTn
    have := hcall (frz G H1) own (args.toList.map a.eval) hE hl hrd
    unfold Oper.wp
    have hrun := run_call (a := a) (P := q.P) (w := G.w) ho hf hb hnm
    rw [hrun]
    show Calls q.P f _ G.w _
    refine this.mono fun e w' hpost => ?_
    obtain ⟨v, p, G', own', H', nx', rfl, rfl, hL, hR⟩ := hpost
    obtain ⟨own'', hinv⟩ := hF.after hTT hL hd
    have e1 : ({ (({ s with H := H1 } : PS).putO o.dst p) with H := H', nx := nx' } : PS) = { (s.putO o.dst p) with H := H', nx := nx' } := by cases o.dst <;> rfl
    rw [e1] at hinv
    exact hK _ _ _ _ hinv hR
  · have hE := hF.entry (T' := fun _ => False) (fun k hf => hf.elim) (fun k row hf => hf.elim)
    have := hcall (frz G H1) own (args.toList.map a.eval) hE hl hrd
    unfold Oper.wp
    have hrun := run_call (a := a) (P := q.P) (w := G.w) ho hf hb hnm
    rw [hrun]
    show Calls q.P f _ G.w _
    refine this.mono fun e w' hpost => ?_
    obtain ⟨rv, p, G'', own', H', nx', rfl, rfl, hL, rfl⟩ := hpost
    have hkeep : Keep G ⟨G''.w, fun b => if b < G.w.heap.size then G.fr b else 0, G.be, G.nx⟩ := ⟨fun b hb' => ⟨(hL.frame b hb' (fun k _ hf => hf)).1, if_pos hb'⟩, rfl, rfl, hL.sz, hL.os, hL.tape, hL.output⟩
    have e1 := plain_eq hL.res hpv
    subst e1
    exact hK own _ _ ⟨G''.w, fun b => if b < G.w.heap.size then G.fr b else 0, G.be, G.nx⟩ ((h.keep hkeep).putO hd (Rd_plain hpv) (noLin_plain hpv)) hk
end
end Go.PE
namespace Go.PE
open Go

section
variable {q : Par} {o : Oper} {ops : Array Oper} {i : PI}

theorem sliceElem_some {P : Program} {t e : Nat} (h : sliceElem P t = some e) : P.underlying t = some (.slice e) := by
  unfold sliceElem at h
  split at h
  · rename_i h'; obtain rfl := Option.some.inj h; exact h'
  · cases h

def isCall : PI → Bool | .call .. => true | _ => false
/-- it does what the instruction says; where it only reads, or calls, so much more -/
def Snd (q : Par) (o : Oper) (i : PI) : Prop :=
  (qOK i = true → (Still q (PCalls q.P) o i ∧ isCall i = false) ∨ ∃ f args ts fn, o.op = .call { callee := .value (.func f), args := args, argTypes := ts } ∧ q.P.funcs[f]? = some fn ∧ fn.body.isSome = true ∧ (fn.name == "runtime.NumGoroutine") = false ∧
    (∀ x ∈ args.toList, okOpd q.P q.N x = true) ∧ i = .call f args.toList) ∧ Does q (PCalls q.P) o i
theorem both (st : Still q (PCalls q.P) o i) (hd : okDst q o) (hc : isCall i = false) : Snd q o i := ⟨fun _ => .inl ⟨st, hc⟩, st.does hd⟩
theorem notq (hd : Does q (PCalls q.P) o i) (h : qOK i = false) : Snd q o i := ⟨fun h' => (by rw [h] at h'; cases h'), hd⟩

theorem build_nc {P : Program} {N t : Nat} {ns : List Nat} {parts : List (Nat × Operand)} {zf : Value → Value} (h : buildOf P N zf t ns parts = some i) : isCall i = false := by
  unfold buildOf at h
  split at h
  · obtain ⟨r, _, rfl⟩ := Option.map_eq_some_iff.1 h; rfl
  · cases h

theorem does_compOp (hc : compOp q.P q.N ops o = some i) (hd : okDst q o) (hall : ∀ x ∈ o.op.operands.toList, okOpd q.P q.N x = true) : Snd q o i := by
  have hsc : o.op.operands = o.op.operands := rfl
  unfold compOp at hc
  split at hc
  · rename_i heq
    obtain ⟨e, _, rfl⟩ := Option.map_eq_some_iff.1 hc
    exact notq (does_cnil (.inl heq) hd) rfl
  · rename_i heq
    obtain ⟨e, _, rfl⟩ := Option.map_eq_some_iff.1 hc
    exact notq (does_cnil (.inr heq) hd) rfl
  · rename_i t heq
    have hx : okOpd q.P q.N (.tmp t) = true := hall _ (by simp [heq, Op.operands])
    split at hc <;> obtain rfl := Option.some.inj hc
    · exact notq (does_steal (.inl heq) (by simpa [okOpd] using hx) hd) rfl
    · exact both (still_mv (.inl heq) hx) hd rfl
  · rename_i t heq
    have hx : okOpd q.P q.N (.tmp t) = true := hall _ (by simp [heq, Op.operands])
    split at hc <;> obtain rfl := Option.some.inj hc
    · exact notq (does_steal (.inr heq) (by simpa [okOpd] using hx) hd) rfl
    · exact both (still_mv (.inr heq) hx) hd rfl
  · rename_i heq
    obtain rfl := Option.some.inj hc
    exact both (still_mv (.inl heq) (hall _ (by simp [heq, Op.operands]))) hd rfl
  · rename_i heq
    obtain rfl := Option.some.inj hc
    exact both (still_mv (.inr heq) (hall _ (by simp [heq, Op.operands]))) hd rfl
  · rename_i heq
    obtain rfl := Option.some.inj hc
    exact both (still_pick heq (hall _ (by simp [heq, Op.operands])) (hall _ (by simp [heq, Op.operands])) (hall _ (by simp [heq, Op.operands]))) hd rfl
  · rename_i heq
    obtain ⟨row, hz, rfl⟩ := Option.map_eq_some_iff.1 hc
    exact notq (does_alloc heq hz hd) rfl
  · rename_i heq
    obtain ⟨n, _, rfl⟩ := Option.map_eq_some_iff.1 hc
    exact notq (does_box heq (hall _ (by simp [heq, Op.operands])) hd) rfl
  · rename_i heq
    split at hc
    · rename_i ht
      split at hc
      · rename_i hns; exact both (still_buildS opv_ne_lin (fun _ _ h => Rd_opv h) heq ht hns hc) hd (build_nc hc)
      · cases hc
    · rename_i ht
      split at hc
      · rename_i hn; exact both (still_buildA opv_ne_lin (fun _ _ h => Rd_opv h) heq ht hn hc) hd (build_nc hc)
      · cases hc
    · cases hc
  · rename_i heq
    split at hc
    · rename_i he
      split at hc
      · rename_i hn
        split at hc
        · rename_i hcond
          obtain rfl := Option.some.inj hc
          simp only [Bool.and_eq_true, bne_iff_ne, ne_eq, decide_eq_true_eq, beq_iff_eq] at hcond
          obtain ⟨⟨⟨h1, h2⟩, h3⟩, h4⟩ := hcond
          exact notq (does_mks heq (sliceElem_some he) hn h2 h1 h3 h4 (fun x hx => hall x (by simpa [heq, Op.operands] using hx)) hd) rfl
        · cases hc
      · cases hc
    · cases hc
  · rename_i heq
    split at hc
    · rename_i ha hn
      obtain rfl := Option.some.inj hc
      exact both (still_ldA heq ha hn (hall _ (by simp [heq, Op.operands]))) hd rfl
    · rename_i ha
      obtain rfl := Option.some.inj hc
      cases hb : ((sliceElem q.P _).isSome && wantsO ops o.dst)
      · exact both (still_ld heq ha (hall _ (by simp [heq, Op.operands]))) hd rfl
      · exact notq (does_ldt heq ha (hall _ (by simp [heq, Op.operands])) hd) rfl
    · cases hc
  · rename_i heq
    split at hc
    · rename_i hn
      split at hc
      · rename_i u _
        split at hc
        · rename_i h1
          subst h1
          obtain rfl := Option.some.inj hc
          have hu : okOpd q.P q.N (.tmp u) = true := hall _ (by simp [heq, Op.operands])
          exact notq (does_sts heq hn (hall _ (by simp [heq, Op.operands])) (by simpa [okOpd] using hu) hd) rfl
        · cases hc
      · obtain rfl := Option.some.inj hc
        exact notq (does_st heq hn (hall _ (by simp [heq, Op.operands])) (hall _ (by simp [heq, Op.operands])) hd) rfl
    · cases hc
  · rename_i heq
    obtain rfl := Option.some.inj hc
    exact both (still_nilc heq (hall _ (by simp [heq, Op.operands]))) hd rfl
  · rename_i heq
    split at hc
    · obtain rfl := Option.some.inj hc
      exact both (still_bi heq (hall _ (by simp [heq, Op.operands])) (hall _ (by simp [heq, Op.operands]))) hd rfl
    · obtain rfl := Option.some.inj hc
      exact both (still_bi heq (hall _ (by simp [heq, Op.operands])) (hall _ (by simp [heq, Op.operands]))) hd rfl
    · rename_i ht
      split at hc
      · obtain rfl := Option.some.inj hc
        exact both (still_bb (neg := false) heq rfl ht (hall _ (by simp [heq, Op.operands])) (hall _ (by simp [heq, Op.operands]))) hd rfl
      · obtain rfl := Option.some.inj hc
        exact both (still_bb (neg := true) heq rfl ht (hall _ (by simp [heq, Op.operands])) (hall _ (by simp [heq, Op.operands]))) hd rfl
      · cases hc
    · rename_i ht
      split at hc
      · cases hc
      · rename_i hg
        split at hc
        · rename_i hks
          split at hc
          · obtain rfl := Option.some.inj hc
            exact both (still_eqA (neg := false) heq rfl (by simpa using hg) (isAggB_of ht) hks (hall _ (by simp [heq, Op.operands])) (hall _ (by simp [heq, Op.operands]))) hd rfl
          · obtain rfl := Option.some.inj hc
            exact both (still_eqA (neg := true) heq rfl (by simpa using hg) (isAggB_of ht) hks (hall _ (by simp [heq, Op.operands])) (hall _ (by simp [heq, Op.operands]))) hd rfl
          · cases hc
        · cases hc
    · rename_i ht
      split at hc
      · cases hc
      · rename_i hg
        split at hc
        · rename_i hks
          split at hc
          · obtain rfl := Option.some.inj hc
            exact both (still_eqA (neg := false) heq rfl (by simpa using hg) (isAggB_of ht) hks (hall _ (by simp [heq, Op.operands])) (hall _ (by simp [heq, Op.operands]))) hd rfl
          · obtain rfl := Option.some.inj hc
            exact both (still_eqA (neg := true) heq rfl (by simpa using hg) (isAggB_of ht) hks (hall _ (by simp [heq, Op.operands])) (hall _ (by simp [heq, Op.operands]))) hd rfl
          · cases hc
        · cases hc
    · obtain rfl := Option.some.inj hc
      exact both (still_sc (by simp [heq]) hall) hd rfl
  · rename_i heq
    obtain rfl := Option.some.inj hc
    exact both (still_un heq (hall _ (by simp [heq, Op.operands]))) hd rfl
  · rename_i heq
    split at hc
    · rename_i ha hb
      obtain rfl := Option.some.inj hc
      exact both (still_cv heq ha hb (hall _ (by simp [heq, Op.operands]))) hd rfl
    · obtain rfl := Option.some.inj hc
      exact both (still_sc (by simp [heq]) hall) hd rfl
  · rename_i heq
    split at hc
    · rename_i ht
      split at hc
      · rename_i hf
        split at hc
        · rename_i hn
          split at hc
          · cases hc
          · rename_i h0
            obtain rfl := Option.some.inj hc
            exact both (still_fa heq ht hf hn h0 (hall _ (by simp [heq, Op.operands]))) hd rfl
        · cases hc
      · cases hc
    · cases hc
  · rename_i heq
    split at hc
    · rename_i ht
      split at hc
      · rename_i hf
        split at hc
        · rename_i ha hn
          obtain rfl := Option.some.inj hc
          exact both (still_fldA heq ht hf ha hn (hall _ (by simp [heq, Op.operands]))) hd rfl
        · rename_i ha
          obtain rfl := Option.some.inj hc
          exact both (still_fld heq ht hf ha (hall _ (by simp [heq, Op.operands]))) hd rfl
        · cases hc
      · cases hc
    · cases hc
  · rename_i heq
    split at hc
    · rename_i ht
      obtain ⟨n, hn, rfl⟩ := Option.map_eq_some_iff.1 hc
      exact both (still_ixS heq ht hn (hall _ (by simp [heq, Op.operands])) (hall _ (by simp [heq, Op.operands]))) hd rfl
    · rename_i ht
      obtain ⟨n, hn, rfl⟩ := Option.map_eq_some_iff.1 hc
      exact both (still_ixP heq ht hn (hall _ (by simp [heq, Op.operands])) (hall _ (by simp [heq, Op.operands]))) hd rfl
    · cases hc
  · rename_i heq
    split at hc
    · rename_i ht
      split at hc
      · rename_i ha hn
        obtain rfl := Option.some.inj hc
        exact both (still_ixA heq ht ha hn (hall _ (by simp [heq, Op.operands])) (hall _ (by simp [heq, Op.operands]))) hd rfl
      · rename_i ha hn
        split at hc
        · rename_i h1
          subst h1
          obtain rfl := Option.some.inj hc
          exact both (still_ix heq ht ha hn (hall _ (by simp [heq, Op.operands])) (hall _ (by simp [heq, Op.operands]))) hd rfl
        · cases hc
      · cases hc
    · rename_i ht
      obtain rfl := Option.some.inj hc
      exact both (still_six heq ht (hall _ (by simp [heq, Op.operands])) (hall _ (by simp [heq, Op.operands]))) hd rfl
    · cases hc
  · rename_i t _ heq
    obtain rfl := Option.some.inj hc
    have hx : okOpd q.P q.N (.tmp t) = true := hall _ (by simp [heq, Op.operands])
    exact notq (does_extr heq (by simpa [okOpd] using hx) hd) rfl
  · rename_i lo hi mx heq
    split at hc
    · rename_i ht
      split at hc
      · cases hc
      · rename_i hmh
        obtain ⟨n, hn, rfl⟩ := Option.map_eq_some_iff.1 hc
        exact both (still_slS heq ht hn (by cases mx <;> cases hi <;> simp at hmh ⊢) (hall _ (by simp [heq, Op.operands])) (fun y hy => hall y (by subst hy; simp [heq, Op.operands])) (fun y hy => hall y (by subst hy; simp [heq, Op.operands])) (fun y hy => hall y (by subst hy; simp [heq, Op.operands]))) hd rfl
    · rename_i ht
      split at hc
      · cases hc
      · rename_i hmx
        obtain rfl := Option.some.inj hc
        have hmx' : mx = none := by cases mx <;> simp at hmx ⊢
        subst hmx'
        exact both (still_ssl heq ht (hall _ (by simp [heq, Op.operands])) (fun y hy => hall y (by subst hy; simp [heq, Op.operands])) (fun y hy => hall y (by subst hy; simp [heq, Op.operands]))) hd rfl
    · cases hc
  · rename_i heq
    split at hc
    · rename_i he
      split at hc
      · rename_i hi
        split at hc
        · rename_i hz
          split at hc
          · rename_i hcond
            obtain ⟨h1, h2, h3, h4⟩ := hcond
            obtain rfl := Option.some.inj hc
            exact notq (does_mk heq (sliceElem_some he) hi hz h1 h2 h3 h4 (hall _ (by simp [heq, Op.operands])) (hall _ (by simp [heq, Op.operands])) hd) rfl
          · cases hc
        · cases hc
      · cases hc
    · cases hc
  · rename_i heq
    split at hc
    · rename_i ht
      obtain rfl := Option.some.inj hc
      exact both (still_len ⟨_, heq, rfl⟩ ht (hall _ (by simp [heq, Op.operands, Call.operands]))) hd rfl
    · rename_i ht
      obtain rfl := Option.some.inj hc
      exact both (still_slen heq rfl ht (hall _ (by simp [heq, Op.operands, Call.operands]))) hd rfl
    · cases hc
  · rename_i t x u v heq
    split at hc
    · cases hc
    · rename_i huv
      obtain rfl : u = v := by simpa using huv
      split at hc
      · rename_i he
        split at hc
        · rename_i hi
          split at hc
          · rename_i hz
            split at hc
            · rename_i hcond
              obtain rfl := Option.some.inj hc
              have ht : okOpd q.P q.N (.tmp t) = true := hall _ (by simp [heq, Op.operands, Call.operands])
              exact notq (does_app heq rfl (sliceElem_some he) hi hz hcond.1 hcond.2 (by simpa [okOpd] using ht) (hall _ (by simp [heq, Op.operands, Call.operands])) hd) rfl
            · cases hc
          · cases hc
        · cases hc
      · cases hc
  · rename_i heq
    obtain rfl := Option.some.inj hc
    exact both (still_mm (mx := false) heq (hall _ (by simp [heq, Op.operands, Call.operands])) (hall _ (by simp [heq, Op.operands, Call.operands]))) hd rfl
  · rename_i heq
    obtain rfl := Option.some.inj hc
    exact both (still_mm (mx := true) heq (hall _ (by simp [heq, Op.operands, Call.operands])) (hall _ (by simp [heq, Op.operands, Call.operands]))) hd rfl
  · rename_i heq
    split at hc
    · rename_i hf
      split at hc
      · rename_i hcond
        simp only [Bool.and_eq_true, bne_iff_ne, ne_eq] at hcond
        obtain rfl := Option.some.inj hc
        have hx : ∀ x ∈ (_ : Array Operand).toList, okOpd q.P q.N x = true := (fun x hx => hall x (by simp [heq, Op.operands, Call.operands]; exact .inr (by simpa using hx)))
        exact ⟨fun _ => .inr ⟨_, _, _, _, heq, hf, hcond.1, by simpa using hcond.2, hx, rfl⟩, does_call heq hf hcond.1 (by simpa using hcond.2) hx hd⟩
      · split at hc
        · obtain rfl := Option.some.inj hc
          exact notq (does_xcall heq (fun x hx => hall x (by simp [heq, Op.operands, Call.operands]; exact .inr (by simpa using hx))) hd) rfl
        · cases hc
    · cases hc
  · rename_i heq
    obtain rfl := Option.some.inj hc
    exact notq (does_callv heq (hall _ (by simp [heq, Op.operands, Call.operands])) (fun x hx => hall x (by simp [heq, Op.operands, Call.operands]; exact .inr (by simpa using hx))) hd) rfl
  · rename_i heq
    obtain rfl := Option.some.inj hc
    exact both (still_mkf heq (fun x hx => hall x (by simp [heq, Op.operands]; exact .inl (by simpa using hx))) (fun x hx => hall x (by simp [heq, Op.operands]; exact .inr (by simpa using hx)))) hd rfl
  · cases hc

theorem does_comp (hc : comp1 q.P q.N ops o = some i) : Snd q o i ∧ okDst q o := by
  unfold comp1 at hc
  split at hc
  · rename_i hok
    simp only [okOper, Bool.and_eq_true] at hok
    have hd : okDst q o := fun x hx => by have := hok.2; rw [hx] at this; simpa using this
    exact ⟨does_compOp hc hd (fun x hx => List.all_eq_true.1 hok.1 x hx), hd⟩
  · cases hc
end
end Go.PE
namespace Go.PE
open Go
open Go.MapKept (run_findKey run_checkKey run_getObj_map run_setObj_map heap_set IsKey)
/-- where a key lies, and what it leads to -/
def posM (k : ByteArray) : List (ByteArray × Bool) → Option (Nat × Bool)
  | [] => none
  | (k', v) :: r => if k = k' then some (0, v) else (posM k r).map fun x => (x.1 + 1, x.2)
def kv (e : MapEntry) : Value × Value := (e.key, e.val)
def sb (x : ByteArray × Bool) : Value × Value := (.string x.1, .bool x.2)
theorem ba_beq (a b : ByteArray) : (a == b) = decide (a = b) := by
  by_cases h : a = b
  · rw [(MapKept.bytes_beq a b).2 h]; simp [h]
  · rw [decide_eq_false h]
    cases hb : (a == b) with
    | true => exact absurd ((MapKept.bytes_beq a b).1 hb) h
    | false => rfl
theorem findNow_posM (k : ByteArray) : ∀ (es : List (ByteArray × Bool)) (ents : List MapEntry) (i : Nat), ents.map kv = es.map sb →
    Instr.findNow .string (.string k) ents i = some ((posM k es).map fun x => (i + x.1, .bool x.2))
  | [], [], i, _ => rfl
  | [], _ :: _, i, h => by simp at h
  | _ :: _, [], i, h => by simp at h
  | (k', v) :: es, e :: ents, i, h => by
    simp only [List.map_cons, List.cons.injEq, kv, sb, Prod.mk.injEq] at h
    obtain ⟨⟨h1, h2⟩, h3⟩ := h
    unfold Instr.findNow posM
    rw [h1]
    simp only [Instr.sameNow, ba_beq]
    by_cases hk : k = k'
    · subst hk; simp [h2]
    · simp only [hk, decide_false, if_false]
      rw [findNow_posM k es ents (i + 1) h3]
      cases posM k es with
      | none => rfl
      | some x => simp; omega
theorem getM_pos (k : ByteArray) : ∀ es : List (ByteArray × Bool), getM k es = match posM k es with | some x => x.2 | none => false
  | [] => rfl
  | (k', v) :: r => by
    unfold getM posM
    by_cases hk : k = k'
    · simp [hk]
    · simp only [hk, if_false, getM_pos k r]
      cases posM k r <;> rfl
theorem setM_none {k : ByteArray} {v : Bool} : ∀ {es : List (ByteArray × Bool)}, posM k es = none → setM k v es = es ++ [(k, v)]
  | [], _ => rfl
  | (k', v') :: r, h => by
    unfold posM at h
    unfold setM
    by_cases hk : k = k'
    · simp [hk] at h
    · simp only [hk, if_false, Option.map_eq_none_iff] at h ⊢
      rw [setM_none h]; rfl
theorem setM_some {k : ByteArray} {v : Bool} : ∀ {es : List (ByteArray × Bool)} {x : Nat × Bool}, posM k es = some x → setM k v es = es.set x.1 (k, v) ∧ ∃ v', es[x.1]? = some (k, v')
  | [], _, h => by simp [posM] at h
  | (k', v') :: r, x, h => by
    unfold posM at h
    unfold setM
    by_cases hk : k = k'
    · subst hk
      simp only [if_true] at h ⊢
      obtain rfl := Option.some.inj h
      exact ⟨rfl, v', rfl⟩
    · simp only [hk, if_false, Option.map_eq_some_iff] at h ⊢
      obtain ⟨y, hy, rfl⟩ := h
      obtain ⟨h1, h2⟩ := setM_some (v := v) hy
      exact ⟨by rw [h1]; rfl, h2⟩
theorem delM_none {k : ByteArray} : ∀ {es : List (ByteArray × Bool)}, posM k es = none → delM k es = es
  | [], _ => rfl
  | (k', v') :: r, h => by
    unfold posM at h
    unfold delM
    by_cases hk : k = k'
    · simp [hk] at h
    · simp only [hk, if_false, Option.map_eq_none_iff] at h ⊢
      rw [delM_none h]
theorem delM_some {k : ByteArray} : ∀ {es : List (ByteArray × Bool)} {x : Nat × Bool}, posM k es = some x → delM k es = es.eraseIdx x.1 ∧ x.1 < es.length
  | [], _, h => by simp [posM] at h
  | (k', v') :: r, x, h => by
    unfold posM at h
    unfold delM
    by_cases hk : k = k'
    · simp only [hk, if_true] at h ⊢
      obtain rfl := Option.some.inj h
      simp
    · simp only [hk, if_false, Option.map_eq_some_iff] at h ⊢
      obtain ⟨y, hy, rfl⟩ := h
      obtain ⟨h1, h2⟩ := delM_some hy
      exact ⟨by rw [h1]; rfl, by simpa using h2⟩

section
variable {q : Par} {own : Nat → Option Pos} {s : PS} {a : Act} {G : Gh} {C : Known} {o : Oper}

theorem Inv.mpPut (h : Inv q own s a G) {b : Nat} {es : List (ByteArray × Bool)} (hm : MpOK q.B G.w b es) : Inv q own { s with t := upd s.t (q.N + b) (mpe es) } a G where
  toBase := h.toBase.putT _
  size := h.size
  defers := h.defers
  tm := fun t ht => by
    show Rd G _ (upd s.t (q.N + b) (mpe es) t)
    rw [upd_ne _ _ (by omega)]; exact h.tm t ht
  ttok := fun t e xs ht hp => by
    have hp' : upd s.t (q.N + b) (mpe es) t = lin e xs := hp
    rw [upd_ne _ _ (by omega)] at hp'; exact h.ttok t e xs ht hp'
  utok := fun t i e xs ht hp => by
    have hp' : comp (upd s.t (q.N + b) (mpe es) t) i = lin e xs := hp
    rw [upd_ne _ _ (by omega)] at hp'; exact h.utok t i e xs ht hp'
  mps := fun b' es' hp => by
    have hp' : upd s.t (q.N + b) (mpe es) (q.N + b') = mpe es' := hp
    by_cases hb : b' = b
    · subst hb
      rw [upd_same] at hp'
      rw [← mpe_inj hp']; exact hm
    · rw [upd_ne _ _ (by omega)] at hp'; exact h.mps b' es' hp'

/-- a map of the call's own is turned -/
theorem Inv.mapTurn (h : Inv q own s a G) {b : Nat} {es es' : List (ByteArray × Bool)} {w' : World} (hm : MpOK q.B G.w b es) (hm' : MpOK q.B w' b es')
    (ho : ∀ b', b' ≠ b → w'.heap[b']? = G.w.heap[b']?) (hsz : w'.heap.size = G.w.heap.size) (hos : w'.os = G.w.os) (htp : w'.tape = G.w.tape) (hou : w'.output = G.w.output) :
    Inv q own { s with t := upd s.t (q.N + b) (mpe es') } a ⟨w', G.fr, G.be, G.nx⟩ := by
  have hcell : ∀ ad : Addr, ∀ u, G.w.cell? ad = some u → ad.block ≠ b := by
    rintro ad u hu rfl
    obtain ⟨_, ents, clock, h2, _⟩ := hm
    simp [World.cell?, h2] at hu
  have hext : Ext G ⟨w', G.fr, G.be, G.nx⟩ :=
    ⟨Nat.le_refl _, fun ad _ _ u hu => by rw [World.cell?_of_block (ho _ (hcell ad u hu))]; exact hu, fun b _ => Nat.le_refl _, fun k b hk _ => .inl hk, fun k hk _ => hk⟩
  have htok : ∀ {base : Nat} {pos : Pos} {e : Nat} {v : Value}, TokOK q.P G own base pos e v → TokOK q.P ⟨w', G.fr, G.be, G.nx⟩ own base pos e v := by
    intro base pos e v ht
    rcases ht with ht | ⟨g, n, cap, i, xs, rfl, hi, h1, h2, h3, h4⟩
    · exact .inl ht
    · have hne : g ≠ b := by
        rintro rfl
        rcases h1.2 with ⟨h5, _⟩ | ⟨g', cap', cur, h5, _, h6, _⟩
        · simp at h5
        · simp only [Value.slice.injEq, Option.some.injEq, Addr.mk.injEq, and_true] at h5
          obtain ⟨rfl, _⟩ := h5
          exact hm.ne h6 rfl
      refine .inr ⟨g, n, cap, i, xs, rfl, hi, ownsRow_blk h1 (fun g' hg' => ?_), h2, h3, h4⟩
      obtain rfl : g = g' := by simpa [Value.ownBlock] using hg'
      exact ho g hne
  have hbne : ∀ k b', G.be k = some b' → b' ≠ b := by
    rintro k b' hk rfl
    have hH : s.H k ≠ none := fun e => by have := h.bn k e; rw [hk] at this; cases this
    cases hr : s.H k with
    | none => exact absurd hr hH
    | some row =>
      obtain ⟨b₁, e, cs, fz, hb, hh, _⟩ := h.ob k row hr
      rw [hk] at hb
      obtain rfl : b' = b₁ := by simpa using hb
      exact hm.ne hh rfl
  have base : Base q own s ⟨w', G.fr, G.be, G.nx⟩ := by
    refine ⟨⟨fun k row hk => ?_, h.bn, h.nxH, h.nx, h.n0, h.inj, h.gl, h.ng, fun g pos hg => by rw [hsz]; exact h.ol g pos hg⟩, h.bo, fun b' hb hT => ?_, by rw [hsz]; exact h.sz, by rw [hos]; exact h.os, by rw [htp]; exact h.tape, by rw [hou]; exact h.output, fun base k i e xs hob hp => ?_, h.hh⟩
    · obtain ⟨b', e, cs, fz, hb, hh, hs, hr, hf, hB⟩ := h.ob k row hk
      exact ⟨b', e, cs, fz, hb, by rw [ho b' (hbne k b' hb)]; exact hh, hs, fun i v p hv hp => ⟨(hr i v p hv hp).1, (hr i v p hv hp).2.mono hext⟩, hf, hB⟩
    · have := hm.1
      rw [ho b' (by omega)]; exact h.frame b' hb hT
    · have hrc : rcell ⟨w', G.fr, G.be, G.nx⟩ k i = rcell G k i := by
        simp only [rcell]
        cases hb : G.be k with
        | none => rfl
        | some b' => simp only; rw [World.cell?_of_block (a := ⟨b', i, none⟩) (ho b' (hbne k b' hb))]
      rw [hrc]
      exact htok (h.ctok base k i e xs hob hp)
  refine ⟨base.putT _, h.size, h.defers, fun t ht => ?_, fun t e xs ht hp => ?_, fun t i e xs ht hp => ?_, fun b' es₁ hp => ?_⟩
  · show Rd _ _ (upd s.t (q.N + b) (mpe es') t)
    rw [upd_ne _ _ (by omega)]; exact (h.tm t ht).mono hext
  · have hp' : upd s.t (q.N + b) (mpe es') t = lin e xs := hp
    rw [upd_ne _ _ (by omega)] at hp'; exact htok (h.ttok t e xs ht hp')
  · have hp' : comp (upd s.t (q.N + b) (mpe es') t) i = lin e xs := hp
    rw [upd_ne _ _ (by omega)] at hp'; exact htok (h.utok t i e xs ht hp')
  · have hp' : upd s.t (q.N + b) (mpe es') (q.N + b') = mpe es₁ := hp
    by_cases hb : b' = b
    · subst hb
      rw [upd_same] at hp'
      rw [← mpe_inj hp']; exact hm'
    · rw [upd_ne _ _ (by omega)] at hp'; exact (h.mps b' es₁ hp').same (ho b' hb)

theorem rd_mapv {v p : Value} (h : Rd G v p) {b : Nat} (hp : p = .map (some b)) : v = .map (some b) := by
  subst hp; exact plain_eq h rfl

theorem strMap_spec {P : Program} {t : TypeId} (h : strMap P t = true) : ∃ k e, P.underlying t = some (.map k e) ∧ P.underlying k = some .string ∧ ∀ w, (zeroValue e).run P w = .ok (.bool false) w := by
  unfold strMap at h
  split at h
  · rename_i k e ht
    split at h
    · rename_i h1 h2 h3
      obtain ⟨i, h4, h5⟩ := Option.bind_eq_some_iff.1 h3
      exact ⟨k, e, ht, h1, fun w => by simp [zeroValue, typeInfo, h4, h5]⟩
    · cases h
  · cases h

theorem does_mkM {t : TypeId} (ho : o.op = .makeMap t none) (hd : okDst q o) : Does q C o (.mkM q.N) := by
  intro own s a G K Kr Q h hs hK
  have hs' := hs G.w.heap.size
  have hk : Keep G ⟨G.w.alloc (.map #[] 0), G.fr, G.be, G.nx⟩ := ⟨fun b hb => ⟨heap_alloc_old _ _ hb, rfl⟩, rfl, rfl, by show _ ≤ (G.w.alloc _).heap.size; simp, rfl, rfl, rfl⟩
  have h1 := (h.keep hk).putO (d := o.dst) hd (v := .map (some G.w.heap.size)) (p := .map (some G.w.heap.size)) (.scal _ rfl) (noLin_plain rfl)
  have h2 := h1.mpPut (b := G.w.heap.size) (es := []) ⟨h.sz, #[], 0, (MapKept.heap_alloc G.w _).1, rfl⟩
  have hsame : (s.putO o.dst (.map (some G.w.heap.size))).H = s.H ∧ (s.putO o.dst (.map (some G.w.heap.size))).nx = s.nx := by cases o.dst <;> exact ⟨rfl, rfl⟩
  refine wp_val (v := .map (some G.w.heap.size)) (w' := G.w.alloc (.map #[] 0)) ?_ (hK _ _ _ _ h2 ?_)
  · simp [execOp, ho, Go.RowKit.run_makeMap, Result.andThen]
  · exact hs'

theorem ents_get {ents : Array MapEntry} {es : List (ByteArray × Bool)} (he : ents.toList.map kv = es.map sb) {i : Nat} {k : ByteArray} {v : Bool} (hi : es[i]? = some (k, v)) : ∃ e, ents[i]? = some e ∧ e.key = .string k := by
  have h1 : (ents.toList.map kv)[i]? = some (sb (k, v)) := by rw [he, List.getElem?_map, hi]; rfl
  rw [List.getElem?_map, Option.map_eq_some_iff] at h1
  obtain ⟨e, h2, h3⟩ := h1
  refine ⟨e, by simpa using h2, ?_⟩
  simp only [kv, sb, Prod.mk.injEq] at h3
  exact h3.1

theorem does_mset {t : TypeId} {x k v : Operand} (ho : o.op = .mapUpdate t x k v) (ht : strMap q.P t = true) (hx : okOpd q.P q.N x = true) (hk : okOpd q.P q.N k = true) (hv : okOpd q.P q.N v = true) (hd : okDst q o) : Does q C o (.mset q.N x k v) := by
  intro own s a G K Kr Q h hs hK
  obtain ⟨b, es, kb, vb, e1, e2, e3, e4, hs⟩ := hs
  obtain ⟨kt, et, t1, t2, t3⟩ := strMap_spec ht
  have r1 := rd_mapv (h.rd hx) e1
  have r2 := (rd_str (h.rd hk) e3).1
  have r3 := (rd_bool (h.rd hv) e4).1
  have hm := h.mps b es e2
  obtain ⟨hB, ents, clock, hh, he⟩ := hm
  have he : ents.toList.map kv = es.map sb := he
  have hget : (getObj b).run q.P G.w = .ok (.map ents clock) G.w := by simp [getObj, Sem.run, hh]
  have hsetO : ∀ o', (setObj b o').run q.P G.w = .ok () { G.w with heap := G.w.heap.setIfInBounds b o' } := fun o' => by simp [setObj, Sem.run, hh]
  have hfind := run_findKey (P := q.P) (w := G.w) t2 (findNow_posM kb es ents.toList 0 he)
  have hck := run_checkKey (P := q.P) (w := G.w) (kt := kt) (k := .string kb) t2 (by simp [IsKey]) false 9999
  have go : ∀ ents' clock', ents'.toList.map kv = (setM kb vb es).map sb →
      Kr (a.put o.dst undef) { G.w with heap := G.w.heap.setIfInBounds b (.map ents' clock') } := fun ents' clock' he' => by
    have hset := heap_set (w := G.w) (o' := .map ents' clock') hh
    have h2 := h.mapTurn (w' := { G.w with heap := G.w.heap.setIfInBounds b (.map ents' clock') }) ⟨hB, ents, clock, hh, he⟩ ⟨hB, ents', clock', hset.1, he'⟩ hset.2 (by simp) rfl rfl rfl
    exact hK _ _ _ _ (h2.putO hd Rd_undef noLin_undef) hs
  cases hp : posM kb es with
  | none =>
    refine wp_skip (w' := { G.w with heap := G.w.heap.setIfInBounds b (.map (ents.push { key := .string kb, val := .bool vb, born := clock }) (clock + 1)) }) ?_ (go _ _ ?_)
    · rw [hp] at hfind
      simp [execOp, ho, r1, r2, r3, Instr.mapUpdate, run_underlying t1, hget, hck, hfind, hsetO, Result.andThen]
    · rw [setM_none hp]; simp [he, kv, sb]
  | some y =>
    obtain ⟨s1, v', s2⟩ := setM_some (v := vb) hp
    obtain ⟨e, g1, g2⟩ := ents_get he s2
    refine wp_skip (w' := { G.w with heap := G.w.heap.setIfInBounds b (.map (ents.modify y.1 fun e => { e with key := .string kb, val := .bool vb }) clock) }) ?_ (go _ _ ?_)
    · rw [hp] at hfind
      simp [execOp, ho, r1, r2, r3, Instr.mapUpdate, run_underlying t1, hget, hck, hfind, hsetO, Result.andThen, g1, g2, Instr.keyThatStays, Instr.sameBits, (MapKept.bytes_beq kb kb).2 rfl]
    · rw [s1, List.map_set, ← he]
      apply List.ext_getElem?
      intro i
      by_cases hi : i = y.1
      · subst hi
        have hlt := (Array.getElem?_eq_some_iff.1 g1).1
        simp [hlt, kv, sb, Array.getElem_modify]
      · simp [List.getElem?_set, Array.getElem?_modify, hi, Ne.symm hi]
  
theorem does_mget {t : TypeId} {x k : Operand} (ho : o.op = .lookup t x k false) (ht : strMap q.P t = true) (hx : okOpd q.P q.N x = true) (hk : okOpd q.P q.N k = true) (hd : okDst q o) : Does q C o (.mget q.N x k) := by
  intro own s a G K Kr Q h hs hK
  obtain ⟨b, es, kb, e1, e2, e3, hs⟩ := hs
  obtain ⟨kt, et, t1, t2, t3⟩ := strMap_spec ht
  have r1 := rd_mapv (h.rd hx) e1
  have r2 := (rd_str (h.rd hk) e3).1
  obtain ⟨hB, ents, clock, hh, he⟩ := h.mps b es e2
  have he : ents.toList.map kv = es.map sb := he
  have hget : (getObj b).run q.P G.w = .ok (.map ents clock) G.w := by simp [getObj, Sem.run, hh]
  have hsetO : ∀ o', (setObj b o').run q.P G.w = .ok () { G.w with heap := G.w.heap.setIfInBounds b o' } := fun o' => by simp [setObj, Sem.run, hh]
  have hfind := run_findKey (P := q.P) (w := G.w) t2 (findNow_posM kb es ents.toList 0 he)
  have hck := fun e => run_checkKey (P := q.P) (w := G.w) (kt := kt) (k := .string kb) t2 (by simp [IsKey]) e 9999
  have hz : (zeroValue et).run q.P G.w = .ok (.bool false) G.w := by
    exact t3 G.w
  refine wp_val (v := .bool (getM kb es)) (w' := G.w) ?_ (hK _ _ _ _ (h.putO hd (.scal _ rfl) (noLin_bool _)) hs)
  rw [getM_pos]
  cases hp : posM kb es with
  | none =>
    rw [hp] at hfind
    simp [execOp, ho, r1, r2, Instr.lookup, run_underlying t1, hget, hck, hfind, Result.andThen, hz]
  | some y =>
    rw [hp] at hfind
    simp [execOp, ho, r1, r2, Instr.lookup, run_underlying t1, hget, hck, hfind, Result.andThen]

theorem does_mdel {x k : Operand} {t : TypeId} {ts : List TypeId} (ho : o.op = .call { callee := .builtin .delete, args := ⟨[x, k]⟩, argTypes := ⟨t :: ts⟩ }) (ht : strMap q.P t = true) (hx : okOpd q.P q.N x = true) (hk : okOpd q.P q.N k = true) (hd : okDst q o) : Does q C o (.mdel q.N x k) := by
  intro own s a G K Kr Q h hs hK
  obtain ⟨b, es, kb, e1, e2, e3, hs⟩ := hs
  obtain ⟨kt, et, t1, t2, t3⟩ := strMap_spec ht
  have r1 := rd_mapv (h.rd hx) e1
  have r2 := (rd_str (h.rd hk) e3).1
  have hm := h.mps b es e2
  obtain ⟨hB, ents, clock, hh, he⟩ := hm
  have he : ents.toList.map kv = es.map sb := he
  have hget : (getObj b).run q.P G.w = .ok (.map ents clock) G.w := by simp [getObj, Sem.run, hh]
  have hsetO : ∀ o', (setObj b o').run q.P G.w = .ok () { G.w with heap := G.w.heap.setIfInBounds b o' } := fun o' => by simp [setObj, Sem.run, hh]
  have hfind := run_findKey (P := q.P) (w := G.w) t2 (findNow_posM kb es ents.toList 0 he)
  have hck := fun e => run_checkKey (P := q.P) (w := G.w) (kt := kt) (k := .string kb) t2 (by simp [IsKey]) e 9999
  have go : ∀ ents', ents'.toList.map kv = (delM kb es).map sb →
      Kr (a.put o.dst (.tuple #[])) { G.w with heap := G.w.heap.setIfInBounds b (.map ents' clock) } := fun ents' he' => by
    have hset := heap_set (w := G.w) (o' := .map ents' clock) hh
    have h2 := h.mapTurn (w' := { G.w with heap := G.w.heap.setIfInBounds b (.map ents' clock) }) ⟨hB, ents, clock, hh, he⟩ ⟨hB, ents', clock, hset.1, he'⟩ hset.2 (by simp) rfl rfl rfl
    exact hK _ _ _ _ (h2.putO hd (.tuple [] [] rfl (by simp)) ⟨by simp [tup, lin], fun i e xs => by simp [comp, tup, undef, lin]⟩) hs
  cases hp : posM kb es with
  | none =>
    refine wp_val (v := .tuple #[]) (w' := { G.w with heap := G.w.heap.setIfInBounds b (.map ents clock) }) ?_ (go _ ?_)
    · rw [hp] at hfind
      simp [execOp, ho, r1, r2, resolve, invoke, builtin, Builtin.delete_, run_underlying t1, hget, hck, hfind, hsetO, Result.andThen]
    · rw [delM_none hp]; exact he
  | some y =>
    obtain ⟨s1, s2⟩ := delM_some hp
    have hlt : y.1 < ents.size := by
      have := congrArg List.length he
      simp at this; omega
    refine wp_val (v := .tuple #[]) (w' := { G.w with heap := G.w.heap.setIfInBounds b (.map (ents.eraseIdxIfInBounds y.1) clock) }) ?_ (go _ ?_)
    · rw [hp] at hfind
      simp [execOp, ho, r1, r2, resolve, invoke, builtin, Builtin.delete_, run_underlying t1, hget, hck, hfind, hsetO, Result.andThen]
    · rw [s1]
      have e1 : (ents.eraseIdxIfInBounds y.1).toList = ents.toList.eraseIdx y.1 := by simp [Array.eraseIdxIfInBounds, hlt]
      rw [e1]
      apply List.ext_getElem?
      intro i
      have h1 : ∀ j : Nat, (ents.toList.map kv)[j]? = (es.map sb)[j]? := fun j => by rw [he]
      simp only [List.getElem?_map, List.getElem?_eraseIdx] at h1 ⊢
      split <;> exact h1 _

theorem run_eql_slice_nil {P : Program} {w : World} (t e : TypeId) (a : Option Addr) (l c : Nat) (h : P.underlying t = some (.slice e)) : (binOp .eql t (.slice a l c) (.slice none 0 0)).run P w = .ok (.bool a.isNone) w := by
  simp only [binOp]
  simp [run_equal_slice_nil w t e a l c h]
/-- a slice against nil: an empty one may be nil or not -/
theorem still_nilS {t u e : Nat} {neg : Bool} {x : Operand} (ho : o.op = .binOp (if neg then .neq else .eql) t x (.const (.slice none 0 0)) u) (ht : q.P.underlying t = some (.slice e)) (hx : okOpd q.P q.N x = true) : Still q C o (.nilS neg x) := by
  intro own s a G K h hs
  have hrx := h.rd hx
  have run : ∀ (ad : Option Addr) (l c : Nat), a.eval x = .slice ad l c → ∀ G', Keep G G' → (execOp a.eval o).run q.P G'.w = .ok (.value (.bool (if neg then !ad.isNone else ad.isNone))) G'.w := by
    intro ad l c hv G' _
    have hc : a.eval (.const (.slice none 0 0)) = .slice none 0 0 := rfl
    have hg : ∀ op, eqGuard op t x (.const (.slice none 0 0)) (.slice ad l c) (.slice none 0 0) = pure () := fun op => by unfold eqGuard; cases op <;> rfl
    simp only [execOp, ho, hv, hc, hg]
    cases neg with
    | true =>
      have := run_neq_slice_nil (P := q.P) G'.w t e ad l c ht
      simp only [if_true, pure_bind, Sem.run_bind, this]; rfl
    | false =>
      have := run_eql_slice_nil (P := q.P) (w := G'.w) t e ad l c ht
      simp only [Bool.false_eq_true, if_false, pure_bind, Sem.run_bind, this]; rfl
  rcases hs with ⟨xs, h1, h2, h3⟩ | ⟨k, off, n, cap, h1, h3⟩
  · rw [asDeep_eq h1 ⟨_, hrx⟩] at hrx
    rcases deep_rd hrx with ⟨hv, hnil⟩ | ⟨ad, cap, size, us, hv, _⟩
    · refine still_mk (v := .bool (!neg)) (.scal _ rfl) (noLin_bool _) (h2 hnil) (fun G' hk' => ?_)
      rw [run none 0 0 hv G' hk']; cases neg <;> rfl
    · refine still_mk (v := .bool neg) (.scal _ rfl) (noLin_bool _) h3 (fun G' hk' => ?_)
      rw [run _ _ _ hv G' hk']; cases neg <;> rfl
  · rw [h1] at hrx
    obtain ⟨b, hv, _⟩ := slc_rd hrx
    refine still_mk (v := .bool neg) (.scal _ rfl) (noLin_bool _) h3 (fun G' hk' => ?_)
    rw [run _ _ _ hv G' hk']; cases neg <;> rfl
theorem u8s_spec : ∀ {xs : List Value} {ns : List Int}, u8s xs = some ns → xs = ns.map (Value.int .u8)
  | [], ns, h => by simp [u8s] at h; subst h; rfl
  | x :: r, ns, h => by
    unfold u8s at h
    split at h
    · rename_i he; cases he
    · rename_i n r' he
      simp only [List.cons.injEq] at he
      obtain ⟨rfl, rfl⟩ := he
      obtain ⟨m, hm, rfl⟩ := Option.map_eq_some_iff.1 h
      rw [u8s_spec hm]; rfl
    · cases h
theorem u8Slice_spec {P : Program} {t : TypeId} (h : u8Slice P t = true) : ∃ e, P.underlying t = some (.slice e) ∧ P.underlying e = some (.int .u8) := by
  unfold u8Slice at h
  split at h
  · rename_i e ht
    split at h
    · rename_i h1; exact ⟨e, ht, h1⟩
    · cases h
  · cases h
theorem isString_spec {P : Program} {t : TypeId} (h : isString P t = true) : P.underlying t = some .string := by
  unfold isString at h
  split at h
  · assumption
  · cases h
theorem still_b2s {src dst : TypeId} {x : Operand} (ho : o.op = .convert src dst x) (ha : u8Slice q.P src = true) (hb : isString q.P dst = true) (hx : okOpd q.P q.N x = true) : Still q C o (.b2s x) := by
  intro own s a G K h hs
  obtain ⟨xs, ns, h1, h2, hs⟩ := hs
  obtain ⟨e, t1, t2⟩ := u8Slice_spec ha
  have t3 := isString_spec hb
  have hrx := h.rd hx
  rw [asDeep_eq h1 ⟨_, hrx⟩] at hrx
  obtain rfl := u8s_spec h2
  refine still_mk (v := .string (strOfNums ns)) (.scal _ rfl) (noLin_string _) hs (fun G' hk' => ?_)
  rcases deep_rd hrx with ⟨hv, hnil⟩ | ⟨ad, cap, size, us, hv, hsp, hcap, hcl, hc, hz, hr⟩
  · have : ns = [] := by simpa using hnil
    subst this
    have hrun := run_convert_bytes_nil (P := q.P) (w := G'.w) src e t1 t2 0 0 dst t3
    simp only [execOp, ho, hv, Sem.run_bind, Sem.run_pure, hrun, Result.andThen_ok]
    rfl
  · have hl : (loadCells ad ns.length).run q.P G'.w = .ok (ns.map (Value.int .u8)).toArray G'.w := by
      have := run_loadCells_list (P := q.P) G'.w ad (ns.map (Value.int .u8)) (fun j u hu => by
        have hj : j < ns.length := by
          have := (List.getElem?_eq_some_iff.1 hu).1; simpa using this
        have hs1 : size = 1 := by
          have := hz j u hu
          rw [List.getElem?_map] at hu
          obtain ⟨n, _, rfl⟩ := Option.map_eq_some_iff.1 hu
          simpa [lc, Value.cells] using this.symm
        subst hs1
        have hcj := hc j (by simpa using hj)
        have hrj := hr j u 0 u hu (by
          rw [List.getElem?_map] at hu
          obtain ⟨n, _, rfl⟩ := Option.map_eq_some_iff.1 hu
          rfl)
        have hu' : us j = u := by
          rw [List.getElem?_map] at hu
          obtain ⟨n, _, rfl⟩ := Option.map_eq_some_iff.1 hu
          have := plain_eq hrj rfl
          simpa using this
        rw [← hu']
        exact hk'.cell hcj.1)
      simpa using this
    have h3 := run_bytesToString (P := q.P) G'.w ad ns.length cap ns hl
    simp only [List.length_map] at hv
    simp only [execOp, ho, hv, Sem.run_bind, Sem.run_pure, run_convert_bytes_string G'.w src dst e (some ad) ns.length cap t1 t2 t3, h3, Result.andThen_ok, foldl_push_bytes]
    simp [strOfNums]
end
end Go.PE
namespace Go.PE
open Go
section
variable {q : Par} {own : Nat → Option Pos} {s : PS} {a : Act} {G : Gh} {K : PS → Prop} {Kr : Act → World → Prop} {Q : Exit → Act → World → Prop} {o : Oper} {C : Known} {ops : Array Oper} {bx : List Nat} {i : PI}
theorem slice_bounds (h : Inv q own s a G) {lo hi mx : Option Operand} (hmh : mx.isSome → hi.isSome) (hlo : ∀ y, lo = some y → okOpd q.P q.N y = true) (hhi : ∀ y, hi = some y → okOpd q.P q.N y = true) (hmx : ∀ y, mx = some y → okOpd q.P q.N y = true)
    {len cap l hh m : Nat} (hl : bnd s lo 0 = some l) (hh' : bnd s hi len = some hh) (hm : bnd s mx cap = some m) (h1 : l ≤ hh) (h2 : hh ≤ m) (h3 : m ≤ cap) (w : World) :
    (Instr.sliceBounds true len cap (lo.map a.eval) (hi.map a.eval) (mx.map a.eval)).run q.P w = .ok (l, hh, m) w := by
  cases mx with
  | none =>
    have hm' : m = cap := by simpa [bnd] using hm.symm
    subst hm'
    cases hi with
    | none =>
      have hh2 : hh = len := by simpa [bnd] using hh'.symm
      subst hh2
      cases lo with
      | none =>
        have : l = 0 := by simpa [bnd] using hl.symm
        subst this
        simp [Instr.sliceBounds]
      | some y =>
        obtain ⟨k, hk⟩ := bnd_some h (hlo y rfl) hl
        simp [Instr.sliceBounds, hk, run_bound _ _ _ _ h1]
    | some z =>
      obtain ⟨kh, hkh⟩ := bnd_some h (hhi z rfl) hh'
      cases lo with
      | none =>
        have : l = 0 := by simpa [bnd] using hl.symm
        subst this
        simp [Instr.sliceBounds, hkh, run_bound _ _ _ _ h2]
      | some y =>
        obtain ⟨k, hk⟩ := bnd_some h (hlo y rfl) hl
        simp [Instr.sliceBounds, hk, hkh, run_bound _ _ _ _ h1, run_bound _ _ _ _ h2]
  | some u =>
    obtain ⟨km, hkm⟩ := bnd_some h (hmx u rfl) hm
    cases hi with
    | none => simp at hmh
    | some z =>
      obtain ⟨kh, hkh⟩ := bnd_some h (hhi z rfl) hh'
      cases lo with
      | none =>
        have : l = 0 := by simpa [bnd] using hl.symm
        subst this
        simp [Instr.sliceBounds, hkh, hkm, run_bound _ _ _ _ h2, run_bound _ _ _ _ h3]
      | some y =>
        obtain ⟨k, hk⟩ := bnd_some h (hlo y rfl) hl
        simp [Instr.sliceBounds, hk, hkh, hkm, run_bound _ _ _ _ h1, run_bound _ _ _ _ h2, run_bound _ _ _ _ h3]
theorem still_slB {t e size : Nat} {x : Operand} {lo hi mx : Option Operand} (ho : o.op = .slice t x lo hi mx) (ht : q.P.underlying t = some (.slice e)) (hn : sz q.P e = some size) (hmh : mx.isSome → hi.isSome)
    (hx : okOpd q.P q.N x = true) (hlo : ∀ y, lo = some y → okOpd q.P q.N y = true) (hhi : ∀ y, hi = some y → okOpd q.P q.N y = true) (hmx : ∀ y, mx = some y → okOpd q.P q.N y = true) : Still q C o (.slB size x lo hi mx) := by
  intro own s a G K h hs
  obtain ⟨n, c, l, hh, m, v, hn', hc', hl, hh', hm, hv, hs⟩ := hs
  unfold slV at hv
  cases hsl : asSlc (s.ev x) with
  | some r =>
    obtain ⟨k, off, len, cap⟩ := r
    simp only [lenV, capV, hsl, Option.some.injEq] at hn' hc'
    subst hn' hc'
    simp only [hsl] at hv
    split at hv
    · rename_i hcond
      obtain ⟨h1, h2, h3⟩ := hcond
      have hrd := h.rd hx
      rw [asSlc_eq hsl] at hrd
      obtain ⟨b, hvx, hnc, hk, hb⟩ := slc_rd hrd
      have hrun := slice_bounds h hmh hlo hhi hmx hl hh' hm h1 h2 h3
      have hund : ∀ w, (underlying t).run q.P w = .ok (.slice e) w := fun w => run_underlying ht w
      have hadd : (⟨b, off, none⟩ : Addr).add (l * size) = ⟨b, off + l * size, none⟩ := add_off _ rfl _
      obtain rfl := Option.some.inj hv
      by_cases hml : m = l
      · subst hml
        obtain rfl : hh = m := by omega
        refine still_mk (v := .slice (some ⟨b, off, none⟩) 0 0) (p := ns []) ?_ (noLin_ns _) (by simpa using hs) (fun G' hk' => ?_)
        · exact .ns (some ⟨b, off, none⟩) [] (.deep _ 0 0 [] (fun _ => undef) (fun h => absurd rfl h) (Nat.le_refl _) (Nat.zero_le _) (fun r hr => by simp at hr) (fun i x hx => by simp at hx) (fun i x j y hx => by simp at hx))
        · simp [execOp, ho, Instr.sliceAt, Instr.slice, hund, hvx, hrun, run_sizeOf' hn]
      · rw [if_neg hml] at hs
        refine still_mk (v := .slice (some ⟨b, off + l * size, none⟩) (hh - l) (m - l)) (Rd_slc hb hk (by omega)) (noLin_slc _ _ _ _) hs (fun G' hk' => ?_)
        simp [execOp, ho, Instr.sliceAt, Instr.slice, hund, hvx, hrun, run_sizeOf' hn, hml, hadd]
    · cases hv
  | none =>
    simp only [hsl] at hv
    cases hxs : asDeep (s.ev x) with
    | none => rw [hxs] at hv; cases hv
    | some xs =>
      simp only [lenV, capV, hsl, hxs, Option.map_some, Option.some.injEq] at hn' hc'
      subst hn' hc'
      simp only [hxs] at hv
      split at hv
      · rename_i hcond
        obtain ⟨h1, h2, h3, hsz, hms⟩ := hcond
        obtain ⟨b, m', hm', hrd, hrun⟩ := slS_core ho ht hn hmh hx hlo hhi hmx h hxs hl hh' hm h1 h2 h3 hsz
        obtain rfl := Option.some.inj hv
        cases hmxs : mx.isSome
        · rw [hmxs] at hs
          exact still_mk hrd (noLin_deep _) (by simpa using hs) hrun
        · rw [hmxs] at hs
          have e1 := hm' hmxs
          have e2 := hms hmxs
          subst e1
          subst e2
          have hlen : ((xs.drop l).take (m' - l)).length = m' - l := by simp; omega
          refine still_mk (p := ns ((xs.drop l).take (m' - l))) ?_ (noLin_ns _) (by simpa using hs) hrun
          have := Rd.ns (G := G) b ((xs.drop l).take (m' - l)) (by rw [hlen]; exact hrd)
          rwa [hlen] at this
      · cases hv
/-- it does what the instruction says; where it only reads, or calls, so much more -/
def SndX (q : Par) (o : Oper) (i : PI) : Prop :=
  (qOK i = true → (Still q (PCalls q.P) o i ∧ isCall i = false) ∨ ∃ f args ts fn, o.op = .call { callee := .value (.func f), args := args, argTypes := ts } ∧ q.P.funcs[f]? = some fn ∧ fn.body.isSome = true ∧ (fn.name == "runtime.NumGoroutine") = false ∧
    (∀ x ∈ args.toList, okOpd q.P q.N x = true) ∧ (i = .call f args.toList ∨ i = .callB f args.toList)) ∧ Does q (PCalls q.P) o i
theorem bothX (st : Still q (PCalls q.P) o i) (hd : okDst q o) (hc : isCall i = false) : SndX q o i := ⟨fun _ => .inl ⟨st, hc⟩, st.does hd⟩
theorem notqX (hd : Does q (PCalls q.P) o i) (h : qOK i = false) : SndX q o i := ⟨fun h' => (by rw [h] at h'; cases h'), hd⟩
theorem bxElem_some {P : Program} {bx : List Nat} {t e : Nat} (h : bxElem P bx t = some e) : P.underlying t = some (.slice e) := by
  unfold bxElem at h
  split at h
  · rename_i e' he
    split at h
    · obtain rfl := Option.some.inj h; exact sliceElem_some he
    · cases h
  · cases h
theorem zeroOf_some {P : Program} {e : Nat} {i : TypeInfo} {z : List Value} (h : zeroOf P e = some (i, z)) : ∃ zv, P.info? e = some i ∧ i.zero = some zv ∧ zv.cells.size = i.size ∧ i.size ≠ 0 ∧ zv.cells.toList.all scal = true ∧ z = zv.cells.toList.map opv := by
  unfold zeroOf at h
  split at h
  · rename_i i' hi
    split at h
    · rename_i zv hz
      split at h
      · rename_i hc
        obtain ⟨rfl, rfl⟩ : i' = i ∧ _ = z := by simpa using h
        exact ⟨zv, hi, hz, hc.1, hc.2.1, hc.2.2, rfl⟩
      · cases h
    · cases h
  · cases h
theorem linOfBx_iff {bx : List Nat} {c v : Value} (h : linOfBx bx c = true) (hr : Rd G v c) : ∃ e, c = lin e [] := by
  unfold linOfBx at h
  split at h
  · rename_i e
    generalize hq : Value.func (Fn.yield 1) (Array.mk []) (Array.mk [Value.int IntKind.i64 e]) = p at hr
    cases hr with
    | lin v e' xs h =>
      obtain ⟨rfl, _⟩ : xs = [] ∧ _ := by simpa [PE.lin] using hq.symm
      exact ⟨e', hq ▸ rfl⟩
    | scal v h => subst hq; simp [PE.scal] at h
    | _ => simp [tup, PE.ptr, PE.deep, PE.dptr, ag, PE.slc, PE.clo, PE.ns] at hq
  · cases h
theorem does_allocN {t : Nat} {row : List Value} (ho : o.op = .alloc t) (hz : zrow q.P t = some row) (hd : okDst q o) : Does q C o (.alloc (nsRow bx row)) := by
  intro own s a G K Kr Q h hs hK
  obtain ⟨i, z, hi, hz, hsz, hr, hl⟩ := zrow_spec hz
  obtain ⟨G', hw, hinv⟩ := h.boxed (d := o.dst) hd z.cells t (nsRow bx row) (by simp [nsRow, hsz]) (fun j v p hv hp => by
      simp only [nsRow, List.getElem?_map] at hp
      obtain ⟨c, hc, rfl⟩ := Option.map_eq_some_iff.1 hp
      have := hr j v c hv hc
      split
      · rename_i hb
        obtain ⟨e, rfl⟩ := linOfBx_iff hb (this.2 G)
        have hv2 := hl j e [] hc
        rw [hv] at hv2
        obtain rfl := Option.some.inj hv2
        exact ⟨rfl, Rd_ns_nil⟩
      · exact ⟨this.1, this.2 G⟩) (fun j e xs hp => by
      simp only [nsRow, List.getElem?_map] at hp
      obtain ⟨c, hc, he⟩ := Option.map_eq_some_iff.1 hp
      split at he
      · exact absurd he ((noLin_ns _).1 e xs)
      · subst he; exact hl j e xs hc)
  refine wp_val (v := .pointer (some ⟨G.w.heap.size, 0, none⟩)) (w' := G'.w) ?_ (hK _ _ _ _ hinv hs)
  rw [hw]
  simp [execOp, ho, Instr.alloc, zeroValue, typeInfo, hi, hz, newVar, newRow]
theorem does_compB (hc : compB q.P bx o = some i) (hd : okDst q o) (hall : ∀ x ∈ o.op.operands.toList, okOpd q.P q.N x = true) : SndX q o i := by
  unfold compB at hc
  split at hc
  · rename_i heq
    obtain ⟨e, _, rfl⟩ := Option.map_eq_some_iff.1 hc
    exact bothX (does_cns (.inl heq)) hd rfl
  · rename_i heq
    obtain ⟨e, _, rfl⟩ := Option.map_eq_some_iff.1 hc
    exact bothX (does_cns (.inr heq)) hd rfl
  · rename_i heq
    split at hc
    · rename_i row hz
      split at hc
      · obtain rfl := Option.some.inj hc
        exact notqX (does_allocN heq hz hd) rfl
      · cases hc
    · cases hc
  · rename_i heq
    split at hc
    · rename_i h1
      obtain ⟨e, _, rfl⟩ := Option.map_eq_some_iff.1 hc
      exact notqX (does_stN heq h1 (hall _ (by simp [heq, Op.operands])) hd) rfl
    · cases hc
  · rename_i heq
    split at hc
    · cases hc
    · split at hc
      · rename_i h1
        obtain rfl := Option.some.inj hc
        exact notqX (does_st heq h1 (hall _ (by simp [heq, Op.operands])) (hall _ (by simp [heq, Op.operands])) hd) rfl
      · cases hc
  · rename_i heq
    split at hc
    · rename_i e he
      obtain ⟨⟨i', z⟩, hz, rfl⟩ := Option.map_eq_some_iff.1 hc
      obtain ⟨zv, h1, h2, h3, h4, h5, rfl⟩ := zeroOf_some hz
      exact notqX (does_mkB heq (bxElem_some he) h1 h2 h3 h4 h5 (hall _ (by simp [heq, Op.operands])) (hall _ (by simp [heq, Op.operands])) hd) rfl
    · cases hc
  · rename_i heq
    split at hc
    · rename_i e he
      obtain ⟨n, hn, rfl⟩ := Option.map_eq_some_iff.1 hc
      exact notqX (does_mks0 heq (bxElem_some he) hn hd) rfl
    · cases hc
  · rename_i t x u v heq
    split at hc
    · cases hc
    · rename_i huv
      obtain rfl : u = v := by simpa using huv
      split at hc
      · rename_i e he
        obtain ⟨⟨i', z⟩, hz, rfl⟩ := Option.map_eq_some_iff.1 hc
        obtain ⟨zv, h1, h2, h3, h4, h5, rfl⟩ := zeroOf_some hz
        have ht : okOpd q.P q.N (.tmp t) = true := hall _ (by simp [heq, Op.operands, Call.operands])
        exact notqX (does_appB heq rfl (bxElem_some he) h1 h2 h3 h4 h5 (by simpa [okOpd] using ht) (hall _ (by simp [heq, Op.operands, Call.operands])) hd) rfl
      · cases hc
  · rename_i x y u v heq
    split at hc
    · cases hc
    · rename_i huv
      obtain rfl : u = v := by simpa using huv
      split at hc
      · rename_i e he
        split at hc
        · rename_i n hn
          split at hc
          · cases hc
          · obtain rfl := Option.some.inj hc
            obtain ⟨inf, hinf, rfl⟩ := info_of_sz hn
            exact notqX (does_cpy heq rfl (bxElem_some he) hinf (hall _ (by simp [heq, Op.operands, Call.operands])) (hall _ (by simp [heq, Op.operands, Call.operands])) hd) rfl
        · cases hc
      · cases hc
  · rename_i heq
    obtain ⟨e, he, rfl⟩ := Option.map_eq_some_iff.1 hc
    exact bothX (still_lenB heq rfl (bxElem_some he) (hall _ (by simp [heq, Op.operands, Call.operands]))) hd rfl
  · rename_i heq
    obtain ⟨e, he, rfl⟩ := Option.map_eq_some_iff.1 hc
    exact bothX (still_capB heq rfl (bxElem_some he) (hall _ (by simp [heq, Op.operands, Call.operands]))) hd rfl
  · rename_i heq
    split at hc
    · rename_i e he
      split at hc
      · rename_i n hn
        split at hc
        · cases hc
        · obtain rfl := Option.some.inj hc
          exact bothX (still_ixB heq (bxElem_some he) hn (hall _ (by simp [heq, Op.operands])) (hall _ (by simp [heq, Op.operands]))) hd rfl
      · cases hc
    · cases hc
  · rename_i lo hi mx heq
    split at hc
    · rename_i e he
      split at hc
      · rename_i n hn
        split at hc
        · cases hc
        · rename_i hcond
          obtain rfl := Option.some.inj hc
          refine bothX (still_slB heq (bxElem_some he) hn (fun h1 => ?_) (hall _ (by simp [heq, Op.operands])) (fun y hy => hall y (by subst hy; simp [heq, Op.operands])) (fun y hy => hall y (by subst hy; simp [heq, Op.operands])) (fun y hy => hall y (by subst hy; simp [heq, Op.operands]))) hd rfl
          cases mx <;> cases hi <;> simp_all
      · cases hc
    · cases hc
  · rename_i heq
    split at hc
    · cases hc
    · split at hc
      · rename_i hf
        split at hc
        · rename_i hcond
          simp only [Bool.and_eq_true, bne_iff_ne, ne_eq] at hcond
          obtain rfl := Option.some.inj hc
          have hx : ∀ x ∈ (_ : Array Operand).toList, okOpd q.P q.N x = true := (fun x hx => hall x (by simp [heq, Op.operands, Call.operands]; exact .inr (by simpa using hx)))
          exact ⟨fun _ => .inr ⟨_, _, _, _, heq, hf, hcond.1, by simpa using hcond.2, hx, .inr rfl⟩, does_callB heq hf hcond.1 (by simpa using hcond.2) hx hd⟩
        · cases hc
      · cases hc
  · cases hc
theorem does_compM (hc : compM q.P q.N o = some i) (hd : okDst q o) (hall : ∀ x ∈ o.op.operands.toList, okOpd q.P q.N x = true) : SndX q o i := by
  unfold compM at hc
  split at hc
  · rename_i heq
    split at hc
    · rename_i ht
      obtain rfl := Option.some.inj hc
      exact notqX (does_mkM heq hd) rfl
    · cases hc
  · rename_i heq
    split at hc
    · rename_i ht
      obtain rfl := Option.some.inj hc
      exact notqX (does_mset heq ht (hall _ (by simp [heq, Op.operands])) (hall _ (by simp [heq, Op.operands])) (hall _ (by simp [heq, Op.operands])) hd) rfl
    · cases hc
  · rename_i heq
    split at hc
    · rename_i ht
      obtain rfl := Option.some.inj hc
      exact notqX (does_mget heq ht (hall _ (by simp [heq, Op.operands])) (hall _ (by simp [heq, Op.operands])) hd) rfl
    · cases hc
  · rename_i heq
    split at hc
    · rename_i ht
      obtain rfl := Option.some.inj hc
      exact notqX (does_mdel heq ht (hall _ (by simp [heq, Op.operands, Call.operands])) (hall _ (by simp [heq, Op.operands, Call.operands])) hd) rfl
    · cases hc
  · rename_i heq
    split at hc
    · rename_i ht
      simp only [Bool.and_eq_true] at ht
      obtain rfl := Option.some.inj hc
      exact bothX (still_b2s heq ht.1 ht.2 (hall _ (by simp [heq, Op.operands]))) hd rfl
    · cases hc
  · rename_i heq
    split at hc
    · rename_i ht
      obtain ⟨e, he⟩ := Option.isSome_iff_exists.1 ht
      obtain rfl := Option.some.inj hc
      exact bothX (still_nilS (neg := false) heq (sliceElem_some he) (hall _ (by simp [heq, Op.operands]))) hd rfl
    · cases hc
  · rename_i heq
    split at hc
    · rename_i ht
      obtain ⟨e, he⟩ := Option.isSome_iff_exists.1 ht
      obtain rfl := Option.some.inj hc
      exact bothX (still_nilS (neg := true) heq (sliceElem_some he) (hall _ (by simp [heq, Op.operands]))) hd rfl
    · cases hc
  · cases hc
theorem opvZ_ne_lin (v : Value) (h : PE.scal v = true) (e : Nat) (xs : List Value) : opvZ v ≠ lin e xs := by
  unfold opvZ
  split
  · simp [ns, lin]
  · exact opv_ne_lin v h e xs
theorem Rd_opvZ (G : Gh) (v : Value) (h : PE.scal v = true) : Rd G v (opvZ v) := by
  unfold opvZ
  split
  · exact Rd_ns_nil
  · exact Rd_opv h
theorem does_compZ (hc : compZ q.P q.N bx o = some i) (hd : okDst q o) : SndX q o i := by
  unfold compZ at hc
  split at hc
  · split at hc
    · rename_i heq
      split at hc
      · rename_i ht
        split at hc
        · rename_i hns; exact bothX (still_buildS opvZ_ne_lin Rd_opvZ heq ht hns hc) hd (build_nc hc)
        · cases hc
      · cases hc
    · cases hc
  · cases hc
/-- what is not known here: it must not be reached -/
theorem does_dead : SndX q o (.len (.const (.bool true))) := by
  have hF : ∀ (d : Option Nat) (s : PS) (K : PS → Prop), ¬ PE.step (PCalls q.P) q.P q.T q.n0 d (.len (.const (.bool true))) s K := fun d s K h => by
    obtain ⟨xs, h, _⟩ := h
    cases h
  refine ⟨fun _ => .inl ⟨?_, rfl⟩, ?_⟩
  · intro own s a G K h hs
    exact (hF _ _ _ hs).elim
  · intro own s a G K Kr Q h hs hK
    exact (hF _ _ _ hs).elim
theorem does_compX (hc : comp1X q.P q.N ops bx o = some i) : SndX q o i ∧ okDst q o := by
  unfold comp1X at hc
  split at hc
  · rename_i hok
    have hok' := hok
    simp only [okOper, Bool.and_eq_true] at hok
    have hd : okDst q o := fun x hx => by have := hok.2; rw [hx] at this; simpa using this
    split at hc
    · rename_i j hj
      obtain rfl := Option.some.inj hc
      exact ⟨does_compM hj hd (fun x hx => List.all_eq_true.1 hok.1 x hx), hd⟩
    split at hc
    · rename_i j hj
      obtain rfl := Option.some.inj hc
      exact ⟨does_compZ hj hd, hd⟩
    split at hc
    · rename_i j hj
      obtain rfl := Option.some.inj hc
      exact ⟨does_compB hj hd (fun x hx => List.all_eq_true.1 hok.1 x hx), hd⟩
    split at hc
    · rename_i j hj
      obtain rfl := Option.some.inj hc
      obtain ⟨h1, h2⟩ := does_comp (q := q) (ops := ops) (o := o) (i := j) (by unfold comp1; rw [if_pos hok']; exact hj)
      refine ⟨⟨fun hq => ?_, h1.2⟩, hd⟩
      rcases h1.1 hq with h3 | ⟨f, args, ts, fn, a1, a2, a3, a4, a5, a6⟩
      · exact .inl h3
      · exact .inr ⟨f, args, ts, fn, a1, a2, a3, a4, a5, .inl a6⟩
    · split at hc
      · obtain rfl := Option.some.inj hc
        exact ⟨does_dead, hd⟩
      · cases hc
  · cases hc
end
end Go.PE
namespace Go.PE
open Go

/-- go on with a value, if there is one -/
def wO (o : Option Value) (d : Option Nat) (s : PS) (K : PS → Prop) : Prop := ∃ v, o = some v ∧ K (s.putO d v)
theorem wO_some (v : Value) (d : Option Nat) (s : PS) (K : PS → Prop) : wO (some v) d s K = K (s.putO d v) := by simp [wO]
theorem wO_none (d : Option Nat) (s : PS) (K : PS → Prop) : wO none d s K = False := by simp [wO]
/-- go on by a test -/
def wB (o : Option Bool) (A B : Prop) : Prop := ∃ b, o = some b ∧ (b = true → A) ∧ (b = false → B)
theorem wB_true (A B : Prop) : wB (some true) A B = A := by simp [wB]
theorem wB_false (A B : Prop) : wB (some false) A B = B := by simp [wB]
theorem wB_of {b : Bool} {A B : Prop} (h1 : b = true → A) (h2 : b = false → B) : wB (some b) A B := ⟨b, rfl, h1, h2⟩

/-! the state -/
theorem upd_apply {α : Type} (f : Nat → α) (k j : Nat) (v : α) : upd f k v j = if j = k then v else f j := _root_.id rfl
theorem putO_some (t : Nat → Value) (H : Nat → Option (List Value)) (nx d : Nat) (v : Value) : PS.putO ⟨t, H, nx⟩ (some d) v = ⟨upd t d v, H, nx⟩ := _root_.id rfl
theorem putO_none (s : PS) (v : Value) : PS.putO s none v = s := _root_.id rfl
theorem put_mk (t : Nat → Value) (H : Nat → Option (List Value)) (nx d : Nat) (v : Value) : PS.put ⟨t, H, nx⟩ d v = ⟨upd t d v, H, nx⟩ := _root_.id rfl
theorem ev_tmp (t : Nat → Value) (H : Nat → Option (List Value)) (nx k : Nat) : PS.ev ⟨t, H, nx⟩ (.tmp k) = dg (t k) := _root_.id rfl
theorem ev_int (s : PS) (k : IntKind) (n : Int) : s.ev (.const (.int k n)) = .int k n := _root_.id rfl
theorem ev_bool (s : PS) (b : Bool) : s.ev (.const (.bool b)) = .bool b := _root_.id rfl
theorem ev_string (s : PS) (b : ByteArray) : s.ev (.const (.string b)) = .string b := _root_.id rfl
theorem ev_nil (s : PS) : s.ev (.const (.slice none 0 0)) = deep [] := _root_.id rfl
theorem ev_global (s : PS) (g : Nat) : s.ev (.global g) = ptr g 0 := _root_.id rfl

theorem cellsOf_int (k : IntKind) (n : Int) : cellsOf (.int k n) = some [.int k n] := _root_.id rfl
theorem cellsOf_bool (b : Bool) : cellsOf (.bool b) = some [.bool b] := _root_.id rfl
theorem cellsOf_string (b : ByteArray) : cellsOf (.string b) = some [.string b] := _root_.id rfl
theorem cellsOf_deep (l : List Value) : cellsOf (deep l) = some [deep l] := _root_.id rfl
theorem cellsOf_lin (e : Nat) (l : List Value) : cellsOf (lin e l) = some [lin e l] := _root_.id rfl
theorem cellsOf_ag (l : List Value) : cellsOf (ag l) = some l := _root_.id rfl
theorem cellsOf_ptr (k o : Nat) : cellsOf (ptr k o) = some [ptr k o] := _root_.id rfl
theorem lc_int (k : IntKind) (n : Int) : lc (.int k n) = [.int k n] := _root_.id rfl
theorem lc_bool (b : Bool) : lc (.bool b) = [.bool b] := _root_.id rfl
theorem lc_string (b : ByteArray) : lc (.string b) = [.string b] := _root_.id rfl
theorem lc_deep (l : List Value) : lc (deep l) = [deep l] := _root_.id rfl
theorem lc_ag (l : List Value) : lc (ag l) = l := _root_.id rfl
theorem asDeep_deep (l : List Value) : asDeep (deep l) = some l := _root_.id rfl
theorem asAg_ag (l : List Value) : asAg (ag l) = some l := _root_.id rfl
theorem asInt_int (k : IntKind) (n : Int) : asInt (.int k n) = some (k, n) := _root_.id rfl
theorem asBool_bool (b : Bool) : PE.asBool (.bool b) = some b := _root_.id rfl
theorem asStr_string (b : ByteArray) : asStr (.string b) = some b := _root_.id rfl
theorem addOff_ptr (k o n : Nat) : addOff (ptr k o) n = some (ptr k (o + n)) := _root_.id rfl
theorem addOff_dptr (o n : Nat) (l : List Value) : addOff (dptr o l) n = some (dptr (o + n) l) := by simp [addOff, dptr]
theorem lead_ptr (H : Nat → Option (List Value)) (k o : Nat) : lead H (ptr k o) = (H k).map fun row => (row, o) := _root_.id rfl
theorem lead_dptr (H : Nat → Option (List Value)) (o : Nat) (l : List Value) : lead H (dptr o l) = some (l, o) := by simp [lead, dptr]
theorem ptr_inj {k o k' o' : Nat} (h : ptr k o = ptr k' o') : k = k' ∧ o = o' := by simpa [ptr] using h

theorem binV_int (op : BinOp) (k : IntKind) (a b : Int) (h1 : op ≠ .shl) (h2 : op ≠ .shr) : binV op (.int k a) (.int k b) = intV op k a b := by
  unfold binV
  cases op <;> simp at h1 h2 ⊢
theorem binV_shl (k k' : IntKind) (a b : Int) : binV .shl (.int k a) (.int k' b) = if 0 ≤ b then some (.int k (k.wrap (a * 2 ^ min b.toNat k.bits))) else none := _root_.id rfl
theorem binV_shr (k k' : IntKind) (a b : Int) : binV .shr (.int k a) (.int k' b) = if 0 ≤ b then some (.int k (a.fdiv (2 ^ min b.toNat k.bits))) else none := _root_.id rfl
theorem binV_str (op : BinOp) (a b : ByteArray) : binV op (.string a) (.string b) = strV op a b := by cases op <;> rfl
theorem unV_not (b : Bool) : unV .not (.bool b) = some (.bool !b) := _root_.id rfl
theorem mmV_int (mx : Bool) (k k' : IntKind) (a b : Int) : mmV mx (.int k a) (.int k' b) = some (.int k (if mx then (if b > a then b else a) else (if b < a then b else a))) := _root_.id rfl

/-! each instruction -/
section
variable (C : Known) (P : Program) (T : Nat → Prop) (n0 : Nat) (d : Option Nat) (s : PS) (K : PS → Prop)

theorem step_mv (x : Operand) : PE.step C P T n0 d (.mv x) s K = K (s.putO d (s.ev x)) := _root_.id rfl
theorem step_steal (t : Nat) : PE.step C P T n0 d (.steal t) s K = K ((s.put t (dg (s.t t))).putO d (s.t t)) := _root_.id rfl
theorem step_cnil (e : Nat) : PE.step C P T n0 d (.cnil e) s K = K (s.putO d (lin e [])) := _root_.id rfl
theorem step_pick (c a b : Operand) : PE.step C P T n0 d (.pick c a b) s K = wO ((PE.asBool (s.ev c)).map fun t => if t then s.ev a else s.ev b) d s K := by
  simp only [PE.step, wO, Option.map_eq_some_iff]
  apply propext
  constructor
  · rintro ⟨t, h1, h2⟩; exact ⟨_, ⟨t, h1, rfl⟩, h2⟩
  · rintro ⟨_, ⟨t, h1, rfl⟩, h2⟩; exact ⟨t, h1, h2⟩
theorem step_alloc (row : List Value) : PE.step C P T n0 d (.alloc row) s K = K ⟨(s.putO d (ptr s.nx 0)).t, upd s.H s.nx (some row), s.nx + 1⟩ := _root_.id rfl
/-- a box is laid -/
def wBox (o : Option (List Value)) (n : Nat) (d : Option Nat) (s : PS) (K : PS → Prop) : Prop := ∃ l, o = some l ∧ l.length = n ∧ K ⟨(s.putO d (ptr s.nx 0)).t, upd s.H s.nx (some l), s.nx + 1⟩
theorem wBox_some (l : List Value) (n : Nat) (h : l.length = n) : wBox (some l) n d s K = K ⟨(s.putO d (ptr s.nx 0)).t, upd s.H s.nx (some l), s.nx + 1⟩ := by simp [wBox, h]
theorem step_box (n : Nat) (x : Operand) : PE.step C P T n0 d (.box n x) s K = wBox (cellsOf (s.ev x)) n d s K := _root_.id rfl
theorem step_build (ps : List (List Value ⊕ (Operand × Nat))) : PE.step C P T n0 d (.build ps) s K = wO ((buildL s ps).map ag) d s K := by
  simp only [PE.step, wO, Option.map_eq_some_iff]
  apply propext
  constructor
  · rintro ⟨l, h1, h2⟩; exact ⟨_, ⟨l, h1, rfl⟩, h2⟩
  · rintro ⟨_, ⟨l, h1, rfl⟩, h2⟩; exact ⟨l, h1, h2⟩
theorem buildL_nil : buildL s [] = some [] := _root_.id rfl
theorem buildL_inl (z : List Value) (r : List (List Value ⊕ (Operand × Nat))) : buildL s (.inl z :: r) = (buildL s r).map (z ++ ·) := _root_.id rfl
theorem buildL_inr (x : Operand) (n : Nat) (r : List (List Value ⊕ (Operand × Nat))) : buildL s (.inr (x, n) :: r) = (cellsOf (s.ev x)).bind fun l => (buildL s r).bind fun m => if l.length = n then some (l ++ m) else none := by
  simp only [buildL]
  cases cellsOf (s.ev x) <;> cases buildL s r <;> simp
/-- a slice literal -/
def okParts (s : PS) (size : Nat) : List Operand → Bool
  | [] => true
  | x :: r => (match cellsOf (s.ev x) with | some l => decide (l.length = size) | none => false) && okParts s size r
theorem okParts_iff (size : Nat) : ∀ l : List Operand, okParts s size l = true ↔ ∀ x ∈ l, ∃ m, cellsOf (s.ev x) = some m ∧ m.length = size
  | [] => by simp [okParts]
  | x :: r => by
    simp only [okParts, Bool.and_eq_true, okParts_iff size r, List.mem_cons, forall_eq_or_imp]
    cases cellsOf (s.ev x) <;> simp
theorem okParts_nil (size : Nat) : okParts s size [] = true := _root_.id rfl
theorem okParts_cons (size : Nat) (x : Operand) (r : List Operand) : okParts s size (x :: r) = ((match cellsOf (s.ev x) with | some l => decide (l.length = size) | none => false) && okParts s size r) := _root_.id rfl
theorem step_mks (e size : Nat) (tk : Bool) (ps : List Operand) : PE.step C P T n0 d (.mks e size tk ps) s K = (okParts s size ps = true ∧ K (s.putO d (if tk then lin e (ps.map s.ev) else deep (ps.map s.ev)))) := by
  simp only [PE.step, okParts_iff]
theorem step_ldA (n : Nat) (x : Operand) : PE.step C P T n0 d (.ldA n x) s K = wO ((lead s.H (s.ev x)).bind fun p => if p.2 + n ≤ p.1.length then some (ag (((p.1.drop p.2).take n).map dg1)) else none) d s K := by
  simp only [PE.step, wO, Option.bind_eq_some_iff]
  apply propext
  constructor
  · rintro ⟨row, off, h1, h2, h3⟩; exact ⟨_, ⟨(row, off), h1, by rw [if_pos h2]⟩, h3⟩
  · rintro ⟨v, ⟨⟨row, off⟩, h1, h2⟩, h3⟩
    simp only at h2
    split at h2
    · rename_i hle; obtain rfl := Option.some.inj h2; exact ⟨row, off, h1, hle, h3⟩
    · cases h2
theorem step_ld (x : Operand) : PE.step C P T n0 d (.ld false x) s K = wO ((lead s.H (s.ev x)).bind fun p => (p.1[p.2]?).map dg1) d s K := by
  simp only [PE.step, wO, Option.bind_eq_some_iff, Option.map_eq_some_iff]
  apply propext
  constructor
  · rintro ⟨row, off, c, h1, h2, h3⟩; exact ⟨_, ⟨(row, off), h1, c, h2, rfl⟩, h3⟩
  · rintro ⟨v, ⟨⟨row, off⟩, h1, c, h2, rfl⟩, h3⟩; exact ⟨row, off, c, h1, h2, h3⟩
theorem step_nilc (x : Operand) : PE.step C P T n0 d (.nilc x) s K = ((addOff (s.ev x) 0).isSome = true ∧ K (s.putO d (s.ev x))) := _root_.id rfl
theorem step_bi (op : BinOp) (x y : Operand) : PE.step C P T n0 d (.bi op x y) s K = wO (binV op (s.ev x) (s.ev y)) d s K := _root_.id rfl
theorem step_un (op : UnOp) (x : Operand) : PE.step C P T n0 d (.un op x) s K = wO (unV op (s.ev x)) d s K := _root_.id rfl
theorem step_mm (mx : Bool) (x y : Operand) : PE.step C P T n0 d (.mm mx x y) s K = wO (mmV mx (s.ev x) (s.ev y)) d s K := _root_.id rfl
theorem step_bb (neg : Bool) (x y : Operand) : PE.step C P T n0 d (.bb neg x y) s K = wO ((PE.asBool (s.ev x)).bind fun a => (PE.asBool (s.ev y)).map fun b => .bool (if neg then !(a == b) else a == b)) d s K := by
  simp only [PE.step, wO, Option.bind_eq_some_iff, Option.map_eq_some_iff]
  apply propext
  constructor
  · rintro ⟨a, b, h1, h2, h3⟩; exact ⟨_, ⟨a, h1, b, h2, rfl⟩, h3⟩
  · rintro ⟨v, ⟨a, h1, b, h2, rfl⟩, h3⟩; exact ⟨a, b, h1, h2, h3⟩
theorem step_cv (k : IntKind) (x : Operand) : PE.step C P T n0 d (.cv k x) s K = wO ((asInt (s.ev x)).map fun p => .int k (k.wrap p.2)) d s K := by
  simp only [PE.step, wO, Option.map_eq_some_iff]
  apply propext
  constructor
  · rintro ⟨k', n, h1, h2⟩; exact ⟨_, ⟨(k', n), h1, rfl⟩, h2⟩
  · rintro ⟨_, ⟨⟨k', n⟩, h1, rfl⟩, h2⟩; exact ⟨k', n, h1, h2⟩
theorem step_b2s (x : Operand) : PE.step C P T n0 d (.b2s x) s K = wO ((asDeep (s.ev x)).bind fun xs => (u8s xs).map fun ns => .string (strOfNums ns)) d s K := by
  simp only [PE.step, wO, Option.map_eq_some_iff, Option.bind_eq_some_iff]
  apply propext
  constructor
  · rintro ⟨xs, ns, h1, h2, h3⟩; exact ⟨_, ⟨xs, h1, ns, h2, rfl⟩, h3⟩
  · rintro ⟨_, ⟨xs, h1, ns, h2, rfl⟩, h3⟩; exact ⟨xs, ns, h1, h2, h3⟩
theorem step_slen (x : Operand) : PE.step C P T n0 d (.slen x) s K = wO ((asStr (s.ev x)).map fun b => .int .i64 b.size) d s K := by
  simp only [PE.step, wO, Option.map_eq_some_iff]
  apply propext
  constructor
  · rintro ⟨b, h1, h2⟩; exact ⟨_, ⟨b, h1, rfl⟩, h2⟩
  · rintro ⟨_, ⟨b, h1, rfl⟩, h2⟩; exact ⟨b, h1, h2⟩
theorem step_six (x i : Operand) : PE.step C P T n0 d (.six x i) s K = wO ((asStr (s.ev x)).bind fun b => (asInt (s.ev i)).bind fun p => if 0 ≤ p.2 then (b[p.2.toNat]?).map fun u => .int .u8 u.toNat else none) d s K := by
  simp only [PE.step, wO, Option.bind_eq_some_iff]
  apply propext
  constructor
  · rintro ⟨b, k, n, u, h1, h2, h3, h4, h5⟩; exact ⟨_, ⟨b, h1, (k, n), h2, by rw [if_pos h3, h4]; rfl⟩, h5⟩
  · rintro ⟨v, ⟨b, h1, ⟨k, n⟩, h2, h3⟩, h5⟩
    simp only at h3
    split at h3
    · rename_i h0
      obtain ⟨u, h4, rfl⟩ := Option.map_eq_some_iff.1 h3
      exact ⟨b, k, n, u, h1, h2, h0, h4, h5⟩
    · cases h3
theorem step_eqA (neg : Bool) (ks : List CK) (x y : Operand) : PE.step C P T n0 d (.eqA neg ks x y) s K = wO ((asAg (s.ev x)).bind fun l => (asAg (s.ev y)).bind fun m => if fitsL ks l = true ∧ fitsL ks m = true then some (.bool (if neg then !eqL l m else eqL l m)) else none) d s K := by
  simp only [PE.step, wO, Option.bind_eq_some_iff]
  apply propext
  constructor
  · rintro ⟨l, m, h1, h2, h3, h4, h5⟩; exact ⟨_, ⟨l, h1, m, h2, by rw [if_pos ⟨h3, h4⟩]⟩, h5⟩
  · rintro ⟨v, ⟨l, h1, m, h2, h3⟩, h5⟩
    split at h3
    · rename_i h0; obtain rfl := Option.some.inj h3; exact ⟨l, m, h1, h2, h0.1, h0.2, h5⟩
    · cases h3
theorem step_fa (n : Nat) (x : Operand) : PE.step C P T n0 d (.fa n x) s K = wO (addOff (s.ev x) n) d s K := _root_.id rfl
theorem step_fldA (off n : Nat) (x : Operand) : PE.step C P T n0 d (.fldA off n x) s K = wO ((asAg (s.ev x)).bind fun l => if off + n ≤ l.length then some (ag ((l.drop off).take n)) else none) d s K := by
  simp only [PE.step, wO, Option.bind_eq_some_iff]
  apply propext
  constructor
  · rintro ⟨l, h1, h2, h3⟩; exact ⟨_, ⟨l, h1, by rw [if_pos h2]⟩, h3⟩
  · rintro ⟨v, ⟨l, h1, h2⟩, h3⟩
    split at h2
    · rename_i hle; obtain rfl := Option.some.inj h2; exact ⟨l, h1, hle, h3⟩
    · cases h2
theorem step_fld (off : Nat) (x : Operand) : PE.step C P T n0 d (.fld off x) s K = wO ((asAg (s.ev x)).bind fun l => l[off]?) d s K := by
  simp only [PE.step, wO, Option.bind_eq_some_iff]
  apply propext
  constructor
  · rintro ⟨l, c, h1, h2, h3⟩; exact ⟨_, ⟨l, h1, h2⟩, h3⟩
  · rintro ⟨v, ⟨l, h1, h2⟩, h3⟩; exact ⟨l, v, h1, h2, h3⟩
theorem step_ixS (size : Nat) (x i : Operand) : PE.step C P T n0 d (.ixS size x i) s K = wO ((asDeep (s.ev x)).bind fun xs => (asInt (s.ev i)).bind fun p => elemAt xs p.2 size) d s K := by
  simp only [PE.step, wO, Option.bind_eq_some_iff, elemAt]
  apply propext
  constructor
  · rintro ⟨xs, k, n, e, l, h1, h2, h3, h4, h5, h6, h7⟩; exact ⟨_, ⟨xs, h1, (k, n), h2, by rw [if_pos h3]; simp [h4, h5, h6]⟩, h7⟩
  · rintro ⟨v, ⟨xs, h1, ⟨k, n⟩, h2, h3⟩, h7⟩
    simp only at h3
    split at h3
    · rename_i h0
      simp only [Option.bind_eq_some_iff] at h3
      obtain ⟨e, h4, l, h5, h6⟩ := h3
      split at h6
      · rename_i hl; obtain rfl := Option.some.inj h6; exact ⟨xs, k, n, e, l, h1, h2, h0, h4, h5, hl, h7⟩
      · cases h6
    · cases h3
theorem step_ixP (len size : Nat) (x i : Operand) : PE.step C P T n0 d (.ixP len size x i) s K = wO ((asInt (s.ev i)).bind fun p => if 0 ≤ p.2 ∧ p.2 < len then addOff (s.ev x) (p.2.toNat * size) else none) d s K := by
  simp only [PE.step, wO, Option.bind_eq_some_iff]
  apply propext
  constructor
  · rintro ⟨k, n, v, h1, h2, h3, h4, h5⟩; exact ⟨v, ⟨(k, n), h1, by rw [if_pos ⟨h2, h3⟩]; exact h4⟩, h5⟩
  · rintro ⟨v, ⟨⟨k, n⟩, h1, h2⟩, h5⟩
    simp only at h2
    split at h2
    · rename_i h0; exact ⟨k, n, v, h1, h0.1, h0.2, h2, h5⟩
    · cases h2
theorem step_ixA (len size : Nat) (x i : Operand) : PE.step C P T n0 d (.ixA len size x i) s K = wO ((asAg (s.ev x)).bind fun l => (asInt (s.ev i)).bind fun p => if 0 ≤ p.2 ∧ p.2 < len ∧ p.2.toNat * size + size ≤ l.length then some (ag ((l.drop (p.2.toNat * size)).take size)) else none) d s K := by
  simp only [PE.step, wO, Option.bind_eq_some_iff]
  apply propext
  constructor
  · rintro ⟨l, k, n, h1, h2, h3, h4, h5, h6⟩; exact ⟨_, ⟨l, h1, (k, n), h2, by rw [if_pos ⟨h3, h4, h5⟩]⟩, h6⟩
  · rintro ⟨v, ⟨l, h1, ⟨k, n⟩, h2, h3⟩, h6⟩
    simp only at h3
    split at h3
    · rename_i h0; obtain rfl := Option.some.inj h3; exact ⟨l, k, n, h1, h2, h0.1, h0.2.1, h0.2.2, h6⟩
    · cases h3
theorem step_ix (len : Nat) (x i : Operand) : PE.step C P T n0 d (.ix len x i) s K = wO ((asAg (s.ev x)).bind fun l => (asInt (s.ev i)).bind fun p => if 0 ≤ p.2 ∧ p.2 < len then l[p.2.toNat]? else none) d s K := by
  simp only [PE.step, wO, Option.bind_eq_some_iff]
  apply propext
  constructor
  · rintro ⟨l, k, n, c, h1, h2, h3, h4, h5, h6⟩; exact ⟨_, ⟨l, h1, (k, n), h2, by rw [if_pos ⟨h3, h4⟩]; exact h5⟩, h6⟩
  · rintro ⟨v, ⟨l, h1, ⟨k, n⟩, h2, h3⟩, h6⟩
    simp only at h3
    split at h3
    · rename_i h0; exact ⟨l, k, n, v, h1, h2, h0.1, h0.2, h3, h6⟩
    · cases h3
theorem step_len (x : Operand) : PE.step C P T n0 d (.len x) s K = wO ((asDeep (s.ev x)).map fun xs => .int .i64 xs.length) d s K := by
  simp only [PE.step, wO, Option.map_eq_some_iff]
  apply propext
  constructor
  · rintro ⟨b, h1, h2⟩; exact ⟨_, ⟨b, h1, rfl⟩, h2⟩
  · rintro ⟨_, ⟨b, h1, rfl⟩, h2⟩; exact ⟨b, h1, h2⟩
/-- a part of a result -/
def wX (v : Value) (t i : Nat) (d : Option Nat) (s : PS) (K : PS → Prop) : Prop := ∃ l w, v = tup l ∧ l[i]? = some w ∧ K ((s.put t (tup (l.map dg1))).putO d (dgT w))
theorem tup_inj {l m : List Value} (h : tup l = tup m) : l = m := by simpa [tup] using h
theorem wX_tup (l : List Value) (t i : Nat) (w : Value) (h : l[i]? = some w) : wX (tup l) t i d s K = K ((s.put t (tup (l.map dg1))).putO d (dgT w)) := by
  apply propext
  constructor
  · rintro ⟨l', w', h1, h2, h3⟩
    obtain rfl := tup_inj h1
    rw [h] at h2
    obtain rfl := Option.some.inj h2
    exact h3
  · intro h3; exact ⟨l, w, rfl, h, h3⟩
theorem step_extr (t i : Nat) : PE.step C P T n0 d (.extr t i) s K = wX (s.t t) t i d s K := _root_.id rfl
/-- a cut -/
def cutV (xs : List Value) (l h m size : Nat) : Option Value := if l ≤ h ∧ h ≤ m ∧ m ≤ xs.length ∧ ∀ x ∈ xs, (lc x).length = size then some (deep ((xs.drop l).take (h - l))) else none
theorem step_slS (size : Nat) (x : Operand) (lo hi mx : Option Operand) : PE.step C P T n0 d (.slS size x lo hi mx) s K =
    wO ((asDeep (s.ev x)).bind fun xs => (bnd s lo 0).bind fun l => (bnd s hi xs.length).bind fun h => (bnd s mx xs.length).bind fun m => cutV xs l h m size) d s K := by
  simp only [PE.step, wO, Option.bind_eq_some_iff, cutV]
  apply propext
  constructor
  · rintro ⟨xs, l, h, m, h1, h2, h3, h4, h5, h6, h7, h8, h9⟩; exact ⟨_, ⟨xs, h1, l, h2, h, h3, m, h4, by rw [if_pos ⟨h5, h6, h7, h8⟩]⟩, h9⟩
  · rintro ⟨v, ⟨xs, h1, l, h2, h, h3, m, h4, h5⟩, h9⟩
    split at h5
    · rename_i h0; obtain rfl := Option.some.inj h5; exact ⟨xs, l, h, m, h1, h2, h3, h4, h0.1, h0.2.1, h0.2.2.1, h0.2.2.2, h9⟩
    · cases h5
theorem bnd_none (n : Nat) : bnd s none n = some n := _root_.id rfl
theorem bnd_some' (x : Operand) (n : Nat) : bnd s (some x) n = (asInt (s.ev x)).bind fun p => if 0 ≤ p.2 then some p.2.toNat else none := by
  simp only [bnd]
  cases asInt (s.ev x) with
  | none => rfl
  | some p => rfl
/-- a store -/
def wSt (T : Nat → Prop) (n0 : Nat) (v : Value) (o : Option (List Value)) (n : Nat) (d : Option Nat) (s : PS) (K : PS → Prop) : Prop :=
  ∃ k off row l, v = ptr k off ∧ s.H k = some row ∧ o = some l ∧ l.length = n ∧ off + n ≤ row.length ∧ (T k ∨ n0 ≤ k) ∧ K (PS.putO ⟨s.t, upd s.H k (some (row.take off ++ l ++ row.drop (off + n))), s.nx⟩ d undef)
theorem step_st (n : Nat) (x v : Operand) : PE.step C P T n0 d (.st n x v) s K = wSt T n0 (s.ev x) (cellsOf (s.ev v)) n d s K := _root_.id rfl
/-- a call -/
def wCall (C : Known) (T : Nat → Prop) (n0 : Nat) (f : Nat) (args : List Value) (d : Option Nat) (s : PS) (K : PS → Prop) : Prop :=
  ∃ T', (∀ k, T' k → n0 ≤ k ∨ T k) ∧ (∀ k row, T' k → s.H k = some row → rowNoLin row) ∧ C f args s.H s.nx T' fun p H' nx' => K ⟨(s.putO d p).t, H', nx'⟩
theorem step_call (f : Nat) (args : List Operand) : PE.step C P T n0 d (.call f args) s K = wCall C T n0 f (args.map s.ev) d s K := _root_.id rfl
/-- an append -/
def wApp (v : Value) (o : Option (List Value)) (e size bytes t : Nat) (d : Option Nat) (s : PS) (K : PS → Prop) : Prop :=
  ∃ xs ys, (v = lin e xs ∨ (xs = [] ∧ v = ns [])) ∧ o = some ys ∧ (∀ y ∈ xs, (lc y).length = size) ∧ (∀ y ∈ ys, (lc y).length = size) ∧ xs.length + ys.length ≤ maxLen ∧ (xs.length + ys.length) * bytes ≤ 140737488355328 ∧ K ((s.put t (deep xs)).putO d (lin e (xs ++ ys)))
theorem step_app (e size bytes t : Nat) (x : Operand) : PE.step C P T n0 d (.app e size bytes t x) s K = wApp (s.t t) (asDeep (s.ev x)) e size bytes t d s K := _root_.id rfl
/-! slices in boxes -/
theorem step_cns : PE.step C P T n0 d .cns s K = K (s.putO d (ns [])) := _root_.id rfl
theorem step_mks0 : PE.step C P T n0 d .mks0 s K = K (s.putO d (ns [])) := _root_.id rfl
theorem step_ixB (size : Nat) (x i : Operand) : PE.step C P T n0 d (.ixB size x i) s K = wO ((asInt (s.ev i)).bind fun p => elemV (s.ev x) p.2 size) d s K := by
  apply propext
  constructor
  · rintro ⟨k, n, v, h1, h2, h3⟩; exact ⟨v, by rw [h1]; exact h2, h3⟩
  · rintro ⟨v, h1, h3⟩
    cases hi : asInt (s.ev i) with
    | none => rw [hi] at h1; cases h1
    | some p => rw [hi] at h1; exact ⟨p.1, p.2, v, hi, h1, h3⟩
theorem step_lenB (x : Operand) : PE.step C P T n0 d (.lenB x) s K = wO ((lenV (s.ev x)).map fun (n : Nat) => Value.int .i64 (n : Int)) d s K := by
  apply propext
  constructor
  · rintro ⟨n, h1, h2⟩; exact ⟨_, by rw [h1]; rfl, h2⟩
  · rintro ⟨v, h1, h2⟩
    obtain ⟨n, hn, rfl⟩ := Option.map_eq_some_iff.1 h1
    exact ⟨n, hn, h2⟩
theorem step_capB (x : Operand) : PE.step C P T n0 d (.capB x) s K = wO ((asSlc (s.ev x)).map fun r => Value.int .i64 (r.2.2.2 : Nat)) d s K := by
  apply propext
  constructor
  · rintro ⟨k, off, n, cap, h1, h2⟩; exact ⟨_, by rw [h1]; rfl, h2⟩
  · rintro ⟨v, h1, h2⟩
    obtain ⟨⟨k, off, n, cap⟩, hr, rfl⟩ := Option.map_eq_some_iff.1 h1
    exact ⟨k, off, n, cap, asSlc_eq hr, h2⟩
theorem step_slB (size : Nat) (x : Operand) (lo hi mx : Option Operand) : PE.step C P T n0 d (.slB size x lo hi mx) s K =
    wO ((lenV (s.ev x)).bind fun n => (capV (s.ev x)).bind fun c => (bnd s lo 0).bind fun l => (bnd s hi n).bind fun h => (bnd s mx c).bind fun m => slV (s.ev x) l h m size mx.isSome) d s K := by
  apply propext
  constructor
  · rintro ⟨n, c, l, h, m, v, h1, h2, h3, h4, h5, h6, h7⟩
    exact ⟨v, by rw [h1, Option.bind_some, h2, Option.bind_some, h3, Option.bind_some, h4, Option.bind_some, h5, Option.bind_some]; exact h6, h7⟩
  · rintro ⟨v, h1, h7⟩
    simp only [Option.bind_eq_some_iff] at h1
    obtain ⟨n, a1, c, a2, l, a3, h, a4, m, a5, a6⟩ := h1
    exact ⟨n, c, l, h, m, v, a1, a2, a3, a4, a5, a6, h7⟩
def wStN (T : Nat → Prop) (n0 : Nat) (v : Value) (d : Option Nat) (s : PS) (K : PS → Prop) : Prop := ∃ k off row, v = ptr k off ∧ s.H k = some row ∧ off < row.length ∧ (T k ∨ n0 ≤ k) ∧ K (PS.putO { s with H := upd s.H k (some (row.set off (ns []))) } d undef)
theorem step_stN (x : Operand) : PE.step C P T n0 d (.stN x) s K = wStN T n0 (s.ev x) d s K := _root_.id rfl
def wMkB (ol oc : Option (IntKind × Int)) (bytes : Nat) (zero : List Value) (d : Option Nat) (s : PS) (K : PS → Prop) : Prop := ∃ kl nl kc nc, ol = some (kl, nl) ∧ oc = some (kc, nc) ∧ 0 ≤ nl ∧ nl ≤ nc ∧ nc ≤ maxLen ∧ nc * bytes ≤ 140737488355328 ∧
      K { (s.putO d (slc s.nx 0 nl.toNat nc.toNat)) with H := upd s.H s.nx (some (List.replicate nc.toNat zero).flatten), nx := s.nx + 1 }
theorem step_mkB (size bytes : Nat) (zero : List Value) (l c : Operand) : PE.step C P T n0 d (.mkB size bytes zero l c) s K = wMkB (asInt (s.ev l)) (asInt (s.ev c)) bytes zero d s K := _root_.id rfl
def wAppB (T : Nat → Prop) (n0 : Nat) (v : Value) (src : Option (Nat × List Value)) (size bytes : Nat) (zero : List Value) (d : Option Nat) (s : PS) (K : PS → Prop) : Prop := ∃ m cells, src = some (m, cells) ∧
      ((∃ xs, v = ns xs ∧ (∀ y ∈ xs, (lc y).length = size) ∧ xs.length + m ≤ maxLen ∧ (xs.length + m) * bytes ≤ 140737488355328 ∧ (m = 0 → K (s.putO d (ns xs))) ∧
        (0 < m → ∀ cap, xs.length + m ≤ cap → cap ≤ maxLen →
          K { (s.putO d (slc s.nx 0 (xs.length + m) cap)) with H := upd s.H s.nx (some ((xs.flatMap lc).map dg1 ++ cells ++ (List.replicate (cap - (xs.length + m)) zero).flatten)), nx := s.nx + 1 })) ∨
      (∃ k off n cap row, v = slc k off n cap ∧ s.H k = some row ∧ off + cap * size ≤ row.length ∧ n ≤ cap ∧ (T k ∨ n0 ≤ k) ∧ n + m ≤ maxLen ∧ (n + m) * bytes ≤ 140737488355328 ∧
        (n + m ≤ cap → K { (s.putO d (slc k off (n + m) cap)) with H := upd s.H k (some (row.take (off + n * size) ++ cells ++ row.drop (off + (n + m) * size))) }) ∧
        (cap < n + m → ∀ cap', n + m ≤ cap' → cap' ≤ maxLen →
          K { (s.putO d (slc s.nx 0 (n + m) cap')) with H := upd s.H s.nx (some (((row.drop off).take (n * size)).map dg1 ++ cells ++ (List.replicate (cap' - (n + m)) zero).flatten)), nx := s.nx + 1 })))
theorem step_appB (size bytes : Nat) (zero : List Value) (t : Nat) (x : Operand) : PE.step C P T n0 d (.appB size bytes zero t x) s K = wAppB T n0 (s.t t) (srcV s.H (s.ev x) size) size bytes zero d s K := _root_.id rfl
def wCpy (T : Nat → Prop) (n0 : Nat) (v : Value) (src : Option (Nat × List Value)) (size : Nat) (d : Option Nat) (s : PS) (K : PS → Prop) : Prop := ∃ k off n cap row m cells, v = slc k off n cap ∧ s.H k = some row ∧ off + n * size ≤ row.length ∧ (T k ∨ n0 ≤ k) ∧ src = some (m, cells) ∧
      K { (s.putO d (.int .i64 (min n m : Nat))) with H := upd s.H k (some (row.take off ++ cells.take (min n m * size) ++ row.drop (off + min n m * size))) }
theorem step_cpy (size : Nat) (x y : Operand) : PE.step C P T n0 d (.cpy size x y) s K = wCpy T n0 (s.ev x) (srcV s.H (s.ev y) size) size d s K := _root_.id rfl
def wCallB (C : Known) (T : Nat → Prop) (n0 : Nat) (f : Nat) (args : List Value) (d : Option Nat) (s : PS) (K : PS → Prop) : Prop := ∃ H1 args', Sub n0 H1 s.H ∧ Cvs n0 s.H H1 args args' ∧
      ((∃ T', (∀ k, T' k → n0 ≤ k ∨ T k) ∧ (∀ k row, T' k → H1 k = some row → rowNoLin row) ∧ C f args' H1 s.nx T' fun p H' nx' => K { (s.putO d p) with H := H', nx := nx' }) ∨
      (∃ v, plain v = true ∧ C f args' H1 s.nx (fun _ => False) (fun p _ _ => p = v) ∧ K (s.putO d v)))
theorem step_callB (f : Nat) (args : List Operand) : PE.step C P T n0 d (.callB f args) s K = wCallB C T n0 f (args.map s.ev) d s K := _root_.id rfl
end
end Go.PE
namespace Go.PE
open Go

/-! slots turned -/
def applyU : List (Nat × Value) → (Nat → Value) → (Nat → Value)
  | [], t => t
  | (k, v) :: r, t => applyU r (upd t k v)
def keys (us : List (Nat × Value)) : List Nat := us.map (·.1)
theorem applyU_out : ∀ (us : List (Nat × Value)) (t : Nat → Value) (x : Nat), x ∉ keys us → applyU us t x = t x
  | [], _, _, _ => rfl
  | (k, v) :: r, t, x, h => by
    simp only [keys, List.map_cons, List.mem_cons, not_or] at h
    show applyU r (upd t k v) x = t x
    rw [applyU_out r _ x h.2, upd_ne _ _ h.1]
theorem applyU_in : ∀ (us : List (Nat × Value)) (t t' : Nat → Value) (x : Nat), (x ∈ keys us ∨ t x = t' x) → applyU us t x = applyU us t' x
  | [], t, t', x, h => by rcases h with h | h
                          · simp [keys] at h
                          · exact h
  | (k, v) :: r, t, t', x, h => by
    show applyU r (upd t k v) x = applyU r (upd t' k v) x
    refine applyU_in r _ _ x ?_
    by_cases hx : x ∈ keys r
    · exact .inl hx
    · right
      by_cases hk : x = k
      · subst hk; simp [upd]
      · rw [upd_ne _ _ hk, upd_ne _ _ hk]
        rcases h with h | h
        · simp only [keys, List.map_cons, List.mem_cons] at h
          rcases h with h | h
          · exact absurd h hk
          · exact absurd h hx
        · exact h
theorem applyU_comm (us vs : List (Nat × Value)) (t : Nat → Value) (h : ∀ x, x ∈ keys us → x ∉ keys vs) : applyU us (applyU vs t) = applyU vs (applyU us t) := by
  funext x
  by_cases hx : x ∈ keys us
  · rw [applyU_in us (applyU vs t) t x (.inl hx), applyU_out vs _ x (h x hx)]
  · rw [applyU_out us _ x hx]
    exact applyU_in vs t _ x (.inr (applyU_out us t x hx).symm)

def linOf (e : Nat) : Value → Option (List Value)
  | .func (.yield 1) xs ⟨[.int .i64 n]⟩ => if n = e then some xs.toList else none
  | _ => none
theorem linOf_iff (e : Nat) (v : Value) (xs : List Value) : linOf e v = some xs ↔ v = lin e xs := by
  constructor
  · intro h
    unfold linOf at h
    split at h
    · split at h
      · rename_i hn; subst hn; obtain rfl := Option.some.inj h; simp [lin]
      · cases h
    · cases h
  · rintro rfl; simp [linOf, lin]
def linNs (e : Nat) : Value → Option (List Value)
  | .func (.yield 1) ⟨[]⟩ ⟨[]⟩ => some []
  | v => linOf e v
theorem linNs_iff (e : Nat) (v : Value) (xs : List Value) : linNs e v = some xs ↔ (v = lin e xs ∨ (xs = [] ∧ v = ns [])) := by
  constructor
  · intro h
    unfold linNs at h
    split at h
    · obtain rfl := Option.some.inj h; exact .inr ⟨rfl, rfl⟩
    · exact .inl ((linOf_iff _ _ _).1 h)
  · rintro (rfl | ⟨rfl, rfl⟩)
    · have := (linOf_iff e (lin e xs) xs).2 rfl
      unfold linNs
      split
      · rename_i he; simp [lin] at he
      · exact this
    · rfl

/-! footprints -/
def oS : Operand → List Nat | .tmp t => [t] | _ => []
def ooS : Option Operand → List Nat | some x => oS x | none => []
def dS : Option Nat → List Nat | some d => [d] | none => []
def pS : List (List Value ⊕ (Operand × Nat)) → List Nat
  | [] => []
  | .inl _ :: r => pS r
  | .inr (x, _) :: r => oS x ++ pS r
def lS (l : List Operand) : List Nat := l.flatMap oS

/-- the slots that are looked at -/
def rdS : PI → List Nat
  | .mv x | .box _ x | .ldA _ x | .ld _ x | .nilc x | .un _ x | .cv _ x | .slen x | .fa _ x | .fldA _ _ x | .fld _ x | .len x => oS x
  | .steal t => [t]
  | .cnil _ | .alloc _ => []
  | .pick c a b => oS c ++ (oS a ++ oS b)
  | .build ps => pS ps
  | .mks _ _ _ ps => lS ps
  | .st _ x v => oS x ++ oS v
  | .sts x t => t :: oS x
  | .sc op _ => lS op.operands.toList
  | .bi _ x y | .bb _ x y | .mm _ x y | .six x y | .eqA _ _ x y | .ixS _ x y | .ixP _ _ x y | .ixA _ _ x y | .ix _ x y => oS x ++ oS y
  | .ssl x lo hi => oS x ++ (ooS lo ++ ooS hi)
  | .extr t _ => [t]
  | .slS _ x lo hi mx => oS x ++ (ooS lo ++ (ooS hi ++ ooS mx))
  | .mk _ _ _ _ l c => oS l ++ oS c
  | .app _ _ _ t x => t :: oS x
  | .call _ args => lS args
  | .mkf _ a b => lS a ++ lS b
  | .callv x args => oS x ++ lS args
  | .cns | .mks0 => []
  | .stN x | .lenB x | .capB x => oS x
  | .mkB _ _ _ l c => oS l ++ oS c
  | .appB _ _ _ t x => t :: oS x
  | .cpy _ x y | .ixB _ x y => oS x ++ oS y
  | .slB _ x lo hi mx => oS x ++ (ooS lo ++ (ooS hi ++ ooS mx))
  | .callB _ args => lS args
  | .xcall _ args => lS args
  | .mkM _ => []
  | .mset _ x k v => oS x ++ (oS k ++ oS v)
  | .mget _ x k | .mdel _ x k => oS x ++ oS k
  | .b2s x | .nilS _ x => oS x
/-- the slots that are turned, beside the one for the result -/
def wrS : PI → List Nat
  | .steal t | .extr t _ | .app _ _ _ t _ | .sts _ t => [t]
  | _ => []
/-- it may change places with others: it turns slots alone -/
def neutral : PI → Bool
  | .mv _ | .steal _ | .cnil _ | .pick .. | .build _ | .mks .. | .ldA .. | .ld false _ | .nilc _ | .bi .. | .bb .. | .un .. | .cv .. | .mm .. | .slen _ | .six .. | .ssl .. | .eqA .. | .fa .. | .fldA .. | .fld .. | .ixS .. | .ixP .. | .ixA .. | .ix ..
  | .extr .. | .slS .. | .mk .. | .len _ | .app .. | .mkf .. | .cns | .mks0 | .ixB .. | .lenB _ | .capB _ | .slB .. | .b2s _ => true
  | _ => false
/-- it looks at boxes -/
def looksH : PI → Bool
  | .ldA .. | .ld .. => true
  | _ => false
section
variable {C : Known} {P : Program} {T : Nat → Prop} {n0 : Nat} {d : Option Nat} {i : PI}

def Agree (S : List Nat) (s s' : PS) : Prop := ∀ x ∈ S, s.t x = s'.t x
theorem Agree.left {S S' : List Nat} {s s' : PS} (h : Agree (S ++ S') s s') : Agree S s s' := fun x hx => h x (List.mem_append_left _ hx)
theorem Agree.right {S S' : List Nat} {s s' : PS} (h : Agree (S ++ S') s s') : Agree S' s s' := fun x hx => h x (List.mem_append_right _ hx)
theorem Agree.ev {x : Operand} {s s' : PS} (h : Agree (oS x) s s') : s.ev x = s'.ev x := by
  cases x with
  | tmp t => show dg (s.t t) = dg (s'.t t); rw [h t (by simp [oS])]
  | const v => rfl
  | global g => rfl
  | func f => rfl
theorem Agree.bnd {x : Option Operand} {n : Nat} {s s' : PS} (h : Agree (ooS x) s s') : PE.bnd s x n = PE.bnd s' x n := by
  cases x with
  | none => rfl
  | some x =>
    have : s.ev x = s'.ev x := Agree.ev (by simpa [ooS] using h)
    simp only [PE.bnd, this]
theorem Agree.build : ∀ {ps : List (List Value ⊕ (Operand × Nat))} {s s' : PS}, Agree (pS ps) s s' → buildL s ps = buildL s' ps
  | [], _, _, _ => rfl
  | .inl z :: r, s, s', h => by simp only [buildL, Agree.build (ps := r) (s := s) (s' := s') h]
  | .inr (x, n) :: r, s, s', h => by
    have h1 : s.ev x = s'.ev x := Agree.ev (Agree.left h)
    simp only [buildL, h1, Agree.build (ps := r) (Agree.right h)]
theorem Agree.all {l : List Operand} {s s' : PS} (h : Agree (lS l) s s') : ∀ x ∈ l, s.ev x = s'.ev x := fun x hx => Agree.ev fun t ht => h t (List.mem_flatMap.2 ⟨x, hx, ht⟩)
theorem Agree.map {l : List Operand} {s s' : PS} (h : Agree (lS l) s s') : l.map s.ev = l.map s'.ev := List.map_congr_left h.all

/-- what a neutral instruction does -/
def Neu (stp : PS → (PS → Prop) → Prop) (rd wr : List Nat) (uh : Bool) : Prop :=
  ∃ E : PS → Option (List (Nat × Value)), (∀ s K, stp s K ↔ ∃ us, E s = some us ∧ K ⟨applyU us s.t, s.H, s.nx⟩) ∧ (∀ s us, E s = some us → ∀ k ∈ keys us, k ∈ wr) ∧
    ∀ s s', Agree rd s s' → (uh = true → s.H = s'.H) → E s = E s'

def dU (d : Option Nat) (v : Value) : List (Nat × Value) := match d with | some d => [(d, v)] | none => []
theorem putO_dU (s : PS) (d : Option Nat) (v : Value) : s.putO d v = ⟨applyU (dU d v) s.t, s.H, s.nx⟩ := by cases d <;> rfl
theorem keys_dU (d : Option Nat) (v : Value) : keys (dU d v) = dS d := by cases d <;> rfl

theorem neu_val {F : PS → Option Value} {rd : List Nat} {uh : Bool} (h1 : ∀ s K, PE.step C P T n0 d i s K = wO (F s) d s K) (h2 : ∀ s s', Agree rd s s' → (uh = true → s.H = s'.H) → F s = F s') :
    Neu (PE.step C P T n0 d i) rd (dS d) uh := by
  refine ⟨fun s => (F s).map (dU d), fun s K => ?_, fun s us hu k hk => ?_, fun s s' hA hH => by simp only [h2 s s' hA hH]⟩
  · rw [h1]
    constructor
    · rintro ⟨v, hv, hK⟩
      exact ⟨dU d v, by simp only [hv]; rfl, by rw [← putO_dU]; exact hK⟩
    · rintro ⟨us, hu, hK⟩
      obtain ⟨v, hv, rfl⟩ := Option.map_eq_some_iff.1 hu
      exact ⟨v, hv, by rw [putO_dU]; exact hK⟩
  · obtain ⟨v, hv, rfl⟩ := Option.map_eq_some_iff.1 hu
    rwa [keys_dU] at hk

/-- two slots: one of the operands' own, then the result's -/
theorem neu_two {F : PS → Option (Value × Value)} {rd : List Nat} {t : Nat} (h1 : ∀ s K, PE.step C P T n0 d i s K ↔ ∃ v w, F s = some (v, w) ∧ K ((s.put t v).putO d w)) (h2 : ∀ s s', Agree rd s s' → F s = F s') :
    Neu (PE.step C P T n0 d i) rd (t :: dS d) false := by
  refine ⟨fun s => (F s).map fun p => (t, p.1) :: dU d p.2, fun s K => ?_, fun s us hu k hk => ?_, fun s s' hA hH => by simp only [h2 s s' hA]⟩
  · rw [h1]
    constructor
    · rintro ⟨v, w, hv, hK⟩
      exact ⟨(t, v) :: dU d w, by simp only [hv]; rfl, by rw [putO_dU] at hK; exact hK⟩
    · rintro ⟨us, hu, hK⟩
      obtain ⟨⟨v, w⟩, hv, rfl⟩ := Option.map_eq_some_iff.1 hu
      exact ⟨v, w, hv, by rw [putO_dU]; exact hK⟩
  · obtain ⟨p, hv, rfl⟩ := Option.map_eq_some_iff.1 hu
    simp only [keys, List.map_cons, List.mem_cons] at hk ⊢
    rcases hk with hk | hk
    · exact .inl hk
    · right; rw [← keys_dU d p.2]; exact hk

theorem neutral_neu (h : neutral i = true) : Neu (PE.step C P T n0 d i) (rdS i) (wrS i ++ dS d) (looksH i) := by
  cases i with
  | mv x => exact neu_val (F := fun s => some (s.ev x)) (fun s K => by rw [wO_some]; rfl) (fun s s' hA _ => by rw [Agree.ev hA])
  | steal t => exact neu_two (F := fun s => some (dg (s.t t), s.t t)) (fun s K => by constructor
                                                                                     · intro h; exact ⟨_, _, rfl, h⟩
                                                                                     · rintro ⟨v, w, h1, h2⟩; cases h1; exact h2) (fun s s' hA => by rw [hA t (by simp [rdS])])
  | cnil e => exact neu_val (F := fun s => some (lin e [])) (fun s K => by rw [wO_some]; rfl) (fun s s' hA _ => rfl)
  | pick c a b => exact neu_val (fun s K => step_pick C P T n0 d s K c a b) (fun s s' hA _ => by rw [Agree.ev hA.left, Agree.ev hA.right.left, Agree.ev hA.right.right])
  | build ps => exact neu_val (fun s K => step_build C P T n0 d s K ps) (fun s s' hA _ => by rw [Agree.build hA])
  | mks e size tk ps =>
    refine neu_val (F := fun s => if okParts s size ps = true then some (if tk then lin e (ps.map s.ev) else deep (ps.map s.ev)) else none) (fun s K => ?_) (fun s s' hA _ => ?_)
    · rw [step_mks]
      by_cases hk : okParts s size ps = true
      · rw [if_pos hk, wO_some]; simp only [hk, true_and]
      · rw [if_neg hk, wO_none]; simp [hk]
    · have e1 : ps.map s.ev = ps.map s'.ev := Agree.map hA
      have e2 : okParts s size ps = okParts s' size ps := by
        have : ∀ l : List Operand, (∀ x ∈ l, s.ev x = s'.ev x) → okParts s size l = okParts s' size l := by
          intro l
          induction l with
          | nil => intro _; rfl
          | cons x r ih => intro h; simp only [okParts, h x (List.mem_cons_self ..), ih fun y hy => h y (List.mem_cons_of_mem _ hy)]
        exact this ps (Agree.all hA)
      rw [e1, e2]
  | ldA n x => exact neu_val (fun s K => step_ldA C P T n0 d s K n x) (fun s s' hA hH => by rw [Agree.ev hA, hH rfl])
  | ld st x =>
    cases st with
    | false => exact neu_val (fun s K => step_ld C P T n0 d s K x) (fun s s' hA hH => by rw [Agree.ev hA, hH rfl])
    | true => simp [neutral] at h
  | nilc x =>
    refine neu_val (F := fun s => if (addOff (s.ev x) 0).isSome = true then some (s.ev x) else none) (fun s K => ?_) (fun s s' hA _ => by rw [Agree.ev hA])
    rw [step_nilc]
    split
    · rename_i h; rw [wO_some]; simp [h]
    · rename_i h; rw [wO_none]; simp [h]
  | bi op x y => exact neu_val (fun s K => step_bi C P T n0 d s K op x y) (fun s s' hA _ => by rw [Agree.ev hA.left, Agree.ev hA.right])
  | bb neg x y => exact neu_val (fun s K => step_bb C P T n0 d s K neg x y) (fun s s' hA _ => by rw [Agree.ev hA.left, Agree.ev hA.right])
  | un op x => exact neu_val (fun s K => step_un C P T n0 d s K op x) (fun s s' hA _ => by rw [Agree.ev hA])
  | cv k x => exact neu_val (fun s K => step_cv C P T n0 d s K k x) (fun s s' hA _ => by rw [Agree.ev hA])
  | mm mx x y => exact neu_val (fun s K => step_mm C P T n0 d s K mx x y) (fun s s' hA _ => by rw [Agree.ev hA.left, Agree.ev hA.right])
  | slen x => exact neu_val (fun s K => step_slen C P T n0 d s K x) (fun s s' hA _ => by rw [Agree.ev hA])
  | b2s x => exact neu_val (fun s K => step_b2s C P T n0 d s K x) (fun s s' hA _ => by rw [Agree.ev hA])
  | six x y => exact neu_val (fun s K => step_six C P T n0 d s K x y) (fun s s' hA _ => by rw [Agree.ev hA.left, Agree.ev hA.right])
  | ssl x lo hi =>
    refine neu_val (F := fun s => (asStr (s.ev x)).bind fun b => (bnd s lo 0).bind fun l => (bnd s hi b.size).bind fun h => if l ≤ h ∧ h ≤ b.size then some (.string (b.extract l h)) else none) (fun s K => ?_) (fun s s' hA _ => ?_)
    · simp only [PE.step, wO, Option.bind_eq_some_iff]
      apply propext
      constructor
      · rintro ⟨b, l, h, h1, h2, h3, h4, h5, h6⟩; exact ⟨_, ⟨b, h1, l, h2, h, h3, by rw [if_pos ⟨h4, h5⟩]⟩, h6⟩
      · rintro ⟨v, ⟨b, h1, l, h2, h, h3, h4⟩, h6⟩
        split at h4
        · rename_i h0; obtain rfl := Option.some.inj h4; exact ⟨b, l, h, h1, h2, h3, h0.1, h0.2, h6⟩
        · cases h4
    · have e1 : ∀ n, bnd s lo n = bnd s' lo n := fun n => Agree.bnd hA.right.left
      have e2 : ∀ n, bnd s hi n = bnd s' hi n := fun n => Agree.bnd hA.right.right
      simp only [Agree.ev hA.left, e1, e2]
  | eqA neg ks x y => exact neu_val (fun s K => step_eqA C P T n0 d s K neg ks x y) (fun s s' hA _ => by rw [Agree.ev hA.left, Agree.ev hA.right])
  | fa off x => exact neu_val (fun s K => step_fa C P T n0 d s K off x) (fun s s' hA _ => by rw [Agree.ev hA])
  | fldA off n x => exact neu_val (fun s K => step_fldA C P T n0 d s K off n x) (fun s s' hA _ => by rw [Agree.ev hA])
  | fld off x => exact neu_val (fun s K => step_fld C P T n0 d s K off x) (fun s s' hA _ => by rw [Agree.ev hA])
  | ixS size x y => exact neu_val (fun s K => step_ixS C P T n0 d s K size x y) (fun s s' hA _ => by rw [Agree.ev hA.left, Agree.ev hA.right])
  | cns => exact neu_val (F := fun s => some (ns [])) (fun s K => by rw [wO_some]; rfl) (fun s s' hA _ => rfl)
  | mks0 => exact neu_val (F := fun s => some (ns [])) (fun s K => by rw [wO_some]; rfl) (fun s s' hA _ => rfl)
  | ixB size x y => exact neu_val (fun s K => step_ixB C P T n0 d s K size x y) (fun s s' hA _ => by rw [Agree.ev hA.left, Agree.ev hA.right])
  | lenB x => exact neu_val (fun s K => step_lenB C P T n0 d s K x) (fun s s' hA _ => by rw [Agree.ev hA])
  | capB x => exact neu_val (fun s K => step_capB C P T n0 d s K x) (fun s s' hA _ => by rw [Agree.ev hA])
  | slB size x lo hi mx =>
    refine neu_val (fun s K => step_slB C P T n0 d s K size x lo hi mx) (fun s s' hA _ => ?_)
    have e1 : ∀ n, bnd s lo n = bnd s' lo n := fun n => Agree.bnd hA.right.left
    have e2 : ∀ n, bnd s hi n = bnd s' hi n := fun n => Agree.bnd hA.right.right.left
    have e3 : ∀ n, bnd s mx n = bnd s' mx n := fun n => Agree.bnd hA.right.right.right
    simp only [Agree.ev hA.left, e1, e2, e3]
  | ixP len size x y => exact neu_val (fun s K => step_ixP C P T n0 d s K len size x y) (fun s s' hA _ => by rw [Agree.ev hA.left, Agree.ev hA.right])
  | ixA len size x y => exact neu_val (fun s K => step_ixA C P T n0 d s K len size x y) (fun s s' hA _ => by rw [Agree.ev hA.left, Agree.ev hA.right])
  | ix len x y => exact neu_val (fun s K => step_ix C P T n0 d s K len x y) (fun s s' hA _ => by rw [Agree.ev hA.left, Agree.ev hA.right])
  | extr t j =>
    refine neu_two (F := fun s => match s.t t with | .tuple vs => (vs.toList[j]?).map fun w => (tup (vs.toList.map dg1), dgT w) | _ => none) (fun s K => ?_) (fun s s' hA => by rw [hA t (by simp [rdS])])
    constructor
    · rintro ⟨l, v, h1, h2, h3⟩
      refine ⟨_, _, ?_, h3⟩
      rw [h1]
      show (l[j]?).map _ = _
      rw [h2]; rfl
    · rintro ⟨v, w, h1, h2⟩
      split at h1
      · rename_i vs hvs
        obtain ⟨u, hu, he⟩ := Option.map_eq_some_iff.1 h1
        cases he
        exact ⟨vs.toList, u, by rw [hvs]; simp [tup], hu, h2⟩
      · cases h1
  | slS size x lo hi mx =>
    refine neu_val (fun s K => step_slS C P T n0 d s K size x lo hi mx) (fun s s' hA _ => ?_)
    have e1 : ∀ n, bnd s lo n = bnd s' lo n := fun n => Agree.bnd hA.right.left
    have e2 : ∀ n, bnd s hi n = bnd s' hi n := fun n => Agree.bnd hA.right.right.left
    have e3 : ∀ n, bnd s mx n = bnd s' mx n := fun n => Agree.bnd hA.right.right.right
    simp only [Agree.ev hA.left, e1, e2, e3]
  | mk e size bytes z l c =>
    refine neu_val (F := fun s => (asInt (s.ev l)).bind fun p => (asInt (s.ev c)).bind fun r => if 0 ≤ p.2 ∧ p.2 ≤ r.2 ∧ r.2 ≤ maxLen ∧ r.2 * bytes ≤ 140737488355328 then some (lin e (List.replicate p.2.toNat z)) else none) (fun s K => ?_) (fun s s' hA _ => by rw [Agree.ev hA.left, Agree.ev hA.right])
    simp only [PE.step, wO, Option.bind_eq_some_iff]
    apply propext
    constructor
    · rintro ⟨kl, nl, kc, nc, h1, h2, h3, h4, h5, h6, h7⟩; exact ⟨_, ⟨(kl, nl), h1, (kc, nc), h2, by rw [if_pos ⟨h3, h4, h5, h6⟩]⟩, h7⟩
    · rintro ⟨v, ⟨⟨kl, nl⟩, h1, ⟨kc, nc⟩, h2, h3⟩, h7⟩
      split at h3
      · rename_i h0; obtain rfl := Option.some.inj h3; exact ⟨kl, nl, kc, nc, h1, h2, h0.1, h0.2.1, h0.2.2.1, h0.2.2.2, h7⟩
      · cases h3
  | len x => exact neu_val (fun s K => step_len C P T n0 d s K x) (fun s s' hA _ => by rw [Agree.ev hA])
  | app e size bytes t x =>
    refine neu_two (F := fun s => (linNs e (s.t t)).bind fun xs => (asDeep (s.ev x)).bind fun ys =>
      if (∀ y ∈ xs, (lc y).length = size) ∧ (∀ y ∈ ys, (lc y).length = size) ∧ xs.length + ys.length ≤ maxLen ∧ (xs.length + ys.length) * bytes ≤ 140737488355328 then some (deep xs, lin e (xs ++ ys)) else none) (fun s K => ?_) (fun s s' hA => ?_)
    · simp only [Option.bind_eq_some_iff]
      constructor
      · rintro ⟨xs, ys, h1, h2, h3, h4, h5, h6, h7⟩
        exact ⟨_, _, ⟨xs, (linNs_iff _ _ _).2 h1, ys, h2, by rw [if_pos ⟨h3, h4, h5, h6⟩]⟩, h7⟩
      · rintro ⟨v, w, ⟨xs, h1, ys, h2, h3⟩, h7⟩
        split at h3
        · rename_i h0; cases h3; exact ⟨xs, ys, (linNs_iff _ _ _).1 h1, h2, h0.1, h0.2.1, h0.2.2.1, h0.2.2.2, h7⟩
        · cases h3
    · have e1 : s.t t = s'.t t := hA t (by simp [rdS])
      have e2 : s.ev x = s'.ev x := Agree.ev fun y hy => hA y (by simp [rdS, hy])
      simp only [e1, e2]
  | mkf f a b => exact neu_val (F := fun s => some (clo f (a.map s.ev) (b.map s.ev))) (fun s K => by rw [wO_some]; rfl) (fun s s' hA _ => by rw [Agree.map hA.left, Agree.map hA.right])
  | _ => simp [neutral] at h
end
end Go.PE
namespace Go.PE
open Go

/-- an instruction in its place: the slot, the guard, the instruction -/
abbrev PO := Option Nat × Option (Nat × Bool) × PI

def Frm (stp : PS → (PS → Prop) → Prop) (rd wr : List Nat) (ch : Bool) : Prop :=
  ∀ (s1 s2 : PS) (K1 K2 : PS → Prop), s1.H = s2.H → s1.nx = s2.nx → Agree rd s1 s2 → stp s1 K1 →
    (∀ us H' nx', (∀ k ∈ keys us, k ∈ wr) → (ch = false → H' = s1.H) → K1 ⟨applyU us s1.t, H', nx'⟩ → K2 ⟨applyU us s2.t, H', nx'⟩) → stp s2 K2

theorem Neu.frm {stp : PS → (PS → Prop) → Prop} {rd wr : List Nat} {uh ch : Bool} (h : Neu stp rd wr uh) : Frm stp rd wr ch := by
  obtain ⟨E, h1, h2, h3⟩ := h
  intro s1 s2 K1 K2 hH hn hA hs hk
  obtain ⟨us, hu, hK⟩ := (h1 _ _).1 hs
  have he := h3 s1 s2 hA (fun _ => hH)
  refine (h1 _ _).2 ⟨us, by rw [← he]; exact hu, ?_⟩
  have := hk us s1.H s1.nx (h2 _ _ hu) (fun _ => rfl) hK
  rwa [hH, hn] at this

theorem Frm.mono {stp : PS → (PS → Prop) → Prop} {rd wr : List Nat} {ch : Bool} (h : Frm stp rd wr ch) {s : PS} {K K' : PS → Prop} (hK : ∀ s, K s → K' s) (hs : stp s K) : stp s K' :=
  h s s K K' rfl rfl (fun _ _ => rfl) hs fun _ _ _ _ _ h => hK _ h

theorem swap {si sj : PS → (PS → Prop) → Prop} {ri wi rj wj : List Nat} {uh ch : Bool} (hn : Neu si ri wi uh) (hf : Frm sj rj wj ch) (d1 : ∀ x ∈ wi, x ∉ rj) (d2 : ∀ x ∈ wi, x ∉ wj) (d3 : ∀ x ∈ ri, x ∉ wj)
    (d4 : uh = true → ch = false) {s : PS} {K : PS → Prop} (h : si s (fun s1 => sj s1 K)) : sj s (fun s2 => si s2 K) := by
  obtain ⟨E, e1, e2, e3⟩ := hn
  obtain ⟨us, hu, hj⟩ := (e1 _ _).1 h
  refine hf ⟨applyU us s.t, s.H, s.nx⟩ s _ _ rfl rfl (fun x hx => ?_) hj fun us' H' nx' hk hch hK => ?_
  · exact applyU_out us s.t x fun hxu => d1 x (e2 _ _ hu x hxu) hx
  · refine (e1 _ _).2 ⟨us, ?_, ?_⟩
    · rw [← hu]
      refine e3 _ _ (fun x hx => ?_) (fun h => hch (d4 h))
      exact applyU_out us' s.t x fun hxu => d3 x hx (hk x hxu)
    · show K ⟨applyU us (applyU us' s.t), H', nx'⟩
      rw [applyU_comm us us' s.t fun x hx hx' => d2 x (e2 _ _ hu x hx) (hk x hx')]
      exact hK

section
variable {P : Program} {T : Nat → Prop} {n0 : Nat} {d : Option Nat} {i : PI}

theorem PCalls_mono {f nx : Nat} {args : List Value} {H : Nat → Option (List Value)} {T : Nat → Prop} {R R' : Post}
    (h : PCalls P f args H nx T R) (hR : ∀ p H' nx', R p H' nx' → R' p H' nx') : PCalls P f args H nx T R' := by
  intro G own vs h1 h2 h3
  refine (h G own vs h1 h2 h3).mono ?_
  rintro e w' ⟨v, p, G', own', H', nx', a1, a2, a3, a4⟩
  exact ⟨v, p, G', own', H', nx', a1, a2, a3, hR _ _ _ a4⟩

/-- those that are served at all -/
def framed : PI → Bool
  | .alloc _ | .box .. | .ld true _ | .st .. | .sts .. | .call .. | .callv .. | .stN _ | .mkB .. | .appB .. | .cpy .. | .callB .. => true
  | _ => false

theorem framed_frm (h : framed i = true) : Frm (PE.step (PCalls P) P T n0 d i) (rdS i) (wrS i ++ dS d) true := by
  intro s1 s2 K1 K2 hH hn hA hs hk
  have one : ∀ (v : Value) H' nx', K1 ⟨(s1.putO d v).t, H', nx'⟩ → K2 ⟨(s2.putO d v).t, H', nx'⟩ := fun v H' nx' hK => by
    rw [putO_dU] at hK ⊢
    exact hk (dU d v) H' nx' (fun k hk => by rw [keys_dU] at hk; exact List.mem_append_right _ hk) (fun h => by cases h) hK
  cases i with
  | alloc row => simp only [PE.step] at hs ⊢; rw [← hH, ← hn]; exact one _ _ _ hs
  | box n x =>
    obtain ⟨l, h1, h2, h3⟩ := hs
    have hx : s1.ev x = s2.ev x := Agree.ev hA
    refine ⟨l, by rw [← hx]; exact h1, h2, ?_⟩
    rw [← hH, ← hn]
    exact one _ _ _ h3
  | ld st x =>
    cases st with
    | false => simp [framed] at h
    | true =>
      have hx : s1.ev x = s2.ev x := Agree.ev hA
      rcases hs with ⟨k, off, row, c, h1, h2, h3, h4, h5⟩ | ⟨h0, row, off, c, h1, h2, h3⟩
      case inr => exact .inr ⟨by rw [← hx]; exact h0, row, off, c, by rw [← hx, ← hH]; exact h1, h2, by
        have := one (dg1 c) s1.H s1.nx (by cases d <;> exact h3)
        rw [hH, hn] at this
        cases d <;> exact this⟩
      refine .inl ⟨k, off, row, c, by rw [← hx]; exact h1, by rw [← hH]; exact h2, h3, h4, ?_⟩
      have e : (s2.putO d c).nx = (s1.putO d c).nx := by cases d <;> exact hn.symm
      have := one c _ _ h5
      rw [hH, ← e] at this
      exact this
  | st n x v =>
    obtain ⟨k, off, row, l, h1, h2, h3, h4, h5, h6, h7⟩ := hs
    have hx : s1.ev x = s2.ev x := Agree.ev hA.left
    have hv : s1.ev v = s2.ev v := Agree.ev hA.right
    refine ⟨k, off, row, l, by rw [← hx]; exact h1, by rw [← hH]; exact h2, by rw [← hv]; exact h3, h4, h5, h6, ?_⟩
    rw [putO_dU] at h7 ⊢
    rw [← hH, ← hn]
    exact hk (dU d undef) _ _ (fun k hk => by rw [keys_dU] at hk; exact List.mem_append_right _ hk) (fun h => by cases h) h7
  | sts x t =>
    obtain ⟨k, off, row, h1, h2, h3, h4, h5, h6, h7⟩ := hs
    have hx : s1.ev x = s2.ev x := Agree.ev fun y hy => hA y (by simp [rdS, hy])
    have ht : s1.t t = s2.t t := hA t (by simp [rdS])
    refine ⟨k, off, row, by rw [← hx]; exact h1, by rw [← hH]; exact h2, h3, h4, by rw [← ht]; exact h5, by rw [← ht]; exact h6, ?_⟩
    rw [putO_dU] at h7 ⊢
    rw [← ht, ← hH]
    have := hk ((t, dg (s1.t t)) :: dU d undef) (upd s1.H k (some (row.set off (s1.t t)))) s1.nx (fun k hk => by
      simp only [keys, List.map_cons, List.mem_cons] at hk
      rcases hk with hk | hk
      · subst hk; simp [wrS]
      · have : k ∈ keys (dU d undef) := hk
        rw [keys_dU] at this; exact List.mem_append_right _ this) (fun h => by cases h) h7
    rw [hn] at this
    exact this
  | call f args =>
    obtain ⟨T', h1, h2, h3⟩ := hs
    have ha : args.map s1.ev = args.map s2.ev := Agree.map hA
    refine ⟨T', h1, by rw [← hH]; exact h2, ?_⟩
    rw [← ha, ← hH, ← hn]
    exact PCalls_mono h3 fun p H' nx' hK => one p H' nx' hK
  | callv x args =>
    obtain ⟨f, first, caps, hf, hok, T', h1, h2, h3⟩ := hs
    have hx : s1.ev x = s2.ev x := Agree.ev hA.left
    have ha : args.map s1.ev = args.map s2.ev := Agree.map hA.right
    refine ⟨f, first, caps, by rw [← hx]; exact hf, hok, T', h1, by rw [← hH]; exact h2, ?_⟩
    rw [← ha, ← hH, ← hn]
    exact PCalls_mono h3 fun p H' nx' hK => one p H' nx' hK
  | stN x =>
    obtain ⟨k, off, row, h1, h2, h3, h4, h5⟩ := hs
    have hx : s1.ev x = s2.ev x := Agree.ev hA
    refine ⟨k, off, row, by rw [← hx]; exact h1, by rw [← hH]; exact h2, h3, h4, ?_⟩
    rw [putO_dU] at h5 ⊢
    rw [← hH, ← hn]
    exact hk (dU d undef) _ _ (fun k hk => by rw [keys_dU] at hk; exact List.mem_append_right _ hk) (fun h => by cases h) h5
  | mkB size bytes zero l c =>
    obtain ⟨kl, nl, kc, nc, h1, h2, h3, h4, h5, h6, h7⟩ := hs
    have hl : s1.ev l = s2.ev l := Agree.ev hA.left
    have hc : s1.ev c = s2.ev c := Agree.ev hA.right
    refine ⟨kl, nl, kc, nc, by rw [← hl]; exact h1, by rw [← hc]; exact h2, h3, h4, h5, h6, ?_⟩
    rw [← hH, ← hn]
    exact one _ _ _ h7
  | appB size bytes zero t x =>
    obtain ⟨m, cells, h1, h2⟩ := hs
    have hx : s1.ev x = s2.ev x := Agree.ev fun y hy => hA y (by simp [rdS, hy])
    have ht : s1.t t = s2.t t := hA t (by simp [rdS])
    have hp : ∀ v, K1 (s1.putO d v) → K2 (s2.putO d v) := fun v hv => by
      rw [putO_dU] at hv ⊢
      rw [← hH, ← hn]
      exact hk (dU d v) _ _ (fun k hk => by rw [keys_dU] at hk; exact List.mem_append_right _ hk) (fun h => by cases h) hv
    have hpn : ∀ v, (s2.putO d v).nx = (s1.putO d v).nx := fun v => by cases d <;> exact hn.symm
    refine ⟨m, cells, by rw [← hx, ← hH]; exact h1, ?_⟩
    rcases h2 with ⟨xs, a1, a2, a3, a4, a5, a6⟩ | ⟨k, off, n, cap, row, a1, a2, a3, a4, a5, a6, a7, a8, a9⟩
    · refine .inl ⟨xs, by rw [← ht]; exact a1, a2, a3, a4, fun h0 => hp _ (a5 h0), fun h0 cap c1 c2 => ?_⟩
      rw [← hH, ← hn]
      exact one _ _ _ (a6 h0 cap c1 c2)
    · refine .inr ⟨k, off, n, cap, row, by rw [← ht]; exact a1, by rw [← hH]; exact a2, a3, a4, a5, a6, a7, fun h0 => ?_, fun h0 cap' c1 c2 => ?_⟩
      · have := one _ _ _ (a8 h0)
        rw [← hpn] at this
        rw [← hH]
        exact this
      · rw [← hH, ← hn]
        exact one _ _ _ (a9 h0 cap' c1 c2)
  | cpy size x y =>
    obtain ⟨k, off, n, cap, row, m, cells, h1, h2, h3, h4, h5, h6⟩ := hs
    have hx : s1.ev x = s2.ev x := Agree.ev hA.left
    have hy : s1.ev y = s2.ev y := Agree.ev hA.right
    have hpn : ∀ v, (s2.putO d v).nx = (s1.putO d v).nx := fun v => by cases d <;> exact hn.symm
    refine ⟨k, off, n, cap, row, m, cells, by rw [← hx]; exact h1, by rw [← hH]; exact h2, h3, h4, by rw [← hy, ← hH]; exact h5, ?_⟩
    have := one _ _ _ h6
    rw [← hpn] at this
    rw [← hH]
    exact this
  | callB f args =>
    obtain ⟨H1, args', h1, h2, h3⟩ := hs
    have ha : args.map s1.ev = args.map s2.ev := Agree.map hA
    have hp : ∀ v, K1 (s1.putO d v) → K2 (s2.putO d v) := fun v hv => by
      rw [putO_dU] at hv ⊢
      rw [← hH, ← hn]
      exact hk (dU d v) _ _ (fun k hk => by rw [keys_dU] at hk; exact List.mem_append_right _ hk) (fun h => by cases h) hv
    refine ⟨H1, args', by rw [← hH]; exact h1, by rw [← hH, ← ha]; exact h2, ?_⟩
    rcases h3 with ⟨T', b1, b2, b3⟩ | ⟨v, b1, b2, b3⟩
    · refine .inl ⟨T', b1, b2, ?_⟩
      rw [← hn]
      exact PCalls_mono b3 fun p H' nx' hK => one p H' nx' hK
    · refine .inr ⟨v, b1, ?_, hp v b3⟩
      rw [← hn]; exact b2
  | _ => simp [framed] at h
end

/-! with guards -/
section
variable (C : Known) (P : Program) (T : Nat → Prop) (n0 : Nat)

/-- is an operation guarded by this value and this wish carried out? -/
def gB (v : Value) (b : Bool) : Option Bool := match v with | .bool c => some (c == b) | .tuple ⟨[]⟩ => some false | _ => none
def gstep (x : PO) (s : PS) (K : PS → Prop) : Prop :=
  match x.2.1 with
  | none => PE.step C P T n0 x.1 x.2.2 s K
  | some (t, b) => ∃ c, gB (s.ev (.tmp t)) b = some c ∧ (c = true → PE.step C P T n0 x.1 x.2.2 s K) ∧ (c = false → K (s.putO x.1 undef))
def gRd (x : PO) : List Nat := (match x.2.1 with | none => [] | some (t, _) => [t]) ++ rdS x.2.2
def gWr (x : PO) : List Nat := wrS x.2.2 ++ dS x.1

theorem gstep_neu (x : PO) (h : neutral x.2.2 = true) : Neu (gstep C P T n0 x) (gRd x) (gWr x) (looksH x.2.2) := by
  obtain ⟨d, g, i⟩ := x
  obtain ⟨E, e1, e2, e3⟩ := neutral_neu (C := C) (P := P) (T := T) (n0 := n0) (d := d) h
  cases g with
  | none => exact ⟨E, e1, e2, fun s s' hA hH => e3 s s' (fun y hy => hA y (by simpa [gRd] using hy)) hH⟩
  | some tb =>
    obtain ⟨t, b⟩ := tb
    refine ⟨fun s => (gB (s.ev (.tmp t)) b).bind fun c => if c = true then E s else some (dU d undef), fun s K => ?_, fun s us hu k hk => ?_, fun s s' hA hH => ?_⟩
    · simp only [gstep, Option.bind_eq_some_iff]
      constructor
      · rintro ⟨c, hc, h1, h2⟩
        by_cases hcb : c = true
        · obtain ⟨us, hu, hK⟩ := (e1 _ _).1 (h1 hcb)
          exact ⟨us, ⟨c, hc, by rw [if_pos hcb]; exact hu⟩, hK⟩
        · exact ⟨_, ⟨c, hc, by rw [if_neg hcb]⟩, by have := h2 (by simpa using hcb); rwa [putO_dU] at this⟩
      · rintro ⟨us, ⟨c, hc, hu⟩, hK⟩
        refine ⟨c, hc, fun hcb => ?_, fun hcb => ?_⟩
        · rw [if_pos hcb] at hu; exact (e1 _ _).2 ⟨us, hu, hK⟩
        · rw [if_neg (by simp [hcb])] at hu; obtain rfl := Option.some.inj hu; rw [putO_dU]; exact hK
    · obtain ⟨c, hc, hu⟩ := Option.bind_eq_some_iff.1 hu
      split at hu
      · exact e2 _ _ hu k hk
      · obtain rfl := Option.some.inj hu
        rw [keys_dU] at hk
        exact List.mem_append_right _ hk
    · have h1 : s.ev (.tmp t) = s'.ev (.tmp t) := Agree.ev fun y hy => hA y (by simp only [oS, List.mem_cons, List.not_mem_nil, or_false] at hy; subst hy; simp [gRd])
      have h2 : E s = E s' := e3 s s' (fun y hy => hA y (by simp [gRd, hy])) hH
      simp only [h1, h2]

theorem gstep_frm_of (x : PO) {ch : Bool} (h : Frm (PE.step C P T n0 x.1 x.2.2) (rdS x.2.2) (wrS x.2.2 ++ dS x.1) ch) : Frm (gstep C P T n0 x) (gRd x) (gWr x) ch := by
  obtain ⟨d, g, i⟩ := x
  cases g with
  | none => exact fun s1 s2 K1 K2 hH hn hA hs hk => h s1 s2 K1 K2 hH hn (fun y hy => hA y (by simpa [gRd] using hy)) hs hk
  | some tb =>
    obtain ⟨t, b⟩ := tb
    intro s1 s2 K1 K2 hH hn hA hs hk
    obtain ⟨c, hc, h1, h2⟩ := hs
    have he : s1.ev (.tmp t) = s2.ev (.tmp t) := Agree.ev fun y hy => hA y (by simp only [oS, List.mem_cons, List.not_mem_nil, or_false] at hy; subst hy; simp [gRd])
    refine ⟨c, by rw [← he]; exact hc, fun hcb => h s1 s2 K1 K2 hH hn (fun y hy => hA y (by simp [gRd, hy])) (h1 hcb) hk, fun hcb => ?_⟩
    have := h2 hcb
    rw [putO_dU] at this ⊢
    have := hk (dU d undef) s1.H s1.nx (fun k hk => by rw [keys_dU] at hk; exact List.mem_append_right _ hk) (fun _ => rfl) this
    rwa [hH, hn] at this
end

section
variable (P : Program) (T : Nat → Prop) (n0 : Nat)
def served (x : PO) : Bool := neutral x.2.2 || framed x.2.2
theorem gstep_frm (x : PO) (h : served x = true) : Frm (gstep (PCalls P) P T n0 x) (gRd x) (gWr x) (framed x.2.2) := by
  simp only [served, Bool.or_eq_true] at h
  by_cases hf : framed x.2.2 = true
  · rw [hf]; exact gstep_frm_of _ _ _ _ x (framed_frm hf)
  · exact (gstep_neu _ _ _ _ x (h.resolve_right hf)).frm

def disj (a b : List Nat) : Bool := a.all fun x => !b.contains x
theorem disj_iff {a b : List Nat} (h : disj a b = true) : ∀ x ∈ a, x ∉ b := fun x hx hb => by
  have := List.all_eq_true.1 h x hx
  simp [hb] at this
/-- x, which is neutral, and y may change places -/
def indep (x y : PO) : Bool := disj (gWr x) (gRd y) && disj (gWr x) (gWr y) && disj (gRd x) (gWr y) && (!looksH x.2.2 || !framed y.2.2)

theorem gswap {x y : PO} (hx : neutral x.2.2 = true) (hy : served y = true) (h : indep x y = true) {s : PS} {K : PS → Prop} (hs : gstep (PCalls P) P T n0 x s (fun s1 => gstep (PCalls P) P T n0 y s1 K)) :
    gstep (PCalls P) P T n0 y s (fun s2 => gstep (PCalls P) P T n0 x s2 K) := by
  simp only [indep, Bool.and_eq_true, Bool.or_eq_true, Bool.not_eq_true'] at h
  obtain ⟨⟨⟨h1, h2⟩, h3⟩, h4⟩ := h
  exact swap (gstep_neu _ _ _ _ x hx) (gstep_frm P T n0 y hy) (disj_iff h1) (disj_iff h2) (disj_iff h3) (fun hl => h4.resolve_left (by simp [hl])) hs

/-! whatever order -/
variable (ops : Array Oper) (L : List PO)
def stepAt (i : Nat) (s : PS) (K : PS → Prop) : Prop := match L[i]? with | some x => gstep (PCalls P) P T n0 x s K | none => K s
def wan : Nat → Array Bool → (PS → Prop) → PS → Prop
  | 0, listed, K, s => Region.ready .any ops listed = [] ∧ K s
  | fuel + 1, listed, K, s => (Region.ready .any ops listed = [] → K s) ∧ ∀ i ∈ Region.ready .any ops listed, stepAt P T n0 L i s (wan fuel (listed.setIfInBounds i true) K)

theorem set_comm (listed : Array Bool) (i j : Nat) : (listed.setIfInBounds i true).setIfInBounds j true = (listed.setIfInBounds j true).setIfInBounds i true := by
  apply Array.ext_getElem?
  intro k
  simp only [Array.getElem?_setIfInBounds, Array.size_setIfInBounds]
  repeat' split
  all_goals first | rfl | (subst_vars; simp_all)

theorem getD_unset {listed : Array Bool} {i j : Nat} (h : (listed.setIfInBounds i true).getD j true = false) : listed.getD j true = false := by
  by_cases hij : i = j
  · subst hij
    by_cases hlt : i < listed.size
    · simp [hlt] at h
    · have h0 : listed.size ≤ i := by omega
      simp [h0] at h
  · rwa [getD_set_ne true hij] at h

theorem wan_front {i : Nat} {x : PO} (hi : L[i]? = some x) (hx : neutral x.2.2 = true) (hsv : ∀ y ∈ L, served y = true) : ∀ (fuel : Nat) (listed : Array Bool) (K : PS → Prop) (s : PS), i ∈ Region.ready .any ops listed →
    (∀ j y, L[j]? = some y → j ≠ i → listed.getD j true = false → (∃ o, ops[j]? = some o ∧ ∃ e ∈ o.after, Region.binds .any e = true ∧ e.on = i) ∨ indep x y = true) →
    gstep (PCalls P) P T n0 x s (wan P T n0 ops L fuel (listed.setIfInBounds i true) K) → wan P T n0 ops L (fuel + 1) listed K s
  | fuel, listed, K, s, hr, hind, hs => by
    refine ⟨fun h0 => (by rw [h0] at hr; cases hr), fun j hj => ?_⟩
    by_cases hji : j = i
    · subst hji
      simp only [stepAt, hi]
      exact hs
    · have hj' := ready_mono (i := i) hj hji
      cases hy : L[j]? with
      | none =>
        simp only [stepAt, hy]
        cases fuel with
        | zero =>
          obtain ⟨E, e1, _, _⟩ := gstep_neu (PCalls P) P T n0 x hx
          obtain ⟨us, _, h0, _⟩ := (e1 _ _).1 hs
          rw [h0] at hj'; cases hj'
        | succ fuel =>
          have h2 := (gstep_frm P T n0 x (by simp [served, hx])).mono (K' := wan P T n0 ops L fuel ((listed.setIfInBounds j true).setIfInBounds i true) K) (fun s1 h1 => by
            have := h1.2 j hj'
            simp only [stepAt, hy] at this
            rw [set_comm]; exact this) hs
          exact wan_front hi hx hsv fuel _ K s (ready_mono hr (Ne.symm hji)) (fun j' y' hy' hne hun => hind j' y' hy' hne (getD_unset hun)) h2
      | some y =>
        simp only [stepAt, hy]
        have hdep : indep x y = true := by
          rcases hind j y hy hji (mem_ready.1 hj).1 with ⟨o, ho, e, he, hb, hon⟩ | h
          · exfalso
            obtain ⟨_, o', ho', hall⟩ := mem_ready.1 hj
            rw [ho] at ho'
            obtain rfl := Option.some.inj ho'
            have h1 := hall e he hb
            rw [hon] at h1
            have h2 := (mem_ready.1 hr).1
            simp only [Array.getD_eq_getD_getElem?] at h1 h2
            cases hc : listed[i]? with
            | none => rw [hc] at h2; simp at h2
            | some c => rw [hc] at h1 h2; simp at h1 h2; rw [h1] at h2; cases h2
          · exact h
        have hsy := hsv y (List.mem_of_getElem? hy)
        cases fuel with
        | zero =>
          obtain ⟨E, e1, _, _⟩ := gstep_neu (PCalls P) P T n0 x hx
          obtain ⟨us, _, h0, _⟩ := (e1 _ _).1 hs
          rw [h0] at hj'; cases hj'
        | succ fuel =>
          have h2 := (gstep_frm P T n0 x (by simp [served, hx])).mono (K' := fun s1 => gstep (PCalls P) P T n0 y s1 (wan P T n0 ops L fuel ((listed.setIfInBounds j true).setIfInBounds i true) K)) (fun s1 h1 => by
            have := h1.2 j hj'
            simp only [stepAt, hy] at this
            rw [set_comm]; exact this) hs
          have h3 := gswap P T n0 hx hsy hdep h2
          exact (gstep_frm P T n0 y hsy).mono (fun s2 h4 => wan_front hi hx hsv fuel _ K s2 (ready_mono hr (Ne.symm hji)) (fun j' y' hy' hne hun => hind j' y' hy' hne (getD_unset hun)) h4) h3

/-! the orders that differ, as a tree -/
inductive PT where
  | done
  | one (x : PO) (r : PT)
  | alt (a b : PT)
def wpt : PT → (PS → Prop) → PS → Prop
  | .done, K, s => K s
  | .one x r, K, s => gstep (PCalls P) P T n0 x s (wpt r K)
  | .alt a b, K, s => wpt a K s ∧ wpt b K s
def altAll : List (Option PT) → Option PT
  | [] => none
  | [x] => x
  | x :: r => match x, altAll r with | some a, some b => some (.alt a b) | _, _ => none
theorem altAll_all {K : PS → Prop} {s : PS} : ∀ {l : List (Option PT)} {t : PT}, altAll l = some t → wpt P T n0 t K s → ∀ x ∈ l, ∃ t', x = some t' ∧ wpt P T n0 t' K s
  | [], t, h, _, x, hx => by cases hx
  | [y], t, h, hw, x, hx => by
    obtain rfl : x = y := by simpa using hx
    exact ⟨t, h, hw⟩
  | y :: z :: r, t, h, hw, x, hx => by
    unfold altAll at h
    split at h
    · rename_i a b hb
      obtain rfl := Option.some.inj h
      rcases List.mem_cons.1 hx with rfl | hx
      · exact ⟨_, rfl, hw.1⟩
      · exact altAll_all hb hw.2 x hx
    · cases h

end
end Go.PE
namespace Go.PE
open Go
def msk : List Nat → Nat
  | [] => 0
  | x :: r => 2 ^ x ||| msk r
theorem msk_bit (l : List Nat) (i : Nat) : (msk l).testBit i = true ↔ i ∈ l := by
  induction l with
  | nil => simp [msk]
  | cons x r ih =>
    unfold msk
    rw [Nat.testBit_or, Bool.or_eq_true, ih, Nat.testBit_two_pow, decide_eq_true_eq, List.mem_cons]
    exact ⟨fun h => h.imp Eq.symm id, fun h => h.imp Eq.symm id⟩
def subM (a m : Nat) : Bool := Nat.beq (a &&& m) a
theorem subM_iff (a m : Nat) : subM a m = true ↔ ∀ i, a.testBit i = true → m.testBit i = true := by
  unfold subM
  rw [Nat.beq_eq]
  constructor
  · intro h i hi
    have : (a &&& m).testBit i = true := by rw [h]; exact hi
    rw [Nat.testBit_and, Bool.and_eq_true] at this
    exact this.2
  · intro h
    refine Nat.eq_of_testBit_eq fun i => ?_
    rw [Nat.testBit_and]
    cases ha : a.testBit i with
    | false => rfl
    | true => rw [h i ha]; rfl
def sepM (a b : Nat) : Bool := Nat.beq (a &&& b) 0
theorem sepM_iff (a b : Nat) : sepM a b = true ↔ ∀ i, a.testBit i = true → b.testBit i = false := by
  unfold sepM
  rw [Nat.beq_eq]
  constructor
  · intro h i hi
    have : (a &&& b).testBit i = false := by rw [h]; simp
    rw [Nat.testBit_and, hi] at this
    simpa using this
  · intro h
    refine Nat.eq_of_testBit_eq fun i => ?_
    rw [Nat.testBit_and]
    cases ha : a.testBit i with
    | false => simp
    | true => rw [h i ha]; simp
theorem sepM_disj {a b : List Nat} (h : sepM (msk a) (msk b) = true) : disj a b = true := by
  unfold disj
  rw [List.all_eq_true]
  intro x hx
  have := (sepM_iff _ _).1 h x ((msk_bit _ _).2 hx)
  have hb : ¬ x ∈ b := fun hb => by rw [(msk_bit _ _).2 hb] at this; cases this
  simpa using hb
/-- an operation: what it writes and reads, whether it looks at boxes, whether it may turn them -/
structure QO where
  x : PO
  w : Nat
  r : Nat
  lk : Bool
  fr : Bool
  dep : Nat
def depM (o : Oper) : Nat := msk ((o.after.toList.filter fun e => Region.binds .any e).map (·.on))
def prepQ (x : PO) (o : Oper) : QO := ⟨x, msk (gWr x), msk (gRd x), looksH x.2.2, framed x.2.2, depM o⟩
def indM (a b : QO) : Bool := sepM a.w b.r && sepM a.w b.w && sepM a.r b.w && (!a.lk || !b.fr)
theorem indM_indep {x y : PO} {o p : Oper} (h : indM (prepQ x o) (prepQ y p) = true) : indep x y = true := by
  simp only [indM, prepQ, Bool.and_eq_true] at h
  simp only [indep, Bool.and_eq_true]
  exact ⟨⟨⟨sepM_disj h.1.1.1, sepM_disj h.1.1.2⟩, sepM_disj h.1.2⟩, h.2⟩
/-- those that do not change places with the i-th one, and need not wait for it -/
def confM (a : QO) (i : Nat) : List QO → Nat → Nat
  | [], _ => 0
  | b :: r, j => if Nat.beq j i || !sepM (2 ^ i) b.dep || indM a b then confM a i r (j + 1) else 2 ^ j ||| confM a i r (j + 1)
theorem confM_bit {a : QO} {i : Nat} : ∀ {l : List QO} {j k : Nat} {b : QO}, l[k]? = some b → (confM a i l j).testBit (j + k) = false → (j + k = i ∨ sepM (2 ^ i) b.dep = false ∨ indM a b = true)
  | [], j, k, b, h, _ => by simp at h
  | c :: r, j, 0, b, h, hb => by
    simp at h; subst h
    unfold confM at hb
    split at hb
    · rename_i hc
      simp only [Bool.or_eq_true, Bool.not_eq_true', Nat.beq_eq] at hc
      rcases hc with (hc | hc) | hc
      · exact .inl hc
      · exact .inr (.inl hc)
      · exact .inr (.inr hc)
    · rw [Nat.testBit_or, Nat.testBit_two_pow] at hb
      simp at hb
  | c :: r, j, k + 1, b, h, hb => by
    have hb' : (confM a i r (j + 1)).testBit (j + 1 + k) = false := by
      unfold confM at hb
      rw [show j + 1 + k = j + (k + 1) by omega]
      split at hb
      · exact hb
      · rw [Nat.testBit_or] at hb
        simp only [Bool.or_eq_false_iff] at hb
        exact hb.2
    have := confM_bit (l := r) (j := j + 1) (k := k) (by simpa using h) hb'
    rwa [show j + 1 + k = j + (k + 1) by omega] at this
/-- ready: its number, itself, with which it does not change places -/
def rdyM (m : Nat) : List (QO × Nat) → Nat → List (Nat × QO × Nat)
  | [], _ => []
  | (a, c) :: r, j => if sepM (2 ^ j) m && subM a.dep m then (j, a, c) :: rdyM m r (j + 1) else rdyM m r (j + 1)
theorem mem_rdyM {m : Nat} : ∀ {l : List (QO × Nat)} {j i : Nat} {a : QO} {c : Nat}, (i, a, c) ∈ rdyM m l j ↔ j ≤ i ∧ l[i - j]? = some (a, c) ∧ m.testBit i = false ∧ subM a.dep m = true
  | [], j, i, a, c => by simp [rdyM]
  | (b, d) :: r, j, i, a, c => by
    have ih := @mem_rdyM m r (j + 1) i a c
    have hs : sepM (2 ^ j) m = true ↔ m.testBit j = false := by
      rw [sepM_iff]
      constructor
      · intro h; exact h j (by rw [Nat.testBit_two_pow]; simp)
      · intro h k hk
        rw [Nat.testBit_two_pow, decide_eq_true_eq] at hk
        subst hk; exact h
    have hstep : ((i, a, c) ∈ rdyM m ((b, d) :: r) j) ↔ ((i = j ∧ a = b ∧ c = d ∧ m.testBit j = false ∧ subM b.dep m = true) ∨ (i, a, c) ∈ rdyM m r (j + 1)) := by
      rw [show rdyM m ((b, d) :: r) j = if sepM (2 ^ j) m && subM b.dep m then (j, b, d) :: rdyM m r (j + 1) else rdyM m r (j + 1) from rfl]
      split
      · rename_i h
        rw [Bool.and_eq_true, hs] at h
        simp only [List.mem_cons, Prod.mk.injEq]
        constructor
        · rintro (⟨h1, h2, h3⟩ | h1)
          · exact .inl ⟨h1, h2, h3, h.1, h.2⟩
          · exact .inr h1
        · rintro (⟨h1, h2, h3, _⟩ | h1)
          · exact .inl ⟨h1, h2, h3⟩
          · exact .inr h1
      · rename_i h
        rw [Bool.and_eq_true, hs] at h
        exact ⟨.inr, fun h1 => h1.elim (fun h2 => absurd ⟨h2.2.2.2.1, h2.2.2.2.2⟩ h) id⟩
    rw [hstep, ih]
    constructor
    · rintro (⟨rfl, rfl, rfl, h1, h2⟩ | ⟨h1, h2, h3⟩)
      · exact ⟨Nat.le_refl _, by simp, h1, h2⟩
      · refine ⟨by omega, ?_, h3⟩
        rw [show i - j = (i - (j + 1)) + 1 by omega]
        simpa using h2
    · rintro ⟨h1, h2, h3, h4⟩
      by_cases hij : i = j
      · subst hij
        simp at h2
        obtain ⟨rfl, rfl⟩ := h2
        exact .inl ⟨rfl, rfl, rfl, h3, h4⟩
      · refine .inr ⟨by omega, ?_, h3, h4⟩
        rw [show i - j = (i - (j + 1)) + 1 by omega] at h2
        simpa using h2
def mkM (D : List (QO × Nat)) : Nat → Nat → Option PT
  | 0, m => if (rdyM m D 0).isEmpty then some .done else none
  | fuel + 1, m => match rdyM m D 0 with
    | [] => some .done
    | rs => match rs.find? fun p => neutral p.2.1.x.2.2 && subM p.2.2 m with
      | some p => (mkM D fuel (2 ^ p.1 ||| m)).map (.one p.2.1.x)
      | none => altAll (rs.map fun p => (mkM D fuel (2 ^ p.1 ||| m)).map (.one p.2.1.x))
def prepL : List PO → List Oper → List QO
  | x :: l, o :: os => prepQ x o :: prepL l os
  | _, _ => []
def withC (all : List QO) : List QO → Nat → List (QO × Nat)
  | [], _ => []
  | a :: r, i => (a, confM a i all 0) :: withC all r (i + 1)
def dataM (ops : Array Oper) (L : List PO) : List (QO × Nat) := let q := prepL L ops.toList; withC q q 0
theorem prepL_get : ∀ {l : List PO} {os : List Oper} {i : Nat} {x : PO} {o : Oper}, l[i]? = some x → os[i]? = some o → (prepL l os)[i]? = some (prepQ x o)
  | [], _, i, x, o, h, _ => by simp at h
  | _ :: _, [], i, x, o, _, h => by simp at h
  | y :: l, p :: os, 0, x, o, h1, h2 => by simp at h1 h2; subst h1; subst h2; rfl
  | y :: l, p :: os, i + 1, x, o, h1, h2 => by
    unfold prepL
    simpa using prepL_get (l := l) (os := os) (by simpa using h1) (by simpa using h2)
theorem prepL_inv : ∀ {l : List PO} {os : List Oper} {i : Nat} {a : QO}, (prepL l os)[i]? = some a → ∃ x o, l[i]? = some x ∧ os[i]? = some o ∧ a = prepQ x o
  | [], _, i, a, h => by simp [prepL] at h
  | _ :: _, [], i, a, h => by simp [prepL] at h
  | y :: l, p :: os, 0, a, h => by
    simp [prepL] at h
    exact ⟨y, p, rfl, rfl, h.symm⟩
  | y :: l, p :: os, i + 1, a, h => by
    unfold prepL at h
    simpa using prepL_inv (l := l) (os := os) (i := i) (by simpa using h)
theorem withC_get {all : List QO} : ∀ {l : List QO} {j i : Nat} {a : QO} {c : Nat}, (withC all l j)[i]? = some (a, c) ↔ l[i]? = some a ∧ c = confM a (j + i) all 0
  | [], j, i, a, c => by simp [withC]
  | b :: r, j, 0, a, c => by
    simp only [withC, List.getElem?_cons_zero, Option.some.injEq, Prod.mk.injEq, Nat.add_zero]
    constructor
    · rintro ⟨rfl, rfl⟩; exact ⟨rfl, rfl⟩
    · rintro ⟨rfl, rfl⟩; exact ⟨rfl, rfl⟩
  | b :: r, j, i + 1, a, c => by
    simp only [withC, List.getElem?_cons_succ]
    rw [withC_get (l := r) (j := j + 1), show j + 1 + i = j + (i + 1) by omega]
theorem dataM_get {ops : Array Oper} {L : List PO} {i : Nat} {a : QO} {c : Nat} (h : (dataM ops L)[i]? = some (a, c)) : ∃ x o, L[i]? = some x ∧ ops[i]? = some o ∧ a = prepQ x o ∧ c = confM a i (prepL L ops.toList) 0 := by
  obtain ⟨h1, h2⟩ := withC_get.1 h
  obtain ⟨x, o, h3, h4, h5⟩ := prepL_inv h1
  exact ⟨x, o, h3, by simpa using h4, h5, by rw [h2, Nat.zero_add]⟩
theorem dataM_mk {ops : Array Oper} {L : List PO} {i : Nat} {x : PO} {o : Oper} (h1 : L[i]? = some x) (h2 : ops[i]? = some o) : (dataM ops L)[i]? = some (prepQ x o, confM (prepQ x o) i (prepL L ops.toList) 0) :=
  withC_get.2 ⟨prepL_get h1 (by simpa using h2), by rw [Nat.zero_add]⟩
theorem depM_bit {o : Oper} {i : Nat} : (depM o).testBit i = true ↔ ∃ e ∈ o.after, Region.binds .any e = true ∧ e.on = i := by
  unfold depM
  rw [msk_bit]
  simp only [List.mem_map, List.mem_filter, Array.mem_toList_iff]
  exact ⟨fun ⟨e, ⟨h1, h2⟩, h3⟩ => ⟨e, h1, h2, h3⟩, fun ⟨e, h1, h2, h3⟩ => ⟨e, ⟨h1, h2⟩, h3⟩⟩
def RelM (listed : Array Bool) (m n : Nat) : Prop := listed.size = n ∧ (∀ i, i < n → listed.getD i true = m.testBit i) ∧ ∀ i, n ≤ i → m.testBit i = false
theorem RelM.set {listed : Array Bool} {m n i : Nat} (h : RelM listed m n) (hi : i < n) : RelM (listed.setIfInBounds i true) (2 ^ i ||| m) n := by
  obtain ⟨h1, h2, h3⟩ := h
  refine ⟨by simpa using h1, fun j hj => ?_, fun j hj => ?_⟩
  · rw [Nat.testBit_or, Nat.testBit_two_pow]
    by_cases hij : i = j
    · subst hij; simp [h1, hi]
    · rw [getD_set_ne true hij, h2 j hj]; simp [hij]
  · rw [Nat.testBit_or, Nat.testBit_two_pow, h3 j hj]
    simp; omega
section
variable {ops : Array Oper} {L : List PO}
theorem ready_rdyM {listed : Array Bool} {m i : Nat} (hR : RelM listed m ops.size) (hl : L.length = ops.size) (hi : i ∈ Region.ready .any ops listed) : ∃ x o, L[i]? = some x ∧ ops[i]? = some o ∧ (i, prepQ x o, confM (prepQ x o) i (prepL L ops.toList) 0) ∈ rdyM m (dataM ops L) 0 := by
  obtain ⟨h1, o, ho, hall⟩ := mem_ready.1 hi
  have hlt : i < ops.size := (Array.getElem?_eq_some_iff.1 ho).1
  have hx : L[i]? = some (L[i]'(by omega)) := List.getElem?_eq_getElem _
  refine ⟨_, o, hx, ho, mem_rdyM.2 ⟨Nat.zero_le _, by rw [Nat.sub_zero]; exact dataM_mk hx ho, by rw [← hR.2.1 i hlt]; exact h1, (subM_iff _ _).2 fun j hj => ?_⟩⟩
  obtain ⟨e, he, hb, rfl⟩ := depM_bit.1 hj
  have h2 := hall e he hb
  by_cases hjn : e.on < ops.size
  · rw [← hR.2.1 _ hjn]
    have hs : e.on < listed.size := by rw [hR.1]; exact hjn
    simp only [Array.getD_eq_getD_getElem?, Array.getElem?_eq_getElem hs, Option.getD_some] at h2 ⊢
    exact h2
  · have hs : listed.size ≤ e.on := by rw [hR.1]; omega
    rw [Array.getD_eq_getD_getElem?, Array.getElem?_eq_none hs] at h2
    simp at h2
theorem rdyM_ready {listed : Array Bool} {m i c : Nat} {a : QO} (hR : RelM listed m ops.size) (hi : (i, a, c) ∈ rdyM m (dataM ops L) 0) : ∃ x o, L[i]? = some x ∧ ops[i]? = some o ∧ a = prepQ x o ∧ c = confM a i (prepL L ops.toList) 0 ∧ i ∈ Region.ready .any ops listed ∧ i < ops.size := by
  obtain ⟨_, h1, h2, h3⟩ := mem_rdyM.1 hi
  rw [Nat.sub_zero] at h1
  obtain ⟨x, o, hx, ho, rfl, rfl⟩ := dataM_get h1
  have hlt : i < ops.size := (Array.getElem?_eq_some_iff.1 ho).1
  refine ⟨x, o, hx, ho, rfl, rfl, mem_ready.2 ⟨by rw [hR.2.1 i hlt]; exact h2, o, ho, fun e he hb => ?_⟩, hlt⟩
  have h4 := (subM_iff _ _).1 h3 e.on (depM_bit.2 ⟨e, he, hb, rfl⟩)
  have hjn : e.on < ops.size := by
    rcases Nat.lt_or_ge e.on ops.size with h | h
    · exact h
    · rw [hR.2.2 _ h] at h4; cases h4
  rw [← hR.2.1 _ hjn] at h4
  have hs : e.on < listed.size := by rw [hR.1]; exact hjn
  simp only [Array.getD_eq_getD_getElem?, Array.getElem?_eq_getElem hs, Option.getD_some] at h4 ⊢
  exact h4
variable (P : Program) (T : Nat → Prop) (n0 : Nat)
theorem mkM_sound (hl : L.length = ops.size) (hsv : ∀ y ∈ L, served y = true) : ∀ (fuel : Nat) (listed : Array Bool) (m : Nat) (t : PT) (K : PS → Prop) (s : PS), RelM listed m ops.size → mkM (dataM ops L) fuel m = some t → wpt P T n0 t K s → wan P T n0 ops L fuel listed K s
  | 0, listed, m, t, K, s, hR, h, hw => by
    unfold mkM at h
    split at h
    · rename_i h0
      obtain rfl := Option.some.inj h
      refine ⟨?_, hw⟩
      rw [List.eq_nil_iff_forall_not_mem]
      intro i hi
      obtain ⟨x, o, _, _, h1⟩ := ready_rdyM (L := L) hR hl hi
      rw [List.isEmpty_iff.1 h0] at h1; cases h1
    · cases h
  | fuel + 1, listed, m, t, K, s, hR, h, hw => by
    unfold mkM at h
    split at h
    · rename_i h0
      obtain rfl := Option.some.inj h
      refine ⟨fun _ => hw, fun i hi => ?_⟩
      obtain ⟨x, o, _, _, h1⟩ := ready_rdyM (L := L) hR hl hi
      rw [h0] at h1; cases h1
    · rename_i rs hne
      split at h
      · rename_i p hp
        obtain ⟨r, hr, rfl⟩ := Option.map_eq_some_iff.1 h
        obtain ⟨i, a, c⟩ := p
        have hmem := List.mem_of_find?_eq_some hp
        have hfree := List.find?_some hp
        obtain ⟨x, o, hx, ho, rfl, rfl, hrd, hlt⟩ := rdyM_ready hR hmem
        simp only [Bool.and_eq_true] at hfree
        have hn : neutral x.2.2 = true := hfree.1
        refine wan_front P T n0 ops L hx hn hsv fuel listed K s hrd (fun j y hy hne' hun => ?_) ?_
        · have hj : j < ops.size := by rw [← hl]; exact (List.getElem?_eq_some_iff.1 hy).1
          have hoj : ops[j]? = some ops[j] := Array.getElem?_eq_getElem hj
          have hbit : (confM (prepQ x o) i (prepL L ops.toList) 0).testBit (0 + j) = false := by
            rw [Nat.zero_add]
            cases hb : (confM (prepQ x o) i (prepL L ops.toList) 0).testBit j with
            | false => rfl
            | true =>
              have := (subM_iff _ _).1 hfree.2 j hb
              rw [← hR.2.1 j hj, hun] at this; cases this
          rcases confM_bit (prepL_get hy (show ops.toList[j]? = some ops[j] by rw [Array.getElem?_toList]; exact hoj)) hbit with h1 | h1 | h1
          · exact absurd (by omega) hne'
          · left
            have : ¬ ∀ k, (2 ^ i).testBit k = true → (depM ops[j]).testBit k = false := fun hall => by
              have := (sepM_iff _ _).2 hall
              rw [show sepM (2 ^ i) (depM ops[j]) = false from h1] at this; cases this
            have hd : (depM ops[j]).testBit i = true := by
              cases hd : (depM ops[j]).testBit i with
              | true => rfl
              | false => exact absurd (fun k hk => by rw [Nat.testBit_two_pow, decide_eq_true_eq] at hk; subst hk; exact hd) this
            obtain ⟨e, he, hb, hon⟩ := depM_bit.1 hd
            exact ⟨_, hoj, e, he, hb, hon⟩
          · exact .inr (indM_indep h1)
        · exact (gstep_frm P T n0 x (by simp [served, hn])).mono (fun s1 h1 => mkM_sound hl hsv fuel _ _ r K s1 (hR.set hlt) hr h1) hw
      · refine ⟨fun h0 => ?_, fun i hi => ?_⟩
        · cases hrs : rdyM m (dataM ops L) 0 with
          | nil => exact absurd hrs hne
          | cons q qs =>
            obtain ⟨i, a, c⟩ := q
            obtain ⟨_, _, _, _, _, _, hrd, _⟩ := rdyM_ready (L := L) (i := i) (a := a) (c := c) hR (by rw [hrs]; exact List.mem_cons_self ..)
            rw [h0] at hrd; cases hrd
        · obtain ⟨x, o, hx, ho, hm⟩ := ready_rdyM (L := L) hR hl hi
          have hlt : i < ops.size := (Array.getElem?_eq_some_iff.1 ho).1
          obtain ⟨t', ht', hw'⟩ := altAll_all P T n0 h hw _ (List.mem_map.2 ⟨_, hm, rfl⟩)
          obtain ⟨r, hr, rfl⟩ := Option.map_eq_some_iff.1 ht'
          simp only [stepAt, hx]
          exact (gstep_frm P T n0 x (hsv x (List.mem_of_getElem? hx))).mono (fun s1 h1 => mkM_sound hl hsv fuel _ _ r K s1 (hR.set hlt) hr h1) hw'
end
end Go.PE
