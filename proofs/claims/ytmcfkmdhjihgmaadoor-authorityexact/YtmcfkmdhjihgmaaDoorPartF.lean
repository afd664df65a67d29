/- closed: DONE. authority.Of. Layer 8: the pure code of the references. The references: times, has, Full. The references: times. The references: closed, a minute. The references: closed, the days. The references: closed, the runs of minutes. The references: closed, the loops. The references: closed. The references: Of, as plain data. The references: Of. The references: Of, a predicate. The references: Of. DONE. The references: SameAuthority. Of: the examples of the chapter; what Of returns is one thing. Pure code: the law AuthorityOf, awake. AuthorityOf: the law. Two authorities are equal. Which authorities are valid. -/
import Derived.Test.YtmcfkmdhjihgmaaDoorPartE
import Derived.Test.YtmcfkmdhjihgmaaDoorPartC
set_option linter.all false
namespace Go.PE
open Go
def ClosedOK (P : Program) (f : Nat) : Prop := ∀ (a : Aut), WfI a → ∀ (H : Nat → Option (List Value)) (nx : Nat), PCalls P f [a.v] H nx (fun _ => False) (fun r H' _ => (∃ r', r = r'.v ∧ IsClosed a r') ∧ H' = H)
/-- a summary whose list lies in a box of one's own: it is frozen -/
theorem wF_out {n0 n1 nx : Nat} {H0 H : Nat → Option (List Value)} {R : Post} {v : Value} {l : List Spn} {a : Aut} {d fr to : Int} (hw : ∀ k, n0 ≤ k → H0 k = none) (ho : Own n0 H0 H) (hn : n0 ≤ n1) (hB : Bx spEl n1 H H nx v l) (hl : l ≠ []) (hR : R (Aut.mk false a.zones a.lines d fr to l a.holder).v H0 nx) :
    wF (some [ag (outRow a d fr to v)]) n0 R H nx := by
  obtain ⟨k, cap, rest, rfl, a2, a3, a4, a5, a6, a7⟩ := hB.at (List.length_pos_iff.2 hl)
  refine ⟨_, rfl, H0, [(Aut.mk false a.zones a.lines d fr to l a.holder).v], ho.sub hw, ⟨rfl, fun i x y hx hy => ?_⟩, hR⟩
  cases i with
  | succ i => simp at hx
  | zero =>
    simp at hx hy; subst hx; subst hy
    refine .inr ⟨_, _, rfl, rfl, rfl, fun i x y hx hy => ?_⟩
    match i with
    | 6 =>
      have hx : slc k 0 l.length cap = x := Option.some.inj hx
      have hy : deep (l.map Spn.v) = y := Option.some.inj hy
      subst hx; subst hy
      exact Cv1_list spEl.f spEl.g spEl.hg spEl.size spEl.hf spEl.hd a4 (hw k (by omega)) (by omega) a7
    | 0 | 1 | 2 | 3 | 4 | 5 | 7 => exact .inl (Option.some.inj (hx.symm.trans hy)).symm
    | i + 8 => simp [outRow] at hx
/-- before a day -/
structure CInv (a : Aut) (nx : Nat) (H : Nat → Option (List Value)) (day : Int) (s : PS) : Prop where
  t1 : s.t 1 = ptr nx 0
  t2 : s.t 2 = ptr (nx + 1) 0
  t3 : s.t 3 = .int .i64 (a.fr / 1440)
  t4 : s.t 4 = .int .i64 (a.to / 1440)
  t5 : s.t 5 = ptr (nx + 1 + 1) 0
  ha : s.H nx = some a.cells
  own : Own nx H s.H
  h2 : ∃ c, s.H (nx + 1) = some c ∧ c.length = 8
  o : ∃ d fr to v l, s.H (nx + 1 + 1) = some (outRow a d fr to v) ∧ Bx spEl (nx + 1 + 1 + 1) s.H s.H s.nx v l ∧ CloO (SV 8 a day) fr to d l 67108865
theorem CloO.bounds {a : Aut} {n day d fr to : Int} {l : List Spn} (ha : WfI a) (h : CloO (SV n a day) fr to d l 67108865) : (0 ≤ fr ∧ fr ≤ 67108865) ∧ (-1 ≤ to ∧ to ≤ 67108864) ∧ isU64 d ∧ canon (-1) l ∧ ∀ k, inS l k → k < 1440 := by
  have hfb := ha.fb
  rcases h with ⟨rfl, rfl, rfl, rfl, _⟩ | h
  · exact ⟨by omega, by omega, ⟨by omega, by omega⟩, trivial, fun k hk => absurd hk (inS_nil _)⟩
  · have h1 := h.fr.1.1; have h2 := h.to.1.1
    exact ⟨⟨by have := h1.1; omega, by have := h1.2.1; omega⟩, ⟨by have := h2.1; omega, by have := h2.2.1; omega⟩, h.u, h.c, fun k hk => by
      obtain ⟨m, _, e⟩ := (h.l k).1 hk; omega⟩
section
variable {P : Program} {tS da me no : Nat} (hda : DayOK P da tS) (hme : MergedOK P me)
include hda hme
theorem cl_j2 {a : Aut} {nx : Nat} {H : Nat → Option (List Value)} {day : Int} {s : PS} {Q : Ex → PS → Prop} (ha : WfI a) (h : CInv a nx H day s) (h6 : s.t 6 = .int .i64 day) (hn : near 8 (a.fr / 1440) (a.to / 1440) day) (hnx : nx + 1 + 1 + 1 ≤ s.nx)
    (hK : ∀ ex s', (ex = Ex.nrm ∨ ex = Ex.ext 1) → CInv a nx H (day + 1) s' → s'.t 6 = .int .i64 day → nx + 1 + 1 + 1 ≤ s'.nx → Q ex s') :
    wpc (PCalls P) P (fun _ => False) nx (authority_closed_BC_j2 da me) Q s := by
  obtain ⟨T, H', nx'⟩ := s
  obtain ⟨e1, e2, e3, e4, e5, hha, hown, ⟨c, hc2, hcl⟩, d, fr, to, v, l, hout, hB, hcl8⟩ := h
  simp only at e1 e2 e3 e4 e5 hha hown hc2 hout hB h6 hnx
  have hmx : (maxLen : Int) = 9223372036854775807 := rfl
  have hfb := ha.fb
  obtain ⟨n1, n2, n3⟩ := hn
  obtain ⟨hdl, hds⟩ := canon_day ha.c ha.k
  simp [authority_closed_BC_j2, e1, h6, hha, Aut.ag]
  refine wCallB_of (wCall_eq (Q := fun r => r = lin tS ((dayL a day).map Spn.v)) (hda a day (by omega) ha.du hfb.1 hfb.2.1 hfb.2.2.1 hfb.2.2.2 (by omega) (by omega) _ _) fun r m1 hr hm1 => ?_)
  subst hr
  simp at hm1
  obtain ⟨hfrb, htob, hdu, hcl1, hk1⟩ := hcl8.bounds ha
  have hcd := dayL_canon (a := a) (d := day) ha.c
  have hin := fun k => dayL_inS (a := a) (d := day) (k := k) (fun j hj => ⟨by have := canon_lt ha.c hj; omega, ha.k j hj⟩)
  have hk2 : ∀ k, inS (dayL a day) k → 0 ≤ k ∧ k < 1440 := fun k hk => ((hin k).1 hk).2
  obtain ⟨hl1, hl2⟩ := canon_day hcl1 hk1
  obtain ⟨hl3, hl4⟩ := canon_day hcd (fun k hk => (hk2 k hk).2)
  by_cases hne : dayL a day = []
  · simp [hne]
    refine hK _ _ (.inr rfl) ⟨by simp [e1], by simp [e2], by simp [e3], by simp [e4], by simp [e5], hha, hown, ⟨c, hc2, hcl⟩, d, fr, to, v, l, hout, hB.mo hm1, clo_same ha hcl8 hne⟩ (by simp [h6]) (by show nx + 1 + 1 + 1 ≤ m1; omega)
  · obtain ⟨x, r, hx⟩ := List.exists_cons_of_ne_nil hne
    obtain ⟨o, y, hy⟩ : ∃ o y, dayL a day = o ++ [y] := by
      rcases List.eq_nil_or_concat (dayL a day) with h | ⟨o, y, h⟩
      · exact absurd h hne
      · exact ⟨o, y, by simpa using h⟩
    have hlen0 : ((dayL a day).length : Int) ≠ 0 := by rw [hx]; simp; omega
    have hlen1 : (((dayL a day).length : Int) == 0) = false := by simpa using hlen0
    have hxm : inS (dayL a day) x.f := ⟨x, by rw [hx]; simp, Int.le_refl _, (canon_mem hcd (by rw [hx]; simp)).2⟩
    have hym : inS (dayL a day) y.t := ⟨y, by rw [hy]; simp, (canon_mem hcd (by rw [hy]; simp)).2, Int.le_refl _⟩
    simp [hlen1, hne]
    refine cl_j1 (tS := tS) (n1 := nx + 1 + 1 + 1) (ko := nx + 1 + 1) (a := a) (day := day) (d := d) (fr := fr) (to := to) (v := v) (l := l) (ld := dayL a day) (x := x) (y := y) hme (by omega) (by omega) (by omega) (by omega) hdu (by omega) (by omega) (fun s hs => ?_) (by simp; omega) (by rw [hx]; rfl) (by rw [hy]; simp) (hk2 _ hxm) (hk2 _ hym) (by simp [e5]) (by simp [h6]) (by simp) hout (hB.mo hm1) fun t' H2 n' v' l' p1 p2 p3 p4 p5 p6 p7 => ?_
    · rcases List.mem_append.1 hs with hs | hs
      · exact hl2 s hs
      · exact hl4 s hs
    · have hkeep : ∀ u, u < 7 → t' u = T u := fun u hu => (p1 u hu).trans (by
        have : u = 0 ∨ u = 1 ∨ u = 2 ∨ u = 3 ∨ u = 4 ∨ u = 5 ∨ u = 6 := by omega
        rcases this with rfl | rfl | rfl | rfl | rfl | rfl | rfl <;> rfl)
      refine hK _ _ (.inl rfl) ⟨(hkeep 1 (by omega)).trans e1, (hkeep 2 (by omega)).trans e2, (hkeep 3 (by omega)).trans e3, (hkeep 4 (by omega)).trans e4, (hkeep 5 (by omega)).trans e5, ?_, fun j hj => ?_, ⟨c, ?_, hcl⟩, _, _, _, v', l', p4, p7, ?_⟩ ((hkeep 6 (by omega)).trans h6) p6
      · show H2 nx = _
        rw [p5 nx (by omega) (by omega)]; exact hha
      · show H2 j = _
        rw [p5 j (by omega) (by omega)]; exact hown j hj
      · show H2 (nx + 1) = _
        rw [p5 (nx + 1) (by omega) (by omega)]; exact hc2
      · exact clo_step ha hcl8 (by omega) ⟨n1, n2, n3⟩ hxm (fun k hk => by rw [hx] at hk hcd; exact canon_head hcd hk) hym (fun k hk => by rw [hy] at hk hcd; exact canon_last hcd hk) p2 p3
end
theorem closed_ok {P : Program} {f tS da me no : Nat} (hc : compFnX P [tS, 1000000] f = some (98, authority_closed_BC da me no, [.cA 2 8])) (hda : DayOK P da tS) (hme : MergedOK P me) (hno : NoneOK P no) : ClosedOK P f := by
  intro a ha H nx
  refine PCalls_ofX hc (by simp) fun hw => ?_
  have hmx : (maxLen : Int) = 9223372036854775807 := rfl
  have hfb := ha.fb
  have a1 : ¬ nx = nx + 1 + 1 := by omega
  have a2 : ¬ nx + 1 = nx + 1 + 1 := by omega
  have a3 : ¬ nx = nx + 1 := by omega
  have a4 : nx ≤ nx + 1 + 1 := by omega
  have a5 : nx ≤ nx + 1 := by omega
  have a6 : ¬ nx + 1 = nx := by omega
  have a7 : ¬ nx + 1 + 1 = nx := by omega
  have a8 : ¬ nx + 1 + 1 = nx + 1 := by omega
  obtain ⟨hdl, hds⟩ := canon_day ha.c ha.k
  have q1 : a.fr.tdiv 1440 = a.fr / 1440 := Int.tdiv_eq_ediv_of_nonneg hfb.1
  have q2 : a.to.tdiv 1440 = a.to / 1440 := Int.tdiv_eq_ediv_of_nonneg hfb.2.2.1
  have hw1 := w64 (x := a.fr / 1440) (by omega) (by omega)
  have hw2 := w64 (x := a.to / 1440) (by omega) (by omega)
  have hw3 := w64 (x := a.fr / 1440 + 8) (by omega) (by omega)
  have hw4 := w64 (x := a.to / 1440 - 8) (by omega) (by omega)
  simp [authority_closed_BC, a1, a2, a3, a4, a5, a6, a7, a8, q1, q2, hw1, hw2]
  obtain ⟨I, hI⟩ : ∃ I : PS → Prop, ∀ s, I s ↔ ∃ day : Int, CInv a nx H day s ∧ s.t 6 = .int .i64 day ∧ a.fr / 1440 ≤ day ∧ day ≤ 50000 ∧ nx + 1 + 1 + 1 ≤ s.nx := ⟨_, fun _ => Iff.rfl⟩
  refine wpc_loop _ _ _ _ _ _ I (fun s => match s.t 6 with | .int _ d => (a.to / 1440 + 1 - d).toNat | _ => 0) _ ((hI _).2 ⟨a.fr / 1440, ⟨by simp, by simp, by simp, by simp, by simp, by simp [a1, a2, a3], by simp [a4, a5], ⟨_, by simp [a2, a6]; rfl, rfl⟩, 0, 67108865, -1, ns [], [], by simp [outRow], Bx.nil (fun _ _ => rfl) (by simp), .inl ⟨rfl, rfl, rfl, rfl, SV_0 8 a⟩⟩, by simp, by omega, by omega, by simp⟩) ?_
  intro s hs
  obtain ⟨day, hC, h6, hd0, hd1, hnx⟩ := (hI _).1 hs
  obtain ⟨T, H', nx'⟩ := s
  have e3 : T 3 = .int .i64 (a.fr / 1440) := hC.t3
  have e4 : T 4 = .int .i64 (a.to / 1440) := hC.t4
  have h6 : T 6 = .int .i64 day := h6
  simp [e4, h6]
  refine wB_of (fun hlt => ?_) (fun hlt => ?_)
  · simp at hlt
    have body : ∀ (day' : Int) (s' : PS), CInv a nx H day' s' → s'.t 6 = .int .i64 day' → day ≤ day' → day' ≤ a.to / 1440 → near 8 (a.fr / 1440) (a.to / 1440) day' → nx + 1 + 1 + 1 ≤ s'.nx →
        wpc (PCalls P) P (fun _ => False) nx (authority_closed_BC_j2 da me) (kBlock 1 (kSeq (PCalls P) P (fun _ => False) nx (PC.reg [(some 25, none, PI.mv (Operand.tmp 6)), (some 26, none, PI.bi BinOp.add (Operand.tmp 25) (Operand.const (Value.int IntKind.i64 1))), (some 6, none, PI.mv (Operand.tmp 26))])
          (kLoop nx I (fun s => match s.t 6 with | .int _ d => (a.to / 1440 + 1 - d).toNat | _ => 0) ((a.to / 1440 + 1 - day).toNat) (kBlock 0 (kSeq (PCalls P) P (fun _ => False) nx (authority_closed_BC_j4 no) (fin nx [RV.cA 2 8] fun r H' x => (∃ r', r = r'.v ∧ IsClosed a r') ∧ H' = H)))))) s' := by
      intro day' s' hC' h6' hle hle2 hn hnx'
      refine cl_j2 hda hme ha hC' h6' hn hnx' fun ex s2 hex hC2 h62 hnx2 => ?_
      have hwd := w64 (x := day' + 1) (by omega) (by omega)
      have fin1 : kSeq (PCalls P) P (fun _ => False) nx (PC.reg [(some 25, none, PI.mv (Operand.tmp 6)), (some 26, none, PI.bi BinOp.add (Operand.tmp 25) (Operand.const (Value.int IntKind.i64 1))), (some 6, none, PI.mv (Operand.tmp 26))])
          (kLoop nx I (fun s => match s.t 6 with | .int _ d => (a.to / 1440 + 1 - d).toNat | _ => 0) ((a.to / 1440 + 1 - day).toNat) (kBlock 0 (kSeq (PCalls P) P (fun _ => False) nx (authority_closed_BC_j4 no) (fin nx [RV.cA 2 8] fun r H' x => (∃ r', r = r'.v ∧ IsClosed a r') ∧ H' = H)))) Ex.nrm s2 := by
        obtain ⟨T2, H2, n2⟩ := s2
        have h62 : T2 6 = .int .i64 day' := h62
        simp [h62, hwd]
        refine kLoop_nrm _ _ _ _ (Sub_refl _ _) ((hI _).2 ⟨day' + 1, ⟨hC2.t1, hC2.t2, hC2.t3, hC2.t4, hC2.t5, hC2.ha, hC2.own, hC2.h2, hC2.o⟩, by simp, by omega, by omega, hnx2⟩) (by simp; omega)
      rcases hex with rfl | rfl
      · simpa using fin1
      · simpa using fin1
    by_cases hsk : a.fr / 1440 + 8 < day ∧ day < a.to / 1440 - 8
    · simp [authority_closed_BC_j3, e3, e4, h6, hw3, hw4, hsk.1, hsk.2]
      have hC2 : ∀ s2 : PS, s2.H = H' → s2.nx = nx' → (∀ u, u < 6 → s2.t u = T u) → CInv a nx H (a.to / 1440 - 8) s2 := fun s2 h1 h2 h3 => by
        obtain ⟨T2, H2, n2⟩ := s2
        simp only at h1 h2 h3
        subst h1; subst h2
        obtain ⟨d, fr, to, v, l, o1, o2, o3⟩ := hC.o
        exact ⟨(h3 1 (by omega)).trans hC.t1, (h3 2 (by omega)).trans hC.t2, (h3 3 (by omega)).trans hC.t3, (h3 4 (by omega)).trans hC.t4, (h3 5 (by omega)).trans hC.t5, hC.ha, hC.own, hC.h2, d, fr, to, v, l, o1, o2, o3.congr (SV_skip hsk.1 hsk.2)⟩
      exact body (a.to / 1440 - 8) _ (hC2 _ rfl rfl (fun u hu => by
        have : u = 0 ∨ u = 1 ∨ u = 2 ∨ u = 3 ∨ u = 4 ∨ u = 5 := by omega
        rcases this with rfl | rfl | rfl | rfl | rfl | rfl <;> rfl)) (by simp) (by omega) (by omega) ⟨by omega, by omega, by omega⟩ hnx
    · have hC2 : ∀ s2 : PS, s2.H = H' → s2.nx = nx' → (∀ u, u < 6 → s2.t u = T u) → CInv a nx H day s2 := fun s2 h1 h2 h3 => by
        obtain ⟨T2, H2, n2⟩ := s2
        simp only at h1 h2 h3
        subst h1; subst h2
        exact ⟨(h3 1 (by omega)).trans hC.t1, (h3 2 (by omega)).trans hC.t2, (h3 3 (by omega)).trans hC.t3, (h3 4 (by omega)).trans hC.t4, (h3 5 (by omega)).trans hC.t5, hC.ha, hC.own, hC.h2, hC.o⟩
      have hnear : near 8 (a.fr / 1440) (a.to / 1440) day := ⟨by omega, by omega, by omega⟩
      by_cases hs1 : a.fr / 1440 + 8 < day
      · have hs2 : ¬ day < a.to / 1440 - 8 := fun h => hsk ⟨hs1, h⟩
        simp [authority_closed_BC_j3, e3, e4, h6, hw3, hw4, hs1, hs2]
        exact body day _ (hC2 _ rfl rfl (fun u hu => by
          have : u = 0 ∨ u = 1 ∨ u = 2 ∨ u = 3 ∨ u = 4 ∨ u = 5 := by omega
          rcases this with rfl | rfl | rfl | rfl | rfl | rfl <;> rfl)) (by simp [h6]) (by omega) (by omega) hnear hnx
      · simp [authority_closed_BC_j3, e3, e4, h6, hw3, hw4, hs1]
        exact body day _ (hC2 _ rfl rfl (fun u hu => by
          have : u = 0 ∨ u = 1 ∨ u = 2 ∨ u = 3 ∨ u = 4 ∨ u = 5 := by omega
          rcases this with rfl | rfl | rfl | rfl | rfl | rfl <;> rfl)) (by simp [h6]) (by omega) (by omega) hnear hnx
  · simp at hlt
    obtain ⟨d, fr, to, v, l, o1, o2, o3⟩ := hC.o
    have e2 : T 2 = ptr (nx + 1) 0 := hC.t2
    have e5 : T 5 = ptr (nx + 1 + 1) 0 := hC.t5
    obtain ⟨c, hc2, hcl⟩ := hC.h2
    have hown : Own nx H H' := hC.own
    simp only at o1 hc2
    have o1' := o1
    unfold outRow at o1'
    have hnone : (a.zones = 0 ∨ a.lines = 0 ∨ ∀ m, ¬ a.S m) → ∀ (T2 : Nat → Value), T2 2 = ptr (nx + 1) 0 →
        wpc (PCalls P) P (fun _ => False) nx ((PC.reg [(some 96, none, PI.callB no []), (none, none, PI.st 8 (Operand.tmp 2) (Operand.tmp 96))]).seq PC.ret) (fin nx [RV.cA 2 8] fun r H' x => (∃ r', r = r'.v ∧ IsClosed a r') ∧ H' = H) ⟨T2, H', nx'⟩ := by
      intro hz T2 f2
      simp
      refine wCallB_of (wCall_eq (Q := fun r => r = noneA.v) (hno _ _) fun r m1 hr hm1 => ?_)
      subst hr
      simp [f2, hc2, hcl]
      rw [List.drop_of_length_le (by omega)]
      simp
      exact wF_own hw (by rw [own_upd (by omega)]; exact hown) ⟨⟨noneA, rfl, .inl ⟨hz, rfl⟩⟩, rfl⟩
    obtain ⟨_, htob, _⟩ := o3.bounds ha
    rcases clo_end (by omega) o3 (by omega) with ⟨rfl, hno2⟩ | hclo
    · simp [authority_closed_BC_j4, e5, o1']
      have := hnone (.inr (.inr hno2))
      simp at this
      exact this _ (by simp [e2])
    · have hto0 : ¬ to < 0 := by have := hclo.to.1.1; omega
      by_cases hz : a.zones = 0
      · simp [authority_closed_BC_j4, e5, o1', hto0, hz]
        have := hnone (.inl hz)
        simp at this
        exact this _ (by simp [e2])
      by_cases hz2 : a.lines = 0
      · have hzb : (a.zones == 0) = false := by simpa using hz
        simp [authority_closed_BC_j4, e5, o1', hto0, hzb, hz2]
        have := hnone (.inr (.inl hz2))
        simp at this
        exact this _ (by simp [e2])
      have hzb : (a.zones == 0) = false := by simpa using hz
      have hzb2 : (a.lines == 0) = false := by simpa using hz2
      simp [authority_closed_BC_j4, e2, e5, o1', hto0, hzb, hzb2, hc2, hcl]
      have hlne : l ≠ [] := fun e => by
        have := (hclo.l _).2 ⟨_, hclo.fr.1, rfl⟩
        rw [e] at this; exact inS_nil _ this
      have hv : dg1 (dg1 v) = v := by
        obtain ⟨k, cap, rest, rfl, _⟩ := o2.at (List.length_pos_iff.2 hlne)
        rfl
      rw [hv]
      refine wF_out (n1 := nx + 1 + 1 + 1) (l := l) hw (by rw [own_upd (by omega)]; exact hown) (by omega) ?_ hlne ⟨⟨_, rfl, .inr ⟨hz, hz2, fr, to, d, l, hclo, rfl⟩⟩, rfl⟩
      obtain ⟨b1, b2, b3⟩ := o2
      refine ⟨fun _ _ => rfl, b2, b3.imp id ?_⟩
      rintro ⟨k2, cap, rest, a1, a2, a3, a4⟩
      exact ⟨k2, cap, rest, a1, a2, a3, by rw [upd_ne _ _ (by omega)]; exact a4⟩
end Go.PE
namespace Go.PE
open Go
def zeroA : Aut := ⟨false, 0, 0, 0, 0, 0, [], noName⟩
def ofR (l : List Pred) (v : Value) : Prop := (64 < l.length ∧ v = tup [zeroA.v, .int .i64 2]) ∨ (l.length ≤ 64 ∧ (∃ p ∈ l, p.valid = false) ∧ v = tup [zeroA.v, .int .i64 5]) ∨ (l.length ≤ 64 ∧ (∀ p ∈ l, p.valid = true) ∧ ∃ r : Aut, IsOf l r ∧ v = tup [r.v, .int .i64 0])
theorem elem_prd {l : List Pred} {n : Int} (h0 : 0 ≤ n) (hn : n.toNat < l.length) : elemAt (l.map Pred.v) n 6 = some (dptr 0 l[n.toNat].cells) := elemAt_map h0 hn rfl (by simp)
def AOfOK (P : Program) (f g : Nat) : Prop := ∀ (l : List Pred), (∀ p ∈ l, p.wf) → l.length ≤ maxLen → ∀ (H : Nat → Option (List Value)) (nx : Nat), H g = some bitsRow → g < nx → PCalls P f [deep (l.map Pred.v)] H nx (fun _ => False) (fun r H' _ => ofR l r ∧ H' = H)
theorem valid_named {l : List Pred} (h : ∀ p ∈ l, p.valid = true) : named l := fun p hp h6 => (valid_kinds (h p hp)).2.2.1 h6
theorem aof_ok {P : Program} {f g tS fu pv re cl : Nat} (hc : compFn P f = some (28, authority_OfC tS fu pv re cl, [.cA 2 8, .t 3])) (hfu : FullOK P fu) (hpv : PValidOK P pv g) (hre : RestrOK P re) (hcl : ClosedOK P cl) : AOfOK P f g := by
  intro l hl hlen H nx hg hgn
  refine PCalls_of hc (by simp) fun hw => ?_
  have hmx : (maxLen : Int) = 9223372036854775807 := rfl
  by_cases h64 : l.length ≤ 64
  case neg =>
    simp [authority_OfC, show (64 : Int) < l.length by omega]
    exact wF_own hw (by simp) ⟨.inl ⟨by omega, rfl⟩, rfl⟩
  simp [authority_OfC, authority_OfC_j2, show ¬ (64 : Int) < l.length by omega]
  refine wCall_eq (Q := fun r => r = fullA.v) (hfu _ _) fun r n1 hr hn1 => ?_
  subst hr
  simp at hn1
  have a1 : ¬ nx = n1 := by omega
  simp [show nx ≤ n1 by omega]
  refine wpc_loop _ _ _ _ _ _ (fun s => s.t 2 = ptr nx 0 ∧ s.t 4 = ptr n1 0 ∧ s.t 12 = deep (l.map Pred.v) ∧ s.t 13 = .int .i64 l.length ∧ Own nx H s.H ∧ n1 < s.nx ∧ (∃ c, s.H nx = some c ∧ c.length = 8) ∧ ∃ i : Nat, i ≤ l.length ∧ s.t 14 = .int .i64 i ∧ (∀ p ∈ l.take i, p.valid = true) ∧ ∃ a : Aut, s.H n1 = some a.cells ∧ OfI (l.take i) a)
    (fun s => match s.t 14 with | .int _ i => (l.length - i).toNat | _ => 0) _ ⟨by simp, by simp, by simp, by simp, by simp [show nx ≤ n1 by omega], by simp, ⟨_, by simp [a1]; rfl, rfl⟩, 0, by omega, by simp, by simp, fullA, by simp, OfI.nil⟩ ?_
  rintro ⟨T, H', nx'⟩ ⟨e2, e4, e12, e13, hown, hnx, ⟨c, hc1, hc2⟩, i, hi, e14, hval, a, ha1, ha2⟩
  simp only at e2 e4 e12 e13 hown hnx hc1 e14 ha1
  simp [e13, e14]
  refine wB_of (fun hlt => ?_) (fun hlt => ?_)
  · simp at hlt
    have he := elem_prd (l := l) (n := (i : Int)) (by omega) (by simpa using hlt)
    simp at he
    have hw1 := w64 (x := (i : Int) + 1) (by omega) (by omega)
    have hwf := hl _ (List.getElem_mem hlt)
    have htk : l.take (i + 1) = l.take i ++ [l[i]] := List.take_succ_eq_append_getElem hlt
    have hmem := List.getElem_mem hlt
    generalize l[i] = p at he hwf htk hmem
    have b1 : ¬ n1 = nx' := by omega
    have b2 : ¬ nx = nx' := by omega
    have b3 : ¬ nx' = n1 := by omega
    have hg' : H' g = some bitsRow := (hown g hgn).trans hg
    simp [authority_OfC_j1, e2, e4, e12, e14, he, show nx ≤ nx' by omega, Pred.ag]
    refine wCall_eq (Q := fun r => r = .bool p.valid) (hpv p hwf.1 _ _ (by simp [show ¬ g = nx' by omega, hg']) (by show g < nx' + 1; omega)) fun r n2 hr hn2 => ?_
    subst hr
    simp at hn2
    cases hp : p.valid with
    | false =>
      simp [e2, hc1, hc2, b2]
      rw [List.drop_of_length_le (by omega)]
      exact wF_own hw (by simp [hown, show nx ≤ nx' by omega]) ⟨.inr (.inl ⟨h64, ⟨p, hmem, hp⟩, rfl⟩), rfl⟩
    | true =>
      simp [e4, ha1, b1, Aut.ag, Pred.ag]
      refine wCall_eq (Q := fun r => ∃ a', r = a'.v ∧ OfI (l.take i ++ [p]) a') (hre (l.take i) a p ha2 hp hwf (valid_named hval) _ _) fun r n3 hr hn3 => ?_
      obtain ⟨a', rfl, ha'⟩ := hr
      simp at hn3
      simp [e4, e14, ha1, b1, hw1, show nx ≤ n1 by omega]
      refine kLoop_nrm _ _ _ _ (Sub_refl _ _) ⟨by simp [e2], by simp [e4], by simp [e12], by simp [e13], by simp [hown, show nx ≤ nx' by omega, show nx ≤ n1 by omega], by show n1 < n3; omega, ⟨c, by simp [b2, a1, hc1], hc2⟩, i + 1, by omega, by simp, fun q hq => ?_, a', by simp, by rw [htk]; exact ha'⟩ (by simp; omega)
      rw [htk] at hq
      rcases List.mem_append.1 hq with hq | hq
      · exact hval q hq
      · simp at hq; subst hq; exact hp
  · simp at hlt
    have hil : i = l.length := by omega
    subst hil
    rw [List.take_length] at hval ha2
    simp [e4, ha1, Aut.ag]
    refine wCall_eq (Q := fun r => ∃ r', r = r'.v ∧ IsClosed a r') (hcl a ha2.wf _ _) fun r n3 hr hn3 => ?_
    obtain ⟨r', rfl, hr'⟩ := hr
    simp at hn3
    simp [e2, hc1, hc2]
    rw [List.drop_of_length_le (by omega)]
    simp
    exact wF_own hw (by simp [hown]) ⟨.inr (.inr ⟨h64, hval, r', ⟨a, ha2, hr'⟩, rfl⟩), rfl⟩
end Go.PE
namespace Go.PE
open Go
/-- macaroon/macaroonref06.Of: 182 slots, results [(.cA 2 8), (.t 3)] -/
def ref06_OfC_j1 : PC :=
  (.seq (.block 4 (.ord (.one ((some 89), (none, (.mv (.tmp 5))))
                     (.one ((some 90), (none, (.mv (.tmp 9))))
                     (.one ((some 91), (none, (.mv (.tmp 5))))
                     (.one ((some 92), (none, (.mv (.tmp 9))))
                     (.one ((some 93), (none, (.nilc (.tmp 91))))
                     (.one ((some 94), (none, (.fa 3 (.tmp 93))))
                     (.one ((some 95), (none, (.ixP 1440 1 (.tmp 94) (.tmp 92))))
                     (.one ((some 96), (none, (.ld false (.tmp 95))))
                     (.one ((some 97), (none, (.mv (.tmp 96))))
                     (.one ((some 98), ((some (97, true)), (.fa 2 (.tmp 8))))
                     (.one ((some 99), ((some (97, true)), (.ld false (.tmp 98))))
                     (.one ((some 100), ((some (97, true)), (.fa 3 (.tmp 8))))
                     (.one ((some 101), ((some (97, true)), (.ld false (.tmp 100))))
                     (.one ((some 102), ((some (97, true)), (.bi .leq (.tmp 99) (.tmp 101))))
                     (.one ((some 103), ((some (97, true)), (.mv (.tmp 102))))
                     (.one ((some 104), ((some (103, true)), (.mv (.tmp 9))))
                     (.one ((some 105), ((some (103, true)), (.fa 2 (.tmp 8))))
                     (.one ((some 106), ((some (103, true)), (.ld false (.tmp 105))))
                     (.one ((some 107), ((some (103, true)), (.bi .geq (.tmp 104) (.tmp 106))))
                     (.one ((some 108), ((some (97, true)), (.pick (.tmp 103) (.tmp 107) (.const (.bool false)))))
                     (.one ((some 109), ((some (97, true)), (.mv (.tmp 108))))
                     (.one ((some 110), ((some (109, true)), (.mv (.tmp 9))))
                     (.one ((some 111), ((some (109, true)), (.fa 3 (.tmp 8))))
                     (.one ((some 112), ((some (109, true)), (.ld false (.tmp 111))))
                     (.one ((some 113), ((some (109, true)), (.bi .leq (.tmp 110) (.tmp 112))))
                     (.one ((some 114), ((some (97, true)), (.pick (.tmp 109) (.tmp 113) (.const (.bool false)))))
                     (.one ((some 115), ((some (97, true)), (.mv (.tmp 114))))
                     (.one ((some 116), ((some (115, false)), (.fa 2 (.tmp 8))))
                     (.one ((some 117), ((some (115, false)), (.ld false (.tmp 116))))
                     (.one ((some 118), ((some (115, false)), (.fa 3 (.tmp 8))))
                     (.one ((some 119), ((some (115, false)), (.ld false (.tmp 118))))
                     (.one ((some 120), ((some (115, false)), (.bi .gtr (.tmp 117) (.tmp 119))))
                     (.one ((some 121), ((some (115, false)), (.mv (.tmp 120))))
                     (.one ((some 122), ((some (121, true)), (.mv (.tmp 9))))
                     (.one ((some 123), ((some (121, true)), (.fa 2 (.tmp 8))))
                     (.one ((some 124), ((some (121, true)), (.ld false (.tmp 123))))
                     (.one ((some 125), ((some (121, true)), (.bi .geq (.tmp 122) (.tmp 124))))
                     (.one ((some 126), ((some (121, true)), (.mv (.tmp 125))))
                     (.one ((some 127), ((some (126, false)), (.mv (.tmp 9))))
                     (.one ((some 128), ((some (126, false)), (.fa 3 (.tmp 8))))
                     (.one ((some 129), ((some (126, false)), (.ld false (.tmp 128))))
                     (.one ((some 130), ((some (126, false)), (.bi .leq (.tmp 127) (.tmp 129))))
                     (.one ((some 131), ((some (121, true)), (.pick (.tmp 126) (.const (.bool true)) (.tmp 130))))
                     (.one ((some 132), ((some (115, false)), (.pick (.tmp 121) (.tmp 131) (.const (.bool false)))))
                     (.one ((some 133), ((some (97, true)), (.pick (.tmp 115) (.const (.bool true)) (.tmp 132))))
                     (.one ((some 134), (none, (.pick (.tmp 97) (.tmp 133) (.const (.bool false)))))
                     (.one ((some 135), (none, (.nilc (.tmp 89))))
                     (.one ((some 136), (none, (.fa 3 (.tmp 135))))
                     (.one ((some 137), (none, (.ixP 1440 1 (.tmp 136) (.tmp 90))))
                     (.one (none, (none, (.st 1 (.tmp 137) (.tmp 134))))
                     .done))))))))))))))))))))))))))))))))))))))))))))))))))))
  (.reg [((some 87), (none, (.mv (.tmp 9)))),
                    ((some 88), (none, (.bi .add (.tmp 87) (.const (.int .i64 1))))),
                    ((some 9), (none, (.mv (.tmp 88))))]))
def ref06_OfC_j2 : PC :=
  (.seq (.reg [((some 31), (none, (.fa 0 (.tmp 8)))),
       ((some 32), (none, (.ld false (.tmp 31))))])
  (.block 2 (.seq (.reg [((some 34), (none, (.bi .eql (.tmp 32) (.const (.int .i64 1))))),
        ((some 33), (none, (.mv (.tmp 34))))])
  (.cond (.tmp 33)
        (.reg [((some 35), (none, (.fa 1 (.tmp 4)))),
          ((some 36), (none, (.ld false (.tmp 35)))),
          ((some 37), (none, (.fa 1 (.tmp 8)))),
          ((some 38), (none, (.ld false (.tmp 37)))),
          ((some 39), (none, (.bi .and (.tmp 36) (.tmp 38)))),
          ((some 40), (none, (.fa 1 (.tmp 4)))),
          (none, (none, (.st 1 (.tmp 40) (.tmp 39))))])
        (.seq (.reg [((some 42), (none, (.bi .eql (.tmp 32) (.const (.int .i64 2))))),
          ((some 41), (none, (.mv (.tmp 42))))])
  (.cond (.tmp 41)
          (.reg [((some 43), (none, (.fa 2 (.tmp 4)))),
            ((some 44), (none, (.ld false (.tmp 43)))),
            ((some 45), (none, (.fa 1 (.tmp 8)))),
            ((some 46), (none, (.ld false (.tmp 45)))),
            ((some 47), (none, (.bi .and (.tmp 44) (.tmp 46)))),
            ((some 48), (none, (.fa 2 (.tmp 4)))),
            (none, (none, (.st 1 (.tmp 48) (.tmp 47))))])
          (.seq (.reg [((some 50), (none, (.bi .eql (.tmp 32) (.const (.int .i64 3))))),
            ((some 49), (none, (.mv (.tmp 50))))])
  (.cond (.tmp 49)
            (.ord (.one ((some 51), (none, (.mv (.tmp 5))))
              (.one ((some 52), (none, (.mv (.tmp 5))))
              (.one ((some 53), (none, (.nilc (.tmp 52))))
              (.one ((some 54), (none, (.fa 2 (.tmp 53))))
              (.one ((some 55), (none, (.ld false (.tmp 54))))
              (.one ((some 56), (none, (.fa 1 (.tmp 8))))
              (.one ((some 57), (none, (.ld false (.tmp 56))))
              (.one ((some 58), (none, (.bi .and (.tmp 55) (.tmp 57))))
              (.one ((some 59), (none, (.nilc (.tmp 51))))
              (.one ((some 60), (none, (.fa 2 (.tmp 59))))
              (.one (none, (none, (.st 1 (.tmp 60) (.tmp 58))))
              .done))))))))))))
            (.seq (.reg [((some 62), (none, (.bi .eql (.tmp 32) (.const (.int .i64 4))))),
              ((some 61), (none, (.mv (.tmp 62))))])
  (.cond (.tmp 61)
              (.ord (.one ((some 63), (none, (.mv (.tmp 5))))
                (.one ((some 64), (none, (.mv (.tmp 5))))
                (.one ((some 65), (none, (.mv (.tmp 5))))
                (.one ((some 66), (none, (.nilc (.tmp 65))))
                (.one ((some 67), (none, (.fa 0 (.tmp 66))))
                (.one ((some 68), (none, (.ld false (.tmp 67))))
                (.one ((some 69), (none, (.fa 2 (.tmp 8))))
                (.one ((some 70), (none, (.ld false (.tmp 69))))
                (.one ((some 71), (none, (.mm true (.tmp 68) (.tmp 70))))
                (.one ((some 72), (none, (.mv (.tmp 5))))
                (.one ((some 73), (none, (.nilc (.tmp 72))))
                (.one ((some 74), (none, (.fa 1 (.tmp 73))))
                (.one ((some 75), (none, (.ld false (.tmp 74))))
                (.one ((some 76), (none, (.fa 3 (.tmp 8))))
                (.one ((some 79), (none, (.nilc (.tmp 63))))
                (.one ((some 80), (none, (.fa 0 (.tmp 79))))
                (.alt (.one ((some 77), (none, (.ld false (.tmp 76))))
                 (.one ((some 78), (none, (.mm false (.tmp 75) (.tmp 77))))
                 (.one (none, (none, (.st 1 (.tmp 80) (.tmp 71))))
                 (.one ((some 81), (none, (.nilc (.tmp 64))))
                 (.one ((some 82), (none, (.fa 1 (.tmp 81))))
                 (.one (none, (none, (.st 1 (.tmp 82) (.tmp 78))))
                 .done))))))
                (.one (none, (none, (.st 1 (.tmp 80) (.tmp 71))))
                 (.one ((some 77), (none, (.ld false (.tmp 76))))
                 (.one ((some 78), (none, (.mm false (.tmp 75) (.tmp 77))))
                 (.one ((some 81), (none, (.nilc (.tmp 64))))
                 (.one ((some 82), (none, (.fa 1 (.tmp 81))))
                 (.one (none, (none, (.st 1 (.tmp 82) (.tmp 78))))
                 .done))))))))))))))))))))))))
              (.seq (.reg [((some 84), (none, (.bi .eql (.tmp 32) (.const (.int .i64 5))))),
                ((some 83), (none, (.mv (.tmp 84))))])
  (.cond (.tmp 83)
                (.seq (.reg [((some 9), (none, (.mv (.const (.int .i64 0)))))])
  (.block 3 (.loop (.seq (.seq (.reg [((some 85), (none, (.mv (.tmp 9)))),
                    ((some 86), (none, (.bi .lss (.tmp 85) (.const (.int .i64 1440)))))])
  (.cond (.tmp 86)
                    .skip
                    (.exit 3)))
  ref06_OfC_j1))))
                (.seq (.reg [((some 139), (none, (.bi .eql (.tmp 32) (.const (.int .i64 6))))),
                  ((some 138), (none, (.mv (.tmp 139))))])
  (.cond (.tmp 138)
                  (.seq (.reg [((some 140), (none, (.mv (.tmp 6)))),
                    ((some 141), (none, (.mv (.tmp 140)))),
                    ((some 142), ((some (141, false)), (.fa 7 (.tmp 4)))),
                    ((some 143), ((some (141, false)), (.ld false (.tmp 142)))),
                    ((some 144), ((some (141, false)), (.bi .neq (.tmp 143) (.const (.string ⟨#[]⟩))))),
                    ((some 145), ((some (141, false)), (.mv (.tmp 144)))),
                    ((some 146), ((some (145, true)), (.fa 7 (.tmp 4)))),
                    ((some 147), ((some (145, true)), (.ld false (.tmp 146)))),
                    ((some 148), ((some (145, true)), (.fa 4 (.tmp 8)))),
                    ((some 149), ((some (145, true)), (.ld false (.tmp 148)))),
                    ((some 150), ((some (145, true)), (.bi .neq (.tmp 147) (.tmp 149)))),
                    ((some 151), ((some (141, false)), (.pick (.tmp 145) (.tmp 150) (.const (.bool false))))),
                    ((some 152), (none, (.pick (.tmp 141) (.const (.bool true)) (.tmp 151)))),
                    ((some 6), (none, (.mv (.tmp 152))))])
  (.reg [((some 153), (none, (.fa 4 (.tmp 8)))),
                    ((some 154), (none, (.ld false (.tmp 153)))),
                    ((some 155), (none, (.fa 7 (.tmp 4)))),
                    (none, (none, (.st 1 (.tmp 155) (.tmp 154))))]))
                  .skip))))))))))))))
def ref06_OfC_j3 (f_ref06_Valid : Nat) : PC :=
  (.seq (.block 1 (.seq (.reg [((some 23), (none, (.mv (.tmp 0)))),
       ((some 24), (none, (.mv (.tmp 7)))),
       ((some 25), (none, (.ixS 6 (.tmp 23) (.tmp 24)))),
       ((some 26), (none, (.ldA 6 (.tmp 25)))),
       ((some 8), (none, (.alloc [(.int .i64 0), (.int .u64 0), (.int .i64 0), (.int .i64 0), (.string ⟨#[]⟩), (.int .i64 0)]))),
       (none, (none, (.st 6 (.tmp 8) (.tmp 26))))])
  (.seq (.seq (.reg [((some 27), (none, (.ldA 6 (.tmp 8)))),
       ((some 28), (none, (.call f_ref06_Valid [(.tmp 27)]))),
       ((some 29), (none, (.un .not (.tmp 28))))])
  (.cond (.tmp 29)
       (.seq (.reg [((some 30), (none, (.build [(.inl [(.bool false)]), (.inl [(.int .u64 0)]), (.inl [(.int .u64 0)]), (.inl [(.int .u64 0)]), (.inl [(.int .i64 0)]), (.inl [(.int .i64 0)]), (.inl [(deep [])]), (.inl [(.string ⟨#[]⟩)])]))),
         (none, (none, (.st 8 (.tmp 2) (.tmp 30)))),
         ((some 3), (none, (.mv (.const (.int .i64 5)))))])
  .ret)
       .skip))
  ref06_OfC_j2)))
  (.reg [((some 21), (none, (.mv (.tmp 7)))),
      ((some 22), (none, (.bi .add (.tmp 21) (.const (.int .i64 1))))),
      ((some 7), (none, (.mv (.tmp 22))))]))
def ref06_OfC_j4 (f_ref06_closed : Nat) : PC :=
  (.seq (.seq (.drw [((some 156), (none, (.mv (.tmp 6)))),
    ((some 157), (none, (.mv (.tmp 156)))),
    ((some 158), ((some (157, false)), (.fa 1 (.tmp 4)))),
    ((some 159), ((some (157, false)), (.ld false (.tmp 158)))),
    ((some 160), ((some (157, false)), (.bi .eql (.tmp 159) (.const (.int .u64 0))))),
    ((some 161), (none, (.pick (.tmp 157) (.const (.bool true)) (.tmp 160)))),
    ((some 162), (none, (.mv (.tmp 161)))),
    ((some 163), ((some (162, false)), (.fa 2 (.tmp 4)))),
    ((some 164), ((some (162, false)), (.ld false (.tmp 163)))),
    ((some 165), ((some (162, false)), (.bi .eql (.tmp 164) (.const (.int .u64 0))))),
    ((some 166), (none, (.pick (.tmp 162) (.const (.bool true)) (.tmp 165)))),
    ((some 167), (none, (.mv (.tmp 166)))),
    ((some 168), ((some (167, false)), (.mv (.tmp 5)))),
    ((some 169), ((some (167, false)), (.nilc (.tmp 168)))),
    ((some 170), ((some (167, false)), (.fa 0 (.tmp 169)))),
    ((some 171), ((some (167, false)), (.ld false (.tmp 170)))),
    ((some 172), ((some (167, false)), (.mv (.tmp 5)))),
    ((some 173), ((some (167, false)), (.nilc (.tmp 172)))),
    ((some 174), ((some (167, false)), (.fa 1 (.tmp 173)))),
    ((some 175), ((some (167, false)), (.ld false (.tmp 174)))),
    ((some 176), ((some (167, false)), (.bi .gtr (.tmp 171) (.tmp 175)))),
    ((some 177), (none, (.pick (.tmp 167) (.const (.bool true)) (.tmp 176))))])
  (.cond (.tmp 177)
    (.seq (.reg [((some 178), (none, (.build [(.inr ((.const (.bool true)), 1)), (.inl [(.int .u64 0)]), (.inl [(.int .u64 0)]), (.inl [(.int .u64 0)]), (.inl [(.int .i64 0)]), (.inl [(.int .i64 0)]), (.inl [(deep [])]), (.inl [(.string ⟨#[]⟩)])]))),
      (none, (none, (.st 8 (.tmp 2) (.tmp 178)))),
      ((some 3), (none, (.mv (.const (.int .i64 0)))))])
  .ret)
    .skip))
  (.seq (.reg [((some 179), (none, (.ldA 8 (.tmp 4)))),
    ((some 180), (none, (.mv (.tmp 5)))),
    ((some 181), (none, (.call f_ref06_closed [(.tmp 179), (.tmp 180)]))),
    (none, (none, (.st 8 (.tmp 2) (.tmp 181)))),
    ((some 3), (none, (.mv (.const (.int .i64 0)))))])
  .ret))
def ref06_OfC_j5 (t_api_Span : Nat) (f_ref06_Full : Nat) (f_ref06_times : Nat) (f_ref06_Valid : Nat) (f_ref06_closed : Nat) : PC :=
  (.seq (.reg [((some 14), (none, (.call f_ref06_Full []))),
    ((some 4), (none, (.alloc [(.bool false), (.int .u64 0), (.int .u64 0), (.int .u64 0), (.int .i64 0), (.int .i64 0), (lin t_api_Span []), (.string ⟨#[]⟩)]))),
    (none, (none, (.st 8 (.tmp 4) (.tmp 14))))])
  (.seq (.reg [((some 15), (none, (.ldA 8 (.tmp 4)))),
    ((some 16), (none, (.call f_ref06_times [(.tmp 15)]))),
    ((some 5), (none, (.mv (.tmp 16))))])
  (.seq (.reg [((some 6), (none, (.mv (.const (.bool false)))))])
  (.seq (.seq (.reg [((some 7), (none, (.mv (.const (.int .i64 0)))))])
  (.block 0 (.loop (.seq (.seq (.reg [((some 17), (none, (.mv (.tmp 7)))),
      ((some 18), (none, (.mv (.tmp 0)))),
      ((some 19), (none, (.len (.tmp 18)))),
      ((some 20), (none, (.bi .lss (.tmp 17) (.tmp 19))))])
  (.cond (.tmp 20)
      .skip
      (.exit 0)))
  (ref06_OfC_j3 f_ref06_Valid)))))
  (ref06_OfC_j4 f_ref06_closed)))))
def ref06_OfC (t_api_Span : Nat) (f_ref06_Full : Nat) (f_ref06_times : Nat) (f_ref06_Valid : Nat) (f_ref06_closed : Nat) : PC :=
  (.seq (.reg [((some 2), (none, (.alloc [(.bool false), (.int .u64 0), (.int .u64 0), (.int .u64 0), (.int .i64 0), (.int .i64 0), (lin t_api_Span []), (.string ⟨#[]⟩)]))),
    ((some 3), (none, (.mv (.const (.int .i64 0)))))])
  (.seq (.seq (.reg [((some 10), (none, (.mv (.tmp 0)))),
    ((some 11), (none, (.len (.tmp 10)))),
    ((some 12), (none, (.bi .gtr (.tmp 11) (.const (.int .i64 64)))))])
  (.cond (.tmp 12)
    (.seq (.reg [((some 13), (none, (.build [(.inl [(.bool false)]), (.inl [(.int .u64 0)]), (.inl [(.int .u64 0)]), (.inl [(.int .u64 0)]), (.inl [(.int .i64 0)]), (.inl [(.int .i64 0)]), (.inl [(deep [])]), (.inl [(.string ⟨#[]⟩)])]))),
      (none, (none, (.st 8 (.tmp 2) (.tmp 13)))),
      ((some 3), (none, (.mv (.const (.int .i64 2)))))])
  .ret)
    .skip))
  (ref06_OfC_j5 t_api_Span f_ref06_Full f_ref06_times f_ref06_Valid f_ref06_closed)))
/-- macaroon/macaroonref06.SameAuthority: 80 slots, results [(.t 4)] -/
def ref06_SameAuthorityC_j1 : PC :=
  (.seq (.block 1 (.seq (.drw [((some 69), (none, (.fa 6 (.tmp 2)))),
       ((some 70), (none, (.ld false (.tmp 69)))),
       ((some 71), (none, (.mv (.tmp 5)))),
       ((some 72), (none, (.ixS 2 (.tmp 70) (.tmp 71)))),
       ((some 73), (none, (.ldA 2 (.tmp 72)))),
       ((some 74), (none, (.fa 6 (.tmp 3)))),
       ((some 75), (none, (.ld false (.tmp 74)))),
       ((some 76), (none, (.mv (.tmp 5)))),
       ((some 77), (none, (.ixS 2 (.tmp 75) (.tmp 76)))),
       ((some 78), (none, (.ldA 2 (.tmp 77)))),
       ((some 79), (none, (.eqA true [(.int .i64), (.int .i64)] (.tmp 73) (.tmp 78))))])
  (.cond (.tmp 79)
       (.seq (.reg [((some 4), (none, (.mv (.const (.bool false)))))])
  .ret)
       .skip)))
  (.reg [((some 67), (none, (.mv (.tmp 5)))),
      ((some 68), (none, (.bi .add (.tmp 67) (.const (.int .i64 1))))),
      ((some 5), (none, (.mv (.tmp 68))))]))
def ref06_SameAuthorityC_j2 : PC :=
  (.seq (.seq (.reg [((some 5), (none, (.mv (.const (.int .i64 0)))))])
  (.block 0 (.loop (.seq (.seq (.reg [((some 62), (none, (.mv (.tmp 5)))),
      ((some 63), (none, (.fa 6 (.tmp 2)))),
      ((some 64), (none, (.ld false (.tmp 63)))),
      ((some 65), (none, (.len (.tmp 64)))),
      ((some 66), (none, (.bi .lss (.tmp 62) (.tmp 65))))])
  (.cond (.tmp 66)
      .skip
      (.exit 0)))
  ref06_SameAuthorityC_j1))))
  (.seq (.reg [((some 4), (none, (.mv (.const (.bool true)))))])
  .ret))
def ref06_SameAuthorityC : PC :=
  (.seq (.reg [((some 2), (none, (.box 8 (.tmp 0)))),
    ((some 3), (none, (.box 8 (.tmp 1)))),
    ((some 4), (none, (.mv (.const (.bool false)))))])
  (.seq (.seq (.reg [((some 6), (none, (.fa 0 (.tmp 2)))),
    ((some 7), (none, (.ld false (.tmp 6)))),
    ((some 8), (none, (.fa 0 (.tmp 3)))),
    ((some 9), (none, (.ld false (.tmp 8)))),
    ((some 10), (none, (.bb true (.tmp 7) (.tmp 9)))),
    ((some 11), (none, (.mv (.tmp 10)))),
    ((some 12), ((some (11, false)), (.fa 1 (.tmp 2)))),
    ((some 13), ((some (11, false)), (.ld false (.tmp 12)))),
    ((some 14), ((some (11, false)), (.fa 1 (.tmp 3)))),
    ((some 15), ((some (11, false)), (.ld false (.tmp 14)))),
    ((some 16), ((some (11, false)), (.bi .neq (.tmp 13) (.tmp 15)))),
    ((some 17), (none, (.pick (.tmp 11) (.const (.bool true)) (.tmp 16)))),
    ((some 18), (none, (.mv (.tmp 17)))),
    ((some 19), ((some (18, false)), (.fa 2 (.tmp 2)))),
    ((some 20), ((some (18, false)), (.ld false (.tmp 19)))),
    ((some 21), ((some (18, false)), (.fa 2 (.tmp 3)))),
    ((some 22), ((some (18, false)), (.ld false (.tmp 21)))),
    ((some 23), ((some (18, false)), (.bi .neq (.tmp 20) (.tmp 22)))),
    ((some 24), (none, (.pick (.tmp 18) (.const (.bool true)) (.tmp 23)))),
    ((some 25), (none, (.mv (.tmp 24)))),
    ((some 26), ((some (25, false)), (.fa 3 (.tmp 2)))),
    ((some 27), ((some (25, false)), (.ld false (.tmp 26)))),
    ((some 28), ((some (25, false)), (.fa 3 (.tmp 3)))),
    ((some 29), ((some (25, false)), (.ld false (.tmp 28)))),
    ((some 30), ((some (25, false)), (.bi .neq (.tmp 27) (.tmp 29)))),
    ((some 31), (none, (.pick (.tmp 25) (.const (.bool true)) (.tmp 30)))),
    ((some 32), (none, (.mv (.tmp 31)))),
    ((some 33), ((some (32, false)), (.fa 4 (.tmp 2)))),
    ((some 34), ((some (32, false)), (.ld false (.tmp 33)))),
    ((some 35), ((some (32, false)), (.fa 4 (.tmp 3)))),
    ((some 36), ((some (32, false)), (.ld false (.tmp 35)))),
    ((some 37), ((some (32, false)), (.bi .neq (.tmp 34) (.tmp 36)))),
    ((some 38), (none, (.pick (.tmp 32) (.const (.bool true)) (.tmp 37)))),
    ((some 39), (none, (.mv (.tmp 38)))),
    ((some 40), ((some (39, false)), (.fa 5 (.tmp 2)))),
    ((some 41), ((some (39, false)), (.ld false (.tmp 40)))),
    ((some 42), ((some (39, false)), (.fa 5 (.tmp 3)))),
    ((some 43), ((some (39, false)), (.ld false (.tmp 42)))),
    ((some 44), ((some (39, false)), (.bi .neq (.tmp 41) (.tmp 43)))),
    ((some 45), (none, (.pick (.tmp 39) (.const (.bool true)) (.tmp 44)))),
    ((some 46), (none, (.mv (.tmp 45)))),
    ((some 47), ((some (46, false)), (.fa 7 (.tmp 2)))),
    ((some 48), ((some (46, false)), (.ld false (.tmp 47)))),
    ((some 49), ((some (46, false)), (.fa 7 (.tmp 3)))),
    ((some 50), ((some (46, false)), (.ld false (.tmp 49)))),
    ((some 51), ((some (46, false)), (.bi .neq (.tmp 48) (.tmp 50)))),
    ((some 52), (none, (.pick (.tmp 46) (.const (.bool true)) (.tmp 51)))),
    ((some 53), (none, (.mv (.tmp 52)))),
    ((some 54), ((some (53, false)), (.fa 6 (.tmp 2)))),
    ((some 55), ((some (53, false)), (.ld false (.tmp 54)))),
    ((some 56), ((some (53, false)), (.len (.tmp 55)))),
    ((some 57), ((some (53, false)), (.fa 6 (.tmp 3)))),
    ((some 58), ((some (53, false)), (.ld false (.tmp 57)))),
    ((some 59), ((some (53, false)), (.len (.tmp 58)))),
    ((some 60), ((some (53, false)), (.bi .neq (.tmp 56) (.tmp 59)))),
    ((some 61), (none, (.pick (.tmp 53) (.const (.bool true)) (.tmp 60))))])
  (.cond (.tmp 61)
    (.seq (.reg [((some 4), (none, (.mv (.const (.bool false)))))])
  .ret)
    .skip))
  ref06_SameAuthorityC_j2))
/-- macaroon/macaroonref06.Full: 4 slots, results [(.cA 0 8)] -/
def ref06_FullC (t_api_Span : Nat) : PC :=
  (.seq (.reg [((some 0), (none, (.alloc [(.bool false), (.int .u64 0), (.int .u64 0), (.int .u64 0), (.int .i64 0), (.int .i64 0), (lin t_api_Span []), (.string ⟨#[]⟩)])))])
  (.seq (.reg [((some 1), (none, (.build [(.inr ((.const (.int .i64 0)), 1)), (.inr ((.const (.int .i64 1439)), 1))]))),
    ((some 2), (none, (.mks t_api_Span 2 false [(.tmp 1)]))),
    ((some 3), (none, (.build [(.inl [(.bool false)]), (.inr ((.const (.int .u64 18446744073709551615)), 1)), (.inr ((.const (.int .u64 4294967295)), 1)), (.inr ((.const (.int .u64 127)), 1)), (.inr ((.const (.int .i64 0)), 1)), (.inr ((.const (.int .i64 67108864)), 1)), (.inr ((.tmp 2), 1)), (.inl [(.string ⟨#[]⟩)])]))),
    (none, (none, (.st 8 (.tmp 0) (.tmp 3))))])
  .ret))
/-- macaroon/macaroonref06.times: 43 slots, results [(.t 2)] -/
def ref06_timesC_j1 : PC :=
  (.seq (.block 3 (.reg [((some 37), (none, (.mv (.tmp 3)))),
          ((some 38), (none, (.mv (.tmp 5)))),
          ((some 39), (none, (.nilc (.tmp 37)))),
          ((some 40), (none, (.fa 3 (.tmp 39)))),
          ((some 41), (none, (.ixP 1440 1 (.tmp 40) (.tmp 38)))),
          (none, (none, (.st 1 (.tmp 41) (.const (.bool true)))))]))
  (.reg [((some 35), (none, (.mv (.tmp 5)))),
         ((some 36), (none, (.bi .add (.tmp 35) (.const (.int .i64 1))))),
         ((some 5), (none, (.mv (.tmp 36))))]))
def ref06_timesC_j2 : PC :=
  (.seq (.block 1 (.seq (.reg [((some 21), (none, (.fa 6 (.tmp 1)))),
       ((some 22), (none, (.ld false (.tmp 21)))),
       ((some 23), (none, (.mv (.tmp 4)))),
       ((some 24), (none, (.ixS 2 (.tmp 22) (.tmp 23)))),
       ((some 25), (none, (.fa 0 (.tmp 24)))),
       ((some 26), (none, (.ld false (.tmp 25)))),
       ((some 5), (none, (.mv (.tmp 26))))])
  (.block 2 (.loop (.seq (.seq (.reg [((some 27), (none, (.mv (.tmp 5)))),
         ((some 28), (none, (.fa 6 (.tmp 1)))),
         ((some 29), (none, (.ld false (.tmp 28)))),
         ((some 30), (none, (.mv (.tmp 4)))),
         ((some 31), (none, (.ixS 2 (.tmp 29) (.tmp 30)))),
         ((some 32), (none, (.fa 1 (.tmp 31)))),
         ((some 33), (none, (.ld false (.tmp 32)))),
         ((some 34), (none, (.bi .leq (.tmp 27) (.tmp 33))))])
  (.cond (.tmp 34)
         .skip
         (.exit 2)))
  ref06_timesC_j1)))))
  (.reg [((some 19), (none, (.mv (.tmp 4)))),
      ((some 20), (none, (.bi .add (.tmp 19) (.const (.int .i64 1))))),
      ((some 4), (none, (.mv (.tmp 20))))]))
def ref06_timesC : PC :=
  (.seq (.reg [((some 1), (none, (.box 8 (.tmp 0)))),
    ((some 2), (none, (.mv (.const (.pointer none)))))])
  (.seq (.reg [((some 6), (none, (.fa 4 (.tmp 1)))),
    ((some 7), (none, (.ld false (.tmp 6)))),
    ((some 8), (none, (.fa 5 (.tmp 1)))),
    ((some 9), (none, (.ld false (.tmp 8)))),
    ((some 10), (none, (.fa 3 (.tmp 1)))),
    ((some 11), (none, (.ld false (.tmp 10)))),
    ((some 12), (none, (.build [(.inr ((.tmp 7), 1)), (.inr ((.tmp 9), 1)), (.inr ((.tmp 11), 1)), (.inl (List.replicate 1440 (.bool false)))]))),
    ((some 13), (none, (.box 1443 (.tmp 12)))),
    ((some 3), (none, (.mv (.tmp 13))))])
  (.seq (.seq (.reg [((some 4), (none, (.mv (.const (.int .i64 0)))))])
  (.block 0 (.loop (.seq (.seq (.reg [((some 14), (none, (.mv (.tmp 4)))),
      ((some 15), (none, (.fa 6 (.tmp 1)))),
      ((some 16), (none, (.ld false (.tmp 15)))),
      ((some 17), (none, (.len (.tmp 16)))),
      ((some 18), (none, (.bi .lss (.tmp 14) (.tmp 17))))])
  (.cond (.tmp 18)
      .skip
      (.exit 0)))
  ref06_timesC_j2))))
  (.seq (.reg [((some 42), (none, (.mv (.tmp 3)))),
    ((some 2), (none, (.mv (.tmp 42))))])
  .ret))))
/-- macaroon/macaroonref06.closed: 142 slots, results [(.cA 4 8)] -/
def ref06_closed_BC_j1 : PC :=
  (.reg [((some 92), (none, (.mv (.tmp 8)))),
          ((some 93), (none, (.bi .mul (.tmp 92) (.const (.int .i64 1440))))),
          ((some 94), (none, (.mv (.tmp 9)))),
          ((some 95), (none, (.bi .add (.tmp 93) (.tmp 94)))),
          ((some 96), (none, (.fa 5 (.tmp 2)))),
          (none, (none, (.st 1 (.tmp 96) (.tmp 95))))])
def ref06_closed_BC_j2 : PC :=
  (.seq (.reg [((some 74), (none, (.mv (.tmp 9)))),
          ((some 75), (none, (.ixP 1440 1 (.tmp 7) (.tmp 74)))),
          (none, (none, (.st 1 (.tmp 75) (.const (.bool true)))))])
  (.seq (.reg [((some 76), (none, (.fa 3 (.tmp 2)))),
          ((some 77), (none, (.ld false (.tmp 76)))),
          ((some 78), (none, (.mv (.tmp 8)))),
          ((some 79), (none, (.bi .rem (.tmp 78) (.const (.int .i64 7))))),
          ((some 80), (none, (.cv .u64 (.tmp 79)))),
          ((some 81), (none, (.bi .shl (.const (.int .u64 1)) (.tmp 80)))),
          ((some 82), (none, (.bi .or (.tmp 77) (.tmp 81)))),
          ((some 83), (none, (.fa 3 (.tmp 2)))),
          (none, (none, (.st 1 (.tmp 83) (.tmp 82))))])
  (.seq (.seq (.reg [((some 84), (none, (.fa 4 (.tmp 2)))),
          ((some 85), (none, (.ld false (.tmp 84)))),
          ((some 86), (none, (.bi .lss (.tmp 85) (.const (.int .i64 0)))))])
  (.cond (.tmp 86)
          (.reg [((some 87), (none, (.mv (.tmp 8)))),
            ((some 88), (none, (.bi .mul (.tmp 87) (.const (.int .i64 1440))))),
            ((some 89), (none, (.mv (.tmp 9)))),
            ((some 90), (none, (.bi .add (.tmp 88) (.tmp 89)))),
            ((some 91), (none, (.fa 4 (.tmp 2)))),
            (none, (none, (.st 1 (.tmp 91) (.tmp 90))))])
          .skip))
  ref06_closed_BC_j1)))
def ref06_closed_BC_j3 (f_ref06_Times_has : Nat) : PC :=
  (.seq (.block 3 (.seq (.seq (.reg [((some 58), (none, (.mv (.tmp 1)))),
          ((some 59), (none, (.mv (.tmp 9)))),
          ((some 60), (none, (.nilc (.tmp 58)))),
          ((some 61), (none, (.fa 3 (.tmp 60)))),
          ((some 62), (none, (.ixP 1440 1 (.tmp 61) (.tmp 59)))),
          ((some 63), (none, (.ld false (.tmp 62)))),
          ((some 64), (none, (.un .not (.tmp 63)))),
          ((some 65), (none, (.mv (.tmp 64)))),
          ((some 66), ((some (65, false)), (.mv (.tmp 1)))),
          ((some 67), ((some (65, false)), (.mv (.tmp 8)))),
          ((some 68), ((some (65, false)), (.bi .mul (.tmp 67) (.const (.int .i64 1440))))),
          ((some 69), ((some (65, false)), (.mv (.tmp 9)))),
          ((some 70), ((some (65, false)), (.bi .add (.tmp 68) (.tmp 69)))),
          ((some 71), ((some (65, false)), (.callB f_ref06_Times_has [(.tmp 66), (.tmp 70)]))),
          ((some 72), ((some (65, false)), (.un .not (.tmp 71)))),
          ((some 73), (none, (.pick (.tmp 65) (.const (.bool true)) (.tmp 72))))])
  (.cond (.tmp 73)
          (.exit 3)
          .skip))
  ref06_closed_BC_j2))
  (.reg [((some 56), (none, (.mv (.tmp 9)))),
         ((some 57), (none, (.bi .add (.tmp 56) (.const (.int .i64 1))))),
         ((some 9), (none, (.mv (.tmp 57))))]))
def ref06_closed_BC_j4 (f_ref06_Times_has : Nat) : PC :=
  (.seq (.reg [((some 9), (none, (.mv (.const (.int .i64 0)))))])
  (.block 2 (.loop (.seq (.seq (.reg [((some 54), (none, (.mv (.tmp 9)))),
         ((some 55), (none, (.bi .lss (.tmp 54) (.const (.int .i64 1440)))))])
  (.cond (.tmp 55)
         .skip
         (.exit 2)))
  (ref06_closed_BC_j3 f_ref06_Times_has)))))
def ref06_closed_BC_j5 (f_ref06_Times_has : Nat) : PC :=
  (.seq (.seq (.reg [((some 44), (none, (.mv (.tmp 1)))),
       ((some 45), (none, (.nilc (.tmp 44)))),
       ((some 46), (none, (.fa 2 (.tmp 45)))),
       ((some 47), (none, (.ld false (.tmp 46)))),
       ((some 48), (none, (.mv (.tmp 8)))),
       ((some 49), (none, (.bi .rem (.tmp 48) (.const (.int .i64 7))))),
       ((some 50), (none, (.cv .u64 (.tmp 49)))),
       ((some 51), (none, (.bi .shr (.tmp 47) (.tmp 50)))),
       ((some 52), (none, (.bi .rem (.tmp 51) (.const (.int .u64 2))))),
       ((some 53), (none, (.bi .eql (.tmp 52) (.const (.int .u64 0)))))])
  (.cond (.tmp 53)
       (.exit 1)
       .skip))
  (ref06_closed_BC_j4 f_ref06_Times_has))
def ref06_closed_BC_j6 (f_ref06_Times_has : Nat) : PC :=
  (.seq (.block 1 (.seq (.seq (.reg [((some 32), (none, (.mv (.tmp 8)))),
       ((some 33), (none, (.mv (.tmp 5)))),
       ((some 34), (none, (.bi .add (.tmp 33) (.const (.int .i64 9))))),
       ((some 35), (none, (.bi .gtr (.tmp 32) (.tmp 34)))),
       ((some 36), (none, (.mv (.tmp 35)))),
       ((some 37), ((some (36, true)), (.mv (.tmp 8)))),
       ((some 38), ((some (36, true)), (.mv (.tmp 6)))),
       ((some 39), ((some (36, true)), (.bi .sub (.tmp 38) (.const (.int .i64 9))))),
       ((some 40), ((some (36, true)), (.bi .lss (.tmp 37) (.tmp 39)))),
       ((some 41), (none, (.pick (.tmp 36) (.tmp 40) (.const (.bool false)))))])
  (.cond (.tmp 41)
       (.reg [((some 42), (none, (.mv (.tmp 6)))),
         ((some 43), (none, (.bi .sub (.tmp 42) (.const (.int .i64 9))))),
         ((some 8), (none, (.mv (.tmp 43))))])
       .skip))
  (ref06_closed_BC_j5 f_ref06_Times_has)))
  (.reg [((some 30), (none, (.mv (.tmp 8)))),
      ((some 31), (none, (.bi .add (.tmp 30) (.const (.int .i64 1))))),
      ((some 8), (none, (.mv (.tmp 31))))]))
def ref06_closed_BC_j7 (t_api_Span : Nat) : PC :=
  (.seq (.reg [((some 109), (none, (.fa 6 (.tmp 2)))),
       ((some 110), (none, (.ld false (.tmp 109)))),
       ((some 111), (none, (.lenB (.tmp 110)))),
       ((some 11), (none, (.mv (.tmp 111))))])
  (.seq (.reg [((some 112), (none, (.mv (.tmp 11)))),
       ((some 113), (none, (.bi .gtr (.tmp 112) (.const (.int .i64 0))))),
       ((some 114), (none, (.mv (.tmp 113)))),
       ((some 115), ((some (114, true)), (.fa 6 (.tmp 2)))),
       ((some 116), ((some (114, true)), (.ld false (.tmp 115)))),
       ((some 117), ((some (114, true)), (.mv (.tmp 11)))),
       ((some 118), ((some (114, true)), (.bi .sub (.tmp 117) (.const (.int .i64 1))))),
       ((some 119), ((some (114, true)), (.ixB 2 (.tmp 116) (.tmp 118)))),
       ((some 120), ((some (114, true)), (.fa 1 (.tmp 119)))),
       ((some 121), ((some (114, true)), (.ld false (.tmp 120)))),
       ((some 122), ((some (114, true)), (.mv (.tmp 10)))),
       ((some 123), ((some (114, true)), (.bi .sub (.tmp 122) (.const (.int .i64 1))))),
       ((some 124), ((some (114, true)), (.bi .eql (.tmp 121) (.tmp 123)))),
       ((some 125), (none, (.pick (.tmp 114) (.tmp 124) (.const (.bool false)))))])
  (.cond (.tmp 125)
       (.reg [((some 126), (none, (.fa 6 (.tmp 2)))),
         ((some 127), (none, (.ld false (.tmp 126)))),
         ((some 128), (none, (.mv (.tmp 11)))),
         ((some 129), (none, (.bi .sub (.tmp 128) (.const (.int .i64 1))))),
         ((some 130), (none, (.mv (.tmp 10)))),
         ((some 131), (none, (.ixB 2 (.tmp 127) (.tmp 129)))),
         ((some 132), (none, (.fa 1 (.tmp 131)))),
         (none, (none, (.st 1 (.tmp 132) (.tmp 130))))])
       (.reg [((some 133), (none, (.fa 6 (.tmp 2)))),
         ((some 134), (none, (.ld true (.tmp 133)))),
         ((some 135), (none, (.mv (.tmp 10)))),
         ((some 136), (none, (.mv (.tmp 10)))),
         ((some 137), (none, (.build [(.inr ((.tmp 135), 1)), (.inr ((.tmp 136), 1))]))),
         ((some 138), (none, (.mks t_api_Span 2 false [(.tmp 137)]))),
         ((some 139), (none, (.appB 2 16 [(.int .i64 0), (.int .i64 0)] 134 (.tmp 138)))),
         ((some 140), (none, (.fa 6 (.tmp 2)))),
         (none, (none, (.sts (.tmp 140) 139)))]))))
def ref06_closed_BC_j8 (t_api_Span : Nat) : PC :=
  (.seq (.block 5 (.seq (.seq (.reg [((some 105), (none, (.mv (.tmp 10)))),
       ((some 106), (none, (.ixP 1440 1 (.tmp 7) (.tmp 105)))),
       ((some 107), (none, (.ld false (.tmp 106)))),
       ((some 108), (none, (.un .not (.tmp 107))))])
  (.cond (.tmp 108)
       (.exit 5)
       .skip))
  (ref06_closed_BC_j7 t_api_Span)))
  (.reg [((some 103), (none, (.mv (.tmp 10)))),
      ((some 104), (none, (.bi .add (.tmp 103) (.const (.int .i64 1))))),
      ((some 10), (none, (.mv (.tmp 104))))]))
def ref06_closed_BC_j9 (t_api_Span : Nat) : PC :=
  (.seq (.seq (.reg [((some 10), (none, (.mv (.const (.int .i64 0)))))])
  (.block 4 (.loop (.seq (.seq (.reg [((some 101), (none, (.mv (.tmp 10)))),
      ((some 102), (none, (.bi .lss (.tmp 101) (.const (.int .i64 1440)))))])
  (.cond (.tmp 102)
      .skip
      (.exit 4)))
  (ref06_closed_BC_j8 t_api_Span)))))
  (.seq (.reg [((some 141), (none, (.ldA 8 (.tmp 2)))),
    (none, (none, (.st 8 (.tmp 4) (.tmp 141))))])
  .ret))
def ref06_closed_BC_j10 (t_api_Span : Nat) : PC :=
  (.seq (.seq (.reg [((some 97), (none, (.fa 4 (.tmp 2)))),
    ((some 98), (none, (.ld false (.tmp 97)))),
    ((some 99), (none, (.bi .lss (.tmp 98) (.const (.int .i64 0)))))])
  (.cond (.tmp 99)
    (.seq (.reg [((some 100), (none, (.build [(.inr ((.const (.bool true)), 1)), (.inl [(.int .u64 0)]), (.inl [(.int .u64 0)]), (.inl [(.int .u64 0)]), (.inl [(.int .i64 0)]), (.inl [(.int .i64 0)]), (.inl [(deep [])]), (.inl [(.string ⟨#[]⟩)])]))),
      (none, (none, (.st 8 (.tmp 4) (.tmp 100))))])
  .ret)
    .skip))
  (ref06_closed_BC_j9 t_api_Span))
def ref06_closed_BC (f_ref06_Times_has : Nat) (t_api_Span : Nat) : PC :=
  (.seq (.reg [((some 2), (none, (.box 8 (.tmp 0)))),
    ((some 4), (none, (.alloc [(.bool false), (.int .u64 0), (.int .u64 0), (.int .u64 0), (.int .i64 0), (.int .i64 0), (ns []), (.string ⟨#[]⟩)])))])
  (.seq (.drw [((some 12), (none, (.mv (.tmp 1)))),
    ((some 13), (none, (.nilc (.tmp 12)))),
    ((some 14), (none, (.fa 0 (.tmp 13)))),
    ((some 15), (none, (.ld false (.tmp 14)))),
    ((some 16), (none, (.bi .quo (.tmp 15) (.const (.int .i64 1440))))),
    ((some 17), (none, (.mv (.tmp 1)))),
    ((some 18), (none, (.nilc (.tmp 17)))),
    ((some 19), (none, (.fa 1 (.tmp 18)))),
    ((some 20), (none, (.ld false (.tmp 19)))),
    ((some 21), (none, (.bi .quo (.tmp 20) (.const (.int .i64 1440))))),
    ((some 5), (none, (.mv (.tmp 16)))),
    ((some 6), (none, (.mv (.tmp 21))))])
  (.seq (.reg [((some 7), (none, (.alloc (List.replicate 1440 (.bool false)))))])
  (.seq (.reg [((some 22), (none, (.fa 3 (.tmp 2)))),
    (none, (none, (.st 1 (.tmp 22) (.const (.int .u64 0))))),
    ((some 23), (none, (.fa 4 (.tmp 2)))),
    (none, (none, (.st 1 (.tmp 23) (.const (.int .i64 (-1)))))),
    ((some 24), (none, (.fa 5 (.tmp 2)))),
    (none, (none, (.st 1 (.tmp 24) (.const (.int .i64 (-1)))))),
    ((some 25), (none, (.fa 6 (.tmp 2)))),
    (none, (none, (.stN (.tmp 25))))])
  (.seq (.seq (.reg [((some 26), (none, (.mv (.tmp 5)))),
    ((some 8), (none, (.mv (.tmp 26))))])
  (.block 0 (.loop (.seq (.seq (.reg [((some 27), (none, (.mv (.tmp 8)))),
      ((some 28), (none, (.mv (.tmp 6)))),
      ((some 29), (none, (.bi .leq (.tmp 27) (.tmp 28))))])
  (.cond (.tmp 29)
      .skip
      (.exit 0)))
  (ref06_closed_BC_j6 f_ref06_Times_has)))))
  (ref06_closed_BC_j10 t_api_Span))))))
/-- (*macaroon/macaroonref06.Times).has: 41 slots, results [(.t 4)] -/
def ref06_Times_hasC : PC :=
  (.seq (.reg [((some 4), (none, (.mv (.const (.bool false)))))])
  (.seq (.reg [((some 5), (none, (.mv (.tmp 1)))),
    ((some 6), (none, (.mv (.tmp 0)))),
    ((some 7), (none, (.nilc (.tmp 6)))),
    ((some 8), (none, (.fa 0 (.tmp 7)))),
    ((some 9), (none, (.ld false (.tmp 8)))),
    ((some 10), (none, (.bi .geq (.tmp 5) (.tmp 9)))),
    ((some 11), (none, (.mv (.tmp 10)))),
    ((some 12), ((some (11, true)), (.mv (.tmp 1)))),
    ((some 13), ((some (11, true)), (.mv (.tmp 0)))),
    ((some 14), ((some (11, true)), (.nilc (.tmp 13)))),
    ((some 15), ((some (11, true)), (.fa 1 (.tmp 14)))),
    ((some 16), ((some (11, true)), (.ld false (.tmp 15)))),
    ((some 17), ((some (11, true)), (.bi .leq (.tmp 12) (.tmp 16)))),
    ((some 18), (none, (.pick (.tmp 11) (.tmp 17) (.const (.bool false))))),
    ((some 19), (none, (.mv (.tmp 18)))),
    ((some 20), ((some (19, true)), (.mv (.tmp 0)))),
    ((some 21), ((some (19, true)), (.nilc (.tmp 20)))),
    ((some 22), ((some (19, true)), (.fa 2 (.tmp 21)))),
    ((some 23), ((some (19, true)), (.ld false (.tmp 22)))),
    ((some 24), ((some (19, true)), (.mv (.tmp 1)))),
    ((some 25), ((some (19, true)), (.bi .quo (.tmp 24) (.const (.int .i64 1440))))),
    ((some 26), ((some (19, true)), (.bi .rem (.tmp 25) (.const (.int .i64 7))))),
    ((some 27), ((some (19, true)), (.cv .u64 (.tmp 26)))),
    ((some 28), ((some (19, true)), (.bi .shr (.tmp 23) (.tmp 27)))),
    ((some 29), ((some (19, true)), (.bi .rem (.tmp 28) (.const (.int .u64 2))))),
    ((some 30), ((some (19, true)), (.bi .eql (.tmp 29) (.const (.int .u64 1))))),
    ((some 31), (none, (.pick (.tmp 19) (.tmp 30) (.const (.bool false))))),
    ((some 32), (none, (.mv (.tmp 31)))),
    ((some 33), ((some (32, true)), (.mv (.tmp 0)))),
    ((some 34), ((some (32, true)), (.mv (.tmp 1)))),
    ((some 35), ((some (32, true)), (.bi .rem (.tmp 34) (.const (.int .i64 1440))))),
    ((some 36), ((some (32, true)), (.nilc (.tmp 33)))),
    ((some 37), ((some (32, true)), (.fa 3 (.tmp 36)))),
    ((some 38), ((some (32, true)), (.ixP 1440 1 (.tmp 37) (.tmp 35)))),
    ((some 39), ((some (32, true)), (.ld false (.tmp 38)))),
    ((some 40), (none, (.pick (.tmp 32) (.tmp 39) (.const (.bool false))))),
    ((some 4), (none, (.mv (.tmp 40))))])
  .ret))
end Go.PE
namespace Go.PE
open Go
/-- the row of the minutes of a day -/
def tmR (m : Nat → Bool) : List Value := (List.range 1440).map fun k => Value.bool (m k)
@[simp] theorem tmR_len (m : Nat → Bool) : (tmR m).length = 1440 := by simp [tmR]
theorem tmR_get (m : Nat → Bool) {k : Nat} (h : k < 1440) : (tmR m)[k]? = some (.bool (m k)) := by
  unfold tmR
  rw [List.getElem?_map, List.getElem?_range h]; rfl
@[simp] theorem tmR_dg (m : Nat → Bool) : (tmR m).map dg1 = tmR m := by
  unfold tmR
  rw [List.map_map]; rfl
theorem tmR_ext {l : List Value} {m : Nat → Bool} (hl : l.length = 1440) (h : ∀ k, k < 1440 → l[k]? = some (.bool (m k))) : l = tmR m := by
  refine List.ext_getElem? fun i => ?_
  by_cases hi : i < 1440
  · rw [h i hi, tmR_get m hi]
  · rw [List.getElem?_eq_none (by omega), List.getElem?_eq_none (by simp; omega)]
theorem tmR_rep : List.replicate 1440 (Value.bool false) = tmR fun _ => false := tmR_ext (List.length_replicate ..) fun k hk => by rw [List.getElem?_replicate, if_pos hk]
theorem tmR_set (m : Nat → Bool) {k : Nat} (b : Bool) (h : k < 1440) : (tmR m).take k ++ Value.bool b :: (tmR m).drop (k + 1) = tmR (upd m k b) := by
  refine tmR_ext (by simp; omega) fun j hj => ?_
  rcases Nat.lt_trichotomy j k with hlt | heq | hgt
  · rw [List.getElem?_append_left (by simp; omega), List.getElem?_take, if_pos hlt, tmR_get m hj, upd_ne _ _ (by omega)]
  · subst heq
    rw [List.getElem?_append_right (by simp; omega)]
    simp [show min j 1440 = j by omega]
  · rw [List.getElem?_append_right (by simp; omega), List.length_take, tmR_len, show min k 1440 = k by omega]
    obtain ⟨c, hc⟩ : ∃ c, j - k = c + 1 := ⟨j - k - 1, by omega⟩
    rw [hc, List.getElem?_cons_succ, List.getElem?_drop, show k + 1 + c = j by omega, tmR_get m hj, upd_ne _ _ (by omega)]
structure Tms where
  fr : Int
  to : Int
  days : Int
  m : Nat → Bool
def Tms.cells (t : Tms) : List Value := .int .i64 t.fr :: .int .i64 t.to :: .int .u64 t.days :: tmR t.m
@[simp] theorem Tms.len (t : Tms) : t.cells.length = 1443 := by simp [Tms.cells]
@[simp] theorem Tms.dg1s (t : Tms) : t.cells.map dg1 = t.cells := by simp [Tms.cells]
@[simp] theorem Tms.get0 (x : Tms) : x.cells[0]? = some (.int .i64 x.fr) := _root_.id rfl
@[simp] theorem Tms.get1 (x : Tms) : x.cells[1]? = some (.int .i64 x.to) := _root_.id rfl
@[simp] theorem Tms.get2 (x : Tms) : x.cells[2]? = some (.int .u64 x.days) := _root_.id rfl
@[simp] theorem Tms.getE0 (x : Tms) (h : 0 < x.cells.length) : x.cells[0] = .int .i64 x.fr := _root_.id rfl
@[simp] theorem Tms.getE1 (x : Tms) (h : 1 < x.cells.length) : x.cells[1] = .int .i64 x.to := _root_.id rfl
@[simp] theorem Tms.getE2 (x : Tms) (h : 2 < x.cells.length) : x.cells[2] = .int .u64 x.days := _root_.id rfl
theorem Tms.get3 (x : Tms) {k : Nat} (h : k < 1440) : x.cells[3 + k]? = some (.bool (x.m k)) := by
  unfold Tms.cells
  rw [show 3 + k = k + 1 + 1 + 1 by omega, List.getElem?_cons_succ, List.getElem?_cons_succ, List.getElem?_cons_succ, tmR_get _ h]
theorem Tms.set3 (x : Tms) {k : Nat} (b : Bool) (h : k < 1440) : x.cells.take (3 + k) ++ Value.bool b :: x.cells.drop (3 + k + 1) = { x with m := upd x.m k b : Tms }.cells := by
  unfold Tms.cells
  rw [show 3 + k = k + 1 + 1 + 1 by omega]
  simp [tmR_set _ b h]
/-- the set of minutes -/
def Tms.S (t : Tms) (m : Int) : Prop := Tm t.fr t.to (tb t.days) (fun k => t.m k.toNat = true) m
def Tms.has (t : Tms) (m : Int) : Bool := decide (t.fr ≤ m) && decide (m ≤ t.to) && tb t.days (wk m) && t.m (m % 1440).toNat
theorem Tms.has_iff (t : Tms) (m : Int) : t.has m = true ↔ t.S m := by
  simp [Tms.has, Tms.S, Tm, and_assoc]
def HasOK (P : Program) (f : Nat) : Prop := ∀ (t : Tms) (m : Int) (kt : Nat), isU64 t.days → 0 ≤ m → m ≤ 1000000000 → ∀ (H : Nat → Option (List Value)) (nx : Nat), H kt = some t.cells → kt < nx →
    PCalls P f [ptr kt 0, .int .i64 m] H nx (fun _ => False) (fun r H' _ => r = .bool (t.has m) ∧ H' = H)
theorem has_ok {P : Program} {f : Nat} (hc : compFn P f = some (41, ref06_Times_hasC, [.t 4])) : HasOK P f := by
  intro t m kt hdu h0 h1 H nx hkt hkn
  refine PCalls_of hc (by simp) fun hw => ?_
  have hmx : (maxLen : Int) = 9223372036854775807 := rfl
  have q1 : m.tdiv 1440 = m / 1440 := Int.tdiv_eq_ediv_of_nonneg h0
  have q2 : m.tmod 1440 = m % 1440 := Int.tmod_eq_emod_of_nonneg h0
  have q3 : (m / 1440).tmod 7 = m / 1440 % 7 := Int.tmod_eq_emod_of_nonneg (by omega)
  have hw1 := w64 (x := m / 1440) (by omega) (by omega)
  have hwu : IntKind.u64.wrap (m / 1440 % 7) = m / 1440 % 7 := by rw [IntKind.wrap_u64]; omega
  have q4 : min (m / 1440 % 7).toNat 64 = (m / 1440 % 7).toNat := by omega
  have q5 := shr_mod2 hdu (m / 1440 % 7).toNat
  have q6 : IntKind.u64.bits = 64 := rfl
  have hwk : wk m = (m / 1440 % 7).toNat := rfl
  have hg := t.get3 (k := (m % 1440).toNat) (by omega)
  by_cases g1 : t.fr ≤ m
  case neg =>
    simp [ref06_Times_hasC, hkt, g1]
    exact wF_own hw (by simp) ⟨by simp [Tms.has, g1], rfl⟩
  by_cases g2 : m ≤ t.to
  case neg =>
    simp [ref06_Times_hasC, hkt, g1, g2]
    exact wF_own hw (by simp) ⟨by simp [Tms.has, g2], rfl⟩
  cases hb : tb t.days (m / 1440 % 7).toNat with
  | false =>
    rw [hb] at q5
    simp [ref06_Times_hasC, hkt, g1, g2, q1, q2, q3, hw1, hwu, q4, q5, q6, show 0 ≤ m / 1440 % 7 by omega]
    exact wF_own hw (by simp) ⟨by simp [Tms.has, hwk, hb], rfl⟩
  | true =>
    rw [hb] at q5
    simp [ref06_Times_hasC, hkt, g1, g2, q1, q2, q3, hw1, hwu, q4, q5, q6, show 0 ≤ m / 1440 % 7 by omega, show 0 ≤ m % 1440 by omega, show m % 1440 < 1440 by omega, hg]
    exact wF_own hw (by simp) ⟨by simp [Tms.has, hwk, hb, g1, g2], rfl⟩
theorem rfull_ok {P : Program} {f tS : Nat} (hc : compFn P f = some (4, ref06_FullC tS, [.cA 0 8])) : FullOK P f := by
  intro H nx
  refine PCalls_of hc (by simp) fun hw => ?_
  simp [ref06_FullC]
  exact wF_own hw (by simp) ⟨rfl, rfl⟩
end Go.PE
namespace Go.PE
open Go
def TimesOK (P : Program) (f : Nat) : Prop := ∀ (a : Aut), (∀ s ∈ a.daily, 0 ≤ s.f ∧ s.t < 1440) → a.daily.length ≤ 1000000 → ∀ (H : Nat → Option (List Value)) (nx : Nat),
    PCalls P f [a.v] H nx (fun _ => False) (fun r H' nx' => nx' = nx + 1 + 1 ∧ r = ptr (nx + 1) 0 ∧ ∃ m : Nat → Bool, (∀ k : Nat, k < 1440 → (m k = true ↔ inS a.daily k)) ∧ H' = upd H (nx + 1) (some (Tms.mk a.fr a.to a.days m).cells))
theorem times_ok {P : Program} {f : Nat} (hc : compFn P f = some (43, ref06_timesC, [.t 2])) : TimesOK P f := by
  intro a hok hlen H nx
  refine PCalls_of hc (by simp) fun hw => ?_
  have hmx : (maxLen : Int) = 9223372036854775807 := rfl
  have a1 : ¬ nx = nx + 1 := by omega
  have a2 : nx ≤ nx + 1 := by omega
  have a3 : ¬ nx + 1 = nx := by omega
  have hcl : ∀ (u v d : Int) (m : Nat → Bool), (.int .i64 u :: .int .i64 v :: .int .u64 d :: tmR m : List Value) = (Tms.mk u v d m).cells := fun _ _ _ _ => rfl
  simp [ref06_timesC, tmR_rep, -List.reduceReplicate, hcl, a1, a2, a3]
  refine wpc_loop _ _ _ _ _ _ (fun s => s.t 1 = ptr nx 0 ∧ s.t 3 = ptr (nx + 1) 0 ∧ s.nx = nx + 1 + 1 ∧ s.H nx = some a.cells ∧ (∀ j, j ≠ nx → j ≠ nx + 1 → s.H j = H j) ∧ ∃ i : Nat, i ≤ a.daily.length ∧ s.t 4 = .int .i64 i ∧ ∃ m : Nat → Bool, (∀ k : Nat, k < 1440 → (m k = true ↔ inS (a.daily.take i) k)) ∧ s.H (nx + 1) = some (Tms.mk a.fr a.to a.days m).cells)
    (fun s => match s.t 4 with | .int _ i => (a.daily.length - i).toNat | _ => 0) _ ⟨by simp, by simp, by simp, by simp [a1], fun j h1 h2 => by simp [h1, h2], 0, by omega, by simp, fun _ => false, fun k _ => by simp [inS_nil], by simp⟩ ?_
  rintro ⟨T, H', nx'⟩ ⟨e1, e3, hnx, hha, hoth, i, hi, e4, m, hm, hHm⟩
  simp only at e1 e3 hnx hha hoth e4 hHm
  subst hnx
  simp [e1, e4, hha]
  refine wB_of (fun hlt => ?_) (fun hlt => ?_)
  · simp at hlt
    have he := elem_spn (l := a.daily) (n := (i : Int)) (by omega) (by simpa using hlt)
    simp at he
    have hw1 := w64 (x := (i : Int) + 1) (by omega) (by omega)
    have hs := hok _ (List.getElem_mem hlt)
    have htk : a.daily.take (i + 1) = a.daily.take i ++ [a.daily[i]] := List.take_succ_eq_append_getElem hlt
    generalize a.daily[i] = s at he hs htk
    simp [ref06_timesC_j2, e1, e3, e4, hha, he]
    refine wpc_loop _ _ _ _ _ _ (fun z => z.t 1 = ptr nx 0 ∧ z.t 3 = ptr (nx + 1) 0 ∧ z.t 4 = .int .i64 i ∧ z.nx = nx + 1 + 1 ∧ z.H nx = some a.cells ∧ (∀ j, j ≠ nx → j ≠ nx + 1 → z.H j = H j) ∧ ∃ k : Int, s.f ≤ k ∧ z.t 5 = .int .i64 k ∧ (k ≤ s.t + 1 ∨ k = s.f) ∧ ∃ m : Nat → Bool, (∀ j : Nat, j < 1440 → (m j = true ↔ inS (a.daily.take i) j ∨ (s.f ≤ j ∧ (j : Int) < k))) ∧ z.H (nx + 1) = some (Tms.mk a.fr a.to a.days m).cells)
      (fun z => match z.t 5 with | .int _ k => (s.t + 1 - k).toNat | _ => 0) _ ⟨by simp [e1], by simp [e3], by simp [e4], by simp, hha, hoth, s.f, Int.le_refl _, by simp, .inr rfl, m, fun j hj => by rw [hm j hj]; constructor <;> intro h <;> first | exact .inl h | (rcases h with h | h; exact h; omega), hHm⟩ ?_
    rintro ⟨T2, H2, n2⟩ ⟨f1, f3, f4, hn2, hha2, hoth2, k, hk1, f5, hk2, m2, hm2, hHm2⟩
    simp only at f1 f3 f4 hn2 hha2 hoth2 f5 hHm2
    subst hn2
    simp [f1, f4, f5, hha2, he]
    refine wB_of (fun hle => ?_) (fun hle => ?_)
    · simp at hle
      obtain ⟨kn, rfl⟩ := Int.eq_ofNat_of_zero_le (show 0 ≤ k by omega)
      have hk3 : kn < 1440 := by omega
      have hw2 := w64 (x := (kn : Int) + 1) (by omega) (by omega)
      have hset := (Tms.mk a.fr a.to a.days m2).set3 true hk3
      simp [ref06_timesC_j1, f3, f5, hHm2, hk3, show (kn : Int) < 1440 by omega, hw2, show 3 + kn + 1 ≤ 1443 by omega, a2, hset]
      refine kLoop_nrm _ _ _ _ (Sub_refl _ _) ⟨by simp [f1], by simp [f3], by simp [f4], by simp, by simp [a1, hha2], fun j h1 h2 => by simp [h2, hoth2 j h1 h2], (kn : Int) + 1, by omega, by simp, by omega, upd m2 kn true, fun j hj => ?_, by simp⟩ (by simp; omega)
      by_cases hjk : j = kn
      · subst hjk; simp; right; omega
      · rw [upd_ne _ _ hjk, hm2 j hj]
        constructor
        · rintro (h | h)
          · exact .inl h
          · exact .inr (by omega)
        · rintro (h | h)
          · exact .inl h
          · exact .inr (by omega)
    · simp at hle
      simp [f4, hw1]
      refine kLoop_nrm _ _ _ _ (Sub_refl _ _) ⟨by simp [f1], by simp [f3], by simp, hha2, hoth2, i + 1, by omega, by simp, m2, fun j hj => ?_, hHm2⟩ (by simp; omega)
      rw [hm2 j hj, htk, inS_append, inS_cons]
      have := inS_nil (j : Int)
      constructor
      · rintro (h | h)
        · exact .inl h
        · exact .inr (.inl (by omega))
      · rintro (h | h | h)
        · exact .inl h
        · exact .inr (by omega)
        · exact absurd h this
  · simp at hlt
    have hil : i = a.daily.length := by omega
    subst hil
    rw [List.take_length] at hm
    simp [e3]
    refine wF_sub (H1 := upd H (nx + 1) (some (Tms.mk a.fr a.to a.days m).cells)) (fun j => ?_) ⟨rfl, rfl, m, hm, rfl⟩
    by_cases j1 : j = nx + 1
    · subst j1; exact .inl (by simp [hHm])
    · by_cases j2 : j = nx
      · subst j2; exact .inr ⟨Nat.le_refl _, by rw [upd_ne _ _ j1]; exact hw _ (Nat.le_refl _)⟩
      · exact .inl (by rw [upd_ne _ _ j1, hoth j j2 j1])
end Go.PE
namespace Go.PE
open Go
structure WfT (t : Tms) : Prop where
  du : isU64 t.days
  fb : 0 ≤ t.fr ∧ t.fr ≤ 67108864 ∧ 0 ≤ t.to ∧ t.to ≤ 67108864
/-- the minutes that have been looked at -/
def SK (t : Tms) (day k m : Int) : Prop := t.S m ∧ near 9 (t.fr / 1440) (t.to / 1440) (m / 1440) ∧ (m / 1440 < day ∨ (m / 1440 = day ∧ m % 1440 < k))
def MM (mm : Nat → Bool) (k : Int) : Prop := 0 ≤ k ∧ k < 1440 ∧ mm k.toNat = true
theorem SK_0 (t : Tms) (m : Int) : ¬ SK t (t.fr / 1440) 0 m := fun h => by
  have := h.2.1.1; have := h.2.2; omega
theorem Tms.S_rng {t : Tms} (h : WfT t) {m : Int} (hm : t.S m) : 0 ≤ m ∧ m ≤ 67108864 := by
  have := hm.1; have := hm.2.1; have := h.fb; omega
theorem SK_skip {t : Tms} {d : Int} (h1 : t.fr / 1440 + 9 < d) (h2 : d < t.to / 1440 - 9) (m : Int) : SK t (t.to / 1440 - 9) 0 m ↔ SK t d 0 m := by
  unfold SK near
  constructor
  · rintro ⟨a1, a2, a3⟩; exact ⟨a1, a2, by omega⟩
  · rintro ⟨a1, a2, a3⟩; exact ⟨a1, a2, by omega⟩
theorem SK_next (t : Tms) (d m : Int) : SK t (d + 1) 0 m ↔ SK t d 1440 m := by
  unfold SK
  constructor
  · rintro ⟨a1, a2, a3⟩; exact ⟨a1, a2, by omega⟩
  · rintro ⟨a1, a2, a3⟩; exact ⟨a1, a2, by omega⟩
theorem SK_noday {t : Tms} {d : Int} (hb : tb t.days (d % 7).toNat = false) (m : Int) : SK t (d + 1) 0 m ↔ SK t d 0 m := by
  unfold SK
  constructor
  · rintro ⟨a1, a2, a3⟩
    refine ⟨a1, a2, ?_⟩
    apply Classical.byContradiction
    intro hn
    have hd : m / 1440 = d := by omega
    have := a1.2.2.1
    unfold wk at this
    rw [hd, hb] at this; cases this
  · rintro ⟨a1, a2, a3⟩; exact ⟨a1, a2, by omega⟩
theorem SK_no {t : Tms} {d k : Int} (h0 : 0 ≤ k) (h1 : k < 1440) (hn : ¬ t.S (d * 1440 + k)) (m : Int) : SK t d (k + 1) m ↔ SK t d k m := by
  unfold SK
  constructor
  · rintro ⟨a1, a2, a3⟩
    refine ⟨a1, a2, ?_⟩
    apply Classical.byContradiction
    intro hh
    exact hn (by rw [show d * 1440 + k = m by omega]; exact a1)
  · rintro ⟨a1, a2, a3⟩; exact ⟨a1, a2, by omega⟩
theorem SK_yes {t : Tms} {d k : Int} (h0 : 0 ≤ k) (h1 : k < 1440) (hn : t.S (d * 1440 + k)) (hnear : near 9 (t.fr / 1440) (t.to / 1440) d) (m : Int) : SK t d (k + 1) m ↔ SK t d k m ∨ m = d * 1440 + k := by
  unfold SK
  constructor
  · rintro ⟨a1, a2, a3⟩
    by_cases e : m = d * 1440 + k
    · exact .inr e
    · exact .inl ⟨a1, a2, by omega⟩
  · rintro (⟨a1, a2, a3⟩ | rfl)
    · exact ⟨a1, a2, by omega⟩
    · exact ⟨hn, by rw [show (d * 1440 + k) / 1440 = d by omega]; exact hnear, by omega⟩
theorem clo_min {t : Tms} {d k fr to days : Int} {mm : Nat → Bool} (ht : WfT t) (h : CloMO (SK t d k) fr to days (MM mm)) (hd : 0 ≤ d) (h0 : 0 ≤ k) (h1 : k < 1440) (hn : t.S (d * 1440 + k)) (hnear : near 9 (t.fr / 1440) (t.to / 1440) d) :
    CloMO (SK t d (k + 1)) (if fr < 0 then d * 1440 + k else fr) (d * 1440 + k) (bitsV .or .u64 days (2 ^ (d % 7).toNat)) (MM (upd mm k.toNat true)) := by
  have hwk : wk (d * 1440 + k) = (d % 7).toNat := by unfold wk; congr 2; omega
  rw [← hwk]
  refine .inr (h.add (by omega) (fun m hm => ?_) (fun m hm => (Tms.S_rng ht hm.1).1) (SK_yes h0 h1 hn hnear) fun j => ?_)
  · have := hm.2.2; omega
  · rw [show (d * 1440 + k) % 1440 = k by omega]
    unfold MM
    by_cases e : j = k
    · subst e; simp [h0, h1]
    · constructor
      · rintro ⟨a1, a2, a3⟩
        rw [upd_ne _ _ (by omega)] at a3
        exact .inl ⟨a1, a2, a3⟩
      · rintro (⟨a1, a2, a3⟩ | a)
        · exact ⟨a1, a2, by rw [upd_ne _ _ (by omega)]; exact a3⟩
        · exact absurd a e
/-- the row of the argument, as it is turned -/
def rRow (a : Aut) (d fr to : Int) (v : Value) : List Value := [.bool a.none, .int .u64 a.zones, .int .u64 a.lines, .int .u64 d, .int .i64 fr, .int .i64 to, v, .string a.holder]
structure RInv (a : Aut) (t : Tms) (kt nx : Nat) (H : Nat → Option (List Value)) (day k : Int) (s : PS) : Prop where
  t1 : s.t 1 = ptr kt 0
  t2 : s.t 2 = ptr nx 0
  t4 : s.t 4 = ptr (nx + 1) 0
  t5 : s.t 5 = .int .i64 (t.fr / 1440)
  t6 : s.t 6 = .int .i64 (t.to / 1440)
  t7 : s.t 7 = ptr (nx + 1 + 1) 0
  own : Own nx H s.H
  h2 : ∃ c, s.H (nx + 1) = some c ∧ c.length = 8
  o : ∃ d fr to mm, s.H nx = some (rRow a d fr to (ns [])) ∧ s.H (nx + 1 + 1) = some (tmR mm) ∧ CloMO (SK t day k) fr to d (MM mm)
  n : nx + 1 + 1 + 1 ≤ s.nx
theorem CloMO.bounds {t : Tms} {day k d fr to : Int} {M : Int → Prop} (ht : WfT t) (h : CloMO (SK t day k) fr to d M) : (-1 ≤ fr ∧ fr ≤ 67108864) ∧ (-1 ≤ to ∧ to ≤ 67108864) ∧ isU64 d := by
  rcases h with ⟨rfl, rfl, rfl, _⟩ | h
  · exact ⟨by omega, by omega, ⟨by omega, by omega⟩⟩
  · have h1 := Tms.S_rng ht h.fr.1.1; have h2 := Tms.S_rng ht h.to.1.1
    exact ⟨by omega, by omega, h.u⟩
section
variable {P : Program} {has : Nat} (hhas : HasOK P has)
include hhas
theorem rc_j3 {a : Aut} {t : Tms} {kt nx : Nat} {H : Nat → Option (List Value)} {day : Int} {k : Nat} {s : PS} {Q : Ex → PS → Prop} (ht : WfT t) (hkt : H kt = some t.cells) (hkn : kt < nx) (h : RInv a t kt nx H day k s) (hk : k < 1440) (h8 : s.t 8 = .int .i64 day) (h9 : s.t 9 = .int .i64 k) (hn : near 9 (t.fr / 1440) (t.to / 1440) day)
    (hK : ∀ s', RInv a t kt nx H day (k + 1 : Nat) s' → s'.t 8 = .int .i64 day → s'.t 9 = .int .i64 (k + 1 : Nat) → Q .nrm s') :
    wpc (PCalls P) P (fun _ => False) nx (ref06_closed_BC_j3 has) Q s := by
  obtain ⟨T, H', nx'⟩ := s
  obtain ⟨e1, e2, e4, e5, e6, e7, hown, ⟨c, hc2, hcl⟩, ⟨d, fr, to, mm, hrow, hmm, hclo⟩, hnx⟩ := h
  simp only at e1 e2 e4 e5 e6 e7 hown hc2 hrow hmm h8 h9 hnx
  have hmx : (maxLen : Int) = 9223372036854775807 := rfl
  have hfb := ht.fb
  obtain ⟨n1, n2, n3⟩ := hn
  have hkt' : H' kt = some t.cells := (hown kt hkn).trans hkt
  have hg := t.get3 hk
  have w1 := w64 (x := day * 1440) (by omega) (by omega)
  have w2 := w64 (x := day * 1440 + k) (by omega) (by omega)
  have w3 := w64 (x := (k : Int) + 1) (by omega) (by omega)
  have hmod : ((day * 1440 + (k : Int)) % 1440).toNat = k := by omega
  have same : ∀ {s2 : PS}, s2.H = H' → nx' ≤ s2.nx → (∀ u, u < 9 → s2.t u = T u) → ¬ t.S (day * 1440 + k) → RInv a t kt nx H day (k + 1 : Nat) s2 := fun {s2} h1 h2 h3 hns => by
    obtain ⟨T2, H2, m2⟩ := s2
    simp only at h1 h2 h3
    subst h1
    exact ⟨(h3 1 (by omega)).trans e1, (h3 2 (by omega)).trans e2, (h3 4 (by omega)).trans e4, (h3 5 (by omega)).trans e5, (h3 6 (by omega)).trans e6, (h3 7 (by omega)).trans e7, hown, ⟨c, hc2, hcl⟩, ⟨d, fr, to, mm, hrow, hmm, hclo.keep (SK_no (by omega) (by omega) hns)⟩, by show _ ≤ m2; omega⟩
  have kp : ∀ {t2 : Nat → Value}, t2 0 = T 0 → t2 1 = T 1 → t2 2 = T 2 → t2 3 = T 3 → t2 4 = T 4 → t2 5 = T 5 → t2 6 = T 6 → t2 7 = T 7 → t2 8 = T 8 → ∀ u, u < 9 → t2 u = T u := fun b0 b1 b2 b3 b4 b5 b6 b7 b8 u hu => by
    have : u = 0 ∨ u = 1 ∨ u = 2 ∨ u = 3 ∨ u = 4 ∨ u = 5 ∨ u = 6 ∨ u = 7 ∨ u = 8 := by omega
    rcases this with rfl | rfl | rfl | rfl | rfl | rfl | rfl | rfl | rfl <;> assumption
  cases hb : t.m k with
  | false =>
    have hns : ¬ t.S (day * 1440 + k) := fun hS => by
      have := hS.2.2.2
      simp only [hmod, hb] at this
      cases this
    simp [ref06_closed_BC_j3, e1, h9, hkt', hk, show (k : Int) < 1440 by omega, hg, hb, w3]
    exact hK _ (same rfl (Nat.le_refl _) (kp rfl rfl rfl rfl rfl rfl rfl rfl rfl) hns) (by simp [h8]) (by simp)
  | true =>
    simp [ref06_closed_BC_j3, e1, h8, h9, hkt', hk, show (k : Int) < 1440 by omega, hg, hb, w1, w2, w3]
    refine wCallB_of (wCall_eq (Q := fun r => r = .bool (t.has (day * 1440 + k))) (hhas t (day * 1440 + k) kt ht.du (by omega) (by omega) _ _ hkt' (by show kt < nx'; omega)) fun r m1 hr hm1 => ?_)
    subst hr
    simp at hm1
    cases hh : t.has (day * 1440 + k) with
    | false =>
      have hns : ¬ t.S (day * 1440 + k) := fun hS => by
        rw [(t.has_iff _).2 hS] at hh; cases hh
      simp [h9, w3]
      exact hK _ (same rfl hm1 (kp rfl rfl rfl rfl rfl rfl rfl rfl rfl) hns) (by simp [h8]) (by simp)
    | true =>
      have hS := (t.has_iff _).1 hh
      have hnew := clo_min ht hclo (by omega) (by omega) (by omega) hS ⟨n1, n2, n3⟩
      have q3 : day.tmod 7 = day % 7 := Int.tmod_eq_emod_of_nonneg (by omega)
      have q4 : min (day % 7).toNat 64 = (day % 7).toNat := by omega
      have q6 : IntKind.u64.bits = 64 := rfl
      have hwu : IntKind.u64.wrap (day % 7) = day % 7 := by rw [IntKind.wrap_u64]; omega
      have hwp : IntKind.u64.wrap (2 ^ (day % 7).toNat) = 2 ^ (day % 7).toNat := by
        have h7 : (day % 7).toNat < 7 := by omega
        generalize (day % 7).toNat = n at h7
        have : n = 0 ∨ n = 1 ∨ n = 2 ∨ n = 3 ∨ n = 4 ∨ n = 5 ∨ n = 6 := by omega
        rcases this with rfl | rfl | rfl | rfl | rfl | rfl | rfl <;> rfl
      have hset := tmR_set mm true hk
      unfold rRow at hrow
      have b1 : ¬ nx = nx + 1 + 1 := by omega
      have b2 : ¬ nx + 1 + 1 = nx := by omega
      have b3 : nx ≤ nx + 1 + 1 := by omega
      by_cases hfr : fr < 0
      · simp [ref06_closed_BC_j2, ref06_closed_BC_j1, e2, e7, h8, h9, hmm, hk, show (k : Int) < 1440 by omega, hset, hrow, b1, b2, b3, q3, q4, q6, hwu, hwp, show 0 ≤ day % 7 by omega, hfr, w1, w2, w3, show k + 1 ≤ 1440 by omega]
        rw [if_pos hfr] at hnew
        refine hK _ ⟨by simp [e1], by simp [e2], by simp [e4], by simp [e5], by simp [e6], by simp [e7], by simp [hown, b3], ⟨c, by simp [hc2], hcl⟩, ⟨_, _, _, _, by simp [b1, b2]; rfl, by simp [b1, b2], hnew⟩, by show _ ≤ m1; omega⟩ (by simp [h8]) (by simp)
      · simp [ref06_closed_BC_j2, ref06_closed_BC_j1, e2, e7, h8, h9, hmm, hk, show (k : Int) < 1440 by omega, hset, hrow, b1, b2, b3, q3, q4, q6, hwu, hwp, show 0 ≤ day % 7 by omega, hfr, w1, w2, w3, show k + 1 ≤ 1440 by omega]
        rw [if_neg hfr] at hnew
        refine hK _ ⟨by simp [e1], by simp [e2], by simp [e4], by simp [e5], by simp [e6], by simp [e7], by simp [hown, b3], ⟨c, by simp [hc2], hcl⟩, ⟨_, _, _, _, by simp [b1, b2]; rfl, by simp [b1, b2], hnew⟩, by show _ ≤ m1; omega⟩ (by simp [h8]) (by simp)
end
end Go.PE
namespace Go.PE
open Go
theorem RInv.turn {a : Aut} {t : Tms} {kt nx : Nat} {H : Nat → Option (List Value)} {day k day' k' : Int} {s s' : PS} (h : RInv a t kt nx H day k s) (hH : s'.H = s.H) (hn : s.nx ≤ s'.nx) (ht : ∀ u, u < 8 → s'.t u = s.t u) (hS : ∀ m, SK t day' k' m ↔ SK t day k m) : RInv a t kt nx H day' k' s' := by
  obtain ⟨e1, e2, e4, e5, e6, e7, hown, h2, ⟨d, fr, to, mm, hrow, hmm, hclo⟩, hnx⟩ := h
  exact ⟨(ht 1 (by omega)).trans e1, (ht 2 (by omega)).trans e2, (ht 4 (by omega)).trans e4, (ht 5 (by omega)).trans e5, (ht 6 (by omega)).trans e6, (ht 7 (by omega)).trans e7, by rw [hH]; exact hown, by rw [hH]; exact h2, ⟨d, fr, to, mm, by rw [hH]; exact hrow, by rw [hH]; exact hmm, hclo.keep hS⟩, by omega⟩
theorem kp8 {t2 T : Nat → Value} (b0 : t2 0 = T 0) (b1 : t2 1 = T 1) (b2 : t2 2 = T 2) (b3 : t2 3 = T 3) (b4 : t2 4 = T 4) (b5 : t2 5 = T 5) (b6 : t2 6 = T 6) (b7 : t2 7 = T 7) : ∀ u, u < 8 → t2 u = T u := fun u hu => by
  have : u = 0 ∨ u = 1 ∨ u = 2 ∨ u = 3 ∨ u = 4 ∨ u = 5 ∨ u = 6 ∨ u = 7 := by omega
  rcases this with rfl | rfl | rfl | rfl | rfl | rfl | rfl | rfl <;> assumption
section
variable {P : Program} {has : Nat} (hhas : HasOK P has)
include hhas
theorem rc_j5 {a : Aut} {t : Tms} {kt nx : Nat} {H : Nat → Option (List Value)} {day : Int} {s : PS} {Q : Ex → PS → Prop} (ht : WfT t) (hkt : H kt = some t.cells) (hkn : kt < nx) (h : RInv a t kt nx H day 0 s) (h8 : s.t 8 = .int .i64 day) (hn : near 9 (t.fr / 1440) (t.to / 1440) day)
    (hK : ∀ ex s', (ex = Ex.nrm ∨ ex = Ex.ext 1) → RInv a t kt nx H (day + 1) 0 s' → s'.t 8 = .int .i64 day → Q ex s') :
    wpc (PCalls P) P (fun _ => False) nx (ref06_closed_BC_j5 has) Q s := by
  obtain ⟨T, H', nx'⟩ := s
  have hmx : (maxLen : Int) = 9223372036854775807 := rfl
  have hfb := ht.fb
  have e1 : T 1 = ptr kt 0 := h.t1
  have h8 : T 8 = .int .i64 day := h8
  have hkt' : H' kt = some t.cells := (h.own kt hkn).trans hkt
  have hday0 : 0 ≤ day := by have := hn.1; omega
  have q3 : day.tmod 7 = day % 7 := Int.tmod_eq_emod_of_nonneg hday0
  have q4 : min (day % 7).toNat 64 = (day % 7).toNat := by omega
  have q5 := shr_mod2 ht.du (day % 7).toNat
  have q6 : IntKind.u64.bits = 64 := rfl
  have hwu : IntKind.u64.wrap (day % 7) = day % 7 := by rw [IntKind.wrap_u64]; omega
  cases hb : tb t.days (day % 7).toNat with
  | false =>
    rw [hb] at q5
    simp [ref06_closed_BC_j5, e1, h8, hkt', q3, q4, q5, q6, hwu, show 0 ≤ day % 7 by omega]
    exact hK _ _ (.inr rfl) (h.turn rfl (Nat.le_refl _) (kp8 rfl rfl rfl rfl rfl rfl rfl rfl) (SK_noday hb)) (by simp [h8])
  | true =>
    rw [hb] at q5
    simp [ref06_closed_BC_j5, ref06_closed_BC_j4, e1, h8, hkt', q3, q4, q5, q6, hwu, show 0 ≤ day % 7 by omega]
    obtain ⟨I, hI⟩ : ∃ I : PS → Prop, ∀ s, I s ↔ ∃ k : Nat, k ≤ 1440 ∧ RInv a t kt nx H day k s ∧ s.t 8 = .int .i64 day ∧ s.t 9 = .int .i64 k := ⟨_, fun _ => Iff.rfl⟩
    refine wpc_loop _ _ _ _ _ _ I (fun s => match s.t 9 with | .int _ k => (1440 - k).toNat | _ => 0) _ ((hI _).2 ⟨0, by omega, h.turn rfl (Nat.le_refl _) (kp8 rfl rfl rfl rfl rfl rfl rfl rfl) (fun _ => Iff.rfl), by simp [h8], by simp⟩) ?_
    intro s hs
    obtain ⟨k, hk, hR, f8, f9⟩ := (hI _).1 hs
    obtain ⟨T2, H2, n2⟩ := s
    have f8 : T2 8 = .int .i64 day := f8
    have f9 : T2 9 = .int .i64 k := f9
    simp [f9]
    refine wB_of (fun hlt => ?_) (fun hlt => ?_)
    · simp at hlt
      refine rc_j3 (k := k) hhas ht hkt hkn (hR.turn rfl (Nat.le_refl _) (kp8 rfl rfl rfl rfl rfl rfl rfl rfl) (fun _ => Iff.rfl)) (by omega) (by simp [f8]) (by simp [f9]) hn fun s3 hR3 g8 g9 => ?_
      obtain ⟨T3, H3, n3⟩ := s3
      have g9 : T3 9 = .int .i64 (k + 1 : Nat) := g9
      exact kLoop_nrm _ _ _ _ (Sub_refl _ _) ((hI _).2 ⟨k + 1, by omega, hR3, g8, g9⟩) (by simp [g9]; omega)
    · simp at hlt
      have hk2 : k = 1440 := by omega
      subst hk2
      exact hK _ _ (.inl rfl) (hR.turn rfl (Nat.le_refl _) (kp8 rfl rfl rfl rfl rfl rfl rfl rfl) (SK_next t day)) (by simp [f8])
end
end Go.PE
namespace Go.PE
open Go
structure UInv (a : Aut) (d fr to : Int) (mm : Nat → Bool) (nx : Nat) (H : Nat → Option (List Value)) (k : Nat) (s : PS) : Prop where
  t2 : s.t 2 = ptr nx 0
  t4 : s.t 4 = ptr (nx + 1) 0
  t7 : s.t 7 = ptr (nx + 1 + 1) 0
  own : Own nx H s.H
  h2 : ∃ c, s.H (nx + 1) = some c ∧ c.length = 8
  hm : s.H (nx + 1 + 1) = some (tmR mm)
  o : ∃ v out, s.H nx = some (rRow a d fr to v) ∧ Bx spEl (nx + 1 + 1 + 1) s.H s.H s.nx v out ∧ Run (MM mm) k out ∧ out.length ≤ k
theorem run_ix {out : List Spn} {o : List Spn} {x : Spn} (h : out = o ++ [x]) (rest : List Value) : (out.flatMap Spn.cells ++ rest)[(out.length - 1) * 2 + 1]? = some (.int .i64 x.t) := mrg_ix h rest
/-- a run begins -/
def runApp (t_api_Span : Nat) : PC :=
  (.reg [((some 133), (none, (.fa 6 (.tmp 2)))),
         ((some 134), (none, (.ld true (.tmp 133)))),
         ((some 135), (none, (.mv (.tmp 10)))),
         ((some 136), (none, (.mv (.tmp 10)))),
         ((some 137), (none, (.build [(.inr ((.tmp 135), 1)), (.inr ((.tmp 136), 1))]))),
         ((some 138), (none, (.mks t_api_Span 2 false [(.tmp 137)]))),
         ((some 139), (none, (.appB 2 16 [(.int .i64 0), (.int .i64 0)] 134 (.tmp 138)))),
         ((some 140), (none, (.fa 6 (.tmp 2)))),
         (none, (none, (.sts (.tmp 140) 139)))])
theorem rc_j7_eq (t_api_Span : Nat) : ref06_closed_BC_j7 t_api_Span =
  (.seq (.reg [((some 109), (none, (.fa 6 (.tmp 2)))),
       ((some 110), (none, (.ld false (.tmp 109)))),
       ((some 111), (none, (.lenB (.tmp 110)))),
       ((some 11), (none, (.mv (.tmp 111))))])
  (.seq (.reg [((some 112), (none, (.mv (.tmp 11)))),
       ((some 113), (none, (.bi .gtr (.tmp 112) (.const (.int .i64 0))))),
       ((some 114), (none, (.mv (.tmp 113)))),
       ((some 115), ((some (114, true)), (.fa 6 (.tmp 2)))),
       ((some 116), ((some (114, true)), (.ld false (.tmp 115)))),
       ((some 117), ((some (114, true)), (.mv (.tmp 11)))),
       ((some 118), ((some (114, true)), (.bi .sub (.tmp 117) (.const (.int .i64 1))))),
       ((some 119), ((some (114, true)), (.ixB 2 (.tmp 116) (.tmp 118)))),
       ((some 120), ((some (114, true)), (.fa 1 (.tmp 119)))),
       ((some 121), ((some (114, true)), (.ld false (.tmp 120)))),
       ((some 122), ((some (114, true)), (.mv (.tmp 10)))),
       ((some 123), ((some (114, true)), (.bi .sub (.tmp 122) (.const (.int .i64 1))))),
       ((some 124), ((some (114, true)), (.bi .eql (.tmp 121) (.tmp 123)))),
       ((some 125), (none, (.pick (.tmp 114) (.tmp 124) (.const (.bool false)))))])
  (.cond (.tmp 125)
       (.reg [((some 126), (none, (.fa 6 (.tmp 2)))),
         ((some 127), (none, (.ld false (.tmp 126)))),
         ((some 128), (none, (.mv (.tmp 11)))),
         ((some 129), (none, (.bi .sub (.tmp 128) (.const (.int .i64 1))))),
         ((some 130), (none, (.mv (.tmp 10)))),
         ((some 131), (none, (.ixB 2 (.tmp 127) (.tmp 129)))),
         ((some 132), (none, (.fa 1 (.tmp 131)))),
         (none, (none, (.st 1 (.tmp 132) (.tmp 130))))])
       (runApp t_api_Span)))) := rfl
section
variable {P : Program} {tS : Nat}
theorem rc_j7 {a : Aut} {d fr to : Int} {mm : Nat → Bool} {nx : Nat} {H : Nat → Option (List Value)} {k : Nat} {s : PS} {Q : Ex → PS → Prop} (h : UInv a d fr to mm nx H k s) (hk : k < 1440) (hmk : mm k = true) (h10 : s.t 10 = .int .i64 k)
    (hK : ∀ s', UInv a d fr to mm nx H (k + 1) s' → s'.t 10 = .int .i64 k → Q .nrm s') :
    wpc (PCalls P) P (fun _ => False) nx (ref06_closed_BC_j7 tS) Q s := by
  obtain ⟨T, H', nx'⟩ := s
  obtain ⟨e2, e4, e7, hown, ⟨c, hc2, hcl⟩, hmr, v, out, hrow, hB, hR, hol⟩ := h
  simp only at e2 e4 e7 hown hc2 hmr hrow hB h10
  have hmx : (maxLen : Int) = 9223372036854775807 := rfl
  have hn3 := hB.le
  have w1 := w64 (x := (k : Int) - 1) (by omega) (by omega)
  have hM : MM mm k := ⟨by omega, by omega, by simpa using hmk⟩
  unfold rRow at hrow
  have hsets : ∀ w : Value, ([.bool a.none, .int .u64 a.zones, .int .u64 a.lines, .int .u64 d, .int .i64 fr, .int .i64 to, w, .string a.holder] : List Value) = rRow a d fr to w := fun _ => rfl
  have app : ∀ (T2 : Nat → Value), T2 2 = ptr nx 0 → T2 4 = ptr (nx + 1) 0 → T2 7 = ptr (nx + 1 + 1) 0 → T2 10 = .int .i64 k → (∀ o x, out = o ++ [x] → x.t ≠ (k : Int) - 1) →
      wpc (PCalls P) P (fun _ => False) nx (runApp tS) Q ⟨T2, H', nx'⟩ := by
    intro T2 f2 f4 f7 f10 hnl
    simp [runApp, f2]
    refine wLdT_ptr (row := rRow a d fr to v) (c := v) (by simp [hrow]; rfl) rfl (.inr (Nat.le_refl _)) ?_
    simp [f2, f10, Spn.mk_v]
    have hB2 : Bx spEl (nx + 1 + 1 + 1) (upd H' nx (some ((rRow a d fr to v).set 6 (dg1 v)))) (upd H' nx (some ((rRow a d fr to v).set 6 (dg1 v)))) nx' v out := by
      obtain ⟨b1, b2, b3⟩ := hB
      refine ⟨fun _ _ => rfl, b2, b3.imp id ?_⟩
      rintro ⟨k2, cap, rest, a1, a2, a3, a4⟩
      exact ⟨k2, cap, rest, a1, a2, a3, by rw [upd_ne _ _ (by omega)]; exact a4⟩
    refine wAppB_base (n1 := nx + 1 + 1 + 1) (by omega) (Bx.app (E := spEl) (bytes := 16) (zero := [.int .i64 0, .int .i64 0]) (l := [⟨k, k⟩]) (m := out) hB2 rfl rfl (by simp [maxLen]; omega) (by simp; omega) fun v2 H3 nx3 hB3 => ?_)
    simp [f2]
    have h3 : H3 nx = some ((rRow a d fr to v).set 6 (dg1 v)) := by rw [hB3.own nx (by omega), upd_same]
    have hp1 : ∀ ps, v2 ≠ .tuple ps := by
      rcases hB3.2.2 with ⟨rfl, _⟩ | ⟨k, cap, rest, rfl, _⟩ <;> intro ps h <;> simp [ns, slc] at h
    have hp2 : ∀ ps, v2 ≠ .agg ps := by
      rcases hB3.2.2 with ⟨rfl, _⟩ | ⟨k, cap, rest, rfl, _⟩ <;> intro ps h <;> simp [ns, slc] at h
    refine ⟨nx, 6, (rRow a d fr to v).set 6 (dg1 v), by simp, h3, by simp [rRow], .inr (Nat.le_refl _), by simpa using hp1, by simpa using hp2, ?_⟩
    simp
    have hset6 : ((rRow a d fr to v).set 6 v2) = rRow a d fr to v2 := rfl
    rw [hset6]
    refine hK _ ⟨by simp [f2], by simp [f4], by simp [f7], fun j hj => ?_, ⟨c, ?_, hcl⟩, ?_, v2, out ++ [⟨k, k⟩], upd_same _ _ _, ?_, by have := hR.new (by omega) hM hnl; simpa using this, by simp; omega⟩ (by simp [f10])
    · show upd H3 nx _ j = _
      rw [upd_ne _ _ (by omega), hB3.own j (by omega), upd_ne _ _ (by omega)]; exact hown j hj
    · show upd H3 nx _ (nx + 1) = _
      rw [upd_ne _ _ (by omega), hB3.own (nx + 1) (by omega), upd_ne _ _ (by omega)]; exact hc2
    · show upd H3 nx _ (nx + 1 + 1) = _
      rw [upd_ne _ _ (by omega), hB3.own (nx + 1 + 1) (by omega), upd_ne _ _ (by omega)]; exact hmr
    · obtain ⟨b1, b2, b3⟩ := hB3
      refine ⟨fun _ _ => rfl, b2, b3.imp id ?_⟩
      rintro ⟨k2, cap, rest, a1, a2, a3, a4, a5⟩
      exact ⟨k2, cap, rest, a1, a2, a3, by show upd H3 nx _ k2 = _; rw [upd_ne _ _ (by omega)]; exact a4, a5⟩
  rw [rc_j7_eq]
  rcases List.eq_nil_or_concat out with rfl | ⟨o, x, hox⟩
  · have hlv : lenV (dg (dg1 v)) = some 0 := by
      rcases hB.2.2 with ⟨rfl, _⟩ | ⟨k, cap, rest, rfl, _⟩ <;> rfl
    simp [e2, hrow, hlv]
    exact app _ (by simp [e2]) (by simp [e4]) (by simp [e7]) (by simp [h10]) (fun o x h => by simp at h)
  · rw [List.concat_eq_append] at hox
    have hpos : 0 < out.length := by rw [hox]; simp
    obtain ⟨k2, cap, rest, rfl, a2, a3, a4, a5, a6, a7⟩ := hB.at hpos
    have hix := run_ix hox rest
    have wl := w64 (x := (out.length : Int) - 1) (by omega) (by omega)
    have hp1 : (1 : Int) ≤ out.length := by omega
    have hp2 : (out.length : Int) - 1 < out.length := by omega
    have hnat : ((out.length : Int) - 1).toNat = out.length - 1 := by omega
    have hfl2 := fl_len Spn.cells 2 Spn.len (l := out)
    have hrl : (out.length - 1) * 2 + 1 < (out.flatMap Spn.cells ++ rest).length := by rw [List.length_append, hfl2]; omega
    replace a4 : H' k2 = some (out.flatMap Spn.cells ++ rest) := a4
    have k2n : ¬ nx = k2 := by omega
    by_cases hx : x.t = (k : Int) - 1
    · simp [e2, h10, hrow, hpos, wl, w1, hp1, hp2, hnat, a4, hix, hx, hfl2, -List.length_flatMap]
      refine ⟨by rw [List.length_append, hfl2] at hrl; omega, by omega, ?_⟩
      have hset : out.set (out.length - 1) ⟨x.f, k⟩ = o ++ [⟨x.f, k⟩] := by
        rw [hox, List.set_append_right _ _ (by simp)]
        simp
      have hlo : (o ++ [(⟨x.f, k⟩ : Spn)]).length = out.length := by rw [hox]; simp
      have hbs := Bx.set (E := spEl) (n0 := nx + 1 + 1 + 1) (H0 := H') (H := H') (nx := nx') (m := out) (k := k2) (cap := cap) (i := out.length - 1) (o := 1) (rest := rest) (vs := [.int .i64 k]) (a := ⟨x.f, k⟩) (fun _ _ => rfl) a2 a3 a5 a6 a7 (by omega) (by simp [spEl]) (by
        have : out[out.length - 1] = x := by simp [hox]
        rw [this]; rfl) rfl
      rw [hset] at hbs
      simp [spEl] at hbs
      have hR' := hR
      rw [hox] at hR'
      have hnew := hR'.ext hM (by omega)
      refine hK _ ⟨by simp [e2], by simp [e4], by simp [e7], ?_, ⟨c, ?_, hcl⟩, ?_, slc k2 0 out.length cap, o ++ [⟨x.f, k⟩], ?_, ?_, by simpa using hnew, by rw [hlo]; omega⟩ (by simp [h10])
      · show Own nx H (upd H' k2 _)
        rw [own_upd (by omega)]; exact hown
      · show upd H' k2 _ (nx + 1) = _
        rw [upd_ne _ _ (by omega)]; exact hc2
      · show upd H' k2 _ (nx + 1 + 1) = _
        rw [upd_ne _ _ (by omega)]; exact hmr
      · show upd H' k2 _ nx = _
        rw [upd_ne _ _ (by omega)]; exact hrow
      · obtain ⟨b1, b2, b3⟩ := hbs
        exact ⟨fun _ _ => rfl, b2, b3⟩
    · have hx' : (x.t == (k : Int) - 1) = false := by simpa using hx
      simp [e2, h10, hrow, hpos, wl, w1, hp1, hp2, hnat, a4, hix, hx']
      refine app _ (by simp [e2]) (by simp [e4]) (by simp [e7]) (by simp [h10]) (fun o' x' h => ?_)
      rw [hox] at h
      have : x' = x := by
        have := (List.append_inj' h rfl).2
        simpa using this.symm
      rw [this]; exact hx
end
end Go.PE
namespace Go.PE
open Go
section
variable {P : Program} {has : Nat} (hhas : HasOK P has)
include hhas
theorem rc_j6 {a : Aut} {t : Tms} {kt nx : Nat} {H : Nat → Option (List Value)} {day : Int} {s : PS} {Q : Ex → PS → Prop} (ht : WfT t) (hkt : H kt = some t.cells) (hkn : kt < nx) (h : RInv a t kt nx H day 0 s) (h8 : s.t 8 = .int .i64 day) (h0 : t.fr / 1440 ≤ day) (h1 : day ≤ t.to / 1440)
    (hK : ∀ s' (day' : Int), RInv a t kt nx H day' 0 s' → s'.t 8 = .int .i64 day' → day < day' → day' ≤ t.to / 1440 + 1 → Q .nrm s') :
    wpc (PCalls P) P (fun _ => False) nx (ref06_closed_BC_j6 has) Q s := by
  have hfb := ht.fb
  have hw3 := w64 (x := t.fr / 1440 + 9) (by omega) (by omega)
  have hw4 := w64 (x := t.to / 1440 - 9) (by omega) (by omega)
  have fin1 : ∀ (day' : Int) (s' : PS), day ≤ day' → day' ≤ t.to / 1440 → RInv a t kt nx H (day' + 1) 0 s' → s'.t 8 = .int .i64 day' →
      kSeq (PCalls P) P (fun _ => False) nx (PC.reg [(some 30, none, PI.mv (Operand.tmp 8)), (some 31, none, PI.bi BinOp.add (Operand.tmp 30) (Operand.const (Value.int IntKind.i64 1))), (some 8, none, PI.mv (Operand.tmp 31))]) Q Ex.nrm s' := by
    intro day' s' g1 g2 hR g8
    have hwd := w64 (x := day' + 1) (by omega) (by omega)
    obtain ⟨T2, H2, n2⟩ := s'
    have g8 : T2 8 = .int .i64 day' := g8
    simp [g8, hwd]
    exact hK _ (day' + 1) (hR.turn rfl (Nat.le_refl _) (kp8 rfl rfl rfl rfl rfl rfl rfl rfl) fun _ => Iff.rfl) (by simp) (by omega) (by omega)
  have body : ∀ (day' : Int) (s' : PS), RInv a t kt nx H day' 0 s' → s'.t 8 = .int .i64 day' → day ≤ day' → day' ≤ t.to / 1440 → near 9 (t.fr / 1440) (t.to / 1440) day' →
      wpc (PCalls P) P (fun _ => False) nx (ref06_closed_BC_j5 has) (kBlock 1 (kSeq (PCalls P) P (fun _ => False) nx (PC.reg [(some 30, none, PI.mv (Operand.tmp 8)), (some 31, none, PI.bi BinOp.add (Operand.tmp 30) (Operand.const (Value.int IntKind.i64 1))), (some 8, none, PI.mv (Operand.tmp 31))]) Q)) s' := by
    intro day' s' hR' h8' hle hle2 hn
    refine rc_j5 hhas ht hkt hkn hR' h8' hn fun ex s2 hex hR2 h82 => ?_
    have := fin1 day' s2 hle hle2 hR2 h82
    rcases hex with rfl | rfl
    · simpa using this
    · simpa using this
  obtain ⟨T, H', nx'⟩ := s
  have e5 : T 5 = .int .i64 (t.fr / 1440) := h.t5
  have e6 : T 6 = .int .i64 (t.to / 1440) := h.t6
  have h8 : T 8 = .int .i64 day := h8
  by_cases hsk : t.fr / 1440 + 9 < day ∧ day < t.to / 1440 - 9
  · simp [ref06_closed_BC_j6, e5, e6, h8, hw3, hw4, hsk.1, hsk.2]
    exact body (t.to / 1440 - 9) _ (h.turn rfl (Nat.le_refl _) (kp8 rfl rfl rfl rfl rfl rfl rfl rfl) (SK_skip hsk.1 hsk.2)) (by simp) (by omega) (by omega) ⟨by omega, by omega, by omega⟩
  · have hnear : near 9 (t.fr / 1440) (t.to / 1440) day := ⟨by omega, by omega, by omega⟩
    by_cases hs1 : t.fr / 1440 + 9 < day
    · have hs2 : ¬ day < t.to / 1440 - 9 := fun h => hsk ⟨hs1, h⟩
      simp [ref06_closed_BC_j6, e5, e6, h8, hw3, hw4, hs1, hs2]
      exact body day _ (h.turn rfl (Nat.le_refl _) (kp8 rfl rfl rfl rfl rfl rfl rfl rfl) (fun _ => Iff.rfl)) (by simp [h8]) (by omega) (by omega) hnear
    · simp [ref06_closed_BC_j6, e5, e6, h8, hw3, hw4, hs1]
      exact body day _ (h.turn rfl (Nat.le_refl _) (kp8 rfl rfl rfl rfl rfl rfl rfl rfl) (fun _ => Iff.rfl)) (by simp [h8]) (by omega) (by omega) hnear
end
theorem UInv.turn {a : Aut} {d fr to : Int} {mm : Nat → Bool} {nx : Nat} {H : Nat → Option (List Value)} {k : Nat} {s s' : PS} (h : UInv a d fr to mm nx H k s) (hH : s'.H = s.H) (hn : s'.nx = s.nx) (ht : ∀ u, u < 8 → s'.t u = s.t u) : UInv a d fr to mm nx H k s' := by
  obtain ⟨e2, e4, e7, hown, h2, hm, ho⟩ := h
  exact ⟨(ht 2 (by omega)).trans e2, (ht 4 (by omega)).trans e4, (ht 7 (by omega)).trans e7, by rw [hH]; exact hown, by rw [hH]; exact h2, by rw [hH]; exact hm, by rw [hH, hn]; exact ho⟩
theorem UInv.skip {a : Aut} {d fr to : Int} {mm : Nat → Bool} {nx : Nat} {H : Nat → Option (List Value)} {k : Nat} {s : PS} (h : UInv a d fr to mm nx H k s) (hk : mm k = false) : UInv a d fr to mm nx H (k + 1) s := by
  obtain ⟨e2, e4, e7, hown, h2, hm, v, out, hrow, hB, hR, hol⟩ := h
  exact ⟨e2, e4, e7, hown, h2, hm, v, out, hrow, hB, by have := hR.skip (fun h => by have := h.2.2; simp [hk] at this); simpa using this, by omega⟩
section
variable {P : Program} {tS : Nat}
theorem rc_j8 {a : Aut} {d fr to : Int} {mm : Nat → Bool} {nx : Nat} {H : Nat → Option (List Value)} {k : Nat} {s : PS} {Q : Ex → PS → Prop} (h : UInv a d fr to mm nx H k s) (hk : k < 1440) (h10 : s.t 10 = .int .i64 k)
    (hK : ∀ s', UInv a d fr to mm nx H (k + 1) s' → s'.t 10 = .int .i64 (k + 1 : Nat) → Q .nrm s') :
    wpc (PCalls P) P (fun _ => False) nx (ref06_closed_BC_j8 tS) Q s := by
  have hw := w64 (x := (k : Int) + 1) (by omega) (by omega)
  have fin1 : ∀ (s' : PS), UInv a d fr to mm nx H (k + 1) s' → s'.t 10 = .int .i64 k →
      kSeq (PCalls P) P (fun _ => False) nx (PC.reg [(some 103, none, PI.mv (Operand.tmp 10)), (some 104, none, PI.bi BinOp.add (Operand.tmp 103) (Operand.const (Value.int IntKind.i64 1))), (some 10, none, PI.mv (Operand.tmp 104))]) Q Ex.nrm s' := by
    intro s' hU g
    obtain ⟨T2, H2, n2⟩ := s'
    have g : T2 10 = .int .i64 k := g
    simp [g, hw]
    exact hK _ (hU.turn rfl rfl (kp8 rfl rfl rfl rfl rfl rfl rfl rfl)) (by simp)
  obtain ⟨T, H', nx'⟩ := s
  have e7 : T 7 = ptr (nx + 1 + 1) 0 := h.t7
  have hm : H' (nx + 1 + 1) = some (tmR mm) := h.hm
  have h10 : T 10 = .int .i64 k := h10
  have hg : (tmR mm)[k]'(by simp; omega) = .bool (mm k) := by
    have := tmR_get mm hk
    rw [List.getElem?_eq_getElem (by simp; omega)] at this
    exact Option.some.inj this
  cases hmk : mm k with
  | false =>
    simp [ref06_closed_BC_j8, e7, h10, hm, hk, show (k : Int) < 1440 by omega, hg, hmk, hw]
    exact hK _ ((h.skip hmk).turn rfl rfl (kp8 rfl rfl rfl rfl rfl rfl rfl rfl)) (by simp)
  | true =>
    simp [ref06_closed_BC_j8, e7, h10, hm, hk, show (k : Int) < 1440 by omega, hg, hmk]
    refine rc_j7 (h.turn rfl rfl (kp8 rfl rfl rfl rfl rfl rfl rfl rfl)) hk hmk (by simp [h10]) fun s' hU g => ?_
    have := fin1 s' hU g
    simpa using this
end
end Go.PE
namespace Go.PE
open Go
/-- the summary of t, with the zones, the lines and the holder of a -/
def RClosed (a : Aut) (t : Tms) (r : Aut) : Prop := ((∀ m, ¬ t.S m) ∧ r = noneA) ∨ ∃ f u d l, Clo t.S f u d l ∧ r = ⟨false, a.zones, a.lines, d, f, u, l, a.holder⟩
def RClosedOK (P : Program) (f : Nat) : Prop := ∀ (a : Aut) (t : Tms) (kt : Nat), a.none = false → WfT t → ∀ (H : Nat → Option (List Value)) (nx : Nat), H kt = some t.cells → kt < nx →
    PCalls P f [a.v, ptr kt 0] H nx (fun _ => False) (fun r H' _ => (∃ r', r = r'.v ∧ RClosed a t r') ∧ H' = H)
theorem rc_end {t : Tms} {d fr to days : Int} {M : Int → Prop} (h : CloMO (SK t d 0) fr to days M) (hd : t.to / 1440 < d) : (fr = -1 ∧ ∀ m, ¬ t.S m) ∨ (0 ≤ fr ∨ True) ∧ CloM (SK t d 0) fr to days M ∧ ∀ l, Clo (SK t d 0) fr to days l → Clo t.S fr to days l := by
  have e : ∀ m, SK t d 0 m ↔ Tm t.fr t.to (tb t.days) (fun k => t.m k.toNat = true) m ∧ near 9 (t.fr / 1440) (t.to / 1440) (m / 1440) := fun m => by
    unfold SK
    constructor
    · rintro ⟨a1, a2, _⟩; exact ⟨a1, a2⟩
    · rintro ⟨a1, a2⟩; exact ⟨a1, a2, by have := a2.2.1; omega⟩
  rcases h with ⟨h1, _, _, _, h2⟩ | h
  · exact .inl ⟨h1, near_none (n := 9) (by omega) fun m hm => h2 m ((e m).2 hm)⟩
  · exact .inr ⟨.inr trivial, h, fun l hl => near_all (n := 9) (by omega) (hl.congr e)⟩
section
variable {P : Program} {tS : Nat}
theorem rc_j9 {a : Aut} {t : Tms} {nx : Nat} {H : Nat → Option (List Value)} {d fr to : Int} {mm : Nat → Bool} {s : PS} (hw : ∀ k, nx ≤ k → H k = none) (hn : a.none = false) (h : UInv a d fr to mm nx H 0 s) (hne : ∃ k, MM mm k)
    (hcl : ∀ l, canon (-1) l → (∀ k, inS l k ↔ MM mm k) → Clo t.S fr to d l) :
    wpc (PCalls P) P (fun _ => False) nx (ref06_closed_BC_j9 tS) (fin nx [RV.cA 4 8] fun r H' _ => (∃ r', r = r'.v ∧ RClosed a t r') ∧ H' = H) s := by
  obtain ⟨T, H', nx'⟩ := s
  simp [ref06_closed_BC_j9]
  obtain ⟨I, hI⟩ : ∃ I : PS → Prop, ∀ s, I s ↔ ∃ k : Nat, k ≤ 1440 ∧ UInv a d fr to mm nx H k s ∧ s.t 10 = .int .i64 k := ⟨_, fun _ => Iff.rfl⟩
  refine wpc_loop _ _ _ _ _ _ I (fun s => match s.t 10 with | .int _ k => (1440 - k).toNat | _ => 0) _ ((hI _).2 ⟨0, by omega, h.turn rfl rfl (kp8 rfl rfl rfl rfl rfl rfl rfl rfl), by simp⟩) ?_
  intro s hs
  obtain ⟨k, hk, hU, f10⟩ := (hI _).1 hs
  obtain ⟨T2, H2, n2⟩ := s
  have f10 : T2 10 = .int .i64 k := f10
  simp [f10]
  refine wB_of (fun hlt => ?_) (fun hlt => ?_)
  · have hlt : k < 1440 := by simp at hlt; omega
    refine rc_j8 (hU.turn rfl rfl (kp8 rfl rfl rfl rfl rfl rfl rfl rfl)) hlt (by simp [f10]) fun s3 hU3 g10 => ?_
    obtain ⟨T3, H3, n3⟩ := s3
    have g10 : T3 10 = .int .i64 (k + 1 : Nat) := g10
    exact kLoop_nrm _ _ _ _ (Sub_refl _ _) ((hI _).2 ⟨k + 1, by omega, hU3, g10⟩) (by simp [g10]; omega)
  · simp at hlt
    have hk2 : k = 1440 := by omega
    subst hk2
    obtain ⟨e2, e4, e7, hown, ⟨c, hc2, hcl2⟩, hm, v, l, hrow, hB, hR, hol⟩ := hU
    simp only at e2 e4 e7 hown hc2 hm hrow hB
    have hin : ∀ k, inS l k ↔ MM mm k := fun k => by
      rw [hR.s]
      constructor
      · rintro ⟨a, _, _⟩; exact a
      · intro a; exact ⟨a, a.1, a.2.1⟩
    have hlne : l ≠ [] := fun e => by
      obtain ⟨k, hk⟩ := hne
      have := (hin k).2 hk
      rw [e] at this; exact inS_nil _ this
    have hrow' : H2 nx = some (outRow a d fr to v) := by rw [hrow]; unfold rRow outRow; rw [hn]
    have hrow2 := hrow'
    unfold outRow at hrow2
    simp [e2, e4, hrow2, hc2, hcl2]
    rw [List.drop_of_length_le (by omega)]
    have hv : dg1 (dg1 v) = v := by
      obtain ⟨k, cap, rest, rfl, _⟩ := hB.at (List.length_pos_iff.2 hlne)
      rfl
    simp [hv]
    refine wF_out (n1 := nx + 1 + 1 + 1) (l := l) hw (by rw [own_upd (by omega)]; exact hown) (by omega) ?_ hlne ⟨⟨_, rfl, .inr ⟨fr, to, d, l, hcl l hR.c hin, rfl⟩⟩, rfl⟩
    obtain ⟨b1, b2, b3⟩ := hB
    refine ⟨fun _ _ => rfl, b2, b3.imp id ?_⟩
    rintro ⟨k2, cap, rest, a1, a2, a3, a4⟩
    exact ⟨k2, cap, rest, a1, a2, a3, by rw [upd_ne _ _ (by omega)]; exact a4⟩
end
theorem rclosed_ok {P : Program} {f tS has : Nat} (hc : compFnX P [tS] f = some (142, ref06_closed_BC has tS, [.cA 4 8])) (hhas : HasOK P has) : RClosedOK P f := by
  intro a t kt hn ht H nx hkt hkn
  refine PCalls_ofX hc (by simp) fun hw => ?_
  have hmx : (maxLen : Int) = 9223372036854775807 := rfl
  have hfb := ht.fb
  have a1 : ¬ nx = nx + 1 + 1 := by omega
  have a2 : ¬ nx + 1 = nx + 1 + 1 := by omega
  have a3 : ¬ nx = nx + 1 := by omega
  have a4 : nx ≤ nx + 1 + 1 := by omega
  have a5 : nx ≤ nx + 1 := by omega
  have a6 : ¬ nx + 1 = nx := by omega
  have a7 : ¬ nx + 1 + 1 = nx := by omega
  have a8 : ¬ nx + 1 + 1 = nx + 1 := by omega
  have k1 : ¬ kt = nx := by omega
  have k2 : ¬ kt = nx + 1 := by omega
  have k3 : ¬ kt = nx + 1 + 1 := by omega
  have q1 : t.fr.tdiv 1440 = t.fr / 1440 := Int.tdiv_eq_ediv_of_nonneg hfb.1
  have q2 : t.to.tdiv 1440 = t.to / 1440 := Int.tdiv_eq_ediv_of_nonneg hfb.2.2.1
  have hw1 := w64 (x := t.fr / 1440) (by omega) (by omega)
  have hw2 := w64 (x := t.to / 1440) (by omega) (by omega)
  simp [ref06_closed_BC, tmR_rep, -List.reduceReplicate, a1, a2, a3, a4, a5, a6, a7, a8, k1, k2, k3, hkt, q1, q2, hw1, hw2]
  refine ⟨nx, 6, [.bool a.none, .int .u64 a.zones, .int .u64 a.lines, .int .u64 0, .int .i64 (-1), .int .i64 (-1), deep (a.daily.map Spn.v), .string a.holder], rfl, by simp [Aut.cells, a1], by simp, .inr (Nat.le_refl _), ?_⟩
  simp
  obtain ⟨I, hI⟩ : ∃ I : PS → Prop, ∀ s, I s ↔ ∃ day : Int, RInv a t kt nx H day 0 s ∧ s.t 8 = .int .i64 day ∧ t.fr / 1440 ≤ day ∧ day ≤ 50000 := ⟨_, fun _ => Iff.rfl⟩
  refine wpc_loop _ _ _ _ _ _ I (fun s => match s.t 8 with | .int _ d => (t.to / 1440 + 1 - d).toNat | _ => 0) _ ((hI _).2 ⟨t.fr / 1440, ⟨by simp, by simp, by simp, by simp, by simp, by simp, ?_, ⟨_, by simp [a2, a6]; rfl, rfl⟩, ⟨0, -1, -1, fun _ => false, by simp [rRow], by simp [a7, a8], .inl ⟨rfl, rfl, rfl, fun k hk => by simp [MM] at hk, SK_0 t⟩⟩, by simp⟩, by simp, by omega, by omega⟩) ?_
  · simp [a4, a5]
  intro s hs
  obtain ⟨day, hC, h8, hd0, hd1⟩ := (hI _).1 hs
  obtain ⟨T, H', nx'⟩ := s
  have e6 : T 6 = .int .i64 (t.to / 1440) := hC.t6
  have h8 : T 8 = .int .i64 day := h8
  simp [e6, h8]
  refine wB_of (fun hlt => ?_) (fun hlt => ?_)
  · simp at hlt
    refine rc_j6 hhas ht hkt hkn (hC.turn rfl (Nat.le_refl _) (kp8 rfl rfl rfl rfl rfl rfl rfl rfl) fun _ => Iff.rfl) (by simp [h8]) hd0 hlt fun s3 day' hR3 g8 g1 g2 => ?_
    obtain ⟨T3, H3, n3⟩ := s3
    have g8 : T3 8 = .int .i64 day' := g8
    exact kLoop_nrm _ _ _ _ (Sub_refl _ _) ((hI _).2 ⟨day', hR3, g8, by omega, by omega⟩) (by simp [g8]; omega)
  · simp at hlt
    obtain ⟨e1, e2, e4, e5, _, e7, hown, ⟨c, hc2, hcl⟩, ⟨d, fr, to, mm, hrow, hmm, hclo⟩, hnx⟩ := hC
    simp only at e1 e2 e4 e5 e7 hown hc2 hrow hmm hnx
    have hrow2 := hrow
    unfold rRow at hrow2
    rcases rc_end hclo (by omega) with ⟨rfl, hno⟩ | ⟨_, hcm, hcl9⟩
    · simp [ref06_closed_BC_j10, e2, e4, hrow2, hc2, hcl]
      rw [List.drop_of_length_le (by omega)]
      exact wF_own hw (by rw [own_upd (by omega)]; exact hown) ⟨⟨noneA, rfl, .inl ⟨hno, rfl⟩⟩, rfl⟩
    · have hfr0 : ¬ fr < 0 := by have := (Tms.S_rng ht hcm.fr.1.1).1; omega
      have hfrr : 0 ≤ fr % 1440 := by omega
      simp [ref06_closed_BC_j10, e2, hrow2, hfr0]
      refine rc_j9 (d := d) (fr := fr) (to := to) (mm := mm) hw hn ⟨by simp [e2], by simp [e4], by simp [e7], hown, ⟨c, hc2, hcl⟩, hmm, ns [], [], hrow, Bx.nil (fun _ _ => rfl) (by simp; omega), Run.nil _, by simp⟩ ⟨fr % 1440, (hcm.M _).2 ⟨fr, hcm.fr.1, rfl⟩⟩ fun l hc hl => hcl9 l (hcm.clo hc hl)
end Go.PE
namespace Go.PE
open Go
instance (fr to k : Int) : Decidable (dayB fr to k) := by unfold dayB; exact inferInstance
def oA (a : Aut) (t : Tms) (none : Bool) (dl : List Spn) : Aut := ⟨false, if none then 0 else a.zones, a.lines, t.days, t.fr, t.to, dl, a.holder⟩
structure OInv (l : List Pred) (a : Aut) (t : Tms) (none : Bool) : Prop where
  an : a.none = false
  ex : ∃ dl, OfI l (oA a t none dl) ∧ ∀ k : Nat, k < 1440 → (t.m k = true ↔ inS dl k)
theorem day_list (fr to : Int) : ∃ dl : List Spn, canon (-1) dl ∧ ∀ k, inS dl k ↔ 0 ≤ k ∧ k < 1440 ∧ dayB fr to k := by
  obtain ⟨dl, h⟩ := Run.ex (dayB fr to) 1440
  refine ⟨dl, h.c, fun k => (h.s k).trans ?_⟩
  constructor
  · rintro ⟨a, b, c⟩; exact ⟨b, by omega, a⟩
  · rintro ⟨a, b, c⟩; exact ⟨c, a, by omega⟩
section
variable {l : List Pred} {a : Aut} {t : Tms} {none : Bool} {p : Pred} (h : OInv l a t none)
include h
theorem OInv.zone (hp : p.kind = 1) (hm : isU64 p.mask) : OInv (l ++ [p]) { a with zones := bitsV .and .u64 a.zones p.mask : Aut } t none := by
  obtain ⟨an, dl, ho, hd⟩ := h
  refine ⟨an, dl, ?_, hd⟩
  have := ho.zone hp hm
  cases none
  · exact this
  · have e : bitsV .and .u64 0 p.mask = 0 := by
      have h0 : isU64 0 := ⟨by omega, by omega⟩
      exact tb_ext (and_isU64 h0 hm) h0 fun j _ => by rw [tb_and h0 hm, tb_0]; rfl
    simp only [oA, if_true, e] at this
    exact this
theorem OInv.line (hp : p.kind = 2) (hm : isU64 p.mask) : OInv (l ++ [p]) { a with lines := bitsV .and .u64 a.lines p.mask : Aut } t none := by
  obtain ⟨an, dl, ho, hd⟩ := h
  exact ⟨an, dl, ho.line hp hm, hd⟩
theorem OInv.dayw (hp : p.kind = 3) (hm : isU64 p.mask) : OInv (l ++ [p]) a { t with days := bitsV .and .u64 t.days p.mask : Tms } none := by
  obtain ⟨an, dl, ho, hd⟩ := h
  exact ⟨an, dl, ho.dayw hp hm, hd⟩
theorem OInv.time (hp : p.kind = 4) (h0 : 0 ≤ p.fr) (h1 : p.fr ≤ p.to) (h2 : p.to ≤ 67108864) : OInv (l ++ [p]) a { t with fr := max t.fr p.fr, to := min t.to p.to : Tms } none := by
  obtain ⟨an, dl, ho, hd⟩ := h
  exact ⟨an, dl, ho.time hp h0 h1 h2, hd⟩
theorem OInv.dayly (hp : p.kind = 5) : OInv (l ++ [p]) a { t with m := fun j => t.m j && decide (dayB p.fr p.to j) : Tms } none := by
  obtain ⟨an, dl, ho, hd⟩ := h
  obtain ⟨d2, c2, s2⟩ := day_list p.fr p.to
  refine ⟨an, commonL dl d2, ho.dayly hp c2 s2, fun k hk => ?_⟩
  rw [inS_common, s2, ← hd k hk]
  simp
  intros; omega
theorem OInv.rides (hp : p.kind = 7) : OInv (l ++ [p]) a t none := by
  obtain ⟨an, dl, ho, hd⟩ := h
  exact ⟨an, dl, ho.rides hp, hd⟩
theorem OInv.holder (hp : p.kind = 6) (hn : named l) {n2 : Bool} (hz : n2 = (none || (decide (a.holder ≠ noName) && decide (a.holder ≠ p.name)))) : OInv (l ++ [p]) { a with holder := p.name : Aut } t n2 := by
  obtain ⟨an, dl, ho, hd⟩ := h
  refine ⟨an, dl, ho.holder hp hn ?_, hd⟩
  subst hz
  show _ = if a.holder ≠ noName ∧ a.holder ≠ p.name then (0 : Int) else if none then 0 else a.zones
  cases none
  · by_cases h1 : a.holder = noName <;> by_cases h2 : a.holder = p.name <;> simp [h1, h2]
  · simp
theorem OInv.wft : WfT t := by
  obtain ⟨an, dl, ho, hd⟩ := h
  exact ⟨ho.du, ho.fb⟩
theorem OInv.none_ok (hc : none = true ∨ a.zones = 0 ∨ a.lines = 0 ∨ t.to < t.fr) : IsOf l noneA := by
  obtain ⟨an, dl, ho, hd⟩ := h
  refine ⟨_, ho, .inl ⟨?_, rfl⟩⟩
  rcases hc with hc | hc | hc | hc
  · left; simp [oA, hc]
  · left; simp [oA, hc]
  · right; left; exact hc
  · right; right
    intro m hm
    have h1 : t.fr ≤ m := hm.1
    have h2 : m ≤ t.to := hm.2.1
    omega
theorem OInv.closed {r : Aut} (hn : none = false) (hz : a.zones ≠ 0) (hl : a.lines ≠ 0) (hr : RClosed a t r) : IsOf l r := by
  obtain ⟨an, dl, ho, hd⟩ := h
  have hS : ∀ m, t.S m ↔ (oA a t none dl).S m := fun m => by
    have h1 := hd (m % 1440).toNat (by omega)
    rw [show (((m % 1440).toNat : Nat) : Int) = m % 1440 by omega] at h1
    show (t.fr ≤ m ∧ m ≤ t.to ∧ tb t.days (wk m) = true ∧ t.m (m % 1440).toNat = true) ↔ (t.fr ≤ m ∧ m ≤ t.to ∧ tb t.days (wk m) = true ∧ inS dl (m % 1440))
    rw [h1]
  refine ⟨_, ho, ?_⟩
  have e : t.S = (oA a t none dl).S := funext fun m => propext (hS m)
  rcases hr with ⟨h1, rfl⟩ | ⟨f, u, d, l2, h1, rfl⟩
  · exact .inl ⟨.inr (.inr fun m hm => h1 m ((hS m).2 hm)), rfl⟩
  · refine .inr ⟨by simp [oA, hn, hz], hl, f, u, d, l2, e ▸ h1, ?_⟩
    simp [oA, hn]
end
end Go.PE
namespace Go.PE
open Go
theorem OInv.start : ∀ m : Nat → Bool, (∀ k : Nat, k < 1440 → (m k = true ↔ inS fullA.daily k)) → OInv [] fullA (Tms.mk fullA.fr fullA.to fullA.days m) false := fun m hm => ⟨rfl, fullA.daily, OfI.nil, hm⟩
/-- the minutes of a day up to k have been looked at -/
def mmTo (m : Nat → Bool) (fr to : Int) (k : Nat) : Nat → Bool := fun j => if j < k then m j && decide (dayB fr to j) else m j
theorem mmTo_0 (m : Nat → Bool) (fr to : Int) : mmTo m fr to 0 = m := funext fun j => by simp [mmTo]
theorem mmTo_at (m : Nat → Bool) (fr to : Int) (k : Nat) : mmTo m fr to k k = m k := by simp [mmTo]
theorem mmTo_succ (m : Nat → Bool) (fr to : Int) (k : Nat) {b : Bool} (hb : b = (m k && decide (dayB fr to k))) : upd (mmTo m fr to k) k b = mmTo m fr to (k + 1) := funext fun j => by
  unfold mmTo
  by_cases e : j = k
  · subst e; rw [upd_same, if_pos (by omega), hb]
  · rw [upd_ne _ _ e]
    by_cases h : j < k
    · rw [if_pos h, if_pos (by omega)]
    · rw [if_neg h, if_neg (by omega)]
section
variable {P : Program}
theorem ro_j1 {t : Tms} {kt kp nx0 k : Nat} {p : Pred} {s : PS} {Q : Ex → PS → Prop} (hk : k < 1440) (hkt : nx0 ≤ kt) (e5 : s.t 5 = ptr kt 0) (e8 : s.t 8 = ptr kp 0) (e9 : s.t 9 = .int .i64 k) (hp : s.H kp = some p.cells) (ht : s.H kt = some { t with m := mmTo t.m p.fr p.to k : Tms }.cells)
    (hK : ∀ t', (∀ u, u < 9 → t' u = s.t u) → t' 9 = .int .i64 (k + 1 : Nat) → Q .nrm ⟨t', upd s.H kt (some { t with m := mmTo t.m p.fr p.to (k + 1) : Tms }.cells), s.nx⟩) :
    wpc (PCalls P) P (fun _ => False) nx0 ref06_OfC_j1 Q s := by
  obtain ⟨T, H, nx⟩ := s
  simp only at e5 e8 e9 hp ht hK
  have hw := w64 (x := (k : Int) + 1) (by omega) (by omega)
  have hg := Tms.get3 { t with m := mmTo t.m p.fr p.to k : Tms } hk
  have hset := fun b => Tms.set3 { t with m := mmTo t.m p.fr p.to k : Tms } b hk
  have hat : mmTo t.m p.fr p.to k k = t.m k := mmTo_at _ _ _ _
  have hsucc := fun (b : Bool) (hb : b = (t.m k && decide (dayB p.fr p.to k))) => mmTo_succ t.m p.fr p.to k hb
  simp only [hat] at hg
  have kp9 : ∀ {t2 : Nat → Value}, t2 0 = T 0 → t2 1 = T 1 → t2 2 = T 2 → t2 3 = T 3 → t2 4 = T 4 → t2 5 = T 5 → t2 6 = T 6 → t2 7 = T 7 → t2 8 = T 8 → ∀ u, u < 9 → t2 u = T u := fun b0 b1 b2 b3 b4 b5 b6 b7 b8 u hu => by
    have : u = 0 ∨ u = 1 ∨ u = 2 ∨ u = 3 ∨ u = 4 ∨ u = 5 ∨ u = 6 ∨ u = 7 ∨ u = 8 := by omega
    rcases this with rfl | rfl | rfl | rfl | rfl | rfl | rfl | rfl | rfl <;> assumption
  have h2 : ∀ b, b = (t.m k && decide (dayB p.fr p.to k)) → ({ t with m := mmTo t.m p.fr p.to k : Tms }.cells.take (3 + k) ++ Value.bool b :: { t with m := mmTo t.m p.fr p.to k : Tms }.cells.drop (3 + k + 1)) = { t with m := mmTo t.m p.fr p.to (k + 1) : Tms }.cells := fun b hb => by
    rw [hset b]
    simp only [hsucc b hb]
  cases hm : t.m k with
  | false =>
    simp [ref06_OfC_j1, e5, e8, e9, hp, ht, hg, hm, hk, show (k : Int) < 1440 by omega, hw, hkt, show 3 + k + 1 ≤ 1443 by omega, h2 false (by simp [hm])]
    exact hK _ (kp9 rfl rfl rfl rfl rfl rfl rfl rfl rfl) (by simp)
  | true =>
    by_cases hft : p.fr ≤ p.to
    · have hft2 : ¬ p.to < p.fr := by omega
      by_cases c1 : p.fr ≤ (k : Int) <;> by_cases c2 : (k : Int) ≤ p.to
      all_goals
        simp [ref06_OfC_j1, e5, e8, e9, hp, ht, hg, hm, hk, show (k : Int) < 1440 by omega, hw, hkt, show 3 + k + 1 ≤ 1443 by omega, hft, hft2, c1, c2, h2 true, h2 false, dayB]
        exact hK _ (kp9 rfl rfl rfl rfl rfl rfl rfl rfl rfl) (by simp)
    · have hft2 : p.to < p.fr := by omega
      by_cases c1 : p.fr ≤ (k : Int) <;> by_cases c2 : (k : Int) ≤ p.to
      all_goals
        simp [ref06_OfC_j1, e5, e8, e9, hp, ht, hg, hm, hk, show (k : Int) < 1440 by omega, hw, hkt, show 3 + k + 1 ≤ 1443 by omega, hft, hft2, c1, c2, h2 true, h2 false, dayB]
        exact hK _ (kp9 rfl rfl rfl rfl rfl rfl rfl rfl rfl) (by simp)
end
end Go.PE
namespace Go.PE
open Go
section
variable {P : Program}
theorem kp7 {t2 T : Nat → Value} (b0 : t2 0 = T 0) (b1 : t2 1 = T 1) (b2 : t2 2 = T 2) (b3 : t2 3 = T 3) (b4 : t2 4 = T 4) (b5 : t2 5 = T 5) (b7 : t2 7 = T 7) (b8 : t2 8 = T 8) : ∀ u, u < 9 → u ≠ 6 → t2 u = T u := fun u hu h6 => by
  have : u = 0 ∨ u = 1 ∨ u = 2 ∨ u = 3 ∨ u = 4 ∨ u = 5 ∨ u = 7 ∨ u = 8 := by omega
  rcases this with rfl | rfl | rfl | rfl | rfl | rfl | rfl | rfl <;> assumption
theorem Tms.up (t : Tms) (fr to days : Int) : (.int .i64 fr :: .int .i64 to :: .int .u64 days :: tmR t.m) = { t with fr := fr, to := to, days := days : Tms }.cells := rfl
theorem Tms.set0 (t : Tms) (v : Int) : t.cells.set 0 (.int .i64 v) = { t with fr := v : Tms }.cells := rfl
theorem Tms.set1 (t : Tms) (v : Int) : t.cells.set 1 (.int .i64 v) = { t with to := v : Tms }.cells := rfl
theorem Tms.set2 (t : Tms) (v : Int) : t.cells.set 2 (.int .u64 v) = { t with days := v : Tms }.cells := rfl
set_option maxHeartbeats 2000000 in
theorem ro_j2 {l : List Pred} {a : Aut} {t : Tms} {none : Bool} {ka kt kp nx0 : Nat} {p : Pred} {s : PS} {Q : Ex → PS → Prop} (ho : OInv l a t none) (hv : p.valid = true) (hwf : p.wf) (hnm : named l) (hka : nx0 ≤ ka) (hkt : nx0 ≤ kt) (hne : ka ≠ kt)
    (e4 : s.t 4 = ptr ka 0) (e5 : s.t 5 = ptr kt 0) (e6 : s.t 6 = .bool none) (e8 : s.t 8 = ptr kp 0) (hp : s.H kp = some p.cells) (ha : s.H ka = some a.cells) (ht : s.H kt = some t.cells) (hpa : kp ≠ ka) (hpt : kp ≠ kt)
    (hK : ∀ t2 H2 a' t' n', (∀ u, u < 9 → u ≠ 6 → t2 u = s.t u) → t2 6 = .bool n' → H2 ka = some a'.cells → H2 kt = some t'.cells → (∀ j, j ≠ ka → j ≠ kt → H2 j = s.H j) → OInv (l ++ [p]) a' t' n' → Q .nrm ⟨t2, H2, s.nx⟩) :
    wpc (PCalls P) P (fun _ => False) nx0 ref06_OfC_j2 Q s := by
  obtain ⟨T, H, nx⟩ := s
  simp only at e4 e5 e6 e8 hp ha ht hK
  obtain ⟨v4, v5, v6, v0, v7⟩ := valid_kinds hv
  have hmu : isU64 p.mask := ⟨hwf.2.1, hwf.2.2⟩
  by_cases h1 : p.kind = 1
  · simp [ref06_OfC_j2, e4, e8, hp, ha, h1, hka, Aut.ag]
    exact hK _ _ _ _ _ (kp7 rfl rfl rfl rfl rfl rfl rfl rfl) (by simp [e6]) (upd_same _ _ _) (by simp [hne.symm, ht]) (fun j j1 j2 => by simp [j1]) (ho.zone h1 hmu)
  by_cases h2 : p.kind = 2
  · simp [ref06_OfC_j2, e4, e8, hp, ha, h2, hka]
    exact hK _ _ _ _ _ (kp7 rfl rfl rfl rfl rfl rfl rfl rfl) (by simp [e6]) (upd_same _ _ _) (by simp [hne.symm, ht]) (fun j j1 j2 => by simp [j1]) (ho.line h2 hmu)
  by_cases h3 : p.kind = 3
  · simp [ref06_OfC_j2, e4, e5, e8, hp, ha, ht, h3, hkt]
    exact hK _ _ _ _ _ (kp7 rfl rfl rfl rfl rfl rfl rfl rfl) (by simp [e6]) (by simp [hne, ha]) (upd_same _ _ _) (fun j j1 j2 => by simp [j2]) (ho.dayw h3 hmu)
  have b1 : (p.kind == 1) = false := by simp [h1]
  have b2 : (p.kind == 2) = false := by simp [h2]
  have b3 : (p.kind == 3) = false := by simp [h3]
  have hm1 : ∀ u v : Int, (if u < v then v else u) = max u v := fun u v => by split <;> omega
  have hm2 : ∀ u v : Int, (if v < u then v else u) = min u v := fun u v => by split <;> omega
  by_cases h4 : p.kind = 4
  · obtain ⟨q1, q2, q3⟩ := v4 h4
    simp [ref06_OfC_j2, e4, e5, e8, hp, ha, ht, h4, hkt, hpt, hm1, hm2]
    exact hK _ _ a { t with fr := max t.fr p.fr, to := min t.to p.to : Tms } none (kp7 rfl rfl rfl rfl rfl rfl rfl rfl) (by simp [e6]) (by simp [hne, ha]) (by simp; rfl) (fun j j1 j2 => by simp [j2]) (ho.time h4 q1 q2 q3)
  have b4 : (p.kind == 4) = false := by simp [h4]
  by_cases h5 : p.kind = 5
  · simp [ref06_OfC_j2, e4, e5, e8, hp, ha, ht, h5]
    refine wpc_loop _ _ _ _ _ _ (fun s => (∀ u, u < 9 → u ≠ 6 → s.t u = T u) ∧ s.t 6 = .bool none ∧ s.nx = nx ∧ ∃ k : Nat, k ≤ 1440 ∧ s.t 9 = .int .i64 k ∧ s.H kt = some { t with m := mmTo t.m p.fr p.to k : Tms }.cells ∧ ∀ j, j ≠ kt → s.H j = H j)
      (fun s => match s.t 9 with | .int _ k => (1440 - k).toNat | _ => 0) _ ⟨kp7 rfl rfl rfl rfl rfl rfl rfl rfl, by simp [e6], rfl, 0, by omega, by simp, by rw [mmTo_0]; exact ht, fun _ _ => rfl⟩ ?_
    rintro ⟨T2, H2, n2⟩ ⟨hT, f6, hn2, k, hk, f9, hHt, hoth⟩
    simp only at hT f6 hn2 f9 hHt hoth
    subst hn2
    simp [f9]
    refine wB_of (fun hlt => ?_) (fun hlt => ?_)
    · have hlt : k < 1440 := by simp at hlt; omega
      have hTT : ∀ u, u < 9 → u ≠ 6 → (upd (upd T2 85 (Value.int IntKind.i64 ↑k)) 86 (Value.bool (decide ((k : Int) < 1440)))) u = T u := kp7 (hT 0 (by omega) (by omega)) (hT 1 (by omega) (by omega)) (hT 2 (by omega) (by omega)) (hT 3 (by omega) (by omega)) (hT 4 (by omega) (by omega)) (hT 5 (by omega) (by omega)) (hT 7 (by omega) (by omega)) (hT 8 (by omega) (by omega))
      refine ro_j1 (t := t) (kt := kt) (kp := kp) (p := p) hlt hkt (by simp [hT 5, e5]) (by simp [hT 8, e8]) (by simp [f9]) (by simp [hoth kp hpt, hp]) (by simpa using hHt) fun t3 g1 g9 => ?_
      refine kLoop_nrm _ _ _ _ (Sub_refl _ _) ⟨fun u hu h6 => (g1 u hu).trans (hTT u hu h6), (g1 6 (by omega)).trans (by simp [f6]), rfl, k + 1, by omega, g9, by simp, fun j hj => by simp [hj, hoth j hj]⟩ (by simp [g9]; omega)
    · have hk2 : k = 1440 := by simp at hlt; omega
      subst hk2
      refine hK _ _ a { t with m := mmTo t.m p.fr p.to 1440 : Tms } none (kp7 (hT 0 (by omega) (by omega)) (hT 1 (by omega) (by omega)) (hT 2 (by omega) (by omega)) (hT 3 (by omega) (by omega)) (hT 4 (by omega) (by omega)) (hT 5 (by omega) (by omega)) (hT 7 (by omega) (by omega)) (hT 8 (by omega) (by omega))) (by simp [f6]) (by rw [hoth ka hne]; exact ha) hHt (fun j j1 j2 => hoth j j2) ?_
      obtain ⟨x1, dl, x2, x3⟩ := ho.dayly h5
      refine ⟨x1, dl, x2, fun k hk => ?_⟩
      rw [← x3 k hk]
      simp [mmTo, hk]
  have b5 : (p.kind == 5) = false := by simp [h5]
  by_cases h6 : p.kind = 6
  · have hz : ∀ n2, n2 = (none || (decide (a.holder ≠ noName) && decide (a.holder ≠ p.name))) → OInv (l ++ [p]) { a with holder := p.name : Aut } t n2 := fun n2 hz => ho.holder h6 hnm hz
    have g0 : ∀ H2 : Nat → Option (List Value), True := fun _ => trivial
    cases none with
    | true =>
      simp [ref06_OfC_j2, e4, e6, e8, hp, ha, ht, h6, hka]
      exact hK _ _ _ _ true (kp7 rfl rfl rfl rfl rfl rfl rfl rfl) (by simp) (upd_same _ _ _) (by simp [hne.symm, ht]) (fun j j1 j2 => by simp [j1]) (hz true rfl)
    | false =>
      by_cases g1 : a.holder = noName
      · have g1'' : a.holder.toList = [] := (noName_iff _).2 g1
        have g1' : a.holder.toList.isEmpty = true := by rw [g1'']; rfl
        simp [ref06_OfC_j2, e4, e6, e8, hp, ha, ht, h6, hka, g1', g1'']
        exact hK _ _ _ _ false (kp7 rfl rfl rfl rfl rfl rfl rfl rfl) (by simp) (upd_same _ _ _) (by simp [hne.symm, ht]) (fun j j1 j2 => by simp [j1]) (hz false (by simp [g1]))
      · have g1'' : ¬ a.holder.toList = [] := fun e => g1 ((noName_iff _).1 e)
        have g1' : a.holder.toList.isEmpty = false := by simpa using g1''
        by_cases g2 : a.holder = p.name
        · simp [ref06_OfC_j2, e4, e6, e8, hp, ha, ht, h6, hka, g1', g1'', show (a.holder == p.name) = true by simp [g2]]
          exact hK _ _ _ _ false (kp7 rfl rfl rfl rfl rfl rfl rfl rfl) (by simp) (upd_same _ _ _) (by simp [hne.symm, ht]) (fun j j1 j2 => by simp [j1]) (hz false (by simp [g2]))
        · have g2' : (a.holder == p.name) = false := by simpa using g2
          simp [ref06_OfC_j2, e4, e6, e8, hp, ha, ht, h6, hka, g1', g1'', g2']
          exact hK _ _ _ _ true (kp7 rfl rfl rfl rfl rfl rfl rfl rfl) (by simp) (upd_same _ _ _) (by simp [hne.symm, ht]) (fun j j1 j2 => by simp [j1]) (hz true (by simp [g1, g2]))
  · have h7 : p.kind = 7 := by omega
    simp [ref06_OfC_j2, e4, e8, hp, ha, ht, h7]
    exact hK _ _ a t none (kp7 rfl rfl rfl rfl rfl rfl rfl rfl) (by simp [e6]) ha ht (fun j j1 j2 => rfl) (ho.rides h7)
end
end Go.PE
namespace Go.PE
open Go
def ROfOK (P : Program) (f : Nat) : Prop := ∀ (l : List Pred), (∀ p ∈ l, p.wf) → l.length ≤ maxLen → ∀ (H : Nat → Option (List Value)) (nx : Nat), PCalls P f [deep (l.map Pred.v)] H nx (fun _ => False) (fun r H' _ => ofR l r ∧ H' = H)
structure OfW (l : List Pred) (nx ka kt : Nat) (H : Nat → Option (List Value)) (i : Nat) (s : PS) : Prop where
  t0 : s.t 0 = deep (l.map Pred.v)
  t2 : s.t 2 = ptr nx 0
  t4 : s.t 4 = ptr ka 0
  t5 : s.t 5 = ptr kt 0
  t7 : s.t 7 = .int .i64 i
  own : Own nx H s.H
  n : kt < s.nx
  h2 : ∃ c, s.H nx = some c ∧ c.length = 8
  val : ∀ p ∈ l.take i, p.valid = true
  o : ∃ a t none, s.t 6 = .bool none ∧ s.H ka = some a.cells ∧ s.H kt = some t.cells ∧ OInv (l.take i) a t none
section
variable {P : Program} {rv : Nat} (hrv : RValidOK P rv)
include hrv
theorem ro_j3 {l : List Pred} {nx ka kt : Nat} {H : Nat → Option (List Value)} {i : Nat} {s : PS} {Q : Ex → PS → Prop} (hw : ∀ k, nx ≤ k → H k = none) (hl : ∀ p ∈ l, p.wf) (h64 : l.length ≤ 64) (hka : nx < ka) (hkt : ka < kt) (hi : i < l.length) (h : OfW l nx ka kt H i s)
    (hret : ∀ s', (∃ p ∈ l, p.valid = false) → s'.t 2 = ptr nx 0 → s'.t 3 = .int .i64 5 → s'.H nx = some zeroA.cells → Own nx H s'.H → Q .rt s')
    (hK : ∀ s', OfW l nx ka kt H (i + 1) s' → Q .nrm s') :
    wpc (PCalls P) P (fun _ => False) nx (ref06_OfC_j3 rv) Q s := by
  obtain ⟨T, H', nx'⟩ := s
  obtain ⟨e0, e2, e4, e5, e7, hown, hn, ⟨c, hc1, hc2⟩, hval, a, t, none, e6, ha, ht, ho⟩ := h
  simp only at e0 e2 e4 e5 e6 e7 hown hn hc1 ha ht
  have he := elem_prd (l := l) (n := (i : Int)) (by omega) (by simpa using hi)
  simp at he
  have hw1 := w64 (x := (i : Int) + 1) (by omega) (by omega)
  have hwf := hl _ (List.getElem_mem hi)
  have htk : l.take (i + 1) = l.take i ++ [l[i]] := List.take_succ_eq_append_getElem hi
  have hmem := List.getElem_mem hi
  generalize l[i] = p at he hwf htk hmem
  have b1 : ¬ ka = nx' := by omega
  have b2 : ¬ kt = nx' := by omega
  have b3 : ¬ nx = nx' := by omega
  simp [ref06_OfC_j3, e0, e7, he, show nx ≤ nx' by omega, Pred.ag]
  refine wCall_eq (Q := fun r => r = .bool p.valid) (hrv p hwf.1 hwf.2.1 _ _) fun r n2 hr hn2 => ?_
  subst hr
  simp at hn2
  cases hp : p.valid with
  | false =>
    simp [e2, hc1, hc2, b3]
    rw [List.drop_of_length_le (by omega)]
    exact hret _ ⟨p, hmem, hp⟩ (by simp [e2]) (by simp) (by simp; rfl) (by simp [hown, show nx ≤ nx' by omega])
  | true =>
    simp
    refine ro_j2 (p := p) (kp := nx') (ka := ka) (kt := kt) ho hp hwf (valid_named hval) (by omega) (by omega) (by omega) (by simp [e4]) (by simp [e5]) (by simp [e6]) (by simp) (by simp) (by simp [b1, ha]) (by simp [b2, ht]) (by omega) (by omega) fun t2 H2 a' t' n' g1 g6 gA gT gH gO => ?_
    have g7 := g1 7 (by omega) (by omega)
    simp [e7] at g7
    simp [g7, hw1]
    refine hK _ ⟨?_, ?_, ?_, ?_, by simp, ?_, ?_, ⟨c, ?_, hc2⟩, fun q hq => ?_, a', t', n', by simp [g6], gA, gT, by rw [htk]; exact gO⟩
    · simp [g1 0, e0]
    · simp [g1 2, e2]
    · simp [g1 4, e4]
    · simp [g1 5, e5]
    · intro j hj
      show H2 j = _
      have := gH j (by omega) (by omega)
      simp [show ¬ j = nx' by omega] at this
      exact this.trans (hown j hj)
    · show kt < n2; omega
    · show H2 nx = _
      have := gH nx (by omega) (by omega)
      simp [b3] at this
      exact this.trans hc1
    · rw [htk] at hq
      rcases List.mem_append.1 hq with hq | hq
      · exact hval q hq
      · simp at hq; subst hq; exact hp
end
theorem rof_ok {P : Program} {f tS fu tm rv cl : Nat} (hc : compFn P f = some (182, ref06_OfC tS fu tm rv cl, [.cA 2 8, .t 3])) (hfu : FullOK P fu) (htm : TimesOK P tm) (hrv : RValidOK P rv) (hcl : RClosedOK P cl) : ROfOK P f := by
  intro l hl hlen H nx
  refine PCalls_of hc (by simp) fun hw => ?_
  have hmx : (maxLen : Int) = 9223372036854775807 := rfl
  by_cases h64 : l.length ≤ 64
  case neg =>
    simp [ref06_OfC, show (64 : Int) < l.length by omega]
    exact wF_own hw (by simp) ⟨.inl ⟨by omega, rfl⟩, rfl⟩
  simp [ref06_OfC, ref06_OfC_j5, show ¬ (64 : Int) < l.length by omega]
  refine wCall_eq (Q := fun r => r = fullA.v) (hfu _ _) fun r n1 hr hn1 => ?_
  subst hr
  simp at hn1
  have a1 : ¬ nx = n1 := by omega
  simp [show nx ≤ n1 by omega, Aut.ag]
  refine wCall_le (htm fullA (by decide) (by decide) _ _) fun p H1 nx1 hR hn' hown1 => ?_
  obtain ⟨rfl, rfl, m, hm, rfl⟩ := hR
  simp at hn' hown1
  simp
  obtain ⟨I, hI⟩ : ∃ I : PS → Prop, ∀ s, I s ↔ ∃ i : Nat, i ≤ l.length ∧ OfW l nx n1 (n1 + 1 + 1) H i s := ⟨_, fun _ => Iff.rfl⟩
  refine wpc_loop _ _ _ _ _ _ I (fun s => match s.t 7 with | .int _ i => (l.length - i).toNat | _ => 0) _ ((hI _).2 ⟨0, by omega, by simp, by simp, by simp, by simp, by simp, ?_, by simp, ⟨[.bool false, .int .u64 0, .int .u64 0, .int .u64 0, .int .i64 0, .int .i64 0, lin tS [], .string noName], ?_, rfl⟩, by simp, fullA, _, false, by simp, ?_, by simp; rfl, by simpa using OInv.start m hm⟩) ?_
  · intro j hj
    have h1 : ¬ j = n1 := by omega
    have h2 : ¬ j = n1 + 1 + 1 := by omega
    have h3 : ¬ j = nx := by omega
    simp [h1, h2, h3]
  · simp [a1, show ¬ nx = n1 + 1 + 1 by omega]; rfl
  · simp [show ¬ n1 = n1 + 1 + 1 by omega]
  intro s hs
  obtain ⟨i, hi, hU⟩ := (hI _).1 hs
  obtain ⟨T, H', nx'⟩ := s
  have e0 : T 0 = deep (l.map Pred.v) := hU.t0
  have e7 : T 7 = .int .i64 i := hU.t7
  simp [e0, e7]
  have turn : ∀ {j : Nat} {s s' : PS}, OfW l nx n1 (n1 + 1 + 1) H j s → s'.H = s.H → s'.nx = s.nx → (∀ u, u < 8 → s'.t u = s.t u) → OfW l nx n1 (n1 + 1 + 1) H j s' := fun {j s s'} h h1 h2 h3 => by
    obtain ⟨x0, x2, x4, x5, x7, xo, xn, xh, xv, a, t, none, x6, xa, xt, xI⟩ := h
    exact ⟨(h3 0 (by omega)).trans x0, (h3 2 (by omega)).trans x2, (h3 4 (by omega)).trans x4, (h3 5 (by omega)).trans x5, (h3 7 (by omega)).trans x7, by rw [h1]; exact xo, by rw [h2]; exact xn, by rw [h1]; exact xh, xv, a, t, none, (h3 6 (by omega)).trans x6, by rw [h1]; exact xa, by rw [h1]; exact xt, xI⟩
  refine wB_of (fun hlt => ?_) (fun hlt => ?_)
  · have hlt : i < l.length := by simp at hlt; omega
    refine ro_j3 hrv hw hl h64 (by omega) (by omega) hlt (turn hU rfl rfl (kp8 rfl rfl rfl rfl rfl rfl rfl rfl)) (fun s' hbad g2 g3 gH gO => ?_) (fun s' hU' => ?_)
    · obtain ⟨T3, H3, n3⟩ := s'
      simp only at g2 g3 gH gO
      simp [g2, g3, gH]
      exact wF_own hw (by simpa using gO) ⟨.inr (.inl ⟨h64, hbad, rfl⟩), rfl⟩
    · obtain ⟨T3, H3, n3⟩ := s'
      have g7 : T3 7 = .int .i64 (i + 1 : Nat) := hU'.t7
      exact kLoop_nrm _ _ _ _ (Sub_refl _ _) ((hI _).2 ⟨i + 1, by omega, hU'⟩) (by simp [g7]; omega)
  · have hil : i = l.length := by simp at hlt; omega
    subst hil
    obtain ⟨_, e2, e4, e5, _, hown, hn, ⟨c, hc1, hc2⟩, hval, a, t, none, e6, ha, ht, ho⟩ := hU
    simp only at e2 e4 e5 hown hn hc1 e6 ha ht
    rw [List.take_length] at hval ho
    have fin0 : IsOf l noneA → wF (some [ag noneA.cells, .int .i64 0]) nx (fun r H' _ => ofR l r ∧ H' = H) (upd H' nx (some noneA.cells)) nx' := fun hI => wF_own hw (by simp [hown]) ⟨.inr (.inr ⟨h64, hval, noneA, hI, rfl⟩), rfl⟩
    cases none with
    | true =>
      simp [ref06_OfC_j4, e2, e6, hc1, hc2]
      rw [List.drop_of_length_le (by omega)]
      exact fin0 (ho.none_ok (.inl rfl))
    | false =>
      by_cases z0 : a.zones = 0
      · simp [ref06_OfC_j4, e2, e4, e6, hc1, hc2, ha, z0]
        rw [List.drop_of_length_le (by omega)]
        exact fin0 (ho.none_ok (.inr (.inl z0)))
      have z0b : (a.zones == 0) = false := by simpa using z0
      by_cases z1 : a.lines = 0
      · simp [ref06_OfC_j4, e2, e4, e6, hc1, hc2, ha, z0b, z1]
        rw [List.drop_of_length_le (by omega)]
        exact fin0 (ho.none_ok (.inr (.inr (.inl z1))))
      have z1b : (a.lines == 0) = false := by simpa using z1
      by_cases z2 : t.to < t.fr
      · simp [ref06_OfC_j4, e2, e4, e5, e6, hc1, hc2, ha, ht, z0b, z1b, z2]
        rw [List.drop_of_length_le (by omega)]
        exact fin0 (ho.none_ok (.inr (.inr (.inr z2))))
      · simp [ref06_OfC_j4, e2, e4, e5, e6, hc1, hc2, ha, ht, z0b, z1b, z2, Aut.ag]
        refine wCall_eq (Q := fun r => ∃ r', r = r'.v ∧ RClosed a t r') (hcl a t _ ho.an ho.wft _ _ ht (by show n1 + 1 + 1 < nx'; omega)) fun r n3 hr hn3 => ?_
        obtain ⟨r', rfl, hr'⟩ := hr
        simp at hn3
        simp [e2, hc1, hc2]
        rw [List.drop_of_length_le (by omega)]
        simp
        exact wF_own hw (by simp [hown]) ⟨.inr (.inr ⟨h64, hval, r', ho.closed rfl z0 z1 hr', rfl⟩), rfl⟩
end Go.PE
namespace Go.PE
open Go
def SameAOK (P : Program) (f : Nat) : Prop := ∀ (a b : Aut), a.daily.length ≤ maxLen → b.daily.length ≤ maxLen → ∀ (H : Nat → Option (List Value)) (nx : Nat), PCalls P f [a.v, b.v] H nx (fun _ => False) (fun r H' _ => r = .bool (decide (a = b)) ∧ H' = H)
theorem same_ok {P : Program} {f : Nat} (hc : compFn P f = some (80, ref06_SameAuthorityC, [.t 4])) : SameAOK P f := by
  intro a b hla hlb H nx
  refine PCalls_of hc (by simp) fun hw => ?_
  have hmx : (maxLen : Int) = 9223372036854775807 := rfl
  have a1 : ¬ nx = nx + 1 := by omega
  have a2 : nx ≤ nx + 1 := by omega
  have a3 : ¬ nx + 1 = nx := by omega
  have hno : a ≠ b → decide (a = b) = false := fun h => by simp [h]
  by_cases g0 : a.none = b.none
  case neg =>
    have hne : a ≠ b := fun e => g0 (by rw [e])
    have e0 : (a.none == b.none) = false := by simp [g0]
    simp [ref06_SameAuthorityC, a1, a2, a3, e0]
    exact wF_own hw (by simp [a2]) ⟨by rw [hno hne]; rfl, rfl⟩
  have e0 : (a.none == b.none) = true := by simp [g0]
  by_cases g1 : a.zones = b.zones
  case neg =>
    have hne : a ≠ b := fun e => g1 (by rw [e])
    have e1 : (a.zones != b.zones) = true := by simp [g1]
    simp [ref06_SameAuthorityC, a1, a2, a3, e0, e1]
    exact wF_own hw (by simp [a2]) ⟨by rw [hno hne]; rfl, rfl⟩
  have e1 : (a.zones != b.zones) = false := by simp [g1]
  by_cases g2 : a.lines = b.lines
  case neg =>
    have hne : a ≠ b := fun e => g2 (by rw [e])
    have e2 : (a.lines != b.lines) = true := by simp [g2]
    simp [ref06_SameAuthorityC, a1, a2, a3, e0, e1, e2]
    exact wF_own hw (by simp [a2]) ⟨by rw [hno hne]; rfl, rfl⟩
  have e2 : (a.lines != b.lines) = false := by simp [g2]
  by_cases g3 : a.days = b.days
  case neg =>
    have hne : a ≠ b := fun e => g3 (by rw [e])
    have e3 : (a.days != b.days) = true := by simp [g3]
    simp [ref06_SameAuthorityC, a1, a2, a3, e0, e1, e2, e3]
    exact wF_own hw (by simp [a2]) ⟨by rw [hno hne]; rfl, rfl⟩
  have e3 : (a.days != b.days) = false := by simp [g3]
  by_cases g4 : a.fr = b.fr
  case neg =>
    have hne : a ≠ b := fun e => g4 (by rw [e])
    have e4 : (a.fr != b.fr) = true := by simp [g4]
    simp [ref06_SameAuthorityC, a1, a2, a3, e0, e1, e2, e3, e4]
    exact wF_own hw (by simp [a2]) ⟨by rw [hno hne]; rfl, rfl⟩
  have e4 : (a.fr != b.fr) = false := by simp [g4]
  by_cases g5 : a.to = b.to
  case neg =>
    have hne : a ≠ b := fun e => g5 (by rw [e])
    have e5 : (a.to != b.to) = true := by simp [g5]
    simp [ref06_SameAuthorityC, a1, a2, a3, e0, e1, e2, e3, e4, e5]
    exact wF_own hw (by simp [a2]) ⟨by rw [hno hne]; rfl, rfl⟩
  have e5 : (a.to != b.to) = false := by simp [g5]
  by_cases g6 : a.holder = b.holder
  case neg =>
    have hne : a ≠ b := fun e => g6 (by rw [e])
    have e6 : (a.holder == b.holder) = false := by simp [g6]
    simp [ref06_SameAuthorityC, a1, a2, a3, e0, e1, e2, e3, e4, e5, e6]
    exact wF_own hw (by simp [a2]) ⟨by rw [hno hne]; rfl, rfl⟩
  have e6 : (a.holder == b.holder) = true := by simp [g6]
  by_cases g7 : a.daily.length = b.daily.length
  case neg =>
    have hne : a ≠ b := fun e => g7 (by rw [e])
    have e7 : ((a.daily.length : Int) != b.daily.length) = true := by simp; omega
    simp [ref06_SameAuthorityC, a1, a2, a3, e0, e1, e2, e3, e4, e5, e6, e7]
    exact wF_own hw (by simp [a2]) ⟨by rw [hno hne]; rfl, rfl⟩
  have e7 : ((a.daily.length : Int) != b.daily.length) = false := by simp [g7]
  have hab : a = b ↔ a.daily = b.daily := ⟨fun e => by rw [e], fun e => by
    obtain ⟨x1, x2, x3, x4, x5, x6, x7, x8⟩ := a
    obtain ⟨y1, y2, y3, y4, y5, y6, y7, y8⟩ := b
    simp only at g0 g1 g2 g3 g4 g5 g6 e
    subst g0; subst g1; subst g2; subst g3; subst g4; subst g5; subst g6; subst e; rfl⟩
  simp [ref06_SameAuthorityC, ref06_SameAuthorityC_j2, a1, a2, a3, e0, e1, e2, e3, e4, e5, e6, e7]
  refine wpc_loop _ _ _ _ _ _ (fun s => s.t 2 = ptr nx 0 ∧ s.t 3 = ptr (nx + 1) 0 ∧ s.H = upd (upd H nx (some a.cells)) (nx + 1) (some b.cells) ∧ ∃ i : Nat, i ≤ a.daily.length ∧ s.t 5 = .int .i64 i ∧ a.daily.take i = b.daily.take i)
    (fun s => match s.t 5 with | .int _ i => (a.daily.length - i).toNat | _ => 0) _ ⟨by simp, by simp, rfl, 0, by omega, by simp, by simp⟩ ?_
  rintro ⟨T, H', nx'⟩ ⟨f2, f3, hH, i, hi, f5, htk⟩
  simp only at f2 f3 hH f5
  subst hH
  simp [f2, f5, a1]
  refine wB_of (fun hlt => ?_) (fun hlt => ?_)
  · have hlt : i < a.daily.length := by simp at hlt; omega
    have hlt2 : i < b.daily.length := by omega
    have he1 := elem_spn (l := a.daily) (n := (i : Int)) (by omega) (by simpa using hlt)
    have he2 := elem_spn (l := b.daily) (n := (i : Int)) (by omega) (by simpa using hlt2)
    simp at he1 he2
    have hw1 := w64 (x := (i : Int) + 1) (by omega) (by omega)
    have t1 : a.daily.take (i + 1) = a.daily.take i ++ [a.daily[i]] := List.take_succ_eq_append_getElem hlt
    have t2 : b.daily.take (i + 1) = b.daily.take i ++ [b.daily[i]] := List.take_succ_eq_append_getElem hlt2
    have hne : a.daily[i] ≠ b.daily[i] → a ≠ b := fun h e => h (by subst e; rfl)
    generalize a.daily[i] = x at he1 t1 hne
    generalize b.daily[i] = y at he2 t2 hne
    have hf : ∀ z : Spn, fitsL [CK.int IntKind.i64, CK.int IntKind.i64] z.cells = true := fun _ => rfl
    have heq : eqL x.cells y.cells = decide (x = y) := by
      obtain ⟨_, _⟩ := x
      obtain ⟨_, _⟩ := y
      simp [Spn.cells, eqL, Spn.mk.injEq, Bool.decide_and]
      rfl
    by_cases hxy : x = y
    · subst hxy
      simp [ref06_SameAuthorityC_j1, f2, f3, f5, a1, he1, he2, Spn.ag, hw1, hf, heq]
      exact kLoop_nrm _ _ _ _ (Sub_refl _ _) ⟨by simp [f2], by simp [f3], rfl, i + 1, by omega, by simp, by rw [t1, t2, htk]⟩ (by simp; omega)
    · have hxy2 : x.f = y.f → ¬ x.t = y.t := fun h1 h2 => hxy (by obtain ⟨_, _⟩ := x; obtain ⟨_, _⟩ := y; simp only at h1 h2; subst h1; subst h2; rfl)
      simp [ref06_SameAuthorityC_j1, f2, f3, f5, a1, he1, he2, Spn.ag, hf, heq, hxy]
      exact wF_own hw (by simp [a2]) ⟨by rw [hno (hne hxy)]; rfl, rfl⟩
  · have hil : i = a.daily.length := by simp at hlt; omega
    subst hil
    rw [List.take_length, g7, List.take_length] at htk
    have : decide (a = b) = true := by simp [hab, htk]
    simp [this]
    exact wF_own hw (by simp [a2]) ⟨rfl, rfl⟩
end Go.PE
namespace Go.PE
open Go
theorem IsOf.small {l : List Pred} {r : Aut} (h : IsOf l r) : r.daily.length ≤ 1000000 := by
  obtain ⟨a, ha, hr⟩ := h
  rcases hr with ⟨_, rfl⟩ | ⟨_, _, f, t, d, dl, hc, rfl⟩
  · simp [noneA]
  · have h1 := (canon_day hc.c fun k hk => by obtain ⟨m, _, e⟩ := (hc.l k).1 hk; omega).1
    show dl.length ≤ 1000000
    omega
/-- the outcome of Of -/
def ofE (l : List Pred) (a : Aut) (e : Int) : Prop := (64 < l.length ∧ a = zeroA ∧ e = 2) ∨ (l.length ≤ 64 ∧ (∃ p ∈ l, p.valid = false) ∧ a = zeroA ∧ e = 5) ∨ (l.length ≤ 64 ∧ (∀ p ∈ l, p.valid = true) ∧ IsOf l a ∧ e = 0)
theorem ofR_E {l : List Pred} {v : Value} (h : ofR l v) : ∃ a e, v = tup [a.v, .int .i64 e] ∧ ofE l a e := by
  rcases h with ⟨h1, rfl⟩ | ⟨h1, h2, rfl⟩ | ⟨h1, h2, r, h3, rfl⟩
  · exact ⟨_, _, rfl, .inl ⟨h1, rfl, rfl⟩⟩
  · exact ⟨_, _, rfl, .inr (.inl ⟨h1, h2, rfl, rfl⟩)⟩
  · exact ⟨_, _, rfl, .inr (.inr ⟨h1, h2, h3, rfl⟩)⟩
theorem ofE_small {l : List Pred} {a : Aut} {e : Int} (h : ofE l a e) : a.daily.length ≤ 1000000 := by
  rcases h with ⟨_, rfl, _⟩ | ⟨_, _, rfl, _⟩ | ⟨_, _, h, _⟩
  · simp [zeroA]
  · simp [zeroA]
  · exact h.small
theorem ofE_uniq {l : List Pred} {a b : Aut} {e f : Int} (h : ofE l a e) (h' : ofE l b f) : a = b ∧ e = f := by
  rcases h with ⟨h1, rfl, rfl⟩ | ⟨h1, ⟨p, hp, hv⟩, rfl, rfl⟩ | ⟨h1, h2, h3, rfl⟩
  · rcases h' with ⟨h1', rfl, rfl⟩ | ⟨h1', _⟩ | ⟨h1', _⟩
    · exact ⟨rfl, rfl⟩
    · omega
    · omega
  · rcases h' with ⟨h1', rfl, rfl⟩ | ⟨h1', _, rfl, rfl⟩ | ⟨h1', h2', _⟩
    · omega
    · exact ⟨rfl, rfl⟩
    · rw [h2' p hp] at hv; cases hv
  · rcases h' with ⟨h1', rfl, rfl⟩ | ⟨h1', ⟨p, hp, hv⟩, _⟩ | ⟨h1', h2', h3', rfl⟩
    · omega
    · rw [h2 p hp] at hv; cases hv
    · exact ⟨h3.uniq h3' fun _ => Iff.rfl, rfl⟩
theorem ofE_valid {l : List Pred} {a : Aut} {e : Int} (h : ofE l a e) (h1 : l.length ≤ 64) (h2 : ∀ p ∈ l, p.valid = true) : IsOf l a ∧ e = 0 := by
  rcases h with ⟨h1', _⟩ | ⟨_, ⟨p, hp, hv⟩, _⟩ | ⟨_, _, h3, e⟩
  · omega
  · rw [h2 p hp] at hv; cases hv
  · exact ⟨h3, e⟩
/-! the examples -/
def exT : Pred := ⟨4, 0, 0, 1439, noName, 0⟩
def exD : Pred := ⟨5, 0, 1380, 300, noName, 0⟩
def exW : Pred := ⟨3, 2, 0, 0, noName, 0⟩
def exA : Aut := ⟨false, 18446744073709551615, 4294967295, 1, 0, 1439, [⟨0, 300⟩, ⟨1380, 1439⟩], noName⟩
theorem wk_0 {m : Int} (h0 : 0 ≤ m) (h1 : m ≤ 1439) : wk m = 0 := by unfold wk; omega
def exB : Aut := ⟨false, 18446744073709551615, 4294967295, 127, 0, 1439, [⟨0, 300⟩, ⟨1380, 1439⟩], noName⟩
theorem exA_of : IsOf [exT, exD] exA := by
  have h1 := OfI.nil.time (p := exT) rfl (by decide) (by decide) (by decide)
  have h2 := h1.dayly (p := exD) rfl (dl := [⟨0, 300⟩, ⟨1380, 1439⟩]) ⟨by decide, by decide, by decide, by decide, trivial⟩ (fun k => by
    have := inS_nil k
    rw [inS_cons, inS_cons]
    simp [exD, dayB, this]; omega)
  have hl : commonL fullA.daily [⟨0, 300⟩, ⟨1380, 1439⟩] = [⟨0, 300⟩, ⟨1380, 1439⟩] := by decide
  simp only [hl] at h2
  have h3 : OfI [exT, exD] exB := h2
  refine ⟨exB, h3, .inr ⟨by decide, by decide, 0, 1439, 1, [⟨0, 300⟩, ⟨1380, 1439⟩], ?_, rfl⟩⟩
  have hS : ∀ m, exB.S m ↔ (0 ≤ m ∧ m ≤ 1439 ∧ (m ≤ 300 ∨ 1380 ≤ m)) := fun m => by
    show (0 ≤ m ∧ m ≤ 1439 ∧ tb 127 (wk m) = true ∧ inS [⟨0, 300⟩, ⟨1380, 1439⟩] (m % 1440)) ↔ _
    rw [inS_cons, inS_cons]
    have := inS_nil (m % 1440)
    constructor
    · rintro ⟨a, b, c, d | d | d⟩
      · simp only at d; exact ⟨a, b, by omega⟩
      · simp only at d; exact ⟨a, b, by omega⟩
      · exact absurd d this
    · rintro ⟨a, b, c⟩
      refine ⟨a, b, by rw [wk_0 a b]; decide, ?_⟩
      simp only
      rcases c with c | c
      · left; omega
      · right; left; omega
  refine Clo.congr (S := fun m => 0 ≤ m ∧ m ≤ 1439 ∧ (m ≤ 300 ∨ 1380 ≤ m)) ?_ fun m => (hS m).symm
  refine ⟨⟨by decide, fun m hm => hm.1⟩, ⟨by decide, fun m hm => hm.2.1⟩, ⟨by decide, by decide⟩, fun j => ?_, ⟨by decide, by decide, by decide, by decide, trivial⟩, fun k => ?_⟩
  · constructor
    · intro h
      refine ⟨0, by decide, ?_⟩
      rw [wk_0 (by omega) (by omega)]
      apply Classical.byContradiction
      intro hj
      have : tb 1 j = false := by
        have e : (1 : Int) = 2 ^ 0 := rfl
        rw [e, tb_pow]; simp; omega
      rw [this] at h; cases h
    · rintro ⟨m, hm, rfl⟩
      rw [wk_0 hm.1 hm.2.1]; decide
  · have := inS_nil k
    rw [inS_cons, inS_cons]
    simp only
    constructor
    · rintro (h | h | h)
      · exact ⟨k, ⟨by omega, by omega, by omega⟩, by omega⟩
      · exact ⟨k, ⟨by omega, by omega, by omega⟩, by omega⟩
      · exact absurd h this
    · rintro ⟨m, hm, rfl⟩
      have := hm.1; have := hm.2.1
      rcases hm.2.2 with c | c
      · left; omega
      · right; left; omega
theorem exW_of : IsOf [exT, exW] noneA := by
  have h1 := OfI.nil.time (p := exT) rfl (by decide) (by decide) (by decide)
  have h2 := h1.dayw (p := exW) rfl ⟨by decide, by decide⟩
  refine ⟨_, h2, .inl ⟨.inr (.inr fun m hm => ?_), rfl⟩⟩
  obtain ⟨a, b, c, _⟩ := hm
  have a : 0 ≤ m := a
  have b : m ≤ 1439 := b
  rw [wk_0 a b] at c
  have h7 : tb (bitsV .and .u64 127 2) 0 = true := c
  rw [tb_and ⟨by decide, by decide⟩ ⟨by decide, by decide⟩] at h7
  have : tb 2 0 = false := by decide
  rw [this] at h7
  simp at h7
def exZ : Pred := ⟨1, 3, 0, 0, noName, 0⟩
theorem exs_wf : exT.wf ∧ exD.wf ∧ exW.wf ∧ exZ.wf := ⟨⟨by decide, by decide, by decide⟩, ⟨by decide, by decide, by decide⟩, ⟨by decide, by decide, by decide⟩, ⟨by decide, by decide, by decide⟩⟩
theorem exs_valid : exT.valid = true ∧ exD.valid = true ∧ exW.valid = true := ⟨by decide, by decide, by decide⟩
end Go.PE
namespace Go.PE
open Go
/-- macaroon/macaroonlaw08.AuthorityOf: 103 slots, results [(.t 6)] -/
def law08_AuthorityOfC_j1 (t_api_Predicate : Nat) : PC :=
  (.seq (.block 1 (.reg [((some 58), (none, (.steal 16))),
       ((some 59), (none, (.build [(.inr ((.const (.int .i64 1)), 1)), (.inr ((.const (.int .u64 3)), 1)), (.inl [(.int .i64 0)]), (.inl [(.int .i64 0)]), (.inl [(.string ⟨#[]⟩)]), (.inl [(.int .i64 0)])]))),
       ((some 60), (none, (.mks t_api_Predicate 6 false [(.tmp 59)]))),
       ((some 61), (none, (.app t_api_Predicate 6 56 58 (.tmp 60)))),
       ((some 16), (none, (.steal 61)))]))
  (.reg [((some 56), (none, (.mv (.tmp 17)))),
      ((some 57), (none, (.bi .add (.tmp 56) (.const (.int .i64 1))))),
      ((some 17), (none, (.mv (.tmp 57))))]))
def law08_AuthorityOfC_j2 (f_authority_Of : Nat) (t_api_Span : Nat) (f_ref06_Of : Nat) (f_ref06_SameAuthority : Nat) (f_law08_awake : Nat) : PC :=
  (.seq (.reg [((some 63), (none, (.mv (.tmp 16)))),
    ((some 64), (none, (.call f_authority_Of [(.tmp 63)]))),
    ((some 62), (none, (.steal 64))),
    ((some 65), (none, (.extr 62 0))),
    ((some 66), (none, (.extr 62 1))),
    ((some 18), (none, (.alloc [(.bool false), (.int .u64 0), (.int .u64 0), (.int .u64 0), (.int .i64 0), (.int .i64 0), (lin t_api_Span []), (.string ⟨#[]⟩)]))),
    (none, (none, (.st 8 (.tmp 18) (.tmp 65)))),
    ((some 19), (none, (.mv (.tmp 66))))])
  (.seq (.reg [((some 68), (none, (.mv (.tmp 16)))),
    ((some 69), (none, (.call f_ref06_Of [(.tmp 68)]))),
    ((some 67), (none, (.steal 69))),
    ((some 70), (none, (.extr 67 0))),
    ((some 71), (none, (.extr 67 1))),
    ((some 20), (none, (.alloc [(.bool false), (.int .u64 0), (.int .u64 0), (.int .u64 0), (.int .i64 0), (.int .i64 0), (lin t_api_Span []), (.string ⟨#[]⟩)]))),
    (none, (none, (.st 8 (.tmp 20) (.tmp 70)))),
    ((some 21), (none, (.mv (.tmp 71))))])
  (.seq (.reg [((some 72), (none, (.ldA 8 (.tmp 8)))),
    ((some 73), (none, (.ldA 8 (.tmp 10)))),
    ((some 74), (none, (.call f_ref06_SameAuthority [(.tmp 72), (.tmp 73)]))),
    ((some 75), (none, (.mv (.tmp 74)))),
    ((some 76), ((some (75, true)), (.mv (.tmp 9)))),
    ((some 77), ((some (75, true)), (.mv (.tmp 11)))),
    ((some 78), ((some (75, true)), (.bi .eql (.tmp 76) (.tmp 77)))),
    ((some 79), (none, (.pick (.tmp 75) (.tmp 78) (.const (.bool false))))),
    ((some 80), (none, (.mv (.tmp 79)))),
    ((some 81), ((some (80, true)), (.ldA 8 (.tmp 12)))),
    ((some 82), ((some (80, true)), (.ldA 8 (.tmp 14)))),
    ((some 83), ((some (80, true)), (.call f_ref06_SameAuthority [(.tmp 81), (.tmp 82)]))),
    ((some 84), (none, (.pick (.tmp 80) (.tmp 83) (.const (.bool false))))),
    ((some 85), (none, (.mv (.tmp 84)))),
    ((some 86), ((some (85, true)), (.mv (.tmp 13)))),
    ((some 87), ((some (85, true)), (.mv (.tmp 15)))),
    ((some 88), ((some (85, true)), (.bi .eql (.tmp 86) (.tmp 87)))),
    ((some 89), (none, (.pick (.tmp 85) (.tmp 88) (.const (.bool false))))),
    ((some 90), (none, (.mv (.tmp 89)))),
    ((some 91), ((some (90, true)), (.ldA 8 (.tmp 18)))),
    ((some 92), ((some (90, true)), (.ldA 8 (.tmp 20)))),
    ((some 93), ((some (90, true)), (.call f_ref06_SameAuthority [(.tmp 91), (.tmp 92)]))),
    ((some 94), (none, (.pick (.tmp 90) (.tmp 93) (.const (.bool false))))),
    ((some 95), (none, (.mv (.tmp 94)))),
    ((some 96), ((some (95, true)), (.mv (.tmp 19)))),
    ((some 97), ((some (95, true)), (.mv (.tmp 21)))),
    ((some 98), ((some (95, true)), (.bi .eql (.tmp 96) (.tmp 97)))),
    ((some 99), (none, (.pick (.tmp 95) (.tmp 98) (.const (.bool false))))),
    ((some 100), (none, (.mv (.tmp 99)))),
    ((some 101), ((some (100, true)), (.call f_law08_awake []))),
    ((some 102), (none, (.pick (.tmp 100) (.tmp 101) (.const (.bool false))))),
    ((some 6), (none, (.mv (.tmp 102))))])
  .ret)))
def law08_AuthorityOfC (f_made_New : Nat) (f_made_Deck_Predicates : Nat) (f_authority_Of : Nat) (t_api_Span : Nat) (f_ref06_Of : Nat) (t_api_Predicate : Nat) (f_ref06_SameAuthority : Nat) (f_law08_awake : Nat) : PC :=
  (.seq (.reg [((some 6), (none, (.mv (.const (.bool false)))))])
  (.seq (.reg [((some 22), (none, (.mv (.tmp 0)))),
    ((some 23), (none, (.mv (.tmp 0)))),
    ((some 24), (none, (.len (.tmp 23)))),
    ((some 25), (none, (.mm false (.tmp 24) (.const (.int .i64 80))))),
    ((some 26), (none, (.slS 6 (.tmp 22) none (some (.tmp 25)) none))),
    ((some 0), (none, (.steal 26)))])
  (.seq (.reg [((some 27), (none, (.mv (.tmp 1)))),
    ((some 28), (none, (.call f_made_New [(.tmp 27)]))),
    ((some 29), (none, (.call f_made_Deck_Predicates [(.tmp 28), (.const (.int .i64 5)), (.const (.bool true))]))),
    ((some 7), (none, (.steal 29)))])
  (.seq (.reg [((some 31), (none, (.mv (.tmp 7)))),
    ((some 32), (none, (.call f_authority_Of [(.tmp 31)]))),
    ((some 30), (none, (.steal 32))),
    ((some 33), (none, (.extr 30 0))),
    ((some 34), (none, (.extr 30 1))),
    ((some 8), (none, (.alloc [(.bool false), (.int .u64 0), (.int .u64 0), (.int .u64 0), (.int .i64 0), (.int .i64 0), (lin t_api_Span []), (.string ⟨#[]⟩)]))),
    (none, (none, (.st 8 (.tmp 8) (.tmp 33)))),
    ((some 9), (none, (.mv (.tmp 34))))])
  (.seq (.reg [((some 36), (none, (.mv (.tmp 7)))),
    ((some 37), (none, (.call f_ref06_Of [(.tmp 36)]))),
    ((some 35), (none, (.steal 37))),
    ((some 38), (none, (.extr 35 0))),
    ((some 39), (none, (.extr 35 1))),
    ((some 10), (none, (.alloc [(.bool false), (.int .u64 0), (.int .u64 0), (.int .u64 0), (.int .i64 0), (.int .i64 0), (lin t_api_Span []), (.string ⟨#[]⟩)]))),
    (none, (none, (.st 8 (.tmp 10) (.tmp 38)))),
    ((some 11), (none, (.mv (.tmp 39))))])
  (.seq (.reg [((some 41), (none, (.mv (.tmp 0)))),
    ((some 42), (none, (.call f_authority_Of [(.tmp 41)]))),
    ((some 40), (none, (.steal 42))),
    ((some 43), (none, (.extr 40 0))),
    ((some 44), (none, (.extr 40 1))),
    ((some 12), (none, (.alloc [(.bool false), (.int .u64 0), (.int .u64 0), (.int .u64 0), (.int .i64 0), (.int .i64 0), (lin t_api_Span []), (.string ⟨#[]⟩)]))),
    (none, (none, (.st 8 (.tmp 12) (.tmp 43)))),
    ((some 13), (none, (.mv (.tmp 44))))])
  (.seq (.reg [((some 46), (none, (.mv (.tmp 0)))),
    ((some 47), (none, (.call f_ref06_Of [(.tmp 46)]))),
    ((some 45), (none, (.steal 47))),
    ((some 48), (none, (.extr 45 0))),
    ((some 49), (none, (.extr 45 1))),
    ((some 14), (none, (.alloc [(.bool false), (.int .u64 0), (.int .u64 0), (.int .u64 0), (.int .i64 0), (.int .i64 0), (lin t_api_Span []), (.string ⟨#[]⟩)]))),
    (none, (none, (.st 8 (.tmp 14) (.tmp 48)))),
    ((some 15), (none, (.mv (.tmp 49))))])
  (.seq (.reg [((some 16), (none, (.cnil t_api_Predicate)))])
  (.seq (.seq (.reg [((some 17), (none, (.mv (.const (.int .i64 0)))))])
  (.block 0 (.loop (.seq (.seq (.reg [((some 50), (none, (.mv (.tmp 17)))),
      ((some 51), (none, (.mv (.tmp 2)))),
      ((some 52), (none, (.cv .i64 (.tmp 51)))),
      ((some 53), (none, (.bi .rem (.tmp 52) (.const (.int .i64 5))))),
      ((some 54), (none, (.bi .add (.const (.int .i64 62)) (.tmp 53)))),
      ((some 55), (none, (.bi .lss (.tmp 50) (.tmp 54))))])
  (.cond (.tmp 55)
      .skip
      (.exit 0)))
  (law08_AuthorityOfC_j1 t_api_Predicate)))))
  (law08_AuthorityOfC_j2 f_authority_Of t_api_Span f_ref06_Of f_ref06_SameAuthority f_law08_awake))))))))))
/-- macaroon/macaroonlaw08.awake: 58 slots, results [(.t 0)] -/
def law08_awakeC (t_api_Predicate : Nat) (f_authority_Of : Nat) (t_api_Span : Nat) : PC :=
  (.seq (.reg [((some 0), (none, (.mv (.const (.bool false)))))])
  (.seq (.reg [((some 6), (none, (.build [(.inr ((.const (.int .i64 4)), 1)), (.inl [(.int .u64 0)]), (.inr ((.const (.int .i64 0)), 1)), (.inr ((.const (.int .i64 1439)), 1)), (.inl [(.string ⟨#[]⟩)]), (.inl [(.int .i64 0)])]))),
    ((some 7), (none, (.build [(.inr ((.const (.int .i64 5)), 1)), (.inl [(.int .u64 0)]), (.inr ((.const (.int .i64 1380)), 1)), (.inr ((.const (.int .i64 300)), 1)), (.inl [(.string ⟨#[]⟩)]), (.inl [(.int .i64 0)])]))),
    ((some 8), (none, (.mks t_api_Predicate 6 false [(.tmp 6), (.tmp 7)]))),
    ((some 9), (none, (.call f_authority_Of [(.tmp 8)]))),
    ((some 5), (none, (.steal 9))),
    ((some 10), (none, (.extr 5 0))),
    ((some 11), (none, (.extr 5 1))),
    ((some 1), (none, (.alloc [(.bool false), (.int .u64 0), (.int .u64 0), (.int .u64 0), (.int .i64 0), (.int .i64 0), (lin t_api_Span []), (.string ⟨#[]⟩)]))),
    (none, (none, (.st 8 (.tmp 1) (.tmp 10)))),
    ((some 2), (none, (.mv (.tmp 11))))])
  (.seq (.reg [((some 13), (none, (.build [(.inr ((.const (.int .i64 4)), 1)), (.inl [(.int .u64 0)]), (.inr ((.const (.int .i64 0)), 1)), (.inr ((.const (.int .i64 1439)), 1)), (.inl [(.string ⟨#[]⟩)]), (.inl [(.int .i64 0)])]))),
    ((some 14), (none, (.build [(.inr ((.const (.int .i64 3)), 1)), (.inr ((.const (.int .u64 2)), 1)), (.inl [(.int .i64 0)]), (.inl [(.int .i64 0)]), (.inl [(.string ⟨#[]⟩)]), (.inl [(.int .i64 0)])]))),
    ((some 15), (none, (.mks t_api_Predicate 6 false [(.tmp 13), (.tmp 14)]))),
    ((some 16), (none, (.call f_authority_Of [(.tmp 15)]))),
    ((some 12), (none, (.steal 16))),
    ((some 17), (none, (.extr 12 0))),
    ((some 18), (none, (.extr 12 1))),
    ((some 3), (none, (.alloc [(.bool false), (.int .u64 0), (.int .u64 0), (.int .u64 0), (.int .i64 0), (.int .i64 0), (lin t_api_Span []), (.string ⟨#[]⟩)]))),
    (none, (none, (.st 8 (.tmp 3) (.tmp 17)))),
    ((some 4), (none, (.mv (.tmp 18))))])
  (.seq (.reg [((some 19), (none, (.mv (.tmp 2)))),
    ((some 20), (none, (.bi .eql (.tmp 19) (.const (.int .i64 0))))),
    ((some 21), (none, (.mv (.tmp 20)))),
    ((some 22), ((some (21, true)), (.mv (.tmp 4)))),
    ((some 23), ((some (21, true)), (.bi .eql (.tmp 22) (.const (.int .i64 0))))),
    ((some 24), (none, (.pick (.tmp 21) (.tmp 23) (.const (.bool false))))),
    ((some 25), (none, (.mv (.tmp 24)))),
    ((some 26), ((some (25, true)), (.fa 3 (.tmp 1)))),
    ((some 27), ((some (25, true)), (.ld false (.tmp 26)))),
    ((some 28), ((some (25, true)), (.bi .eql (.tmp 27) (.const (.int .u64 1))))),
    ((some 29), (none, (.pick (.tmp 25) (.tmp 28) (.const (.bool false))))),
    ((some 30), (none, (.mv (.tmp 29)))),
    ((some 31), ((some (30, true)), (.fa 6 (.tmp 1)))),
    ((some 32), ((some (30, true)), (.ld false (.tmp 31)))),
    ((some 33), ((some (30, true)), (.len (.tmp 32)))),
    ((some 34), ((some (30, true)), (.bi .eql (.tmp 33) (.const (.int .i64 2))))),
    ((some 35), (none, (.pick (.tmp 30) (.tmp 34) (.const (.bool false))))),
    ((some 36), (none, (.mv (.tmp 35)))),
    ((some 37), ((some (36, true)), (.fa 6 (.tmp 1)))),
    ((some 38), ((some (36, true)), (.ld false (.tmp 37)))),
    ((some 39), ((some (36, true)), (.ixS 2 (.tmp 38) (.const (.int .i64 0))))),
    ((some 40), ((some (36, true)), (.fa 1 (.tmp 39)))),
    ((some 41), ((some (36, true)), (.ld false (.tmp 40)))),
    ((some 42), ((some (36, true)), (.bi .eql (.tmp 41) (.const (.int .i64 300))))),
    ((some 43), (none, (.pick (.tmp 36) (.tmp 42) (.const (.bool false))))),
    ((some 44), (none, (.mv (.tmp 43)))),
    ((some 45), ((some (44, true)), (.fa 4 (.tmp 1)))),
    ((some 46), ((some (44, true)), (.ld false (.tmp 45)))),
    ((some 47), ((some (44, true)), (.bi .eql (.tmp 46) (.const (.int .i64 0))))),
    ((some 48), (none, (.pick (.tmp 44) (.tmp 47) (.const (.bool false))))),
    ((some 49), (none, (.mv (.tmp 48)))),
    ((some 50), ((some (49, true)), (.fa 5 (.tmp 1)))),
    ((some 51), ((some (49, true)), (.ld false (.tmp 50)))),
    ((some 52), ((some (49, true)), (.bi .eql (.tmp 51) (.const (.int .i64 1439))))),
    ((some 53), (none, (.pick (.tmp 49) (.tmp 52) (.const (.bool false))))),
    ((some 54), (none, (.mv (.tmp 53)))),
    ((some 55), ((some (54, true)), (.fa 0 (.tmp 3)))),
    ((some 56), ((some (54, true)), (.ld false (.tmp 55)))),
    ((some 57), (none, (.pick (.tmp 54) (.tmp 56) (.const (.bool false))))),
    ((some 0), (none, (.mv (.tmp 57))))])
  .ret))))
end Go.PE
namespace Go.PE
open Go
section
variable {P : Program} {g of_ : Nat} (hof : AOfOK P of_ g)
include hof
def Aw08OK (P : Program) (f g : Nat) : Prop := ∀ (H : Nat → Option (List Value)) (nx : Nat), H g = some bitsRow → g < nx → PCalls P f [] H nx (fun _ => False) (fun r H' _ => r = .bool true ∧ H' = H)
theorem awake08_ok {f tP tS : Nat} (hc : compFn P f = some (58, law08_awakeC tP of_ tS, [.t 0])) : Aw08OK P f g := by
  intro H nx hg hgn
  refine PCalls_of hc (by simp) fun hw => ?_
  obtain ⟨w1, w2, w3, _⟩ := exs_wf
  obtain ⟨v1, v2, v3⟩ := exs_valid
  have t1 : [exT, exD].map Pred.v = [exT.v, exD.v] := rfl
  have t2 : [exT, exW].map Pred.v = [exT.v, exW.v] := rfl
  have b1 : (ag [.int .i64 4, .int .u64 0, .int .i64 0, .int .i64 1439, .string ⟨#[]⟩, .int .i64 0] : Value) = exT.v := rfl
  have b2 : (ag [.int .i64 5, .int .u64 0, .int .i64 1380, .int .i64 300, .string ⟨#[]⟩, .int .i64 0] : Value) = exD.v := rfl
  have b3 : (ag [.int .i64 3, .int .u64 2, .int .i64 0, .int .i64 0, .string ⟨#[]⟩, .int .i64 0] : Value) = exW.v := rfl
  simp [law08_awakeC, b1, b2, b3]
  refine wCall_eq (Q := fun r => ofR [exT, exD] r) (hof [exT, exD] (by simp [w1, w2]) (by simp [maxLen]) _ _ hg hgn) fun r n1 hr hn1 => ?_
  obtain ⟨a, e, rfl, hE⟩ := ofR_E hr
  obtain ⟨hA, rfl⟩ := ofE_valid hE (by simp) (by simp [v1, v2])
  obtain rfl := hA.uniq exA_of fun _ => Iff.rfl
  simp at hn1
  have c1 : ¬ g = n1 := by omega
  simp [b1, b3, show nx ≤ n1 by omega]
  refine wCall_eq (Q := fun r => ofR [exT, exW] r) (hof [exT, exW] (by simp [w1, w3]) (by simp [maxLen]) _ _ (by simp [c1, hg]) (by show g < n1 + 1; omega)) fun r n2 hr hn2 => ?_
  obtain ⟨a, e, rfl, hE⟩ := ofR_E hr
  obtain ⟨hA, rfl⟩ := ofE_valid hE (by simp) (by simp [v1, v3])
  obtain rfl := hA.uniq exW_of fun _ => Iff.rfl
  simp at hn2
  have c2 : ¬ n1 = n2 := by omega
  have q0 : exA.days = 1 := rfl
  have q1 : exA.fr = 0 := rfl
  have q2 : exA.to = 1439 := rfl
  have q3 : exA.daily = [⟨0, 300⟩, ⟨1380, 1439⟩] := rfl
  have q4 : noneA.none = true := rfl
  have q5 : elemAt [Spn.v ⟨0, 300⟩, Spn.v ⟨1380, 1439⟩] 0 2 = some (dptr 0 (Spn.cells ⟨0, 300⟩)) := rfl
  simp [show nx ≤ n2 by omega, c2, q0, q1, q2, q3, q4, q5]
  exact wF_own hw (by simp [show nx ≤ n1 by omega, show nx ≤ n2 by omega]) ⟨rfl, rfl⟩
end
theorem min80 (n : Nat) : (if (80 : Int) < n then (80 : Int) else n).toNat = min n 80 := by split <;> omega
theorem authorityOf_ok {P : Program} {g f ne ps of_ tS ro tP sa aw : Nat} (hc : compFn P f = some (103, law08_AuthorityOfC ne ps of_ tS ro tP sa aw, [.t 6])) (hne : NewOK P ne)
    (hps : ∀ n b, 0 ≤ n → n ≤ 1000000 → Draws P ps [.int .i64 n, .bool b] (isPreds tP n b)) (hof : AOfOK P of_ g) (hro : ROfOK P ro) (hsa : SameAOK P sa) (haw : Aw08OK P aw g)
    (ls : List Pred) (l : List Int) (n : Int) (hls : ∀ p ∈ ls, p.wf) (hlsl : ls.length ≤ maxLen) (hl : l.length ≤ maxLen) (hn : 0 ≤ n ∧ n < 256) (H : Nat → Option (List Value)) (nx : Nat) (hg : H g = some bitsRow) (hgn : g < nx) :
    PCalls P f [deep (ls.map Pred.v), deep (l.map (.int .i64)), .int .u8 n] H nx (fun _ => False) (fun r H' _ => r = .bool true) := by
  refine PCalls_of hc (by simp) fun hw => ?_
  have hmx : (maxLen : Int) = 9223372036854775807 := rfl
  have hmn := min80 ls.length
  have hmn0 : 0 ≤ (if (80 : Int) < ls.length then (80 : Int) else ls.length) := by split <;> omega
  have hcut : cutV (ls.map Pred.v) 0 (min ls.length 80) ls.length 6 = some (deep ((ls.take (min ls.length 80)).map Pred.v)) := by
    unfold cutV
    rw [if_pos ⟨by omega, by omega, by simp, by simp⟩]
    simp
  have htw : ∀ p ∈ ls.take (min ls.length 80), p.wf := fun p hp => hls p (List.mem_of_mem_take hp)
  have htm : (ls.take (min ls.length 80)).length ≤ maxLen := by simp; omega
  generalize ls.take (min ls.length 80) = ts at *
  simp [law08_AuthorityOfC, hmn, hmn0, hcut]
  refine wCall_le (hne l _ _) fun r H1 n1 hR hn1 _ => ?_
  obtain ⟨rfl, rfl, rfl⟩ := hR
  simp
  refine wCall_drawL (hps 5 true (by omega) (by omega)) (l := l) (at_ := 0) (by omega) hl (by simp) (.inl (by omega)) fun v at2 n3 hv ha2 hn3 => ?_
  obtain ⟨qs, rfl, hql, hqs⟩ := hv
  simp at hn3
  have g1 : ¬ g = nx := by omega
  have hqw : ∀ q ∈ qs, q.wf := fun q hq => (hqs q hq).2.1
  have hqm : qs.length ≤ maxLen := by omega
  simp
  refine wCall_eq (Q := fun r => ofR qs r) (hof qs hqw hqm _ _ (by simp [g1, hg]) (by show g < n3; omega)) fun r n4 hr hn4 => ?_
  obtain ⟨a, e, rfl, hE1⟩ := ofR_E hr
  simp at hn4
  have g4 : ¬ g = n4 := by omega
  simp [show nx ≤ n4 by omega]
  refine wCall_eq (Q := fun r => ofR qs r) (hro qs hqw hqm _ _) fun r n5 hr hn5 => ?_
  obtain ⟨b, f2, rfl, hE2⟩ := ofR_E hr
  simp at hn5
  have g5 : ¬ g = n5 := by omega
  simp [show nx ≤ n5 by omega]
  refine wCall_eq (Q := fun r => ofR ts r) (hof ts htw htm _ _ (by simp [g1, g4, g5, hg]) (by show g < n5 + 1; omega)) fun r n6 hr hn6 => ?_
  obtain ⟨c, e3, rfl, hE3⟩ := ofR_E hr
  simp at hn6
  have g6 : ¬ g = n6 := by omega
  simp [show nx ≤ n6 by omega]
  refine wCall_eq (Q := fun r => ofR ts r) (hro ts htw htm _ _) fun r n7 hr hn7 => ?_
  obtain ⟨d, f4, rfl, hE4⟩ := ofR_E hr
  simp at hn7
  have g7 : ¬ g = n7 := by omega
  simp [show nx ≤ n7 by omega]
  obtain ⟨rfl, rfl⟩ := ofE_uniq hE1 hE2
  obtain ⟨rfl, rfl⟩ := ofE_uniq hE3 hE4
  have hsz1 := ofE_small hE1
  have hsz3 := ofE_small hE3
  have k1 : ¬ n4 = n5 := by omega
  have k2 : ¬ n4 = n6 := by omega
  have k3 : ¬ n4 = n7 := by omega
  have k4 : ¬ n5 = n6 := by omega
  have k5 : ¬ n5 = n7 := by omega
  have k6 : ¬ n6 = n7 := by omega
  obtain ⟨I, hI⟩ : ∃ I : PS → Prop, ∀ s, I s ↔ (s.t 2 = .int .u8 n ∧ s.t 8 = ptr n4 0 ∧ s.t 9 = .int .i64 e ∧ s.t 10 = ptr n5 0 ∧ s.t 11 = .int .i64 e ∧ s.t 12 = ptr n6 0 ∧ s.t 13 = .int .i64 e3 ∧ s.t 14 = ptr n7 0 ∧ s.t 15 = .int .i64 e3) ∧ s.H g = some bitsRow ∧ s.H n4 = some a.cells ∧ s.H n5 = some a.cells ∧ s.H n6 = some c.cells ∧ s.H n7 = some c.cells ∧ n7 < s.nx ∧ ∃ i : Nat, i ≤ 66 ∧ s.t 17 = .int .i64 i ∧ s.t 16 = lin tP ((List.replicate i exZ).map Pred.v) := ⟨_, fun _ => Iff.rfl⟩
  refine wpc_loop _ _ _ _ _ _ I (fun s => match s.t 17 with | .int _ i => (66 - i).toNat | _ => 0) _ ((hI _).2 ⟨by simp, by simp [g1, g4, g5, g6, g7, hg], by simp [k1, k2, k3], by simp [k4, k5], by simp [k6], by simp, by simp, 0, by omega, by simp, by simp⟩) ?_
  intro s hs
  obtain ⟨⟨x2, x8, x9, x10, x11, x12, x13, x14, x15⟩, hgH, h4, h5, h6, h7, hnx, i, hi, x17, x16⟩ := (hI _).1 hs
  obtain ⟨T, H', nx'⟩ := s
  simp only at x2 x8 x9 x10 x11 x12 x13 x14 x15 x16 x17 hgH h4 h5 h6 h7 hnx
  have hwn := w64 (x := n) (by omega) (by omega)
  have hmod : n.tmod 5 = n % 5 := Int.tmod_eq_emod_of_nonneg hn.1
  have hw2 := w64 (x := 62 + n % 5) (by omega) (by omega)
  have hw5 := w64 (x := n % 5) (by omega) (by omega)
  have bz : (ag [.int .i64 1, .int .u64 3, .int .i64 0, .int .i64 0, .string ⟨#[]⟩, .int .i64 0] : Value) = exZ.v := rfl
  simp [x2, x17, hwn, hmod, hw2, hw5]
  refine wB_of (fun hlt => ?_) (fun hlt => ?_)
  · simp at hlt
    have hw1 := w64 (x := (i : Int) + 1) (by omega) (by omega)
    simp [law08_AuthorityOfC_j1, x16, x17, bz, hw1, maxLen]
    refine ⟨by omega, by omega, ?_⟩
    refine kLoop_nrm _ _ _ _ (Sub_refl _ _) ((hI _).2 ⟨by simp [x2, x8, x9, x10, x11, x12, x13, x14, x15], hgH, h4, h5, h6, h7, hnx, i + 1, by omega, by simp, ?_⟩) (by simp; omega)
    simp [List.replicate_succ']
  · have hzw : ∀ p ∈ List.replicate i exZ, p.wf := fun p hp => by rw [List.eq_of_mem_replicate hp]; exact exs_wf.2.2.2
    have hzm : (List.replicate i exZ).length ≤ maxLen := by simp; omega
    generalize List.replicate i exZ = zs at hzw hzm x16
    simp [law08_AuthorityOfC_j2, x16]
    refine wCall_eq (Q := fun r => ofR zs r) (hof zs hzw hzm _ _ hgH (by show g < nx'; omega)) fun r n8 hr hn8 => ?_
    obtain ⟨u, e5, rfl, hE5⟩ := ofR_E hr
    simp at hn8
    simp [show nx ≤ n8 by omega, x16]
    refine wCall_eq (Q := fun r => ofR zs r) (hro zs hzw hzm _ _) fun r n9 hr hn9 => ?_
    obtain ⟨v, e6, rfl, hE6⟩ := ofR_E hr
    simp at hn9
    obtain ⟨rfl, rfl⟩ := ofE_uniq hE5 hE6
    have hsz5 := ofE_small hE5
    have q1 : ¬ n4 = n8 := by omega
    have q2 : ¬ n4 = n9 := by omega
    have q3 : ¬ n5 = n8 := by omega
    have q4 : ¬ n5 = n9 := by omega
    have q5 : ¬ n6 = n8 := by omega
    have q6 : ¬ n6 = n9 := by omega
    have q7 : ¬ n7 = n8 := by omega
    have q8 : ¬ n7 = n9 := by omega
    have q9 : ¬ n8 = n9 := by omega
    have q10 : ¬ g = n8 := by omega
    have q11 : ¬ g = n9 := by omega
    have p1 : nx ≤ n8 := by omega
    have p2 : nx ≤ n9 := by omega
    simp [p1, p2, q1, q2, q3, q4, q5, q6, q7, q8, q9, x8, x9, x10, x11, x12, x13, x14, x15, h4, h5, h6, h7, Aut.ag]
    refine wCall_eq (Q := fun r => r = .bool (decide (a = a))) (hsa a a (by omega) (by omega) _ _) fun r m1 hr hm1 => ?_
    subst hr
    simp at hm1
    simp [p1, p2, q1, q2, q3, q4, q5, q6, q7, q8, q9, x8, x9, x10, x11, x12, x13, x14, x15, h4, h5, h6, h7, Aut.ag]
    refine wCall_eq (Q := fun r => r = .bool (decide (c = c))) (hsa c c (by omega) (by omega) _ _) fun r m2 hr hm2 => ?_
    subst hr
    simp at hm2
    simp [p1, p2, q1, q2, q3, q4, q5, q6, q7, q8, q9, x8, x9, x10, x11, x12, x13, x14, x15, h4, h5, h6, h7, Aut.ag]
    refine wCall_eq (Q := fun r => r = .bool (decide (u = u))) (hsa u u (by omega) (by omega) _ _) fun r m3 hr hm3 => ?_
    subst hr
    simp at hm3
    simp [p1, p2, q1, q2, q3, q4, q5, q6, q7, q8, q9, x8, x9, x10, x11, x12, x13, x14, x15, h4, h5, h6, h7, Aut.ag]
    refine wCall_eq (Q := fun r => r = .bool true) (haw _ _ (by simp [q10, q11, hgH]) (by show g < m3; omega)) fun r m4 hr hm4 => ?_
    subst hr
    simp
    exact wF_of rfl
end Go.PE
namespace Go.PE
open Go
def SpnEqOK (P : Program) (f : Nat) : Prop := ∀ (a b : List Spn), a.length ≤ maxLen → b.length ≤ maxLen → ∀ (H : Nat → Option (List Value)) (nx : Nat), PCalls P f [deep (a.map Spn.v), deep (b.map Spn.v)] H nx (fun _ => False) (fun r H' _ => r = .bool (decide (a = b)) ∧ H' = H)
theorem spnEq_ok {P : Program} {f : Nat} (hc : compFn P f = some (26, slices_Equal_api_Span_api_SpanC, [.t 4])) : SpnEqOK P f := by
  intro a b hla hlb H nx
  refine PCalls_of hc (by simp) fun hw => ?_
  have hmx : (maxLen : Int) = 9223372036854775807 := rfl
  by_cases g7 : a.length = b.length
  case neg =>
    have e7 : ((a.length : Int) != b.length) = true := by simp; omega
    have hne : decide (a = b) = false := by simp; intro e; rw [e] at g7; exact g7 rfl
    simp [slices_Equal_api_Span_api_SpanC, e7, g7]
    exact wF_own hw (by simp) ⟨by rw [hne]; rfl, rfl⟩
  have e7 : ((a.length : Int) != b.length) = false := by simp [g7]
  simp [slices_Equal_api_Span_api_SpanC, slices_Equal_api_Span_api_SpanC_j2, e7, g7]
  refine wpc_loop _ _ _ _ _ _ (fun s => s.t 0 = deep (a.map Spn.v) ∧ s.t 1 = deep (b.map Spn.v) ∧ s.t 12 = .int .i64 a.length ∧ s.H = H ∧ ∃ i : Nat, i ≤ a.length ∧ s.t 13 = .int .i64 i ∧ a.take i = b.take i)
    (fun s => match s.t 13 with | .int _ i => (a.length - i).toNat | _ => 0) _ ⟨by simp, by simp, by simp [g7], rfl, 0, by omega, by simp, by simp⟩ ?_
  rintro ⟨T, H', nx'⟩ ⟨f0, f1, f12, rfl, i, hi, f13, htk⟩
  simp only at f0 f1 f12 f13 hw
  simp [f12, f13]
  refine wB_of (fun hlt => ?_) (fun hlt => ?_)
  · have hlt : i < a.length := by simp at hlt; omega
    have hlt2 : i < b.length := by omega
    have he1 := elem_spn (l := a) (n := (i : Int)) (by omega) (by simpa using hlt)
    have he2 := elem_spn (l := b) (n := (i : Int)) (by omega) (by simpa using hlt2)
    simp at he1 he2
    have hw1 := w64 (x := (i : Int) + 1) (by omega) (by omega)
    have t1 : a.take (i + 1) = a.take i ++ [a[i]] := List.take_succ_eq_append_getElem hlt
    have t2 : b.take (i + 1) = b.take i ++ [b[i]] := List.take_succ_eq_append_getElem hlt2
    have hne : a[i] ≠ b[i] → a ≠ b := fun h e => h (by subst e; rfl)
    generalize a[i] = x at he1 t1 hne
    generalize b[i] = y at he2 t2 hne
    have hf : ∀ z : Spn, fitsL [CK.int IntKind.i64, CK.int IntKind.i64] z.cells = true := fun _ => rfl
    have heq : eqL x.cells y.cells = decide (x = y) := by
      obtain ⟨_, _⟩ := x
      obtain ⟨_, _⟩ := y
      simp [Spn.cells, eqL, Spn.mk.injEq, Bool.decide_and]
      rfl
    by_cases hxy : x = y
    · subst hxy
      simp [slices_Equal_api_Span_api_SpanC_j1, f0, f1, f13, he1, he2, Spn.ag, hw1, hf, heq]
      exact kLoop_nrm _ _ _ _ (Sub_refl _ _) ⟨by simp [f0], by simp [f1], by simp [f12], rfl, i + 1, by omega, by simp, by rw [t1, t2, htk]⟩ (by simp; omega)
    · simp [slices_Equal_api_Span_api_SpanC_j1, f0, f1, f13, he1, he2, Spn.ag, hf, heq, hxy]
      exact wF_own hw (by simp) ⟨by simp [hne hxy], rfl⟩
  · have hil : i = a.length := by simp at hlt; omega
    subst hil
    rw [List.take_length, g7, List.take_length] at htk
    exact wF_own hw (by simp) ⟨by simp [htk], rfl⟩
theorem aequal_ok {P : Program} {f e : Nat} (hc : compFn P f = some (59, authority_equalC e, [.t 4])) (he : SpnEqOK P e) : SameAOK P f := by
  intro a b hla hlb H nx
  refine PCalls_of hc (by simp) fun hw => ?_
  have hmx : (maxLen : Int) = 9223372036854775807 := rfl
  have a1 : ¬ nx = nx + 1 := by omega
  have a2 : nx ≤ nx + 1 := by omega
  have a3 : ¬ nx + 1 = nx := by omega
  have hno : a ≠ b → decide (a = b) = false := fun h => by simp [h]
  by_cases g0 : a.none = b.none
  case neg =>
    have hne : a ≠ b := fun e => g0 (by rw [e])
    have e0 : (a.none == b.none) = false := by simp [g0]
    simp [authority_equalC, a1, a2, a3, e0]
    exact wF_own hw (by simp [a2]) ⟨by rw [hno hne]; rfl, rfl⟩
  have e0 : (a.none == b.none) = true := by simp [g0]
  by_cases g1 : a.zones = b.zones
  case neg =>
    have hne : a ≠ b := fun e => g1 (by rw [e])
    have e1 : (a.zones == b.zones) = false := by simp [g1]
    simp [authority_equalC, a1, a2, a3, e0, e1]
    exact wF_own hw (by simp [a2]) ⟨by rw [hno hne]; rfl, rfl⟩
  have e1 : (a.zones == b.zones) = true := by simp [g1]
  by_cases g2 : a.lines = b.lines
  case neg =>
    have hne : a ≠ b := fun e => g2 (by rw [e])
    have e2 : (a.lines == b.lines) = false := by simp [g2]
    simp [authority_equalC, a1, a2, a3, e0, e1, e2]
    exact wF_own hw (by simp [a2]) ⟨by rw [hno hne]; rfl, rfl⟩
  have e2 : (a.lines == b.lines) = true := by simp [g2]
  by_cases g3 : a.days = b.days
  case neg =>
    have hne : a ≠ b := fun e => g3 (by rw [e])
    have e3 : (a.days == b.days) = false := by simp [g3]
    simp [authority_equalC, a1, a2, a3, e0, e1, e2, e3]
    exact wF_own hw (by simp [a2]) ⟨by rw [hno hne]; rfl, rfl⟩
  have e3 : (a.days == b.days) = true := by simp [g3]
  by_cases g4 : a.fr = b.fr
  case neg =>
    have hne : a ≠ b := fun e => g4 (by rw [e])
    have e4 : (a.fr == b.fr) = false := by simp [g4]
    simp [authority_equalC, a1, a2, a3, e0, e1, e2, e3, e4]
    exact wF_own hw (by simp [a2]) ⟨by rw [hno hne]; rfl, rfl⟩
  have e4 : (a.fr == b.fr) = true := by simp [g4]
  by_cases g5 : a.to = b.to
  case neg =>
    have hne : a ≠ b := fun e => g5 (by rw [e])
    have e5 : (a.to == b.to) = false := by simp [g5]
    simp [authority_equalC, a1, a2, a3, e0, e1, e2, e3, e4, e5]
    exact wF_own hw (by simp [a2]) ⟨by rw [hno hne]; rfl, rfl⟩
  have e5 : (a.to == b.to) = true := by simp [g5]
  by_cases g6 : a.holder = b.holder
  case neg =>
    have hne : a ≠ b := fun e => g6 (by rw [e])
    have e6 : (a.holder == b.holder) = false := by simp [g6]
    simp [authority_equalC, a1, a2, a3, e0, e1, e2, e3, e4, e5, e6]
    exact wF_own hw (by simp [a2]) ⟨by rw [hno hne]; rfl, rfl⟩
  have e6 : (a.holder == b.holder) = true := by simp [g6]
  have hab : a = b ↔ a.daily = b.daily := ⟨fun e => by rw [e], fun e => by
    obtain ⟨x1, x2, x3, x4, x5, x6, x7, x8⟩ := a
    obtain ⟨y1, y2, y3, y4, y5, y6, y7, y8⟩ := b
    simp only at g0 g1 g2 g3 g4 g5 g6 e
    subst g0; subst g1; subst g2; subst g3; subst g4; subst g5; subst g6; subst e; rfl⟩
  simp [authority_equalC, a1, a2, a3, e0, e1, e2, e3, e4, e5, e6]
  refine wCall_eq (Q := fun r => r = .bool (decide (a.daily = b.daily))) (he a.daily b.daily hla hlb _ _) fun r n1 hr hn1 => ?_
  subst hr
  simp
  exact wF_own hw (by simp [a2]) ⟨by simp [hab], rfl⟩
end Go.PE
namespace Go.PE
open Go
def okD (l : List Spn) : Prop := canon (-1) l ∧ ∀ s ∈ l, s.t < 1440
/-- what the i-th span must be -/
def cD (l : List Spn) (i : Nat) : Prop := ∀ s, l[i]? = some s → 0 ≤ s.f ∧ s.f ≤ s.t ∧ s.t < 1440 ∧ ∀ p, 0 < i → l[i - 1]? = some p → p.t + 1 < s.f
theorem okD_take (l : List Spn) : ∀ i, i ≤ l.length → (okD (l.take i) ↔ ∀ j, j < i → cD l j)
  | 0, _ => by simp [okD, canon]
  | i + 1, hi => by
    have ih := okD_take l i (by omega)
    have hlt : i < l.length := by omega
    have htk : l.take (i + 1) = l.take i ++ [l[i]] := List.take_succ_eq_append_getElem hlt
    have hgi : l[i]? = some l[i] := List.getElem?_eq_getElem hlt
    have key : okD (l.take (i + 1)) ↔ okD (l.take i) ∧ lastT (-1) (l.take i) < l[i].f ∧ l[i].f ≤ l[i].t ∧ l[i].t < 1440 := by
      unfold okD
      rw [htk, canon_snoc]
      constructor
      · rintro ⟨⟨a, b, c⟩, d⟩
        exact ⟨⟨a, fun s hs => d s (List.mem_append.2 (.inl hs))⟩, b, c, d _ (List.mem_append.2 (.inr (List.mem_singleton.2 rfl)))⟩
      · rintro ⟨⟨a, b⟩, c, d, e⟩
        refine ⟨⟨a, c, d⟩, fun s hs => ?_⟩
        rcases List.mem_append.1 hs with h | h
        · exact b s h
        · simp at h; subst h; exact e
    have hlast : okD (l.take i) → (lastT (-1) (l.take i) < l[i].f ↔ 0 ≤ l[i].f ∧ ∀ p, 0 < i → l[i - 1]? = some p → p.t + 1 < l[i].f) := fun hok => by
      cases i with
      | zero => simp [lastT]; omega
      | succ k =>
        have h2 : l.take (k + 1) = l.take k ++ [l[k]] := List.take_succ_eq_append_getElem (by omega)
        have hgk : l[k]? = some l[k] := List.getElem?_eq_getElem (by omega)
        have hpos : -1 < l[k].f ∧ l[k].f ≤ l[k].t := canon_mem hok.1 (by rw [h2]; exact List.mem_append.2 (.inr (List.mem_singleton.2 rfl)))
        rw [h2, lastT_snoc]
        simp only [Nat.add_sub_cancel, hgk]
        constructor
        · intro h; exact ⟨by omega, fun p _ e => by obtain rfl := Option.some.inj e; exact h⟩
        · rintro ⟨_, h⟩; exact h _ (by omega) rfl
    rw [key]
    constructor
    · rintro ⟨h1, h2, h3, h4⟩ j hj
      by_cases e : j = i
      · subst e
        intro s hs
        obtain rfl : l[j] = s := by rw [hgi] at hs; exact Option.some.inj hs
        have := (hlast h1).1 h2
        exact ⟨this.1, h3, h4, this.2⟩
      · exact ih.1 h1 j (by omega)
    · intro h
      have h1 := ih.2 fun j hj => h j (by omega)
      obtain ⟨b1, b2, b3, b4⟩ := h i (by omega) _ hgi
      exact ⟨h1, (hlast h1).2 ⟨b1, b4⟩, b2, b3⟩
theorem okD_all (l : List Spn) : okD l ↔ ∀ j, j < l.length → cD l j := by
  have := okD_take l l.length (Nat.le_refl _)
  rwa [List.take_length] at this
theorem okD.k {l : List Spn} (h : okD l) (k : Int) (hk : inS l k) : k < 1440 := by
  obtain ⟨s, hs, h1, h2⟩ := hk
  have := h.2 s hs
  omega
structure rgA (a : Aut) : Prop where
  l : a.lines ≤ 4294967295
  d : a.days ≤ 127
  f : 0 ≤ a.fr
  ft : a.fr ≤ a.to
  t : a.to ≤ 67108864
  h : a.holder = noName ∨ nameV a.holder = true
  s : okD a.daily
def VA (a : Aut) : Prop := a = noneA ∨ (a.none = false ∧ rgA a ∧ IsClosed a a)
noncomputable def okA (a : Aut) : Bool := @decide (VA a) (Classical.propDecidable _)
theorem okA_iff (a : Aut) : okA a = true ↔ VA a := by unfold okA; simp
theorem okA_no {a : Aut} (h : ¬ VA a) : okA a = false := by
  cases hb : okA a with
  | false => rfl
  | true => exact absurd ((okA_iff a).1 hb) h
theorem VA.not {a : Aut} (hn : a.none = false) (h : ¬ rgA a) : ¬ VA a := by
  rintro (rfl | ⟨_, h2, _⟩)
  · cases hn
  · exact h h2
def rgI (x : Int) : Prop := -9223372036854775808 ≤ x ∧ x ≤ 9223372036854775807
/-- what a value of the type is -/
structure Aut.wf (a : Aut) : Prop where
  zu : isU64 a.zones
  lu : isU64 a.lines
  du : isU64 a.days
  f : rgI a.fr
  t : rgI a.to
  h : (a.holder.size : Int) ≤ 9223372036854775807
  n : a.daily.length ≤ 1000000
theorem rgA.wfi {a : Aut} (h : rgA a) (hw : a.wf) : WfI a := ⟨hw.zu, hw.lu, hw.du, ⟨h.f, by have := h.ft; have := h.t; omega, by have := h.f; have := h.ft; omega, h.t⟩, h.s.1, h.s.k⟩
theorem IsClosed.uniq1 {a r r' : Aut} (h : IsClosed a r) (h' : IsClosed a r') : r = r' := h.uniq h' rfl rfl rfl fun _ => Iff.rfl
/-- the code's answer -/
theorem VA_closed {a r : Aut} (hn : a.none = false) (hg : rgA a) (hr : IsClosed a r) : decide (a = r) = okA a := by
  by_cases e : a = r
  · have : VA a := .inr ⟨hn, hg, by rw [← e] at hr; exact hr⟩
    rw [(okA_iff a).2 this]; simp [e]
  · have : ¬ VA a := by
      rintro (rfl | ⟨_, _, h⟩)
      · cases hn
      · exact e (h.uniq1 hr)
    rw [okA_no this]; simp [e]
theorem VA_none {a : Aut} (hn : a.none = true) : decide (a = noneA) = okA a := by
  by_cases e : a = noneA
  · rw [(okA_iff a).2 (.inl e)]; simp [e]
  · have : ¬ VA a := by
      rintro (h | ⟨h, _⟩)
      · exact e h
      · rw [hn] at h; cases h
    rw [okA_no this]; simp [e]
/-- of a valid authority nothing is empty -/
theorem VA.full {a : Aut} (hn : a.none = false) (h : VA a) : a.zones ≠ 0 ∧ a.lines ≠ 0 ∧ a.days ≠ 0 := by
  rcases h with rfl | ⟨_, hg, hc⟩
  · cases hn
  · rcases hc with ⟨_, e⟩ | ⟨h1, h2, f, t, d, l, hc, e⟩
    · rw [e] at hn; cases hn
    · refine ⟨h1, h2, fun h0 => ?_⟩
      have e2 : a.days = d := by rw [e]
      have := (hc.days (wk f)).2 ⟨f, hc.fr.1, rfl⟩
      rw [← e2, h0, tb_0] at this
      cases this
end Go.PE
