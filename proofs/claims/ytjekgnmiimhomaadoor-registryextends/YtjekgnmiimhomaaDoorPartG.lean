/- Mints: Add. Mints: Find. Mints: are they the same? Mints: are lists of caveats the same? Mints: begins, Extends. Mints: are mints the same? Mints that a deck makes. Mints: the sanity check. RegistrySteps, the walk: the loops. RegistrySteps, the walk: the loops about the loops. The deck: bytes and caveats, with the bytes' bounds. RegistrySteps, the walk: one list of mints. RegistrySteps, the walk: the whole. RegistrySteps, the walk: DONE. Caveats and mints among the arguments, with their sizes. RegistryExtends, the walk: the loops. RegistryExtends, the walk: a mint's own caveats. RegistryExtends, the walk: DONE. -/
import Derived.Test.YtjekgnmiimhomaaDoorPartF
import Derived.Test.YtjekgnmiimhomaaDoorPartE
import Derived.Test.YtjekgnmiimhomaaDoorPartD
set_option linter.all false
namespace Go.PE
open Go
theorem Bx.appNs {α : Type} {E : El α} {n0 : Nat} {H0 : Nat → Option (List Value)} {T : Nat → Prop} {d : Option Nat} {s : PS} {K : PS → Prop} {m l : List α} {size bytes : Nat} {zero : List Value}
    (h1 : Own n0 H0 s.H) (h2 : n0 ≤ s.nx) (hsz : size = E.size) (hz : zero.length = E.size) (hm : m.length + l.length ≤ maxLen) (hb : (m.length + l.length) * bytes ≤ 140737488355328) (hl : 0 < l.length)
    (hK : ∀ v' H' nx', Bx E n0 H0 H' nx' v' (m ++ l) → s.nx ≤ nx' → K ⟨(s.putO d v').t, H', nx'⟩) : wAppB T n0 (ns (m.map E.g)) (srcV s.H (deep (l.map E.g)) size) size bytes zero d s K := by
  subst hsz
  rw [El.src]
  refine wAppB_ns (fun y hy => by obtain ⟨a, _, rfl⟩ := List.mem_map.1 hy; rw [E.hg, E.hf]) (by simpa using hm) (by simpa using hb) (fun h0 => by omega) (fun h0 cap hc1 hc2 => ?_)
  rw [List.length_map] at hc1 ⊢
  refine hK _ _ _ ⟨by rw [own_upd h2]; exact h1, by show n0 ≤ s.nx + 1; omega, .inr ⟨s.nx, cap, (List.replicate (cap - (m.length + l.length)) zero).flatten, by simp, h2, by omega, ?_, ?_, by simpa using hc1, hc2⟩⟩ (by omega)
  · rw [upd_same, El.lcs, El.dgs, List.flatMap_append]
  · rw [flat_rep_len, hz, List.length_append, ← Nat.add_mul]; congr 1; omega
/-- a call that takes it -/
theorem Bx.give {α : Type} {E : El α} {P : Program} {n0 f : Nat} {H0 : Nat → Option (List Value)} {T : Nat → Prop} {d : Option Nat} {s : PS} {K : PS → Prop} {v : Value} {m : List α} {as : List Value} {R : Value → Prop}
    (h : Bx E n0 H0 s.H s.nx v m) (hc : ∀ H1, PCalls P f (deep (m.map E.g) :: as) H1 s.nx (fun _ => False) (fun p H' _ => R p ∧ H' = H1))
    (hK : ∀ p H' n', R p → Own n0 H0 H' → s.nx ≤ n' → K ⟨(s.putO d p).t, H', n'⟩) : wCallB (PCalls P) T n0 f (dg v :: as) d s K := by
  obtain ⟨h1, h2, ⟨rfl, rfl⟩ | ⟨k, cap, rest, rfl, a2, a3, a4, a5, a6, a7⟩⟩ := h
  · refine ⟨s.H, _, Sub_refl _ _, Cvs_refl _ _ _ _, .inl ⟨fun _ => False, fun _ h => h.elim, fun _ _ h => h.elim, (hc s.H).more.mono ?_⟩⟩
    rintro p H' nx' ⟨⟨hp, rfl⟩, hn, _⟩
    have := hK p s.H nx' hp h1 hn
    cases d <;> exact this
  · refine ⟨upd s.H k none, deep (m.map E.g) :: as, fun j => ?_, ⟨rfl, fun i a b ha hb => ?_⟩, .inl ⟨fun _ => False, fun _ h => h.elim, fun _ _ h => h.elim, (hc _).more.mono ?_⟩⟩
    · by_cases e : j = k
      · subst e; exact .inr ⟨a2, upd_same _ _ _⟩
      · exact .inl (upd_ne _ _ e)
    · cases i with
      | zero =>
        simp at ha hb; subst ha; subst hb
        exact .inl (Cv1_list E.f E.g E.hg E.size E.hf E.hd a4 (upd_same _ _ _) a2 a7)
      | succ i =>
        simp at ha hb; rw [ha] at hb
        exact .inl (.inl (Option.some.inj hb).symm)
    · rintro p H' nx' ⟨⟨hp, rfl⟩, hn, _⟩
      have := hK p (upd s.H k none) nx' hp (by rw [own_upd a2]; exact h1) hn
      cases d <;> exact this
def addE (l : List Mnt) (m : Mnt) : Int :=
  if mntF l 0 = false then 5 else if m.ser = l.length + 1 then (if epV m.ep = false then 1 else if 64 < m.cs.length then 2 else if m.cs.all cavOK = false then 5 else 0) else 11
def addM (l : List Mnt) (m : Mnt) : List Mnt := if addE l m = 0 then l ++ [m] else []
def addMR (l : List Mnt) (m : Mnt) (r : Value) : Prop := ∃ v, asL Mnt.v (addM l m) v ∧ r = tup [v, .int .i64 (addE l m)]
def AddMOK (P : Program) (f g : Nat) : Prop := ∀ (l : List Mnt) (m : Mnt), (∀ m ∈ l, m.wf) → m.wf → l.length ≤ 1000 → ∀ (H : Nat → Option (List Value)) (nx : Nat), H g = some bitsRow → g < nx →
    PCalls P f [deep (l.map Mnt.v), m.v] H nx (fun _ => False) (fun r H' _ => addMR l m r ∧ H' = H)
theorem cav_fin {c : Cav} (h : cavOK c = true) : c.fin := by
  unfold cavOK at h
  split at h
  · simp at h
    have h1 := h.1.2; have h2 := h.2
    constructor
    · rw [h1]; simp
    · rw [h2]; simp
  · simp [sizedV] at h
    constructor <;> omega
theorem mnt_fin {m : Mnt} (h1 : m.cs.length ≤ 64) (h2 : m.cs.all cavOK = true) : m.fin := ⟨by omega, fun c hc => cav_fin (List.all_eq_true.1 h2 c hc)⟩
theorem mntF_fin : ∀ {l : List Mnt} {i : Nat}, mntF l i = true → ∀ m ∈ l, m.fin
  | [], _, _, _, hm => by simp at hm
  | a :: r, i, h, m, hm => by
    unfold mntF at h
    simp only [Bool.and_eq_true] at h
    rcases List.mem_cons.1 hm with rfl | hm
    · have := h.1
      unfold mntOK at this
      simp only [Bool.and_eq_true, decide_eq_true_eq] at this
      exact mnt_fin this.1.2 this.2
    · exact mntF_fin h.2 m hm
theorem asL_nil {α : Type} (f : α → Value) : asL f [] (ns []) := .inl ⟨rfl, rfl⟩
theorem addM_ok {P : Program} {f g mv ep bad cl t cp : Nat} (hc : compFnX P [t] f = some (37, registry_Add_BC mv ep bad cl t cp, [.t 4, .t 5])) (hmv : MVOK P mv g) (hep : EpOK P ep) (hbad : BadOK P bad g) (hcl : ClipOK P cl) (hcp : CopyMntOK P cp) : AddMOK P f g := by
  intro l m hwl hwm hlen H nx hg hgn
  refine PCalls_ofX hc (by simp) fun hw => ?_
  have hmx : (maxLen : Int) = 9223372036854775807 := rfl
  have g1 : ¬ g = nx := by omega
  have hw1 := w64 (x := (l.length : Int) + 1) (by omega) (by omega)
  simp [registry_Add_BC]
  refine wCallB_of (wCall_eq (Q := fun r => r = .bool (mntF l 0)) (hmv l hwl (by omega) _ _ (by simp [g1, hg]) (by simp; omega)) fun r n1 hr hn1 => ?_)
  subst hr
  cases h1 : mntF l 0 with
  | false =>
    simp
    have he : addE l m = 5 := by simp [addE, h1]
    exact wF_own hw (by simp) ⟨⟨_, by rw [addM, he]; exact asL_nil _, by rw [he]; rfl⟩, rfl⟩
  | true =>
    by_cases h2 : m.ser = l.length + 1
    case neg =>
      have hb : (m.ser != ((l.length : Int) + 1)) = true := by simpa using h2
      simp [hw1, hb]
      have he : addE l m = 11 := by simp [addE, h1, h2]
      exact wF_own hw (by simp) ⟨⟨_, by rw [addM, he]; exact asL_nil _, by rw [he]; rfl⟩, rfl⟩
    simp [hw1, h2]
    refine wCallB_of (wCall_eq (Q := fun r => r = .bool (epV m.ep)) (hep _ _ _) fun r n2 hr hn2 => ?_)
    subst hr
    cases h3 : epV m.ep with
    | false =>
      simp
      have he : addE l m = 1 := by simp [addE, h1, h2, h3]
      exact wF_own hw (by simp) ⟨⟨_, by rw [addM, he]; exact asL_nil _, by rw [he]; rfl⟩, rfl⟩
    | true =>
      by_cases h4 : 64 < m.cs.length
      · simp [show (64 : Int) < m.cs.length by omega]
        have he : addE l m = 2 := by simp [addE, h1, h2, h3, h4]
        exact wF_own hw (by simp) ⟨⟨_, by rw [addM, he]; exact asL_nil _, by rw [he]; rfl⟩, rfl⟩
      simp [show ¬ (64 : Int) < m.cs.length by omega]
      refine wCallB_of (wCall_eq (Q := fun r => r = .bool (badV m.cs)) (hbad _ hwm.1 hwm.2 _ _ (by simp [g1, hg]) (by simp at hn1 hn2 ⊢; omega)) fun r n3 hr hn3 => ?_)
      subst hr
      rw [badV_all]
      cases h5 : m.cs.all cavOK with
      | false =>
        simp
        have he : addE l m = 5 := by simp only [addE, h1, h2, h3, h4, h5]; simp
        exact wF_own hw (by simp) ⟨⟨_, by rw [addM, he]; exact asL_nil _, by rw [he]; rfl⟩, rfl⟩
      | true =>
        have he : addE l m = 0 := by simp only [addE, h1, h2, h3, h4, h5]; simp
        have hadd : addM l m = l ++ [m] := by simp [addM, he]
        have hfin : ∀ x ∈ l ++ [m], x.fin := fun x hx => by
          rcases List.mem_append.1 hx with hx | hx
          · exact mntF_fin h1 x hx
          · simp at hx; subst hx; exact mnt_fin (by omega) h5
        simp at hn1 hn2 hn3
        have hone : Mnt.v m = (fun x : Mnt => x.v) m := rfl
        simp [registry_Add_BC_j1]
        repeat' first
          | refine And.intro ?_ ?_
          | (refine wCallB_of (wCall_eq (Q := fun r => r = ns (l.map Mnt.v)) (hcl _ _ _) fun r n4 hr hn4 => ?_); subst hr; simp at hn4; simp)
          | (refine Bx.appNs (E := mntEl) (n0 := nx) (H0 := H) (m := l) (l := [m]) (by simp) (by simp; omega) rfl rfl (by simp; omega) (by simp; omega) (by simp) fun v' H3 nx3 hB3 hn5 => ?_; simp at hn5; simp)
          | (refine Bx.give (E := mntEl) (R := fun r => asL Mnt.v (l ++ [m]) r) hB3 (fun H1 => hcp _ H1 _ (by simp; omega) hfin) fun p H' n' hp hown hn' => ?_; obtain ⟨q1, q2, q3⟩ := asL_dg hp; simp)
        all_goals exact wF_own hw hown ⟨⟨p, by rw [hadd]; exact hp, by rw [he]; rfl⟩, rfl⟩
def RMVOK (P : Program) (f : Nat) : Prop := ∀ (l : List Mnt), (∀ m ∈ l, m.wf) → l.length ≤ maxLen → ∀ (H : Nat → Option (List Value)) (nx : Nat), PCalls P f [deep (l.map Mnt.v)] H nx (fun _ => False) (fun r H' _ => r = .bool (mntF l 0) ∧ H' = H)
theorem rmv_ok {P : Program} {f av : Nat} (hc : compFn P f = some (52, ref21_MintsOkC av, [.t 2])) (hav : AllCOK P av) : RMVOK P f := by
  intro l hwf hlen H nx
  refine PCalls_of hc (by simp) fun hw => ?_
  have hmx : (maxLen : Int) = 9223372036854775807 := rfl
  simp [ref21_MintsOkC]
  refine wpc_loop _ _ _ _ _ _ (fun s => ∃ i : Nat, i ≤ l.length ∧ s.t 0 = deep (l.map Mnt.v) ∧ s.t 3 = .int .i64 i ∧ s.H = H ∧ mntF l 0 = mntF (l.drop i) i)
    (fun s => match s.t 3 with | .int _ i => (l.length - i).toNat | _ => 0) _ ⟨0, by omega, by simp, by simp, rfl, by simp⟩ ?_
  rintro ⟨T, H', nx'⟩ ⟨i, hi, e0, e3, rfl, hall⟩
  simp only at e0 e3
  simp [e0, e3]
  refine wB_of (fun hlt => ?_) (fun hlt => ?_)
  · simp at hlt
    have he := elem_mnt (l := l) (n := (i : Int)) (by omega) (by simpa using hlt)
    simp at he
    have hst := mntF_step hlt
    have hmw := hwf _ (List.getElem_mem hlt)
    have hw1 := w64 (x := (i : Int) + 1) (by omega) (by omega)
    rw [hall, hst] at *
    by_cases h1 : l[i].ser = i + 1
    case neg =>
      have hb : (l[i].ser != ((i : Int) + 1)) = true := by simpa using h1
      simp [ref21_MintsOkC_j1, e0, e3, he, hw1, hb]
      exact wF_own hw (by simp) ⟨by simp [mntOK, h1], rfl⟩
    by_cases h2 : l[i].ep < 1
    · simp [ref21_MintsOkC_j1, e0, e3, he, hw1, h1, h2]
      exact wF_own hw (by simp) ⟨by simp only [mntOK, epV]; simp; omega, rfl⟩
    by_cases h3 : 1000 < l[i].ep
    · simp [ref21_MintsOkC_j1, e0, e3, he, hw1, h1, h2, h3]
      exact wF_own hw (by simp) ⟨by simp only [mntOK, epV]; simp; omega, rfl⟩
    by_cases h4 : l[i].cs.length ≤ 64
    case neg =>
      simp [ref21_MintsOkC_j1, e0, e3, he, hw1, h1, h2, h3, show (64 : Int) < l[i].cs.length by omega]
      exact wF_own hw (by simp) ⟨by simp [mntOK, h4], rfl⟩
    simp [ref21_MintsOkC_j1, e0, e3, he, hw1, h1, h2, h3, show ¬ (64 : Int) < l[i].cs.length by omega]
    refine wCall_eq (Q := fun r => r = .bool (l[i].cs.all cavOK)) (hav _ hmw.1 hmw.2 _ _) fun r n5 hr hn5 => ?_
    subst hr
    have hep : epV l[i].ep = true := by simp [epV]; omega
    cases h5 : l[i].cs.all cavOK with
    | false =>
      simp
      exact wF_own hw (by simp) ⟨by simp only [mntOK, h5]; simp, rfl⟩
    | true =>
      simp [e3, hw1]
      refine kLoop_nrm _ _ _ _ (Sub_refl _ _) ⟨i + 1, by omega, by simp [e0], by simp, rfl, by simp only [mntOK, h1, hep, h4, h5]; simp⟩ (by simp; omega)
  · simp at hlt
    have : i = l.length := by omega
    subst this
    rw [List.drop_length] at hall
    exact wF_own hw (by simp) ⟨by rw [hall]; rfl, rfl⟩
def RAddMOK (P : Program) (f : Nat) : Prop := ∀ (l : List Mnt) (m : Mnt), (∀ m ∈ l, m.wf) → m.wf → l.length ≤ 1000 → ∀ (H : Nat → Option (List Value)) (nx : Nat),
    PCalls P f [deep (l.map Mnt.v), m.v] H nx (fun _ => False) (fun r H' _ => (∃ e, r = tup [lin e ((addM l m).map Mnt.v), .int .i64 (addE l m)]) ∧ H' = H)
theorem raddM_ok {P : Program} {f mv av t : Nat} (hc : compFn P f = some (42, ref21_AddMintC t mv av, [.t 4, .t 5])) (hmv : RMVOK P mv) (hav : AllCOK P av) : RAddMOK P f := by
  intro l m hwl hwm hlen H nx
  refine PCalls_of hc (by simp) fun hw => ?_
  have hmx : (maxLen : Int) = 9223372036854775807 := rfl
  have hw1 := w64 (x := (l.length : Int) + 1) (by omega) (by omega)
  simp [ref21_AddMintC]
  refine wCall_eq (Q := fun r => r = .bool (mntF l 0)) (hmv l hwl (by omega) _ _) fun r n1 hr hn1 => ?_
  subst hr
  cases h1 : mntF l 0 with
  | false =>
    simp
    have he : addE l m = 5 := by simp [addE, h1]
    exact wF_own hw (by simp) ⟨⟨t, by rw [addM, he]; rfl⟩, rfl⟩
  | true =>
    by_cases h2 : m.ser = l.length + 1
    case neg =>
      have hb : (m.ser != ((l.length : Int) + 1)) = true := by simpa using h2
      simp [hw1, hb]
      have he : addE l m = 11 := by simp [addE, h1, h2]
      exact wF_own hw (by simp) ⟨⟨t, by rw [addM, he]; rfl⟩, rfl⟩
    by_cases h3 : m.ep < 1
    · simp [hw1, h2, h3]
      have he : addE l m = 1 := by
        have : epV m.ep = false := by simp [epV]; omega
        simp [addE, h1, h2, this]
      exact wF_own hw (by simp) ⟨⟨t, by rw [addM, he]; rfl⟩, rfl⟩
    by_cases h4 : 1000 < m.ep
    · simp [hw1, h2, h3, h4]
      have he : addE l m = 1 := by
        have : epV m.ep = false := by simp [epV]; omega
        simp [addE, h1, h2, this]
      exact wF_own hw (by simp) ⟨⟨t, by rw [addM, he]; rfl⟩, rfl⟩
    have hep : epV m.ep = true := by simp [epV]; omega
    by_cases h5 : 64 < m.cs.length
    · simp [hw1, h2, h3, h4, show (64 : Int) < m.cs.length by omega]
      have he : addE l m = 2 := by simp [addE, h1, h2, hep, h5]
      exact wF_own hw (by simp) ⟨⟨t, by rw [addM, he]; rfl⟩, rfl⟩
    simp [hw1, h2, h3, h4, show ¬ (64 : Int) < m.cs.length by omega]
    refine wCall_eq (Q := fun r => r = .bool (m.cs.all cavOK)) (hav _ hwm.1 hwm.2 _ _) fun r n5 hr hn5 => ?_
    subst hr
    cases h6 : m.cs.all cavOK with
    | false =>
      simp
      have he : addE l m = 5 := by simp only [addE, h1, h2, hep, h5, h6]; simp
      exact wF_own hw (by simp) ⟨⟨t, by rw [addM, he]; rfl⟩, rfl⟩
    | true =>
      have he : addE l m = 0 := by simp only [addE, h1, h2, hep, h5, h6]; simp
      have hadd : addM l m = l ++ [m] := by simp [addM, he]
      simp [ref21_AddMintC_j1]
      refine ⟨by omega, by omega, by omega, by omega, ?_⟩
      exact wF_own hw (by simp) ⟨⟨t, by rw [hadd, he, List.map_append]; rfl⟩, rfl⟩
end Go.PE
namespace Go.PE
open Go
def serB (s : Int) (m : Mnt) : Bool := decide (m.ser = s)
theorem find1_ok {P : Program} {f : Nat} (hc : compFn P f = some (8, registry_Find_1C, [.t 3])) (m : Mnt) (s : Int) (H : Nat → Option (List Value)) (nx k : Nat) (hk : H k = some [.int .i64 s]) (hkn : k < nx) :
    PCalls P f [m.v, ptr k 0] H nx (fun _ => False) (fun r H' _ => r = .bool (serB s m) ∧ H' = H) := by
  refine PCalls_of hc (by simp) fun hw => ?_
  have g1 : ¬ k = nx := by omega
  simp [registry_Find_1C, g1, hk]
  exact wF_own hw (by simp) ⟨rfl, rfl⟩
def fm (l : List Mnt) (s : Int) : Mnt := (l.find? (serB s)).getD ⟨0, 0, []⟩
def fb (l : List Mnt) (s : Int) : Bool := (l.find? (serB s)).isSome
theorem ixF_cases {α : Type} (p : α → Bool) : ∀ (l : List α) (i : Nat), (l.find? p = none ∧ ixF p l i = -1) ∨ ∃ (j : Nat) (h : j < l.length), l.find? p = some l[j] ∧ ixF p l i = (i : Int) + j
  | [], _ => .inl ⟨rfl, rfl⟩
  | a :: r, i => by
    cases h : p a with
    | true => exact .inr ⟨0, by simp, by simp [List.find?, h], by simp [ixF, h]⟩
    | false =>
      rcases ixF_cases p r (i + 1) with ⟨h1, h2⟩ | ⟨j, hj, h1, h2⟩
      · exact .inl ⟨by simp [List.find?, h, h1], by simp [ixF, h, h2]⟩
      · exact .inr ⟨j + 1, by simp; omega, by simp [List.find?, h, h1], by simp [ixF, h, h2]; omega⟩
theorem sts_asL {α : Type} {g : α → Value} {l : List α} {C : Known} {P : Program} {T : Nat → Prop} {n0 : Nat} {x : Operand} {t k off : Nat} {row : List Value} {s : PS} {K : PS → Prop} (hx : s.ev x = ptr k off) (hk : s.H k = some row) (ho : off < row.length) (hT : T k ∨ n0 ≤ k) (ht : asL g l (s.t t))
    (h : K ⟨upd s.t t (deep (l.map g)), upd s.H k (some (row.set off (s.t t))), s.nx⟩) : PE.step C P T n0 none (.sts x t) s K := by
  refine ⟨k, off, row, hx, hk, ho, hT, fun ps h => ?_, fun ps h => ?_, ?_⟩
  · rcases ht with ⟨ht, _⟩ | ht <;> (rw [ht] at h; cases h)
  · rcases ht with ⟨ht, _⟩ | ht <;> (rw [ht] at h; cases h)
  · rw [(asL_dg ht).1]; exact h
def FindROK (P : Program) (f : Nat) : Prop := ∀ (l : List Mnt) (s : Int), (∀ m ∈ l, m.fin) → l.length ≤ 1000000 → ∀ (H : Nat → Option (List Value)) (nx : Nat),
    PCalls P f [deep (l.map Mnt.v), .int .i64 s] H nx (fun _ => False) (fun r H' _ => r = tup [(fm l s).v, .bool (fb l s)] ∧ H' = H)
theorem find_ok {P : Program} {f t f1 ix cp : Nat} (hc : compFn P f = some (23, registry_FindC t f1 ix cp, [.cA 4 3, .t 5])) (h1 : compFn P f1 = some (8, registry_Find_1C, [.t 3])) (hfn : okFn P f1 = true) (hix : IxMntOK P ix) (hcp : CopyCavOK P cp) : FindROK P f := by
  intro l s hfin hlen H nx
  refine PCalls_of hc (by simp) fun hw => ?_
  have hmx : (maxLen : Int) = 9223372036854775807 := rfl
  simp [registry_FindC]
  refine wCall_eq (Q := fun r => r = .int .i64 (ixF (serB s) l 0)) (hix l f1 [ptr nx 0] (serB s) _ _ (by omega) ⟨hfn, fun m hm nx' hnx' => find1_ok h1 m s _ _ nx (by simp) (by simp at hnx'; omega)⟩) fun r n4 hr hn4 => ?_
  subst hr
  rcases ixF_cases (serB s) l 0 with ⟨a1, a2⟩ | ⟨j, hj, a1, a2⟩
  · simp [a2]
    exact wF_own hw (by simp) ⟨by simp only [fm, fb, a1]; rfl, rfl⟩
  · have he := elem_mnt (l := l) (n := (j : Int)) (by omega) (by simpa using hj)
    simp at he
    have hm := hfin l[j] (List.getElem_mem _)
    simp [a2, registry_FindC_j1, he, show ¬ (j : Int) < 0 by omega]
    simp at hn4
    refine ⟨by omega, ?_⟩
    refine wCall_eq (Q := fun r => asL Cav.v l[j].cs r) (hcp l[j].cs _ _ hm.1 hm.2) fun r n5 hr hn5 => ?_
    obtain ⟨q1, q2, q3⟩ := asL_dg hr
    have k1 : ¬ n4 = nx := by omega
    have k2 : ¬ n4 = nx + 1 := by omega
    have k3 : ¬ nx + 1 = n4 := by omega
    have k4 : nx ≤ n4 := by omega
    simp [q1, q2, q3, k1, k2, k3, k4, Mnt.cells]
    refine sts_asL (g := Cav.v) (l := l[j].cs) (k := n4) (off := 2) (row := [.int .i64 l[j].ser, .int .i64 l[j].ep, deep (l[j].cs.map Cav.v)]) (by simp) (by simp) (by simp) (.inr k4) (by simpa using hr) ?_
    simp [q1, q2, q3, k1, k2, k3, k4]
    exact wF_own hw (by simp [k4]) ⟨by simp only [fm, fb, a1]; rfl, rfl⟩
def RFindOK (P : Program) (f : Nat) : Prop := ∀ (l : List Mnt) (s : Int), l.length ≤ maxLen → ∀ (H : Nat → Option (List Value)) (nx : Nat),
    PCalls P f [deep (l.map Mnt.v), .int .i64 s] H nx (fun _ => False) (fun r H' _ => r = tup [(fm l s).v, .bool (fb l s)] ∧ H' = H)
theorem rfind_ok {P : Program} {f t : Nat} (hc : compFn P f = some (25, ref21_FindMintC t, [.cA 4 3, .t 5])) : RFindOK P f := by
  intro l s hlen H nx
  refine PCalls_of hc (by simp) fun hw => ?_
  have hmx : (maxLen : Int) = 9223372036854775807 := rfl
  simp [ref21_FindMintC]
  refine wpc_loop _ _ _ _ _ _ (fun z => ∃ i : Nat, i ≤ l.length ∧ z.t 0 = deep (l.map Mnt.v) ∧ z.t 1 = .int .i64 s ∧ z.t 4 = ptr nx 0 ∧ z.t 6 = .int .i64 i ∧ z.H = upd H nx (some [.int .i64 0, .int .i64 0, lin t []]) ∧ l.find? (serB s) = (l.drop i).find? (serB s))
    (fun z => match z.t 6 with | .int _ i => (l.length - i).toNat | _ => 0) _ ⟨0, by omega, by simp, by simp, by simp, by simp, rfl, by simp⟩ ?_
  rintro ⟨T, H', nx'⟩ ⟨i, hi, e0, e1, e4, e6, rfl, hall⟩
  simp only at e0 e1 e4 e6
  simp [e0, e6]
  refine wB_of (fun hlt => ?_) (fun hlt => ?_)
  · simp at hlt
    have he := elem_mnt (l := l) (n := (i : Int)) (by omega) (by simpa using hlt)
    simp at he
    rw [List.drop_eq_getElem_cons hlt, List.find?_cons] at hall
    have hw1 := w64 (x := (i : Int) + 1) (by omega) (by omega)
    simp [ref21_FindMintC_j1, e0, e1, e6, he]
    refine wB_of (fun hs => ?_) (fun hs => ?_)
    · simp at hs
      have hb : serB s l[i] = true := by simp [serB, hs]
      rw [hb] at hall
      simp [e0, e4, e6, he]
      exact wF_own hw (by simp) ⟨by simp only [fm, fb, hall]; rfl, rfl⟩
    · simp at hs
      have hb : serB s l[i] = false := by simp [serB, hs]
      rw [hb] at hall
      simp [e6, hw1]
      refine kLoop_nrm _ _ _ _ (Sub_refl _ _) ⟨i + 1, by omega, by simp [e0], by simp [e1], by simp [e4], by simp, rfl, hall⟩ (by simp; omega)
  · simp at hlt
    have : i = l.length := by omega
    subst this
    rw [List.drop_length] at hall
    simp [e4]
    exact wF_own hw (by simp) ⟨by simp only [fm, fb, hall]; rfl, rfl⟩
end Go.PE
namespace Go.PE
open Go
def sameL {α : Type} (f : α → α → Bool) : List α → List α → Bool
  | [], [] => true
  | a :: r, b :: q => f a b && sameL f r q
  | _, _ => false
theorem sameL_refl {α : Type} {f : α → α → Bool} (h : ∀ a, f a a = true) : ∀ l : List α, sameL f l l = true
  | [] => rfl
  | a :: r => by unfold sameL; rw [h a, sameL_refl h r]; rfl
theorem sameL_ne {α : Type} {f : α → α → Bool} : ∀ {a b : List α}, a.length ≠ b.length → sameL f a b = false
  | [], [], h => (h rfl).elim
  | [], _ :: _, _ => rfl
  | _ :: _, [], _ => rfl
  | a :: r, b :: q, h => by
    unfold sameL; rw [sameL_ne (by simpa using h)]; simp
theorem sameL_step {α : Type} {f : α → α → Bool} {a b : List α} {i : Nat} (h1 : i < a.length) (h2 : i < b.length) : sameL f (a.drop i) (b.drop i) = (f a[i] b[i] && sameL f (a.drop (i + 1)) (b.drop (i + 1))) := by
  rw [List.drop_eq_getElem_cons h1, List.drop_eq_getElem_cons h2]; rfl
def sameB (a b : List Int) : Bool := sameL (fun x y => x == y) a b
theorem sameB_iff : ∀ {a b : List Int}, sameB a b = true ↔ a = b
  | [], [] => by simp [sameB, sameL]
  | [], _ :: _ => by simp [sameB, sameL]
  | _ :: _, [] => by simp [sameB, sameL]
  | a :: r, b :: q => by
    have : sameB (a :: r) (b :: q) = ((a == b) && sameB r q) := rfl
    rw [this, Bool.and_eq_true, sameB_iff]; simp
theorem str_inj : ∀ {a b : List Int}, (∀ x ∈ a, 0 ≤ x ∧ x ≤ 255) → (∀ x ∈ b, 0 ≤ x ∧ x ≤ 255) → (a.map fun n => UInt8.ofNat n.toNat) = (b.map fun n => UInt8.ofNat n.toNat) → a = b
  | [], [], _, _, _ => rfl
  | [], _ :: _, _, _, h => by simp at h
  | _ :: _, [], _, _, h => by simp at h
  | x :: r, y :: q, ha, hb, h => by
    simp only [List.map_cons, List.cons.injEq] at h
    have h1 := ha x (by simp); have h2 := hb y (by simp)
    have e : x = y := by
      have := congrArg UInt8.toNat h.1
      simp only [UInt8.toNat_ofNat'] at this
      omega
    rw [e, str_inj (fun z hz => ha z (by simp [hz])) (fun z hz => hb z (by simp [hz])) h.2]
theorem str_same {a b : List Int} (ha : inBytes a) (hb : inBytes b) : (strOfNums a == strOfNums b) = sameB a b := by
  rw [Bool.eq_iff_iff, beq_iff_eq, sameB_iff]
  constructor
  · intro h
    have := congrArg (fun z : ByteArray => z.data.toList) h
    simp only [strOfNums_data] at this
    exact str_inj ha.2 hb.2 this
  · rintro rfl; rfl
theorem u8s_map (l : List Int) : u8s (l.map (Value.int .u8)) = some l := by
  induction l with
  | nil => rfl
  | cons a r ih => simp [ih]
def BEqOK (P : Program) (f : Nat) : Prop := ∀ (a b : List Int), inBytes a → inBytes b → ∀ (H : Nat → Option (List Value)) (nx : Nat), PCalls P f [bytesV a, bytesV b] H nx (fun _ => False) (fun r H' _ => r = .bool (sameB a b) ∧ H' = H)
theorem beq_ok {P : Program} {f : Nat} (hc : compFn P f = some (10, bytes_EqualC, [.t 4])) : BEqOK P f := by
  intro a b ha hb H nx
  refine PCalls_of hc (by simp) fun hw => ?_
  simp [bytes_EqualC, u8s_map, str_same ha hb]
  exact wF_own hw (by simp) ⟨rfl, rfl⟩
theorem elem_int {l : List Int} {n : Int} (h0 : 0 ≤ n) (hn : n.toNat < l.length) : elemAt (l.map (Value.int .u8)) n 1 = some (dptr 0 [.int .u8 l[n.toNat]]) := elemAt_map h0 hn rfl (by simp)
theorem same01_ok {P : Program} {f : Nat} (hc : compFn P f = some (26, ref01_SameC, [.t 4])) : BEqOK P f := by
  intro la lb hla hlb H nx
  refine PCalls_of hc (by simp) fun hw => ?_
  have hmx : (maxLen : Int) = 9223372036854775807 := rfl
  have h1 := hla.1; have h2 := hlb.1
  simp [ref01_SameC, bytesV]
  refine wB_of (fun h => ?_) (fun h => ?_)
  · simp at h
    exact wF_of ⟨by rw [sameB, sameL_ne (by omega)]; rfl, rfl⟩
  simp at h
  simp [ref01_SameC_j2]
  refine wpc_loop _ _ _ _ _ _ (fun s => ∃ i : Nat, i ≤ la.length ∧ s.t 0 = deep (la.map (Value.int .u8)) ∧ s.t 1 = deep (lb.map (Value.int .u8)) ∧ s.t 5 = .int .i64 i ∧ s.H = H ∧ sameB la lb = sameB (la.drop i) (lb.drop i))
    (fun s => match s.t 5 with | .int _ i => (la.length - i).toNat | _ => 0) _ ⟨0, by omega, by simp, by simp, by simp, rfl, by simp⟩ ?_
  rintro ⟨T, H', nx'⟩ ⟨i, hi1, e0, e1, e5, rfl, hall⟩
  simp only at e0 e1 e5
  simp [e0, e1, e5]
  refine wB_of (fun hlt => ?_) (fun hlt => ?_)
  · simp at hlt
    have hlt' : i < lb.length := by omega
    have he := elem_int (l := la) (n := (i : Int)) (by omega) (by simpa using hlt)
    have he' := elem_int (l := lb) (n := (i : Int)) (by omega) (by simpa using hlt')
    simp at he he'
    simp [ref01_SameC_j1, e0, e1, e5, he, he', -List.reduceReplicate]
    have hst : sameB (la.drop i) (lb.drop i) = ((la[i] == lb[i]) && sameB (la.drop (i + 1)) (lb.drop (i + 1))) := sameL_step hlt hlt'
    refine wB_of (fun h => ?_) (fun h => ?_)
    · simp at h
      refine wF_of ⟨by rw [hall, hst]; simp [h], rfl⟩
    · simp at h
      try simp [e5]
      rw [w64 (x := (i : Int) + 1) (by omega) (by omega)]
      refine kLoop_nrm _ _ _ _ (Sub_refl _ _) ⟨i + 1, by omega, by simp [e0], by simp [e1], by simp, rfl, ?_⟩ (by simp; omega)
      rw [hall, hst]; simp [h]
  · simp at hlt
    refine wF_of ⟨?_, rfl⟩
    rw [drop_all hlt, drop_all (by omega)] at hall
    rw [hall]; rfl
def sameC (a b : Cav) : Bool := (a.third == b.third) && eqL a.p.cells b.p.cells && (a.party == b.party) && sameB a.tk b.tk && sameB a.bx b.bx
theorem eqL_pred (p : Pred) : eqL p.cells p.cells = true := by
  simp [Pred.cells, eqL, eqC]
theorem sameC_refl (a : Cav) : sameC a a = true := by
  have := sameB_iff (a := a.tk) (b := a.tk)
  have := sameB_iff (a := a.bx) (b := a.bx)
  simp_all [sameC, eqL_pred]
theorem csame1_ok {P : Program} {f be : Nat} (hc : compFn P f = some (38, caveat_Same_1C be, [.t 4])) (hb : BEqOK P be) (a b : Cav) (ha : a.wf) (hb' : b.wf) (H : Nat → Option (List Value)) (nx : Nat) :
    PCalls P f [a.v, b.v] H nx (fun _ => False) (fun r H' _ => r = .bool (sameC a b) ∧ H' = H) := by
  refine PCalls_of hc (by simp) fun hw => ?_
  cases h1 : (a.third == b.third) with
  | false =>
    simp [caveat_Same_1C, h1]
    exact wF_own hw (by simp) ⟨by simp [sameC, h1], rfl⟩
  | true =>
    cases h2 : eqL a.p.cells b.p.cells with
    | false =>
      simp [caveat_Same_1C, h1, h2]
      exact wF_own hw (by simp) ⟨by simp [sameC, h2], rfl⟩
    | true =>
      cases h3 : (a.party == b.party) with
      | false =>
        simp [caveat_Same_1C, h1, h2, h3]
        exact wF_own hw (by simp) ⟨by simp [sameC, h3], rfl⟩
      | true =>
        simp [caveat_Same_1C, h1, h2, h3]
        refine wCall_eq (Q := fun r => r = .bool (sameB a.tk b.tk)) (hb _ _ ha.2.1 hb'.2.1 _ _) fun r n4 hr hn4 => ?_
        subst hr
        cases h4 : sameB a.tk b.tk with
        | false =>
          simp
          exact wF_own hw (by simp) ⟨by simp [sameC, h4], rfl⟩
        | true =>
          simp
          refine wCall_eq (Q := fun r => r = .bool (sameB a.bx b.bx)) (hb _ _ ha.2.2 hb'.2.2 _ _) fun r n5 hr hn5 => ?_
          subst hr
          simp
          exact wF_own hw (by simp) ⟨by simp [sameC, h1, h2, h3, h4], rfl⟩
end Go.PE
namespace Go.PE
open Go
def sameCs (a b : List Cav) : Bool := sameL sameC a b
def CsSameOK (P : Program) (f : Nat) : Prop := ∀ (la lb : List Cav), (∀ c ∈ la, c.wf) → (∀ c ∈ lb, c.wf) → la.length ≤ maxLen → lb.length ≤ maxLen → ∀ (H : Nat → Option (List Value)) (nx : Nat),
    PCalls P f [deep (la.map Cav.v), deep (lb.map Cav.v)] H nx (fun _ => False) (fun r H' _ => r = .bool (sameCs la lb) ∧ H' = H)
theorem rcs_j1 {P : Program} {sb n0 : Nat} (hsb : BEqOK P sb) {T : Nat → Value} {H : Nat → Option (List Value)} {nx k1 k2 : Nat} {a b : Cav} {Q : Ex → PS → Prop} (ha : a.wf) (hb : b.wf)
    (e6 : T 6 = ptr k1 0) (e7 : T 7 = ptr k2 0) (h1 : H k1 = some a.cells) (h2 : H k2 = some b.cells)
    (hK : ∀ t' n', t' 0 = T 0 → t' 1 = T 1 → t' 5 = T 5 → nx ≤ n' → (sameC a b = true → Q .nrm ⟨t', H, n'⟩) ∧ (sameC a b = false → t' 4 = .bool false → Q .rt ⟨t', H, n'⟩)) :
    wpc (PCalls P) P (fun _ => False) n0 (ref10_SameC_j1 sb) Q ⟨T, H, nx⟩ := by
  have fin : ∀ (t' : Nat → Value) (n' : Nat) (v : Bool), t' 0 = T 0 → t' 1 = T 1 → t' 5 = T 5 → nx ≤ n' → v = sameC a b → (v = true → Q .nrm ⟨t', H, n'⟩) ∧ (v = false → t' 4 = .bool false → Q .rt ⟨t', H, n'⟩) :=
    fun t' n' v a1 a2 a3 a4 a5 => a5 ▸ hK t' n' a1 a2 a3 a4
  cases g1 : (a.third == b.third) with
  | false =>
    have hs : false = sameC a b := by simp [sameC, g1]
    simp [ref10_SameC_j1, e6, e7, h1, h2, g1]
    exact (fin _ _ false (by simp) (by simp) (by simp) (by simp) hs).2 rfl (by simp)
  | true =>
    cases g2 : eqL a.p.cells b.p.cells with
    | false =>
      have hs : false = sameC a b := by simp [sameC, g2]
      simp [ref10_SameC_j1, e6, e7, h1, h2, g1, g2]
      exact (fin _ _ false (by simp) (by simp) (by simp) (by simp) hs).2 rfl (by simp)
    | true =>
      cases g3 : (a.party == b.party) with
      | false =>
        have hs : false = sameC a b := by simp [sameC, g3]
        have g3' : (a.party != b.party) = true := by simp [bne, g3]
        simp [ref10_SameC_j1, e6, e7, h1, h2, g1, g2, g3']
        exact (fin _ _ false (by simp) (by simp) (by simp) (by simp) hs).2 rfl (by simp)
      | true =>
        have g3' : (a.party != b.party) = false := by simp [bne, g3]
        simp [ref10_SameC_j1, e6, e7, h1, h2, g1, g2, g3']
        refine wCall_eq (Q := fun r => r = .bool (sameB a.tk b.tk)) (hsb _ _ ha.2.1 hb.2.1 _ _) fun r n4 hr hn4 => ?_
        subst hr
        cases g4 : sameB a.tk b.tk with
        | false =>
          have hs : false = sameC a b := by simp [sameC, g4]
          simp
          exact (fin _ _ false (by simp) (by simp) (by simp) (by simpa using hn4) hs).2 rfl (by simp)
        | true =>
          simp [e6, e7, h1, h2]
          refine wCall_eq (Q := fun r => r = .bool (sameB a.bx b.bx)) (hsb _ _ ha.2.2 hb.2.2 _ _) fun r n5 hr hn5 => ?_
          subst hr
          simp at hn4 hn5
          cases g5 : sameB a.bx b.bx with
          | false =>
            have hs : false = sameC a b := by simp [sameC, g5]
            simp
            exact (fin _ _ false (by simp) (by simp) (by simp) (by omega) hs).2 rfl (by simp)
          | true =>
            have hs : true = sameC a b := by simp only [sameC, g1, g2, g3, g4, g5]; rfl
            simp
            exact (fin _ _ true (by simp) (by simp) (by simp) (by omega) hs).1 rfl
theorem rcs_ok {P : Program} {f t sb : Nat} (hc : compFn P f = some (62, ref10_SameC t sb, [.t 4])) (hsb : BEqOK P sb) : CsSameOK P f := by
  intro la lb hwa hwb hla hlb H nx
  refine PCalls_of hc (by simp) fun hw => ?_
  have hmx : (maxLen : Int) = 9223372036854775807 := rfl
  simp [ref10_SameC]
  refine wB_of (fun h => ?_) (fun h => ?_)
  · simp at h
    exact wF_of ⟨by rw [sameCs, sameL_ne (by omega)]; rfl, rfl⟩
  simp at h
  simp [ref10_SameC_j3]
  refine wpc_loop _ _ _ _ _ _ (fun s => ∃ i : Nat, i ≤ la.length ∧ s.t 0 = deep (la.map Cav.v) ∧ s.t 1 = deep (lb.map Cav.v) ∧ s.t 5 = .int .i64 i ∧ nx ≤ s.nx ∧ Own nx H s.H ∧ sameCs la lb = sameCs (la.drop i) (lb.drop i))
    (fun s => match s.t 5 with | .int _ i => (la.length - i).toNat | _ => 0) _ ⟨0, by omega, by simp, by simp, by simp, by simp, by simp, by simp⟩ ?_
  rintro ⟨T, H', nx'⟩ ⟨i, hi1, e0, e1, e5, hnx, hown, hall⟩
  simp only at e0 e1 e5 hnx hown
  simp [e0, e1, e5]
  refine wB_of (fun hlt => ?_) (fun hlt => ?_)
  · simp at hlt
    have hlt' : i < lb.length := by omega
    have he := elem_cav (l := la) (n := (i : Int)) (by omega) (by simpa using hlt)
    have he' := elem_cav (l := lb) (n := (i : Int)) (by omega) (by simpa using hlt')
    simp at he he'
    have hst : sameCs (la.drop i) (lb.drop i) = (sameC la[i] lb[i] && sameCs (la.drop (i + 1)) (lb.drop (i + 1))) := sameL_step hlt hlt'
    have hwA := hwa _ (List.getElem_mem hlt)
    have hwB := hwb _ (List.getElem_mem hlt')
    have k1 : ¬ nx' = nx' + 1 := by omega
    have k2 : ¬ nx' + 1 = nx' := by omega
    simp [ref10_SameC_j2, e0, e1, e5, he, he', hnx, k1, k2, -List.reduceReplicate]
    have hw1 := w64 (x := (i : Int) + 1) (by omega) (by omega)
    repeat' first
      | refine And.intro ?_ ?_
      | (show nx ≤ _; omega)
      | refine rcs_j1 hsb hwA hwB rfl rfl (by simp [k1, k2]) (by simp [k1, k2]) fun t' n' f0 f1 f5 hn' => ⟨fun hs => ?_, fun hs hf => ?_⟩
    all_goals (replace f0 := f0.trans (show _ = T 0 from rfl); replace f1 := f1.trans (show _ = T 1 from rfl); replace f5 := f5.trans (show _ = T 5 from rfl); rw [e0] at f0; rw [e1] at f1; rw [e5] at f5; replace hn' : nx' + 1 + 1 ≤ n' := hn')
    all_goals first
      | (simp [f5, hw1]
         refine kLoop_nrm _ _ _ _ (Sub_refl _ _) ⟨i + 1, by omega, by simp [f0], by simp [f1], by simp, by simp; omega, by simp [hnx, show nx ≤ nx' + 1 by omega, hown], by rw [hall, hst, hs]; rfl⟩ (by simp; omega))
      | (simp [hf]
         refine wF_own hw (by simp [hnx, show nx ≤ nx' + 1 by omega, hown]) ⟨by rw [hall, hst, hs]; rfl, rfl⟩)
  · simp at hlt
    refine wF_own hw (by simpa using hown) ⟨?_, rfl⟩
    rw [drop_all hlt, drop_all (by omega)] at hall
    rw [hall]; rfl
end Go.PE
namespace Go.PE
open Go
def FnB2 (P : Program) (f : FuncId) : Prop := ∀ (a b : Cav), a.wf → b.wf → ∀ (H : Nat → Option (List Value)) (nx : Nat), PCalls P f [a.v, b.v] H nx (fun _ => False) (fun r H' _ => r = .bool (sameC a b) ∧ H' = H)
def EqFOK (P : Program) (f : Nat) : Prop := ∀ (la lb : List Cav) (g : FuncId), okFn P g = true → FnB2 P g → (∀ c ∈ la, c.wf) → (∀ c ∈ lb, c.wf) → la.length ≤ maxLen → lb.length ≤ maxLen → ∀ (H : Nat → Option (List Value)) (nx : Nat),
    PCalls P f [deep (la.map Cav.v), deep (lb.map Cav.v), clo g [] []] H nx (fun _ => False) (fun r H' _ => r = .bool (sameCs la lb) ∧ H' = H)
theorem eqf_ok {P : Program} {f t : Nat} (hc : compFn P f = some (32, slices_EqualFunc_api_Caveat_api_Caveat_api_Caveat_api_CaveatC t, [.t 6])) : EqFOK P f := by
  intro la lb g hfn hf hwa hwb hla hlb H nx
  refine PCalls_of hc (by simp) fun hw => ?_
  have hmx : (maxLen : Int) = 9223372036854775807 := rfl
  simp [slices_EqualFunc_api_Caveat_api_Caveat_api_Caveat_api_CaveatC]
  refine wB_of (fun h => ?_) (fun h => ?_)
  · simp at h
    exact wF_of ⟨by rw [sameCs, sameL_ne (by omega)]; rfl, rfl⟩
  simp at h
  simp [slices_EqualFunc_api_Caveat_api_Caveat_api_Caveat_api_CaveatC_j2]
  refine wpc_loop _ _ _ _ _ _ (fun s => ∃ i : Nat, i ≤ la.length ∧ s.t 1 = deep (lb.map Cav.v) ∧ s.t 2 = clo g [] [] ∧ s.t 15 = deep (la.map Cav.v) ∧ s.t 16 = .int .i64 la.length ∧ s.t 17 = .int .i64 i ∧ nx ≤ s.nx ∧ Own nx H s.H ∧ sameCs la lb = sameCs (la.drop i) (lb.drop i))
    (fun s => match s.t 17 with | .int _ i => (la.length - i).toNat | _ => 0) _ ⟨0, by omega, by simp, by simp, by simp, by simp, by simp, by simp, by simp, by simp⟩ ?_
  rintro ⟨T, H', nx'⟩ ⟨i, hi1, e1, e2, e15, e16, e17, hnx, hown, hall⟩
  simp only at e1 e2 e15 e16 e17 hnx hown
  simp [e16, e17]
  refine wB_of (fun hlt => ?_) (fun hlt => ?_)
  · simp at hlt
    have hlt' : i < lb.length := by omega
    have he := elem_cav (l := la) (n := (i : Int)) (by omega) (by simpa using hlt)
    have he' := elem_cav (l := lb) (n := (i : Int)) (by omega) (by simpa using hlt')
    simp at he he'
    have hst : sameCs (la.drop i) (lb.drop i) = (sameC la[i] lb[i] && sameCs (la.drop (i + 1)) (lb.drop (i + 1))) := sameL_step hlt hlt'
    have hwA := hwa _ (List.getElem_mem hlt)
    have hwB := hwb _ (List.getElem_mem hlt')
    have k1 : ¬ nx' = nx' + 1 := by omega
    have k2 : ¬ nx' + 1 = nx' := by omega
    have hw1 := w64 (x := (i : Int) + 1) (by omega) (by omega)
    simp [slices_EqualFunc_api_Caveat_api_Caveat_api_Caveat_api_CaveatC_j1, e1, e2, e15, e17, he, he', hnx, k1, k2, hfn, show nx ≤ nx' + 1 by omega, Cav.ag, -List.reduceReplicate]
    refine wCall_eq (Q := fun r => r = .bool (sameC la[i] lb[i])) (hf _ _ hwA hwB _ _) fun r n4 hr hn4 => ?_
    subst hr
    simp at hn4
    cases hs : sameC la[i] lb[i] with
    | false =>
      simp
      exact wF_own hw (by simp [hnx, show nx ≤ nx' + 1 by omega, hown]) ⟨by rw [hall, hst, hs]; rfl, rfl⟩
    | true =>
      simp [e17, hw1]
      refine kLoop_nrm _ _ _ _ (Sub_refl _ _) ⟨i + 1, by omega, by simp [e1], by simp [e2], by simp [e15], by simp [e16], by simp, by simp; omega, by simp [hnx, show nx ≤ nx' + 1 by omega, hown], by rw [hall, hst, hs]; rfl⟩ (by simp; omega)
  · simp at hlt
    refine wF_own hw (by simpa using hown) ⟨?_, rfl⟩
    rw [drop_all hlt, drop_all (by omega)] at hall
    rw [hall]; rfl
theorem csame_ok {P : Program} {f eq s1 be : Nat} (hc : compFn P f = some (8, caveat_SameC eq s1, [.t 4])) (heq : EqFOK P eq) (h1 : compFn P s1 = some (38, caveat_Same_1C be, [.t 4])) (hb : BEqOK P be) (hfn : okFn P s1 = true) : CsSameOK P f := by
  intro la lb hwa hwb hla hlb H nx
  refine PCalls_of hc (by simp) fun hw => ?_
  simp [caveat_SameC]
  refine wCall_eq (Q := fun r => r = .bool (sameCs la lb)) (heq la lb s1 hfn (fun a b ha hb' H nx => csame1_ok h1 hb a b ha hb' H nx) hwa hwb hla hlb _ _) fun r n4 hr hn4 => ?_
  subst hr
  simp
  exact wF_own hw (by simp) ⟨rfl, rfl⟩
theorem cut_cav {l : List Cav} {n : Nat} (h : n ≤ l.length) : cutV (l.map Cav.v) 0 n l.length 10 = some (deep ((l.take n).map Cav.v)) := by
  unfold cutV
  rw [if_pos ⟨by omega, h, by simp, fun x hx => by obtain ⟨a, _, rfl⟩ := List.mem_map.1 hx; rfl⟩]
  simp
theorem ev_func (s : PS) (f : FuncId) : s.ev (.func f) = clo f [] [] := _root_.id rfl
theorem sameL_symm {α : Type} {f : α → α → Bool} (h : ∀ a b, f a b = f b a) : ∀ a b : List α, sameL f a b = sameL f b a
  | [], [] => rfl
  | [], _ :: _ => rfl
  | _ :: _, [] => rfl
  | a :: r, b :: q => by unfold sameL; rw [h a b, sameL_symm h r q]
theorem eqL_symm : ∀ a b : List Value, eqL a b = eqL b a
  | [], [] => rfl
  | [], _ :: _ => rfl
  | _ :: _, [] => rfl
  | a :: r, b :: q => by
    have : eqC a b = eqC b a := by
      cases a <;> cases b <;> simp [eqC, Bool.beq_comm]
    rw [eqL_cons, eqL_cons, this, eqL_symm r q]
theorem sameC_symm (a b : Cav) : sameC a b = sameC b a := by
  unfold sameC
  rw [eqL_symm, Bool.beq_comm (a := a.third), Bool.beq_comm (a := a.party), sameB, sameB, sameL_symm (fun _ _ => Bool.beq_comm), sameL_symm (fun _ _ => Bool.beq_comm) a.bx]
  rfl
def begV (c first : List Cav) : Bool := decide (first.length ≤ c.length) && sameCs (c.take first.length) first
def BegOK (P : Program) (f g : Nat) : Prop := ∀ (c first : List Cav), (∀ x ∈ c, x.wf) → (∀ x ∈ first, x.wf) → c.length ≤ maxLen → first.length ≤ maxLen → ∀ (H : Nat → Option (List Value)) (nx : Nat),
    PCalls P f [ag [clo g [] []], deep (c.map Cav.v), deep (first.map Cav.v)] H nx (fun _ => False) (fun r H' _ => r = .bool (begV c first) ∧ H' = H)
theorem beg_ok {P : Program} {f g : Nat} (hc : compFn P f = some (22, registry_order_beginsC, [.t 6])) (hfn : okFn P g = true) (hg : CsSameOK P g) : BegOK P f g := by
  intro c first hwc hwf hcl hfl' H nx
  refine PCalls_of hc (by simp) fun hw => ?_
  have hmx : (maxLen : Int) = 9223372036854775807 := rfl
  by_cases h : first.length ≤ c.length
  · have hcut := cut_cav (l := c) (n := first.length) h
    have hfl : (c.take first.length).length ≤ maxLen := by rw [List.length_take]; omega
    have hfl2 := hfl'
    generalize hf' : c.take first.length = front at hcut hfl
    simp [registry_order_beginsC, h, hfn, hcut]
    refine wCall_eq (Q := fun r => r = .bool (sameCs front first)) (hg front first (fun x hx => hwc x (List.mem_of_mem_take (hf' ▸ hx))) hwf hfl hfl' _ _) fun r n4 hr hn4 => ?_
    subst hr
    simp
    exact wF_own hw (by simp) ⟨by simp [begV, h, hf'], rfl⟩
  · simp [registry_order_beginsC, h]
    exact wF_own hw (by simp) ⟨by simp [begV, h], rfl⟩
def extV (l : List Mnt) (ep s : Int) (c : List Cav) : Bool := fb l s && decide ((fm l s).ep = ep) && begV c (fm l s).cs
theorem fm_mem {l : List Mnt} {s : Int} (h : fb l s = true) : fm l s ∈ l := by
  unfold fb at h
  obtain ⟨m, hm⟩ := Option.isSome_iff_exists.1 h
  rw [fm, hm]; exact List.mem_of_find?_eq_some hm
def ExtOK (P : Program) (f : Nat) (fi : Prop → Prop) : Prop := ∀ (l : List Mnt) (ep s : Int) (c : List Cav), (∀ m ∈ l, m.wf) → fi (∀ m ∈ l, m.fin) → l.length ≤ 1000000 → (∀ x ∈ c, x.wf) → c.length ≤ maxLen → ∀ (H : Nat → Option (List Value)) (nx : Nat),
    PCalls P f [deep (l.map Mnt.v), .int .i64 ep, .int .i64 s, deep (c.map Cav.v)] H nx (fun _ => False) (fun r H' _ => r = .bool (extV l ep s c) ∧ H' = H)
theorem ext_ok {P : Program} {f fi t sm bg : Nat} (hc : compFn P f = some (31, registry_ExtendsC fi t sm bg, [.t 8])) (hfi : FindROK P fi) (hbg : BegOK P bg sm) (hfn : okFn P sm = true) : ExtOK P f id := by
  intro l ep s c hwl hfin hlen hwc hcl H nx
  refine PCalls_of hc (by simp) fun hw => ?_
  simp [registry_ExtendsC]
  refine wCall_eq (Q := fun r => r = tup [(fm l s).v, .bool (fb l s)]) (hfi l s hfin hlen _ _) fun r n4 hr hn4 => ?_
  subst hr
  simp at hn4
  cases h1 : fb l s with
  | false =>
    simp [hn4]
    exact wF_own hw (by simp [hn4]) ⟨by simp [extV, h1], rfl⟩
  | true =>
    have hm := hwl _ (fm_mem h1)
    generalize hmm : fm l s = m at hm
    by_cases h2 : m.ep = ep
    case neg =>
      have hb : (m.ep == ep) = false := by simpa using h2
      simp [hn4, hb]
      exact wF_own hw (by simp [hn4]) ⟨by simp [extV, hmm, h2], rfl⟩
    simp [hn4, h2, ev_func, cellsOf_clo]
    refine wCall_eq (Q := fun r => r = .bool (begV c m.cs)) (hbg c m.cs hwc hm.1 hcl hm.2 _ _) fun r n5 hr hn5 => ?_
    subst hr
    simp
    exact wF_own hw (by simp [hn4]) ⟨by simp [extV, h1, hmm, h2], rfl⟩
theorem rext_ok {P : Program} {f fi t sm : Nat} (hc : compFn P f = some (42, ref21_ExtendsC fi t sm, [.t 8])) (hfi : RFindOK P fi) (hsm : CsSameOK P sm) : ExtOK P f (fun _ => True) := by
  intro l ep s c hwl _ hlen hwc hcl H nx
  refine PCalls_of hc (by simp) fun hw => ?_
  have hmx : (maxLen : Int) = 9223372036854775807 := rfl
  simp [ref21_ExtendsC]
  refine wCall_eq (Q := fun r => r = tup [(fm l s).v, .bool (fb l s)]) (hfi l s (by omega) _ _) fun r n4 hr hn4 => ?_
  subst hr
  simp at hn4
  cases h1 : fb l s with
  | false =>
    simp [hn4]
    exact wF_own hw (by simp [hn4]) ⟨by simp [extV, h1], rfl⟩
  | true =>
    have hm := hwl _ (fm_mem h1)
    generalize hmm : fm l s = m at hm
    by_cases h2 : m.ep = ep
    case neg =>
      have hb : (m.ep == ep) = false := by simpa using h2
      simp [hn4, hb]
      exact wF_own hw (by simp [hn4]) ⟨by simp [extV, hmm, h2], rfl⟩
    by_cases h3 : m.cs.length ≤ c.length
    case neg =>
      simp [hn4, h2, h3]
      exact wF_own hw (by simp [hn4]) ⟨by simp [extV, hmm, h2, begV, h3], rfl⟩
    have hcut := cut_cav (l := c) (n := m.cs.length) h3
    have hfl : (c.take m.cs.length).length = m.cs.length := by rw [List.length_take]; omega
    generalize hf' : c.take m.cs.length = front at hcut hfl
    simp [hn4, h2, h3, hcut]
    refine wqCall_of (hsm m.cs front hm.1 (fun x hx => hwc x (List.mem_of_mem_take (hf' ▸ hx))) hm.2 (by have := hm.2; omega) _ _) rfl (fun _ _ _ h => h.1) ?_
    simp
    exact wF_own hw (by simp [hn4]) ⟨by simp [extV, h1, hmm, h2, begV, h3, hf', sameCs, sameL_symm sameC_symm m.cs], rfl⟩
end Go.PE
namespace Go.PE
open Go
def sameM (a b : Mnt) : Bool := (a.ser == b.ser) && (a.ep == b.ep) && sameCs a.cs b.cs
theorem sameM_refl (a : Mnt) : sameM a a = true := by
  simp [sameM, sameCs, sameL_refl sameC_refl]
def sameMs (a b : List Mnt) : Bool := sameL sameM a b
theorem sameMs_refl (a : List Mnt) : sameMs a a = true := sameL_refl sameM_refl a
def SmOK (P : Program) (f : Nat) : Prop := ∀ (a b : Mnt), a.wf → b.wf → ∀ (H : Nat → Option (List Value)) (nx : Nat), PCalls P f [a.v, b.v] H nx (fun _ => False) (fun r H' _ => r = .bool (sameM a b) ∧ H' = H)
theorem sm_ok {P : Program} {f cs : Nat} (hc : compFn P f = some (24, ref18_SameMintC cs, [.t 4])) (hcs : CsSameOK P cs) : SmOK P f := by
  intro a b ha hb H nx
  refine PCalls_of hc (by simp) fun hw => ?_
  cases h1 : (a.ser == b.ser) with
  | false =>
    simp [ref18_SameMintC, h1]
    exact wF_own hw (by simp) ⟨by simp [sameM, h1], rfl⟩
  | true =>
    cases h2 : (a.ep == b.ep) with
    | false =>
      simp [ref18_SameMintC, h1, h2]
      exact wF_own hw (by simp) ⟨by simp [sameM, h2], rfl⟩
    | true =>
      simp [ref18_SameMintC, h1, h2]
      refine wCall_eq (Q := fun r => r = .bool (sameCs a.cs b.cs)) (hcs _ _ ha.1 hb.1 ha.2 hb.2 _ _) fun r n4 hr hn4 => ?_
      subst hr
      simp
      exact wF_own hw (by simp) ⟨by simp [sameM, h1, h2], rfl⟩
def SmsOK (P : Program) (f : Nat) : Prop := ∀ (la lb : List Mnt), (∀ c ∈ la, c.wf) → (∀ c ∈ lb, c.wf) → la.length ≤ maxLen → lb.length ≤ maxLen → ∀ (H : Nat → Option (List Value)) (nx : Nat),
    PCalls P f [deep (la.map Mnt.v), deep (lb.map Mnt.v)] H nx (fun _ => False) (fun r H' _ => r = .bool (sameMs la lb) ∧ H' = H)
theorem sms_ok {P : Program} {f sm : Nat} (hc : compFn P f = some (27, ref21_SameMintsC sm, [.t 4])) (hsm : SmOK P sm) : SmsOK P f := by
  intro la lb hwa hwb hla hlb H nx
  refine PCalls_of hc (by simp) fun hw => ?_
  have hmx : (maxLen : Int) = 9223372036854775807 := rfl
  simp [ref21_SameMintsC]
  refine wB_of (fun h => ?_) (fun h => ?_)
  · simp at h
    exact wF_of ⟨by rw [sameMs, sameL_ne (by omega)]; rfl, rfl⟩
  simp at h
  simp [ref21_SameMintsC_j2]
  refine wpc_loop _ _ _ _ _ _ (fun s => ∃ i : Nat, i ≤ la.length ∧ s.t 0 = deep (la.map Mnt.v) ∧ s.t 1 = deep (lb.map Mnt.v) ∧ s.t 5 = .int .i64 i ∧ s.H = H ∧ sameMs la lb = sameMs (la.drop i) (lb.drop i))
    (fun s => match s.t 5 with | .int _ i => (la.length - i).toNat | _ => 0) _ ⟨0, by omega, by simp, by simp, by simp, rfl, by simp⟩ ?_
  rintro ⟨T, H', nx'⟩ ⟨i, hi1, e0, e1, e5, rfl, hall⟩
  simp only at e0 e1 e5
  simp [e0, e1, e5]
  refine wB_of (fun hlt => ?_) (fun hlt => ?_)
  · simp at hlt
    have hlt' : i < lb.length := by omega
    have he := elem_mnt (l := la) (n := (i : Int)) (by omega) (by simpa using hlt)
    have he' := elem_mnt (l := lb) (n := (i : Int)) (by omega) (by simpa using hlt')
    simp at he he'
    have hst : sameMs (la.drop i) (lb.drop i) = (sameM la[i] lb[i] && sameMs (la.drop (i + 1)) (lb.drop (i + 1))) := sameL_step hlt hlt'
    have hw1 := w64 (x := (i : Int) + 1) (by omega) (by omega)
    simp [ref21_SameMintsC_j1, e0, e1, e5, he, he', Mnt.ag, -List.reduceReplicate]
    refine wqCall_of (hsm _ _ (hwa _ (List.getElem_mem hlt)) (hwb _ (List.getElem_mem hlt')) _ _) rfl (fun _ _ _ h => h.1) ?_
    cases hs : sameM la[i] lb[i] with
    | false =>
      simp
      exact wF_own hw (by simp) ⟨by rw [hall, hst, hs]; rfl, rfl⟩
    | true =>
      simp [e5, hw1]
      refine kLoop_nrm _ _ _ _ (Sub_refl _ _) ⟨i + 1, by omega, by simp [e0], by simp [e1], by simp, rfl, by rw [hall, hst, hs]; rfl⟩ (by simp; omega)
  · simp at hlt
    refine wF_own hw (by simp) ⟨?_, rfl⟩
    rw [drop_all hlt, drop_all (by omega)] at hall
    rw [hall]; rfl
def rideC (n : Int) : Cav := ⟨false, ⟨7, 0, 0, 0, ⟨#[]⟩, n⟩, 0, [], []⟩
theorem rideC_wf (n : Int) : (rideC n).wf := by
  refine ⟨⟨?_, ?_⟩, ⟨?_, ?_⟩, ⟨?_, ?_⟩⟩ <;> simp [rideC, Pred.wf, maxLen]
def Rd22OK (P : Program) (f : Nat) : Prop := ∀ (n : Int) (H : Nat → Option (List Value)) (nx : Nat), PCalls P f [.int .i64 n] H nx (fun _ => False) (fun r H' _ => r = (rideC n).v ∧ H' = H)
theorem rd22_ok {P : Program} {f t : Nat} (hc : compFn P f = some (6, law22_ridesC t, [.cA 2 10])) : Rd22OK P f := by
  intro n H nx
  refine PCalls_of hc (by simp) fun hw => ?_
  simp [law22_ridesC]
  exact wF_own hw (by simp) ⟨rfl, rfl⟩
def fewV (l : List Mnt) : Bool := l.all (fun m => decide (m.cs.length ≤ 70)) && decide (l.length ≤ 40)
def FewOK (P : Program) (f : Nat) : Prop := ∀ (l : List Mnt), l.length ≤ maxLen → ∀ (H : Nat → Option (List Value)) (nx : Nat), PCalls P f [deep (l.map Mnt.v)] H nx (fun _ => False) (fun r H' _ => r = .bool (fewV l) ∧ H' = H)
theorem few_ok {P : Program} {f : Nat} (hc : compFn P f = some (20, law22_fewC, [.t 2])) : FewOK P f := by
  intro l hlen H nx
  refine PCalls_of hc (by simp) fun hw => ?_
  have hmx : (maxLen : Int) = 9223372036854775807 := rfl
  simp [law22_fewC]
  refine wpc_loop _ _ _ _ _ _ (fun s => ∃ i : Nat, i ≤ l.length ∧ s.t 0 = deep (l.map Mnt.v) ∧ s.t 3 = .int .i64 i ∧ s.H = H ∧ l.all (fun m => decide (m.cs.length ≤ 70)) = (l.drop i).all (fun m => decide (m.cs.length ≤ 70)))
    (fun s => match s.t 3 with | .int _ i => (l.length - i).toNat | _ => 0) _ ⟨0, by omega, by simp, by simp, rfl, by simp⟩ ?_
  rintro ⟨T, H', nx'⟩ ⟨i, hi, e0, e3, rfl, hall⟩
  simp only at e0 e3
  simp [e0, e3]
  refine wB_of (fun hlt => ?_) (fun hlt => ?_)
  · simp at hlt
    have he := elem_mnt (l := l) (n := (i : Int)) (by omega) (by simpa using hlt)
    simp at he
    rw [List.drop_eq_getElem_cons hlt, List.all_cons] at hall
    have hw1 := w64 (x := (i : Int) + 1) (by omega) (by omega)
    by_cases h1 : l[i].cs.length ≤ 70
    · simp [law22_fewC_j1, e0, e3, he, hw1, show ¬ (70 : Int) < l[i].cs.length by omega]
      refine kLoop_nrm _ _ _ _ (Sub_refl _ _) ⟨i + 1, by omega, by simp [e0], by simp, rfl, by rw [hall]; simp [h1]⟩ (by simp; omega)
    · simp [law22_fewC_j1, e0, e3, he, show (70 : Int) < l[i].cs.length by omega]
      exact wF_own hw (by simp) ⟨by rw [fewV, hall]; simp [h1], rfl⟩
  · simp at hlt
    have : i = l.length := by omega
    subst this
    rw [List.drop_length] at hall
    exact wF_own hw (by simp) ⟨by rw [fewV, hall]; simp; omega, rfl⟩
end Go.PE
namespace Go.PE
open Go
theorem wF_drawn {ps : List Value} {nx nx' k : Nat} {l : List Int} {at' : Int} {Q : Value → Prop} {H H' : Nat → Option (List Value)} (hw : ∀ k, nx ≤ k → H k = none) (hkn : k < nx) (ha : 0 ≤ at')
    (h : ∀ j, j < nx → H' j = upd H k (some (dk l at')) j) (hQ : Q (oneOr ps)) : wF (some ps) nx (fun p H' _ => Q p ∧ Drew H k l H') H' nx' :=
  wF_sub (H1 := upd H k (some (dk l at'))) (fun j => by
    rcases Nat.lt_or_ge j nx with hj | hj
    · exact .inl (h j hj).symm
    · exact .inr ⟨hj, by rw [upd_ne _ _ (by omega)]; exact hw j hj⟩) ⟨hQ, at', ha, rfl⟩
theorem wApp_any {c0 : Value} {xs ys : List Value} {e size bytes t : Nat} {d : Option Nat} {s : PS} {K : PS → Prop} (h : c0 = ns [] ∧ xs = [] ∨ c0 = lin e xs) (h1 : ∀ y ∈ xs, (lc y).length = size) (h2 : ∀ y ∈ ys, (lc y).length = size) (h3 : xs.length + ys.length ≤ maxLen)
    (h4 : (xs.length + ys.length) * bytes ≤ 140737488355328) (hK : K ((s.put t (deep xs)).putO d (lin e (xs ++ ys)))) : wApp c0 (some ys) e size bytes t d s K :=
  ⟨xs, ys, h.elim (fun h => .inr ⟨h.2, h.1⟩) .inl, rfl, h1, h2, h3, h4, hK⟩
/-- a cell that holds a list to which one may append -/
def NilLin (e : Nat) (c0 : Value) (xs : List Value) : Prop := c0 = ns [] ∧ xs = [] ∨ c0 = lin e xs
theorem NilLin.dg {e : Nat} {c0 : Value} {xs : List Value} (h : NilLin e c0 xs) : dg1 c0 = deep xs := by rcases h with ⟨rfl, rfl⟩ | rfl <;> rfl
def rideM (s e : Int) (ns : List Int) : Mnt := ⟨s, e, ns.map rideC⟩
def MadeM (l : List Mnt) : Prop := l.length ≤ 4 ∧ ∀ (i : Nat) (m : Mnt), l[i]? = some m → m.ser = i + 1 ∧ m.cs.length ≤ 3 ∧ ∃ ns : List Int, m.cs = ns.map rideC
def isMade (e : Nat) (v : Value) : Prop := ∃ l : List Mnt, v = lin e (l.map Mnt.v) ∧ MadeM l
theorem rides_wf (ns : List Int) : ∀ c ∈ ns.map rideC, c.wf ∧ c.fin := fun c hc => by
  obtain ⟨n, _, rfl⟩ := List.mem_map.1 hc
  exact ⟨rideC_wf n, by simp [rideC, Cav.fin]⟩
theorem MadeM.wf {l : List Mnt} (h : MadeM l) : ∀ m ∈ l, m.wf ∧ m.fin := fun m hm => by
  obtain ⟨i, hi⟩ := List.mem_iff_getElem?.1 hm
  obtain ⟨_, h1, ns, h2⟩ := h.2 i m hi
  have := rides_wf ns
  rw [← h2] at this
  have hmx : (maxLen : Int) = 9223372036854775807 := rfl
  exact ⟨⟨fun c hc => (this c hc).1, by omega⟩, by omega, fun c hc => (this c hc).2⟩
theorem MadeM.snoc {l : List Mnt} {m : Mnt} (h : MadeM l) (h1 : m.ser = l.length + 1 := by rfl) (h2 : m.cs.length ≤ 3) (h3 : ∃ ns : List Int, m.cs = ns.map rideC) (h4 : l.length < 4) : MadeM (l ++ [m]) := by
  refine ⟨by simp; omega, fun i x hi => ?_⟩
  rcases Nat.lt_trichotomy i l.length with hlt | heq | hgt
  · rw [List.getElem?_append_left hlt] at hi; exact h.2 i x hi
  · subst heq
    simp at hi; subst hi
    exact ⟨h1, h2, h3⟩
  · rw [List.getElem?_eq_none (by simp; omega)] at hi; cases hi
theorem made_w {P : Program} {f e nx_ rg tc rd : Nat} (hc : compFnX P [1000000] f = some (38, law22_made_BC e nx_ rg tc rd, [.t 2])) (hn : NextW P nx_) (hrg : ∀ lo hi : Int, 0 ≤ lo → lo ≤ hi → hi < 4611686018427387904 → Draws P rg [.int .i64 lo, .int .i64 hi] (isI lo hi))
    (hrd : Rd22OK P rd) : Draws P f [] (isMade e) := by
  intro k l at_ ha hl H nx hk
  refine PCalls_ofX hc (by simp) fun hw => ?_
  have hmx : (maxLen : Int) = 9223372036854775807 := rfl
  have hkn : k < nx := by
    rcases Nat.lt_or_ge k nx with h | h
    · exact h
    · have := hw k h; rw [hk] at this; cases this
  simp [law22_made_BC]
  refine wCallB_of (wCall_drawL (hn 5 (by omega) (by omega)) ha hl (by simp [hk]) (.inr rfl) fun p1 at1 n1 hp1 ha1 hn1 => ?_)
  obtain ⟨m, rfl, hm0, hm1⟩ := hp1
  simp at hn1
  simp
  refine wpc_loop _ _ _ _ _ _ (fun s => ∃ (ms : List Mnt) (at' : Int), 0 ≤ at' ∧ s.t 0 = ptr k 0 ∧ s.t 3 = lin e (ms.map Mnt.v) ∧ (∃ j : Int, s.t 4 = .int .i64 j ∧ 0 ≤ j ∧ j + ms.length ≤ 4) ∧ s.H k = some (dk l at') ∧ (∀ j, j < nx → j ≠ k → s.H j = H j) ∧ nx ≤ s.nx ∧ MadeM ms)
    (fun s => match s.t 4 with | .int _ i => i.toNat | _ => 0) _ ⟨[], at1, ha1, by simp, by simp, ⟨m, by simp, by omega, by simp; omega⟩, by simp, fun j _ hj => by simp [hj], by simpa using hn1, by simp, by simp⟩ ?_
  rintro ⟨t, H', nx'⟩ ⟨ms, at', ha', e0, e3, ⟨j, e4, hj0, hj1⟩, hHk, hoth, hnx, hms⟩
  simp only at e0 e3 e4 hHk hoth hnx
  simp [e0, e3, e4]
  refine wB_of (fun hlt => ?_) (fun hlt => ?_)
  · simp at hlt
    have k1 : ¬ k = nx' := by omega
    simp [law22_made_BC_j2, e0, e3, e4]
    refine wCallB_of (wCall_drawL (hrg 1 3 (by omega) (by omega) (by omega)) (l := l) (at_ := at') ha' hl (by simp [hHk]) (.inr rfl) fun p2 at2 n2 hp2 ha2 hn2 => ?_)
    obtain ⟨ep, rfl, hep0, hep1⟩ := hp2
    simp at hn2
    have k2 : ¬ k = n2 := by omega
    have k3 : ¬ n2 = k := by omega
    simp [e0, k2, k3, show nx ≤ n2 by omega]
    refine wCallB_of (wCall_drawL (hn 4 (by omega) (by omega)) (l := l) (at_ := at2) ha2 hl (by simp [k2]) (.inr rfl) fun p3 at3 n3 hp3 ha3 hn3 => ?_)
    obtain ⟨q, rfl, hq0, hq1⟩ := hp3
    simp at hn3
    simp
    rw [w64 (x := (ms.length : Int) + 1) (by omega) (by omega)]
    refine wpc_loop _ _ _ _ _ _ (fun s => ∃ (cs : List Int) (at4 : Int), 0 ≤ at4 ∧ s.t 0 = ptr k 0 ∧ s.t 3 = lin e (ms.map Mnt.v) ∧ s.t 4 = .int .i64 j ∧ s.t 5 = ptr n2 0 ∧ (∃ i : Int, s.t 6 = .int .i64 i ∧ 0 ≤ i ∧ i + cs.length ≤ 3) ∧
        (∃ c0, NilLin tc c0 ((cs.map rideC).map Cav.v) ∧ s.H n2 = some [.int .i64 ((ms.length : Int) + 1), .int .i64 ep, c0]) ∧ s.H k = some (dk l at4) ∧ (∀ j, j < nx → j ≠ k → s.H j = H j) ∧ n3 ≤ s.nx)
      (fun s => match s.t 6 with | .int _ i => i.toNat | _ => 0) _ ⟨[], at3, ha3, by simp [e0], by simp [e3], by simp [e4], by simp, ⟨q, by simp, by omega, by simp; omega⟩, ⟨ns [], .inl ⟨rfl, rfl⟩, by simp [k3]⟩, by simp, fun j' h1 h2 => by simp [h2, show ¬ j' = n2 by omega, hoth j' h1 h2], by simp⟩ ?_
    rintro ⟨t5, H5, n5⟩ ⟨cs, at4, ha4, f0, f3, f4, f5, ⟨i, f6, hi0, hi1⟩, ⟨c0, hc0, hH2⟩, hHk5, hoth5, hn5⟩
    simp only at f0 f3 f4 f5 f6 hH2 hHk5 hoth5 hn5
    have n2n5 : ¬ n2 = n5 := by omega
    have rowe : (List.map Cav.v (List.map rideC cs)) = (cs.map fun n => (rideC n).v) := by simp
    simp [f6]
    refine wB_of (fun hlt2 => ?_) (fun hlt2 => ?_)
    · simp at hlt2
      have hj3 := w64 (x := i - 1) (by omega) (by omega)
      have hdg : dg1 c0 = deep ((cs.map rideC).map Cav.v) := hc0.dg
      have hc1 := hc0
      generalize hrow : (cs.map rideC).map Cav.v = xs at hdg hc1
      have hxl : xs.length = cs.length := by rw [← hrow]; simp
      have hxc : ∀ y ∈ xs, (lc y).length = 10 := fun y hy => by
        rw [← hrow] at hy
        obtain ⟨c, _, rfl⟩ := List.mem_map.1 hy
        rfl
      simp [law22_made_BC_j1, f0, f5, f6, hH2, k2, k3, show nx ≤ n2 by omega]
      repeat' first
        | refine And.intro ?_ ?_
        | (refine wLdT_ptr (row := [.int .i64 ((ms.length : Int) + 1), .int .i64 ep, c0]) (c := c0) (by simp [hH2, k2, k3]) rfl (.inr (by omega)) ?_; simp [f0, f5, f6, hH2, hdg, k2, k3, show nx ≤ n2 by omega])
        | (refine wCallB_of (wCall_drawL (hn 3 (by omega) (by omega)) (l := l) (at_ := at4) ha4 hl (by simp [k2, hHk5]) (.inr rfl) fun p6 at6 n6 hp6 ha6 hn6 => ?_)
           obtain ⟨z, rfl, hz0, hz1⟩ := hp6
           simp at hn6
           simp [f0, f5, f6, hH2, hdg, k2, k3, show nx ≤ n2 by omega])
        | (refine wCallB_of (wCall_le (hrd _ _ _) fun r H7 n7 hr hn7 _ => ?_)
           obtain ⟨rfl, rfl⟩ := hr
           simp at hn7
           simp [f0, f5, f6, hH2, hdg, k2, k3, show nx ≤ n2 by omega, maxLen])
        | (refine wApp_any hc1 hxc (by simp) (by simp; omega) (by simp; omega) ?_; simp [f0, f5, f6, hH2, hdg, k2, k3, show nx ≤ n2 by omega])
      all_goals
        refine sts_of (e := tc) (xs := xs ++ [(rideC z).v]) (k := n2) (off := 2) (row := [.int .i64 ((ms.length : Int) + 1), .int .i64 ep, deep xs]) (by simp) (by simp [k2, k3]) (by simp) (.inr (by omega)) (by simp) ?_
        simp [f6, hj3]
        refine kLoop_nrm _ _ _ _ (Sub_refl _ _) ⟨cs ++ [z], at6, ha6, by simp [f0], by simp [f3], by simp [f4], by simp [f5], ⟨i - 1, by simp, by omega, by simp; omega⟩, ⟨lin tc (xs ++ [(rideC z).v]), .inr (by rw [← hrow]; simp), by simp [k2, k3]⟩, by simp [k2, k3], fun j' h1 h2 => ?_, by simp; omega⟩ (by simp; omega)
        simp [h2, show ¬ j' = n2 by omega, hoth5 j' h1 h2]
    · simp at hlt2
      have hdg : dg1 c0 = deep ((cs.map rideC).map Cav.v) := hc0.dg
      simp [f3, f4, f5, hH2, hdg]
      refine ⟨by omega, by omega, ?_⟩
      rw [w64 (x := j - 1) (by omega) (by omega)]
      refine kLoop_nrm _ _ _ _ (Sub_refl _ _) ⟨ms ++ [rideM ((ms.length : Int) + 1) ep cs], at4, ha4, by simp [f0], by simp [rideM, Mnt.v, Mnt.cells], ⟨j - 1, by simp, by omega, by simp; omega⟩, by simp [hHk5], fun j' h1 h2 => by simp [hoth5 j' h1 h2], by simp; omega, hms.snoc (by simp [rideM]) (by simp [rideM]; omega) ⟨cs, rfl⟩ (by omega)⟩ (by simp; omega)
  · simp at hlt
    refine wF_drawn hw hkn ha' (fun j hj => ?_) ⟨ms, rfl, hms⟩
    by_cases hjk : j = k
    · simp [hjk, hHk]
    · simp [hjk, hoth j hj hjk]
end Go.PE
namespace Go.PE
open Go
theorem ride_ok1 (n : Int) (h1 : 1 ≤ n) (h2 : n ≤ 3) : cavOK (rideC n) = true := by
  have : n = 1 ∨ n = 2 ∨ n = 3 := by omega
  rcases this with rfl | rfl | rfl <;> decide
def awM : Mnt := ⟨1, 1, [rideC 1, rideC 2]⟩
theorem awM_wf : awM.wf := ⟨fun c hc => by simp [awM] at hc; rcases hc with rfl | rfl <;> exact rideC_wf _, by decide⟩
theorem aw_add : addE [] awM = 0 ∧ addM [] awM = [awM] := by
  have h : addE [] awM = 0 := by decide
  exact ⟨h, by rw [addM, if_pos h]; rfl⟩
theorem aw_ext1 : extV [awM] 1 1 [rideC 1, rideC 2, rideC 3] = true := by decide
theorem aw_ext2 : extV [awM] 1 1 [rideC 1] = false := by decide
theorem aw_fin : ∀ m ∈ [awM], m.wf ∧ m.fin := fun m hm => by
  simp at hm; subst hm
  exact ⟨awM_wf, by simp [awM], fun c hc => by simp [awM] at hc; rcases hc with rfl | rfl <;> simp [rideC, Cav.fin]⟩
def Aw22OK (P : Program) (f g : Nat) : Prop := ∀ (H : Nat → Option (List Value)) (nx : Nat), H g = some bitsRow → g < nx → PCalls P f [] H nx (fun _ => False) (fun r H' _ => r = .bool true ∧ H' = H)
theorem aw22_ok {P : Program} {f g rd t ad ex : Nat} (hc : compFn P f = some (28, law22_awakeC rd t ad ex, [.t 0])) (hrd : Rd22OK P rd) (had : AddMOK P ad g) (hex : ExtOK P ex id) : Aw22OK P f g := by
  intro H nx hg hgn
  refine PCalls_of hc (by simp) fun hw => ?_
  have hmx : (maxLen : Int) = 9223372036854775807 := rfl
  have hr : ∀ {n : Int} {d : Option Nat} {s : PS} {K : PS → Prop}, (∀ n', s.nx ≤ n' → K ⟨(s.putO d (rideC n).v).t, s.H, n'⟩) → wCall (PCalls P) (fun _ => False) nx rd [.int .i64 n] d s K :=
    fun {n d s K} hK => wCall_eq (Q := fun r => r = (rideC n).v) (hrd n s.H s.nx) fun r n' hr hn' => by subst hr; exact hK n' hn'
  simp [law22_awakeC]
  refine hr fun n1 hn1 => ?_
  simp at hn1
  simp
  refine hr fun n2 hn2 => ?_
  simp at hn2
  simp
  refine wCall_eq (Q := fun r => addMR [] awM r) (had [] awM (by simp) awM_wf (by simp) _ _ hg (by show g < n2; omega)) fun r n3 hr3 hn3 => ?_
  obtain ⟨v, hv, rfl⟩ := hr3
  rw [aw_add.1, aw_add.2] at *
  simp at hn3
  rcases hv with ⟨_, hv⟩ | rfl
  · cases hv
  simp
  refine hr fun n4 hn4 => ?_
  simp at hn4
  simp
  refine hr fun n5 hn5 => ?_
  simp at hn5
  simp
  refine hr fun n6 hn6 => ?_
  simp at hn6
  simp
  refine wCall_eq (Q := fun r => r = .bool true) ((hex [awM] 1 1 [rideC 1, rideC 2, rideC 3] (fun m hm => (aw_fin m hm).1) (fun m hm => (aw_fin m hm).2) (by simp) (by simp [rideC_wf]) (by simp [maxLen]) _ _).mono fun p _ _ hp => ⟨by rw [hp.1, aw_ext1], hp.2⟩) fun r n7 hr7 hn7 => ?_
  subst hr7
  simp at hn7
  simp
  refine hr fun n8 hn8 => ?_
  simp at hn8
  simp
  refine wCall_eq (Q := fun r => r = .bool false) ((hex [awM] 1 1 [rideC 1] (fun m hm => (aw_fin m hm).1) (fun m hm => (aw_fin m hm).2) (by simp) (by simp [rideC_wf]) (by simp [maxLen]) _ _).mono fun p _ _ hp => ⟨by rw [hp.1, aw_ext2], hp.2⟩) fun r n9 hr9 hn9 => ?_
  subst hr9
  simp
  exact wF_own hw (by simp) ⟨rfl, rfl⟩
end Go.PE
namespace Go.PE
open Go
def Kp (l : List Nat) (t' t : Nat → Value) : Prop := ∀ j ∈ l, t' j = t j
def slA : List Nat := [3, 6, 11, 12, 13, 14, 17, 66, 67, 68, 91, 92]
theorem addM_wf {l : List Mnt} {m : Mnt} (hl : ∀ m ∈ l, m.wf) (hm : m.wf) : ∀ x ∈ addM l m, x.wf := fun x hx => by
  unfold addM at hx
  split at hx
  · rcases List.mem_append.1 hx with hx | hx
    · exact hl x hx
    · simp at hx; subst hx; exact hm
  · simp at hx
theorem addM_len (l : List Mnt) (m : Mnt) : (addM l m).length ≤ l.length + 1 := by
  unfold addM; split <;> simp
theorem steps_j2 {P : Program} {tC ad am sm g n0 : Nat} (had : AddMOK P ad g) (ham : RAddMOK P am) (hsm : SmsOK P sm) {T : Nat → Value} {H : Nat → Option (List Value)} {nx i : Nat} {y : List Mnt} {xs cs : List Value} {z : Mnt} {Q : Ex → PS → Prop}
    (hn0 : n0 ≤ nx) (hg : H g = some bitsRow) (hgn : g < nx) (hy : ∀ m ∈ y, m.wf) (hzw : z.wf) (hyl : y.length ≤ 1000) (hi : i < 1000)
    (e17 : T 17 = deep (y.map Mnt.v)) (e91 : T 91 = deep xs) (e93 : T 93 = .int .i64 i) (he : elemAt xs (i : Int) 3 = some (dptr 0 cs)) (hcs : cs.map dg1 = z.cells) (hcl : cs.length = 3)
    (hK : ∀ t' H' n', Kp slA t' T → t' 93 = .int .i64 ((i : Int) + 1) → Own nx H H' → nx ≤ n' → Q .nrm ⟨t', H', n'⟩) :
    wpc (PCalls P) P (fun _ => False) n0 (law22_RegistrySteps_BC_j2 tC ad am sm) Q ⟨T, H, nx⟩ := by
  have hmx : (maxLen : Int) = 9223372036854775807 := rfl
  have hw1 := w64 (x := (i : Int) + 1) (by omega) (by omega)
  have htk : List.take 3 cs = cs := List.take_of_length_le (by omega)
  have g1 : ¬ g = nx := by omega
  simp [law22_RegistrySteps_BC_j2, e17, e91, e93, he, htk, hcs, hcl, hn0, Mnt.ag]
  refine wCallB_of (wCall_eq (Q := fun r => addMR y z r) (had y z hy hzw hyl _ _ (by simp [g1, hg]) (by simp; omega)) fun r n3 hr3 hn3 => ?_)
  obtain ⟨v, hv, rfl⟩ := hr3
  simp at hn3
  have hal := addM_len y z
  have haw := addM_wf hy hzw
  rcases hv with ⟨rfl, hv0⟩ | rfl
  all_goals
    simp [e17, Mnt.ag]
    refine wCallB_of (wCall_eq (Q := fun r => ∃ e, r = tup [lin e ((addM y z).map Mnt.v), .int .i64 (addE y z)]) (ham y z hy hzw hyl _ _) fun r n4 hr4 hn4 => ?_)
    obtain ⟨e, rfl⟩ := hr4
    simp at hn4
  · rw [hv0]
    simp
    refine wCallB_of (wCall_eq (Q := fun r => r = .bool true) ((hsm [] [] (by simp) (by simp) (by simp) (by simp) _ _).mono fun p _ _ hp => ⟨by rw [hp.1]; rfl, hp.2⟩) fun r n5 hr5 hn5 => ?_)
    subst hr5
    simp at hn5
    simp [e93, hw1]
    refine hK _ _ _ ?_ (by simp) (by simp) (by omega)
    unfold Kp; simp [slA]
  · simp
    refine wCallB_of (wCall_eq (Q := fun r => r = .bool true) ((hsm (addM y z) (addM y z) haw haw (by omega) (by omega) _ _).mono fun p _ _ hp => ⟨by rw [hp.1, sameMs_refl], hp.2⟩) fun r n5 hr5 hn5 => ?_)
    subst hr5
    simp at hn5
    simp [e93, hw1]
    refine hK _ _ _ ?_ (by simp) (by simp) (by omega)
    unfold Kp; simp [slA]
def slB : List Nat := [3, 6, 11, 12, 13, 14, 17, 66, 67, 68, 121, 122]
def slC : List Nat := [3, 6, 11, 12, 13, 14, 66, 67, 68]
theorem zM_wf : (⟨0, 0, []⟩ : Mnt).wf := ⟨by simp, by simp⟩
theorem fm_wf {l : List Mnt} (h : ∀ m ∈ l, m.wf) (s : Int) : (fm l s).wf := by
  cases hb : fb l s with
  | true => exact h _ (fm_mem hb)
  | false =>
    have : l.find? (serB s) = none := by
      unfold fb at hb
      cases hf : l.find? (serB s) with
      | none => rfl
      | some x => rw [hf] at hb; cases hb
    rw [fm, this]; exact zM_wf
theorem elem_i64 {l : List Int} {n : Int} (h0 : 0 ≤ n) (hn : n.toNat < l.length) : elemAt (l.map (Value.int .i64)) n 1 = some (dptr 0 [.int .i64 l[n.toNat]]) := elemAt_map h0 hn rfl (by simp)
theorem steps_j3 {P : Program} {tM tC sm fi rf n0 : Nat} (hfi : FindROK P fi) (hrf : RFindOK P rf) (hsm : SmsOK P sm) {T : Nat → Value} {H : Nat → Option (List Value)} {nx i : Nat} {y : List Mnt} {ks : List Int} {Q : Ex → PS → Prop}
    (hn0 : n0 ≤ nx) (hy : ∀ m ∈ y, m.wf) (hyf : ∀ m ∈ y, m.fin) (hyl : y.length ≤ 1000) (hkl : ks.length ≤ 1000)
    (e17 : T 17 = deep (y.map Mnt.v)) (e121 : T 121 = deep (ks.map (Value.int .i64))) (e123 : T 123 = .int .i64 i) (hi : i < ks.length)
    (hK : ∀ t' H' n', Kp slB t' T → t' 123 = .int .i64 ((i : Int) + 1) → Own nx H H' → nx ≤ n' → Q .nrm ⟨t', H', n'⟩) :
    wpc (PCalls P) P (fun _ => False) n0 (law22_RegistrySteps_BC_j3 tM tC sm fi rf) Q ⟨T, H, nx⟩ := by
  have hmx : (maxLen : Int) = 9223372036854775807 := rfl
  have he := elem_i64 (l := ks) (n := (i : Int)) (by omega) (by simpa using hi)
  simp at he
  have hw1 := w64 (x := (i : Int) + 1) (by omega) (by omega)
  generalize ks[i] = z at he
  simp [law22_RegistrySteps_BC_j3, e17, e121, e123, he, hn0, Mnt.ag]
  refine wCallB_of (wCall_eq (Q := fun r => r = tup [(fm y z).v, .bool (fb y z)]) (hfi y z hyf (by omega) _ _) fun r n3 hr3 hn3 => ?_)
  subst hr3
  simp at hn3
  have k1 : n0 ≤ n3 := by omega
  have hfw := fm_wf hy z
  simp [e17, k1]
  refine wCallB_of (wCall_eq (Q := fun r => r = tup [(fm y z).v, .bool (fb y z)]) (hrf y z (by omega) _ _) fun r n4 hr4 hn4 => ?_)
  subst hr4
  simp at hn4
  have k2 : n0 ≤ n4 := by omega
  have k3 : ¬ n3 = n4 := by omega
  have k4 : ¬ n4 = n3 := by omega
  generalize fm y z = m at hfw
  generalize fb y z = b
  simp [k2, k3, k4, Mnt.ag]
  refine wCallB_of (wCall_eq (Q := fun r => r = .bool true) ((hsm [m] [m] (by simpa using hfw) (by simpa using hfw) (by simp; omega) (by simp; omega) _ _).mono fun p _ _ hp => ⟨by rw [hp.1, sameMs_refl], hp.2⟩) fun r n5 hr5 hn5 => ?_)
  subst hr5
  simp at hn5
  simp [e123, hw1]
  refine hK _ _ _ ?_ (by simp) (by simp [show nx ≤ n3 by omega, show nx ≤ n4 by omega]) (by omega)
  unfold Kp; simp [slB]
theorem steps_j4 {P : Program} {mv rv g n0 : Nat} (hmv : MVOK P mv g) (hrv : RMVOK P rv) {T : Nat → Value} {H : Nat → Option (List Value)} {nx : Nat} {y : List Mnt} {Q : Ex → PS → Prop}
    (hg : H g = some bitsRow) (hgn : g < nx) (hy : ∀ m ∈ y, m.wf) (hyl : y.length ≤ 1000)
    (e17 : T 17 = deep (y.map Mnt.v))
    (hK : ∀ t' n', Kp slC t' T → nx ≤ n' → Q .nrm ⟨t', H, n'⟩) :
    wpc (PCalls P) P (fun _ => False) n0 (law22_RegistrySteps_BC_j4 mv rv) Q ⟨T, H, nx⟩ := by
  have hmx : (maxLen : Int) = 9223372036854775807 := rfl
  simp [law22_RegistrySteps_BC_j4, e17]
  refine wCallB_of (wCall_eq (Q := fun r => r = .bool (mntF y 0)) (hmv y hy (by omega) _ _ hg hgn) fun r n3 hr3 hn3 => ?_)
  subst hr3
  simp at hn3
  simp [e17]
  refine wCallB_of (wCall_eq (Q := fun r => r = .bool (mntF y 0)) (hrv y hy (by omega) _ _) fun r n4 hr4 hn4 => ?_)
  subst hr4
  simp at hn4
  simp
  refine hK _ _ ?_ (by omega)
  unfold Kp; simp [slC]
end Go.PE
namespace Go.PE
open Go
theorem Kp.trans {l l' : List Nat} {a b c : Nat → Value} (h1 : Kp l a b) (h2 : Kp l' b c) (hs : ∀ j ∈ l', j ∈ l) : Kp l' a c := fun j hj => (h1 j (hs j hj)).trans (h2 j hj)
theorem Own.trans' {n n' : Nat} {A B C : Nat → Option (List Value)} (h1 : Own n A B) (h2 : Own n' B C) (h : n ≤ n') : Own n A C := fun k hk => (h2 k (by omega)).trans (h1 k hk)
theorem steps_j5 {P : Program} {tM tC sm ti fi rf mv rv g n0 : Nat} (hfi : FindROK P fi) (hrf : RFindOK P rf) (hsm : SmsOK P sm) (hmv : MVOK P mv g) (hrv : RMVOK P rv) {T : Nat → Value} {H : Nat → Option (List Value)} {nx : Nat} {y : List Mnt} {s1 s2 : Int} {Q : Ex → PS → Prop}
    (hn0 : n0 ≤ nx) (hg : H g = some bitsRow) (hgn : g < nx) (hy : ∀ m ∈ y, m.wf) (hyf : ∀ m ∈ y, m.fin) (hyl : y.length ≤ 1000)
    (e17 : T 17 = deep (y.map Mnt.v)) (e3 : T 3 = .int .i64 s1) (e13 : T 13 = .int .i64 s2)
    (hK : ∀ t' H' n', Kp slC t' T → Own nx H H' → nx ≤ n' → Q .nrm ⟨t', H', n'⟩) :
    wpc (PCalls P) P (fun _ => False) n0 (law22_RegistrySteps_BC_j5 tM tC sm ti fi rf mv rv) Q ⟨T, H, nx⟩ := by
  have hmx : (maxLen : Int) = 9223372036854775807 := rfl
  simp [law22_RegistrySteps_BC_j5, e3, e13]
  refine wpc_loop _ _ _ _ _ _ (fun s => ∃ i : Nat, i ≤ 2 ∧ Kp slC s.t T ∧ s.t 17 = deep (y.map Mnt.v) ∧ s.t 121 = deep ([s1, s2].map (Value.int .i64)) ∧ s.t 122 = .int .i64 2 ∧ s.t 123 = .int .i64 i ∧ Own nx H s.H ∧ nx ≤ s.nx)
    (fun s => match s.t 123 with | .int _ i => (2 - i).toNat | _ => 0) _ ⟨0, by omega, by unfold Kp; simp [slC], by simp [e17], by simp, by simp, by simp, by simp, by simp⟩ ?_
  rintro ⟨t, H', nx'⟩ ⟨i, hi, hkp, f17, f121, f122, f123, hown, hnx⟩
  simp only at hkp f17 f121 f122 f123 hown hnx
  simp [f122, f123]
  by_cases hlt : i < 2
  · simp [show (i : Int) < 2 by omega]
    refine steps_j3 hfi hrf hsm (y := y) (ks := [s1, s2]) (i := i) (by omega) hy hyf hyl (by simp) (by simp [f17]) (by simp [f121]) (by simp [f123]) (by simpa using hlt) fun t' H2 n' hk h1 h2 h3 => ?_
    refine kLoop_nrm _ _ _ _ (Sub_refl _ _) ⟨i + 1, by omega, ?_, ?_, ?_, ?_, by simp [h1], hown.trans' h2 hnx, by show nx ≤ n'; omega⟩ (by simp [h1]; omega)
    · refine (hk.trans (l' := slC) (c := T) ?_ (by simp [slB, slC]))
      intro j hj
      rw [← hkp j hj]
      refine upd_ne _ _ ?_
      intro e; subst e; simp [slC] at hj
    · exact (hk 17 (by simp [slB])).trans (by simp [f17])
    · exact (hk 121 (by simp [slB])).trans (by simp [f121])
    · exact (hk 122 (by simp [slB])).trans (by simp [f122])
  · simp [show ¬ (i : Int) < 2 by omega]
    refine steps_j4 hmv hrv (y := y) (by rw [hown g hgn]; exact hg) (by omega) hy hyl (by simp [f17]) fun t' n' hk hn' => ?_
    refine hK _ _ _ (hk.trans (l' := slC) (c := T) ?_ (fun j hj => hj)) hown (by omega)
    intro j hj
    rw [← hkp j hj]
    refine upd_ne _ _ ?_
    intro e; subst e; simp [slC] at hj
end Go.PE
namespace Go.PE
open Go
def isBytesR (e : Nat) (n : Int) (v : Value) : Prop := ∃ bs : List Int, v = lin e (bs.map (.int .u8)) ∧ (bs.length : Int) ≤ n ∧ ∀ x ∈ bs, 0 ≤ x ∧ x ≤ 255
theorem wrap8 (q : Int) : 0 ≤ IntKind.u8.wrap q ∧ IntKind.u8.wrap q ≤ 255 := by
  rw [IntKind.wrap_u8]; omega
theorem snoc_bytes {bs : List Int} {x : Int} (h : ∀ y ∈ bs, 0 ≤ y ∧ y ≤ 255) (hx : 0 ≤ x ∧ x ≤ 255) : ∀ y ∈ bs ++ [x], 0 ≤ y ∧ y ≤ 255 := fun y hy => by
  rcases List.mem_append.1 hy with hy | hy
  · exact h y hy
  · simp at hy; subst hy; exact hx
theorem bytesR_w {P : Program} {f e nx_ : Nat} (hc : compFn P f = some (22, made_Deck_BytesC e nx_, [.t 4])) (hn : NextW P nx_) (n : Int) (h0 : 0 ≤ n) (h1 : n ≤ 1000000) : Draws P f [.int .i64 n] (isBytesR e n) := by
  intro k l at_ ha hl H nx hk
  refine PCalls_of hc (by simp) fun hw => ?_
  have hkn : k < nx := by
    rcases Nat.lt_or_ge k nx with h | h
    · exact h
    · have := hw k h; rw [hk] at this; cases this
  simp [made_Deck_BytesC]
  rw [w64 (x := n + 1) (by omega) (by omega)]
  refine wCall_drawL (hn (n + 1) (by omega) (by omega)) ha hl (by simp [hk]) (.inr rfl) fun p1 at1 n1 hp1 ha1 hn1 => ?_
  obtain ⟨m, rfl, hm0, hm1⟩ := hp1
  simp at hn1
  simp
  refine wpc_loop _ _ _ _ _ _ (fun s => ∃ (ts : List Int), (∀ y ∈ ts, 0 ≤ y ∧ y ≤ 255) ∧ ∃ (at' : Int), 0 ≤ at' ∧ s.t 0 = ptr k 0 ∧ s.t 5 = lin e (ts.map (.int .u8)) ∧ (∃ j : Int, s.t 6 = .int .i64 j ∧ 0 ≤ j ∧ j + ts.length ≤ n) ∧ s.H = upd H k (some (dk l at')) ∧ nx ≤ s.nx)
    (fun s => match s.t 6 with | .int _ i => i.toNat | _ => 0) _ ⟨[], by simp, at1, ha1, by simp, by simp, ⟨m, by simp, by omega, by simp; omega⟩, rfl, by simpa using hn1⟩ ?_
  rintro ⟨t, H', nx'⟩ ⟨ts, hts, at', ha', e0, e5, ⟨j, e6, hj0, hj1⟩, rfl, hnx⟩
  simp only at e0 e5 e6 hnx
  simp [e0, e5, e6]
  refine wB_of (fun hlt => ?_) (fun hlt => ?_)
  · simp at hlt
    simp [made_Deck_BytesC_j1, e0, e5, e6]
    refine wCall_drawL (hn 256 (by omega) (by omega)) ha' hl (by simp) (.inr rfl) fun p2 at2 n2 hp2 ha2 hn2 => ?_
    obtain ⟨q, rfl, hq0, hq1⟩ := hp2
    simp [e0, e5, e6, maxLen]
    refine ⟨by omega, by omega, ?_⟩
    rw [w64 (x := j - 1) (by omega) (by omega)]
    refine kLoop_nrm _ _ _ (upd H k (some (dk l at2))) (Sub_refl _ _) ⟨ts ++ [IntKind.u8.wrap q], snoc_bytes hts (wrap8 q), at2, ha2, by simp [e0], by simp, ⟨j - 1, by simp, by omega, by simp; omega⟩, rfl, by simp at hn2; simp; omega⟩ (by simp; omega)
  · simp at hlt
    exact wF_of ⟨⟨ts, by simp, by omega, hts⟩, at', ha', rfl⟩
theorem zPred_wf : zPred.wf := by simp [zPred, Pred.wf]
def isCavR (v : Value) : Prop := ∃ c : Cav, v = c.v ∧ c.wf
theorem caveatR_w {P : Program} {f e nx_ p y : Nat} (hc : compFn P f = some (20, made_Deck_CaveatC e nx_ p y, [.cA 2 10])) (hn : NextW P nx_) (hp : ∀ b, Draws P p [.bool b] (isPred b)) (hy : ∀ n, 0 ≤ n → n ≤ 1000000 → Draws P y [.int .i64 n] (isBytesR e n)) : Draws P f [] isCavR := by
  intro k l at_ ha hl H nx hk
  refine PCalls_of hc (by simp) fun hw => ?_
  have hkn : k < nx := by
    rcases Nat.lt_or_ge k nx with h | h
    · exact h
    · have := hw k h; rw [hk] at this; cases this
  have d1 : ¬ k = nx := by omega
  have d2 : ¬ nx = k := by omega
  simp [made_Deck_CaveatC]
  refine wCall_drawL (hn 4 (by omega) (by omega)) ha hl (by simp [hk, d1]) (.inr rfl) fun p1 at1 n1 hp1 ha1 hn1 => ?_
  obtain ⟨m, rfl, hm0, hm1⟩ := hp1
  simp at hn1
  simp
  have tail : ∀ (H' : Nat → Option (List Value)) (nx' : Nat) (at' : Int) (c : Cav), 0 ≤ at' → H' k = some (dk l at') → (∀ j, j < nx → j ≠ k → H' j = H j) → c.wf →
      wF (some [c.v]) nx (fun p H' _ => isCavR p ∧ Drew H k l H') H' nx' := by
    intro H' nx' at' c h0 ek hoth hg
    exact wF_sub ((own_k (r := some (dk l at')) ek hoth).sub (none_k hw hkn)) ⟨⟨c, rfl, hg⟩, at', h0, rfl⟩
  refine wB_of (fun hg => ?_) (fun hg => ?_)
  · simp at hg
    refine wCall_drawL (hp true) ha1 hl (by simp [d1, d2]) (.inr rfl) fun p2 at2 n2 hp2 ha2 hn2 => ?_
    obtain ⟨q, rfl, hv, hwf, hb⟩ := hp2
    simp [d1, d2]
    refine tail _ _ at2 ⟨false, q, 0, [], []⟩ ha2 (by simp [d1, d2]) (fun j hj hjk => by simp [show ¬ j = nx by omega, hjk]) ⟨hwf, by simp [inBytes], by simp [inBytes]⟩
  · simp at hg
    simp [made_Deck_CaveatC_j1]
    refine wCall_drawL (hn 8 (by omega) (by omega)) ha1 hl (by simp [d1, d2]) (.inr rfl) fun p2 at2 n2 hp2 ha2 hn2 => ?_
    obtain ⟨q, rfl, hq0, hq1⟩ := hp2
    simp [d1, d2]
    refine wCall_drawL (hy 20 (by omega) (by omega)) ha2 hl (by simp [d1, d2]) (.inr rfl) fun p3 at3 n3 hp3 ha3 hn3 => ?_
    obtain ⟨tk, rfl, htk, htb⟩ := hp3
    simp [d1, d2, maxLen]
    refine ⟨by omega, by omega, ?_⟩
    refine wCall_drawL (hy 20 (by omega) (by omega)) ha3 hl (by simp [d1, d2]) (.inr rfl) fun p4 at4 n4 hp4 ha4 hn4 => ?_
    obtain ⟨bx, rfl, hbx, hbb⟩ := hp4
    simp [d1, d2, maxLen]
    refine ⟨by omega, by omega, ?_⟩
    have e1 : tk.map (Value.int .u8) ++ [Value.int .u8 1] = (tk ++ [1]).map (Value.int .u8) := by simp
    have e2 : bx.map (Value.int .u8) ++ [Value.int .u8 2] = (bx ++ [2]).map (Value.int .u8) := by simp
    rw [e1, e2]
    refine tail _ _ at4 ⟨true, zPred, q, tk ++ [1], bx ++ [2]⟩ ha4 (by simp [d1, d2]) (fun j hj hjk => by simp [show ¬ j = nx by omega, hjk]) ⟨zPred_wf, ⟨by simp [maxLen]; omega, snoc_bytes htb (by omega)⟩, ⟨by simp [maxLen]; omega, snoc_bytes hbb (by omega)⟩⟩
end Go.PE
namespace Go.PE
open Go
def allServed : PT → Bool
  | .done => true
  | .one x r => served x && allServed r
  | .alt a b => allServed a && allServed b
theorem wpt_mono {P : Program} {T : Nat → Prop} {n0 : Nat} {K K' : PS → Prop} (hK : ∀ s, K s → K' s) : ∀ (t : PT) (s : PS), allServed t = true → wpt P T n0 t K s → wpt P T n0 t K' s
  | .done, s, _, h => hK s h
  | .one x r, s, hs, h => by
    unfold allServed at hs
    rw [Bool.and_eq_true] at hs
    exact (gstep_frm P T n0 x hs.1).mono (fun s1 h1 => wpt_mono hK r s1 hs.2 h1) h
  | .alt a b, s, hs, h => by
    unfold allServed at hs
    rw [Bool.and_eq_true] at hs
    exact ⟨wpt_mono hK a s hs.1 h.1, wpt_mono hK b s hs.2 h.2⟩
structure SInv (n0 : Nat) (H0 : Nat → Option (List Value)) (kd km : Nat) (dl : List Int) (s1 s2 : Int) (eM tC : Nat) (l raw : List Mnt) (x : Mnt) (mcs : List Cav) (s : PS) : Prop where
  f3 : s.t 3 = .int .i64 s1
  f6 : s.t 6 = ptr n0 0
  f11 : s.t 11 = ptr kd 0
  f12 : s.t 12 = lin eM (l.map Mnt.v)
  f13 : s.t 13 = .int .i64 s2
  f14 : s.t 14 = ptr km 0
  f66 : s.t 66 = deep [deep (l.map Mnt.v), deep (raw.map Mnt.v)]
  f67 : s.t 67 = .int .i64 2
  own : Own n0 H0 s.H
  hx : s.H n0 = some x.cells
  hk : ∃ at', 0 ≤ at' ∧ s.H kd = some (dk dl at')
  hm : ∃ c0, NilLin tC c0 (mcs.map Cav.v) ∧ s.H km = some [.int .i64 ((l.length : Int) + 1), .int .i64 1, c0]
  n1 : n0 < kd
  n2 : kd < km
  n3 : km < s.nx
theorem SInv.keep {n0 : Nat} {H0 : Nat → Option (List Value)} {kd km : Nat} {dl : List Int} {s1 s2 : Int} {eM tC : Nat} {l raw : List Mnt} {x : Mnt} {mcs : List Cav} {s : PS} (h : SInv n0 H0 kd km dl s1 s2 eM tC l raw x mcs s) {t' : Nat → Value} {H' : Nat → Option (List Value)} {n' : Nat}
    (hk : Kp [3, 6, 11, 12, 13, 14, 66, 67] t' s.t) (ho : Own s.nx s.H H') (hn : s.nx ≤ n') : SInv n0 H0 kd km dl s1 s2 eM tC l raw x mcs ⟨t', H', n'⟩ := by
  have g : ∀ j ∈ [3, 6, 11, 12, 13, 14, 66, 67], t' j = s.t j := hk
  have a := h.n1; have b := h.n2; have c := h.n3
  obtain ⟨at', h1, h2⟩ := h.hk
  obtain ⟨c0, h3, h4⟩ := h.hm
  exact ⟨by rw [← h.f3]; exact g 3 (by simp), by rw [← h.f6]; exact g 6 (by simp), by rw [← h.f11]; exact g 11 (by simp), by rw [← h.f12]; exact g 12 (by simp), by rw [← h.f13]; exact g 13 (by simp), by rw [← h.f14]; exact g 14 (by simp), by rw [← h.f66]; exact g 66 (by simp), by rw [← h.f67]; exact g 67 (by simp),
    fun k hk => (ho k (by omega)).trans (h.own k hk), by rw [← h.hx]; exact ho n0 (by omega), ⟨at', h1, by rw [← h2]; exact ho kd (by omega)⟩, ⟨c0, h3, by rw [← h4]; exact ho km (by omega)⟩, a, b, by show km < n'; omega⟩
theorem SInv.draw {n0 : Nat} {H0 : Nat → Option (List Value)} {kd km : Nat} {dl : List Int} {s1 s2 : Int} {eM tC : Nat} {l raw : List Mnt} {x : Mnt} {mcs : List Cav} {T : Nat → Value} {H : Nat → Option (List Value)} {nx : Nat} (h : SInv n0 H0 kd km dl s1 s2 eM tC l raw x mcs ⟨T, H, nx⟩) {t' : Nat → Value} {n' : Nat} {at' : Int}
    (hk : Kp [3, 6, 11, 12, 13, 14, 66, 67] t' T) (ha : 0 ≤ at') (hn : nx ≤ n') : SInv n0 H0 kd km dl s1 s2 eM tC l raw x mcs ⟨t', upd H kd (some (dk dl at')), n'⟩ := by
  have g : ∀ j ∈ [3, 6, 11, 12, 13, 14, 66, 67], t' j = T j := hk
  have a := h.n1; have b := h.n2; have c := h.n3
  obtain ⟨c0, h3, h4⟩ := h.hm
  exact ⟨by rw [← h.f3]; exact g 3 (by simp), by rw [← h.f6]; exact g 6 (by simp), by rw [← h.f11]; exact g 11 (by simp), by rw [← h.f12]; exact g 12 (by simp), by rw [← h.f13]; exact g 13 (by simp), by rw [← h.f14]; exact g 14 (by simp), by rw [← h.f66]; exact g 66 (by simp), by rw [← h.f67]; exact g 67 (by simp),
    fun k hk => (upd_ne _ _ (by omega)).trans (h.own k hk), by rw [← h.hx]; exact upd_ne _ _ (by omega), ⟨at', ha, upd_same _ _ _⟩, ⟨c0, h3, by rw [← h4]; exact upd_ne _ _ (by omega)⟩, a, b, by have : km < nx := c; show km < n'; omega⟩
def zL (l : List Mnt) (s2 q : Int) (x : Mnt) (mcs : List Cav) (c : Cav) : List Value :=
  [ag x.cells, ag [.int .i64 ((l.length : Int) + 1), .int .i64 1, deep (mcs.map Cav.v)], ag [.int .i64 ((l.length : Int) + 1), .int .i64 q, deep [c.v]], ag [.int .i64 s2, .int .i64 1, ns []], ag [.int .i64 ((l.length : Int) + 1), .int .i64 1, deep (x.cs.map Cav.v)]]
theorem zL_at {l : List Mnt} {s2 q : Int} {x : Mnt} {mcs : List Cav} {c : Cav} (hx : x.wf) (hm : ∀ c ∈ mcs, c.wf) (hml : mcs.length ≤ maxLen) (hc : c.wf) {i : Nat} (hi : i < 5) :
    ∃ cs z, elemAt (zL l s2 q x mcs c) (i : Int) 3 = some (dptr 0 cs) ∧ cs.map dg1 = Mnt.cells z ∧ cs.length = 3 ∧ z.wf := by
  have : i = 0 ∨ i = 1 ∨ i = 2 ∨ i = 3 ∨ i = 4 := by omega
  rcases this with rfl | rfl | rfl | rfl | rfl
  · exact ⟨x.cells, x, rfl, x.dg1s, x.len, hx⟩
  · exact ⟨_, ⟨(l.length : Int) + 1, 1, mcs⟩, rfl, rfl, rfl, hm, hml⟩
  · exact ⟨_, ⟨(l.length : Int) + 1, q, [c]⟩, rfl, rfl, rfl, by simpa using hc, by simp [maxLen]⟩
  · exact ⟨_, ⟨s2, 1, []⟩, rfl, rfl, rfl, by simp, by simp⟩
  · exact ⟨_, ⟨(l.length : Int) + 1, 1, x.cs⟩, rfl, rfl, rfl, hx⟩
set_option maxHeartbeats 4000000 in
theorem steps_t1 {P : Program} {tM nx_ tC cv n0 kd km : Nat} {H0 : Nat → Option (List Value)} {dl : List Int} {s1 s2 : Int} {eM : Nat} {l raw y : List Mnt} {x : Mnt} {mcs : List Cav} (hn : NextW P nx_) (hcv : Draws P cv [] isCavR) (hdl : dl.length ≤ maxLen) (hll : l.length ≤ 4)
    {T : Nat → Value} {H : Nat → Option (List Value)} {nx : Nat} (h : SInv n0 H0 kd km dl s1 s2 eM tC l raw x mcs ⟨T, H, nx⟩) (e17 : T 17 = deep (y.map Mnt.v)) {i68 : Value} (e68 : T 68 = i68) :
    wpt P (fun _ => False) n0 (law22_RegistrySteps_BC_t1 tM nx_ tC cv) (fun s => ∃ q c, Cav.wf c ∧ SInv n0 H0 kd km dl s1 s2 eM tC l raw x mcs s ∧ s.t 17 = deep (y.map Mnt.v) ∧ s.t 68 = i68 ∧ s.t 91 = deep (zL l s2 q x mcs c) ∧ s.t 92 = .int .i64 5 ∧ s.t 93 = .int .i64 0 ∧ nx ≤ s.nx) ⟨T, H, nx⟩ := by
  have hh := h
  obtain ⟨f3, f6, f11, f12, f13, f14, f66, f67, own, hx, ⟨at0, ha0, hk⟩, ⟨c0, hc0, hm⟩, n1, n2, n3⟩ := h
  simp only at f3 f6 f11 f12 f13 f14 f66 f67 own hx hk hm n3
  have hdg := hc0.dg
  have hw1 := w64 (x := (l.length : Int) + 1) (by omega) (by omega)
  have k1 : ¬ n0 = kd := by omega
  have k2 : ¬ km = kd := by omega
  have k3 : ¬ kd = n0 := by omega
  simp [law22_RegistrySteps_BC_t1, f3, f6, f11, f12, f13, f14, hx, hk, hm, hdg, hw1, Mnt.ag]
  repeat' first
    | refine And.intro ?_ ?_
    | (refine wCallB_of (wCall_drawL (hn 4 (by omega) (by omega)) ha0 hdl hk (.inl (by omega)) fun p1 at1 m1 hp1 ha1 hm1 => ?_)
       obtain ⟨q, rfl, hq0, hq1⟩ := hp1
       simp at hm1
       simp [f3, f6, f11, f12, f13, f14, hx, hm, hdg, k1, k2, k3, Mnt.ag])
    | (refine wCallB_of (wCall_drawL hcv ha1 hdl (upd_same _ _ _) (.inl (by omega)) fun p2 at2 m2 hp2 ha2 hm2 => ?_)
       obtain ⟨c, rfl, hcw⟩ := hp2
       simp at hm2
       simp [f3, f6, f11, f12, f13, f14, hx, hm, hdg, k1, k2, k3, Mnt.ag])
  all_goals exact ⟨q, c, hcw, hh.draw (by unfold Kp; simp) ha2 (by omega), e17, e68, rfl, by omega⟩
end Go.PE
namespace Go.PE
open Go
theorem steps_j6 {P : Program} {tM nx_ tC cv ad am sm ti fi rf mv rv g n0 kd km : Nat} {H0 : Nat → Option (List Value)} {dl : List Int} {s1 s2 : Int} {eM : Nat} {l raw : List Mnt} {x : Mnt} {mcs : List Cav}
    (hn : NextW P nx_) (hcv : Draws P cv [] isCavR) (had : AddMOK P ad g) (ham : RAddMOK P am) (hsm : SmsOK P sm) (hfi : FindROK P fi) (hrf : RFindOK P rf) (hmv : MVOK P mv g) (hrv : RMVOK P rv)
    (hdl : dl.length ≤ maxLen) (hll : l.length ≤ 4) (hrl : raw.length ≤ 1000) (hlw : ∀ m ∈ l, m.wf ∧ m.fin) (hrw : ∀ m ∈ raw, m.wf ∧ m.fin) (hx : x.wf) (hm : ∀ c ∈ mcs, c.wf) (hml : mcs.length ≤ maxLen) (hg0 : H0 g = some bitsRow) (hgn : g < n0)
    {T : Nat → Value} {H : Nat → Option (List Value)} {nx i : Nat} {Q : Ex → PS → Prop} (h : SInv n0 H0 kd km dl s1 s2 eM tC l raw x mcs ⟨T, H, nx⟩) (e68 : T 68 = .int .i64 i) (hi : i < 2)
    (hK : ∀ s', SInv n0 H0 kd km dl s1 s2 eM tC l raw x mcs s' → s'.t 68 = .int .i64 ((i : Int) + 1) → Q .nrm s') :
    wpc (PCalls P) P (fun _ => False) n0 (law22_RegistrySteps_BC_j6 tM nx_ tC cv ad am sm ti fi rf mv rv) Q ⟨T, H, nx⟩ := by
  obtain ⟨y, hyw, hyl, hy⟩ : ∃ y : List Mnt, (∀ m ∈ y, m.wf ∧ m.fin) ∧ y.length ≤ 1000 ∧ elemAt [deep (l.map Mnt.v), deep (raw.map Mnt.v)] (i : Int) 1 = some (dptr 0 [deep (y.map Mnt.v)]) := by
    have : i = 0 ∨ i = 1 := by omega
    rcases this with rfl | rfl
    · exact ⟨l, hlw, by omega, rfl⟩
    · exact ⟨raw, hrw, hrl, rfl⟩
  have hw1 := w64 (x := (i : Int) + 1) (by omega) (by omega)
  have f66 : T 66 = deep [deep (l.map Mnt.v), deep (raw.map Mnt.v)] := h.f66
  simp [law22_RegistrySteps_BC_j6, f66, e68, hy]
  refine wpt_mono ?post _ _ rfl (steps_t1 (y := y) (i68 := .int .i64 i) hn hcv hdl hll (h.keep ?kp (fun _ _ => rfl) (Nat.le_refl _)) ?e17 ?e68)
  case kp => unfold Kp; simp
  case e17 => simp
  case e68 => simp [e68]
  intro s1' hM
  obtain ⟨q, c, hc, hS, e17, f68, e91, e92, e93, hnx⟩ := hM
  have hz := @zL_at l s2 q x mcs c hx hm hml hc
  refine wpc_loop _ _ _ _ _ _ (fun s => ∃ j : Nat, j ≤ 5 ∧ SInv n0 H0 kd km dl s1 s2 eM tC l raw x mcs s ∧ s.t 17 = deep (y.map Mnt.v) ∧ s.t 68 = .int .i64 i ∧ s.t 91 = deep (zL l s2 q x mcs c) ∧ s.t 92 = .int .i64 5 ∧ s.t 93 = .int .i64 j)
    (fun s => match s.t 93 with | .int _ i => (5 - i).toNat | _ => 0) _ ⟨0, by omega, hS, e17, f68, e91, e92, e93⟩ ?_
  rintro ⟨t, H', nx'⟩ ⟨j, hj, hS', e17', e68', e91', e92', e93'⟩
  simp only at e17' e68' e91' e92' e93'
  have n3 := hS'.n3
  simp only at n3
  have a := hS'.n1; have b := hS'.n2
  simp [e92', e93']
  by_cases hlt : j < 5
  · simp [show (j : Int) < 5 by omega]
    obtain ⟨cs, z, z1, z2, z3, z4⟩ := hz hlt
    refine steps_j2 had ham hsm (y := y) (z := z) (cs := cs) (i := j) (by omega) ((hS'.own g hgn).trans hg0) (by omega) (fun m hm => (hyw m hm).1) z4 hyl (by omega) (by simp [e17']) (by simp [e91']) (by simp [e93']) z1 z2 z3 fun t' H2 n' hk h1 h2 h3 => ?_
    have hk' : ∀ u ∈ slA, t' u = t u := fun u hu => (hk u hu).trans (upd_ne _ _ (by intro e; subst e; simp [slA] at hu))
    refine kLoop_nrm _ _ _ _ (Sub_refl _ _) ⟨j + 1, by omega, hS'.keep (fun u hu => hk' u (by simp [slA] at hu ⊢; omega)) h2 h3, ?_, ?_, ?_, ?_, by simp [h1]⟩ (by simp [h1]; omega)
    · exact (hk' 17 (by simp [slA])).trans e17'
    · exact (hk' 68 (by simp [slA])).trans e68'
    · exact (hk' 91 (by simp [slA])).trans e91'
    · exact (hk' 92 (by simp [slA])).trans e92'
  · simp [show ¬ (j : Int) < 5 by omega]
    refine steps_j5 hfi hrf hsm hmv hrv (y := y) (s1 := s1) (s2 := s2) (by omega) ((hS'.own g hgn).trans hg0) (by omega) (fun m hm => (hyw m hm).1) (fun m hm => (hyw m hm).2) hyl (by simp [e17']) (by simp; exact hS'.f3) (by simp; exact hS'.f13) fun t' H2 n' hk h2 h3 => ?_
    have hk' : ∀ u ∈ slC, t' u = t u := fun u hu => (hk u hu).trans (upd_ne _ _ (by intro e; subst e; simp [slC] at hu))
    have f68' := (hk' 68 (by simp [slC])).trans e68'
    simp [f68', hw1]
    refine hK _ (hS'.keep (fun u hu => ?_) h2 h3) (by simp)
    refine Eq.trans ?_ (hk' u (by simp [slC] at hu ⊢; omega))
    simp at hu
    rcases hu with rfl | rfl | rfl | rfl | rfl | rfl | rfl | rfl <;> rfl
end Go.PE
namespace Go.PE
open Go
theorem steps_j1 {P : Program} {tC rd n0 : Nat} (hrd : Rd22OK P rd) {T : Nat → Value} {H : Nat → Option (List Value)} {nx km : Nat} {i u : Int} {c0 : Value} {mcs : List Cav} {Q : Ex → PS → Prop}
    (hkm : n0 ≤ km) (hml : mcs.length ≤ 1000) (e14 : T 14 = ptr km 0) (e15 : T 15 = .int .i64 i) (h0 : 0 ≤ i) (h1 : i ≤ 1000) (hc : NilLin tC c0 (mcs.map Cav.v)) (hm : H km = some [.int .i64 u, .int .i64 1, c0])
    (hK : ∀ t' n' c1, Kp [0, 3, 4, 6, 11, 12, 13, 14] t' T → t' 15 = .int .i64 (i + 1) → nx ≤ n' → NilLin tC c1 ((mcs ++ [rideC 1]).map Cav.v) → Q .nrm ⟨t', upd H km (some [.int .i64 u, .int .i64 1, c1]), n'⟩) :
    wpc (PCalls P) P (fun _ => False) n0 (law22_RegistrySteps_BC_j1 tC rd) Q ⟨T, H, nx⟩ := by
  have hmx : (maxLen : Int) = 9223372036854775807 := rfl
  have hw1 := w64 (x := i + 1) (by omega) (by omega)
  have hdg := hc.dg
  generalize hrow : mcs.map Cav.v = xs at hdg hc
  have hxl : xs.length = mcs.length := by rw [← hrow]; simp
  have hxc : ∀ y ∈ xs, (lc y).length = 10 := fun y hy => by
    rw [← hrow] at hy
    obtain ⟨c, _, rfl⟩ := List.mem_map.1 hy
    rfl
  simp [law22_RegistrySteps_BC_j1, e14, e15]
  repeat' first
    | refine And.intro ?_ ?_
    | (refine wLdT_ptr (row := [.int .i64 u, .int .i64 1, c0]) (c := c0) hm rfl (.inr hkm) ?_; simp [e14, e15, hdg])
    | (refine wCallB_of (wCall_eq (Q := fun r => r = (rideC 1).v) (hrd _ _ _) fun r n7 hr hn7 => ?_)
       subst hr
       simp at hn7
       simp [e14, e15, hdg])
    | (refine wApp_any hc hxc (by simp) (by simp; omega) (by simp; omega) ?_; simp [e14, e15, hdg])
  all_goals
    refine sts_of (e := tC) (xs := xs ++ [(rideC 1).v]) (k := km) (off := 2) (row := [.int .i64 u, .int .i64 1, deep xs]) (by simp) (by simp) (by simp) (.inr hkm) (by simp) ?_
    simp [e15, hw1]
    refine hK _ _ (lin tC (xs ++ [(rideC 1).v])) ?_ (by simp) (by omega) (.inr (by rw [← hrow]; simp))
    unfold Kp; simp
theorem steps_j7 {P : Program} {tM tM2 aw nx_ tC cv ad am sm ti fi rf mv rv g n0 kd km : Nat} {H0 : Nat → Option (List Value)} {dl : List Int} {s1 s2 : Int} {eM : Nat} {l raw : List Mnt} {x : Mnt} {mcs : List Cav}
    (haw : Aw22OK P aw g) (hn : NextW P nx_) (hcv : Draws P cv [] isCavR) (had : AddMOK P ad g) (ham : RAddMOK P am) (hsm : SmsOK P sm) (hfi : FindROK P fi) (hrf : RFindOK P rf) (hmv : MVOK P mv g) (hrv : RMVOK P rv)
    (hdl : dl.length ≤ maxLen) (hll : l.length ≤ 4) (hrl : raw.length ≤ 1000) (hlw : ∀ m ∈ l, m.wf ∧ m.fin) (hrw : ∀ m ∈ raw, m.wf ∧ m.fin) (hx : x.wf) (hm : ∀ c ∈ mcs, c.wf) (hml : mcs.length ≤ maxLen) (hg0 : H0 g = some bitsRow) (hgn : g < n0)
    {T : Nat → Value} {H : Nat → Option (List Value)} {nx : Nat} {Q : Ex → PS → Prop} (e0 : T 0 = deep (raw.map Mnt.v)) (h : SInv n0 H0 kd km dl s1 s2 eM tC l raw x mcs ⟨upd (upd T 66 (deep [deep (l.map Mnt.v), deep (raw.map Mnt.v)])) 67 (.int .i64 2), H, nx⟩)
    (hK : ∀ s', Own n0 H0 s'.H → s'.t 10 = .bool true → Q .rt s') :
    wpc (PCalls P) P (fun _ => False) n0 (law22_RegistrySteps_BC_j7 tM aw nx_ tC tM2 cv ad am sm ti fi rf mv rv) Q ⟨T, H, nx⟩ := by
  have e12 : T 12 = lin eM (l.map Mnt.v) := h.f12
  simp [law22_RegistrySteps_BC_j7, e0, e12]
  refine wpc_loop _ _ _ _ _ _ (fun s => ∃ i : Nat, i ≤ 2 ∧ SInv n0 H0 kd km dl s1 s2 eM tC l raw x mcs s ∧ s.t 68 = .int .i64 i)
    (fun s => match s.t 68 with | .int _ i => (2 - i).toNat | _ => 0) _ ⟨0, by omega, h.keep (by unfold Kp; simp) (fun _ _ => rfl) (Nat.le_refl _), by simp⟩ ?_
  rintro ⟨t, H', nx'⟩ ⟨i, hi, hS, e68⟩
  simp only at e68
  have e67 : t 67 = .int .i64 2 := hS.f67
  have n1 := hS.n1; have n2 := hS.n2; have n3 := hS.n3
  simp only at n3
  simp [e67, e68]
  by_cases hlt : i < 2
  · simp [show (i : Int) < 2 by omega]
    refine steps_j6 (i := i) hn hcv had ham hsm hfi hrf hmv hrv hdl hll hrl hlw hrw hx hm hml hg0 hgn (hS.keep ?kp (fun _ _ => rfl) (Nat.le_refl _)) ?e68 hlt ?_
    case kp => unfold Kp; simp
    case e68 => simp [e68]
    intro s' hS' e68'
    exact kLoop_nrm _ _ _ _ (Sub_refl _ _) ⟨i + 1, by omega, hS', by simp [e68']⟩ (by simp [e68']; omega)
  · simp [show ¬ (i : Int) < 2 by omega]
    refine wCallB_of (wCall_eq (Q := fun r => r = .bool true) (haw _ _ ((hS.own g hgn).trans hg0) (by show g < nx'; omega)) fun r n7 hr hn7 => ?_)
    subst hr
    simp
    exact hK _ hS.own (by simp)
theorem steps22_ok {P : Program} {f fw tM tM2 aw ne md nx_ tC rd cv ad am sm ti fi rf mv rv g eM : Nat} (hc : compFnX P [1000000] f = some (158, law22_RegistrySteps_BC fw tM aw ne md nx_ tC rd tM2 cv ad am sm ti fi rf mv rv, [.t 10]))
    (hfw : FewOK P fw) (haw : Aw22OK P aw g) (hne : NewOK P ne) (hmd : Draws P md [] (isMade eM)) (hn : NextW P nx_) (hrd : Rd22OK P rd) (hcv : Draws P cv [] isCavR) (had : AddMOK P ad g) (ham : RAddMOK P am) (hsm : SmsOK P sm) (hfi : FindROK P fi) (hrf : RFindOK P rf) (hmv : MVOK P mv g) (hrv : RMVOK P rv)
    (raw : List Mnt) (x : Mnt) (dl : List Int) (s1 n : Int) (hrw0 : ∀ m ∈ raw, m.wf ∧ ∀ c ∈ m.cs, c.fin) (hrl : raw.length ≤ maxLen) (hx : x.wf) (hdl : dl.length ≤ maxLen) (hn0 : 0 ≤ n) (hn1 : n ≤ 255) (H : Nat → Option (List Value)) (nx : Nat) (hg : H g = some bitsRow) (hgn : g < nx) :
    PCalls P f [deep (raw.map Mnt.v), x.v, deep (dl.map (.int .i64)), .int .i64 s1, .int .u8 n] H nx (fun _ => False) (fun r H' _ => r = .bool true) := by
  refine PCalls_ofX hc (by simp) fun hw => ?_
  have hmx : (maxLen : Int) = 9223372036854775807 := rfl
  have g1 : ¬ g = nx := by omega
  have quit : ∀ (T : Nat → Value) (H' : Nat → Option (List Value)) (n' : Nat), Own nx H H' → T 10 = .bool true → fin nx [.t 10] (fun r _ _ => r = .bool true) .rt ⟨T, H', n'⟩ := fun T H' n' ho h10 => by
    simp [h10]
    exact wF_own hw ho rfl
  cases h1 : fewV raw with
  | false =>
    simp [law22_RegistrySteps_BC]
    refine wCallB_of (wCall_eq (Q := fun r => r = .bool (fewV raw)) (hfw raw hrl _ _) fun r n5 hr hn5 => ?_)
    subst hr
    simp at hn5
    simp [h1]
    refine wCallB_of (wCall_eq (Q := fun r => r = .bool true) (haw _ _ (by simp [g1, hg]) (by show g < n5; omega)) fun r n7 hr hn7 => ?_)
    subst hr
    simp
    exact wF_own hw (by simp) rfl
  | true =>
    simp [law22_RegistrySteps_BC]
    refine wCallB_of (wCall_eq (Q := fun r => r = .bool (fewV raw)) (hfw raw hrl _ _) fun r n5 hr hn5 => ?_)
    subst hr
    simp at hn5
    simp [h1, Mnt.ag]
    refine wCallB_of (wCall_eq (Q := fun r => r = .bool (fewV [x])) (hfw [x] (by simp [maxLen]) _ _) fun r n6 hr hn6 => ?_)
    subst hr
    simp at hn6
    cases h2 : fewV [x] with
    | false =>
      simp
      refine wCallB_of (wCall_eq (Q := fun r => r = .bool true) (haw _ _ (by simp [g1, hg]) (by show g < n6; omega)) fun r n7 hr hn7 => ?_)
      subst hr
      simp
      exact wF_own hw (by simp) rfl
    | true =>
      have hrl2 : raw.length ≤ 40 := by
        unfold fewV at h1
        simp only [Bool.and_eq_true, decide_eq_true_eq] at h1
        exact h1.2
      have hrw : ∀ m ∈ raw, m.wf ∧ m.fin := fun m hm => by
        unfold fewV at h1
        simp only [Bool.and_eq_true, List.all_eq_true, decide_eq_true_eq] at h1
        have := h1.1 m hm
        exact ⟨(hrw0 m hm).1, by omega, (hrw0 m hm).2⟩
      simp [law22_RegistrySteps_BC_j8]
      refine wCallB_of (wCall_le (hne dl _ _) fun r H1 m1 hR hm1 _ => ?_)
      obtain ⟨rfl, rfl, rfl⟩ := hR
      have a1 : ¬ nx = n6 := by omega
      have a2 : ¬ g = n6 := by omega
      simp
      refine wCallB_of (wCall_drawL hmd (l := dl) (at_ := 0) (by omega) hdl (by simp) (.inl (by omega)) fun p1 at1 m2 hp1 ha1 hm2 => ?_)
      obtain ⟨l, rfl, hl⟩ := hp1
      simp at hm2
      simp
      refine wCallB_of (wCall_drawL (hn 7 (by omega) (by omega)) (l := dl) (at_ := at1) ha1 hdl (by simp) (.inl (by omega)) fun p2 at2 m3 hp2 ha2 hm3 => ?_)
      obtain ⟨s2, rfl, hs20, hs21⟩ := hp2
      simp at hm3
      have hll := hl.1
      have hw1 := w64 (x := (l.length : Int) + 1) (by omega) (by omega)
      have a3 : ¬ nx = m3 := by omega
      have a4 : ¬ n6 = m3 := by omega
      have a5 : ¬ m3 = n6 := by omega
      have a6 : ¬ g = m3 := by omega
      simp [hw1, show nx ≤ m3 by omega]
      have ht0 : 0 ≤ n.tmod 5 := Int.tmod_nonneg _ hn0
      have ht1 : n.tmod 5 < 5 := Int.tmod_lt_of_pos _ (by omega)
      have hw2 := w64 (x := n) (by omega) (by omega)
      have hw3 := w64 (x := 62 + n.tmod 5) (by omega) (by omega)
      obtain ⟨u, hu⟩ : ∃ u, n.tmod 5 = u := ⟨_, rfl⟩
      rw [hu] at ht0 ht1 hw3
      refine wpc_loop _ _ _ _ _ _ (fun s => ∃ (i : Nat), i ≤ 66 ∧ s.t 0 = deep (raw.map Mnt.v) ∧ s.t 3 = .int .i64 s1 ∧ s.t 4 = .int .u8 n ∧ s.t 6 = ptr nx 0 ∧ s.t 11 = ptr n6 0 ∧ s.t 12 = lin eM (l.map Mnt.v) ∧ s.t 13 = .int .i64 s2 ∧ s.t 14 = ptr m3 0 ∧ s.t 15 = .int .i64 i ∧
          (∃ c0, NilLin tC c0 ((List.replicate i (rideC 1)).map Cav.v) ∧ s.H m3 = some [.int .i64 ((l.length : Int) + 1), .int .i64 1, c0]) ∧ s.H nx = some x.cells ∧ s.H n6 = some (dk dl at2) ∧ Own nx H s.H ∧ m3 < s.nx)
        (fun s => match s.t 15 with | .int _ i => (67 - i).toNat | _ => 0) _ ⟨0, by omega, by simp, by simp, by simp, by simp, by simp, by simp, by simp, by simp, by simp, ⟨ns [], .inl ⟨rfl, rfl⟩, by simp⟩, by simp [a1, a3], by simp [a4], by simp [show nx ≤ n6 by omega, show nx ≤ m3 by omega], by simp⟩ ?_
      rintro ⟨t, H', nx'⟩ ⟨i, hi, f0, f3, f4, f6, f11, f12, f13, f14, f15, ⟨c0, hc0, hHm⟩, hHx, hHk, hown, hnx⟩
      simp only at f0 f3 f4 f6 f11 f12 f13 f14 f15 hHm hHx hHk hown hnx
      simp [f4, f15, hw2, hu, hw3]
      refine wB_of (fun hlt => ?_) (fun hlt => ?_)
      · simp at hlt
        refine steps_j1 hrd (km := m3) (i := i) (mcs := List.replicate i (rideC 1)) (by omega) (by simp; omega) (by simp [f14]) (by simp [f15]) (by omega) (by omega) hc0 hHm fun t' n' c1 hk h15 hn' hc1 => ?_
        have hk' : ∀ z ∈ [0, 3, 4, 6, 11, 12, 13, 14], t' z = t z := fun z hz => (hk z hz).trans (by
          simp at hz
          rcases hz with rfl | rfl | rfl | rfl | rfl | rfl | rfl | rfl <;> rfl)
        rw [← List.replicate_succ'] at hc1
        refine kLoop_nrm _ _ _ _ (Sub_refl _ _) ⟨i + 1, by omega, (hk' 0 (by simp)).trans f0, (hk' 3 (by simp)).trans f3, (hk' 4 (by simp)).trans f4, (hk' 6 (by simp)).trans f6, (hk' 11 (by simp)).trans f11, (hk' 12 (by simp)).trans f12, (hk' 13 (by simp)).trans f13, (hk' 14 (by simp)).trans f14, by simp [h15], ⟨c1, by simpa using hc1, by simp⟩, by simp [a3, hHx], by simp [a4, hHk], by simp [show nx ≤ m3 by omega, hown], by show m3 < n'; omega⟩ (by simp [h15]; omega)
      · simp at hlt
        have hlw := hl.wf
        refine steps_j7 (raw := raw) (l := l) (x := x) (mcs := List.replicate i (rideC 1)) (kd := n6) (km := m3) (dl := dl) (s1 := s1) (s2 := s2) (eM := eM) (H0 := H) haw hn hcv had ham hsm hfi hrf hmv hrv hdl hll (by omega) hlw hrw hx (fun c hc => by rw [(List.mem_replicate.1 hc).2]; exact rideC_wf 1) (by simp; omega) hg hgn (by simp [f0]) ?inv fun s' ho h10 => ?_
        case inv => exact ⟨by simp [f3], by simp [f6], by simp [f11], by simp [f12], by simp [f13], by simp [f14], by simp, by simp, hown, hHx, ⟨at2, ha2, hHk⟩, ⟨c0, hc0, hHm⟩, by omega, by omega, hnx⟩
        exact quit s'.t s'.H s'.nx ho h10
end Go.PE
namespace Go.PE
open Go
theorem bytesR_of {P : Program} {e : Nat} (he : P.underlying e = some (.int .u8)) {v : Value} (h : FKok P (.sl e) v) : ∃ l : List Int, v = bytesV l ∧ inBytes l := by
  obtain ⟨xs, rfl, hl, hx⟩ := h
  obtain ⟨l, h1, h2, h3⟩ := elems_of (Value.int .u8) (fun n => 0 ≤ n ∧ n ≤ 255) (fun x hx => by
    obtain ⟨n, h1, h2, h3⟩ := int_of he hx
    have : IntKind.u8.max = 255 := rfl
    have h4 : IntKind.u8.min = 0 := rfl
    exact ⟨n, h1, by omega, by omega⟩) xs hx
  exact ⟨l, by rw [h1]; rfl, by omega, h3⟩
theorem cavR_of {P : Program} {t e : Nat} (he : P.underlying e = some (.int .u8)) (h : ∃ fs, P.underlying t = some (.struct fs)) (hf : flat P 4 t = some [.bool, .int .i64, .int .u64, .int .i64, .int .i64, .str, .int .i64, .int .i64, .sl e, .sl e]) {cs : List Value} (hp : PTy P t cs) :
    ∃ c : Cav, toV P t cs = c.v ∧ c.wf := by
  obtain ⟨fs, h⟩ := h
  obtain ⟨_, w0, rfl, ⟨b, rfl⟩, k0⟩ := fk_cons (flat_ok 4 t _ cs hf hp)
  obtain ⟨_, w1, rfl, ⟨k, rfl, _, _⟩, k1⟩ := fk_cons k0
  obtain ⟨_, w2, rfl, ⟨m, rfl, hm0, hm1⟩, k2⟩ := fk_cons k1
  obtain ⟨_, w3, rfl, ⟨fr, rfl, _, _⟩, k3⟩ := fk_cons k2
  obtain ⟨_, w4, rfl, ⟨to, rfl, _, _⟩, k4⟩ := fk_cons k3
  obtain ⟨_, w5, rfl, ⟨s, rfl, hs⟩, k5⟩ := fk_cons k4
  obtain ⟨_, w6, rfl, ⟨n, rfl, _, _⟩, k6⟩ := fk_cons k5
  obtain ⟨_, w7, rfl, ⟨pa, rfl, _, _⟩, k7⟩ := fk_cons k6
  obtain ⟨_, w8, rfl, h8, k8⟩ := fk_cons k7
  obtain ⟨_, w9, rfl, h9, k9⟩ := fk_cons k8
  obtain rfl := fk_nil k9
  obtain ⟨tk, rfl, ht⟩ := bytesR_of he h8
  obtain ⟨bx, rfl, hb⟩ := bytesR_of he h9
  refine ⟨⟨b, ⟨k, m, fr, to, s, n⟩, pa, tk, bx⟩, toV_ag h _, ⟨?_, hm0, ?_⟩, ht, hb⟩
  · have := max_len; show (s.size : Int) ≤ _; omega
  · have : IntKind.u64.max = 18446744073709551615 := rfl
    show m < _; omega
theorem mnt_of {P : Program} {t c e : Nat} (he : P.underlying e = some (.int .u8)) (hc : ∃ fs, P.underlying c = some (.struct fs)) (hcf : flat P 4 c = some [.bool, .int .i64, .int .u64, .int .i64, .int .i64, .str, .int .i64, .int .i64, .sl e, .sl e])
    (h : ∃ fs, P.underlying t = some (.struct fs)) (hf : flat P 4 t = some [.int .i64, .int .i64, .sl c]) {cs : List Value} (hp : PTy P t cs) : ∃ m : Mnt, toV P t cs = m.v ∧ m.wf := by
  obtain ⟨fs, h⟩ := h
  obtain ⟨_, w0, rfl, ⟨a, rfl, _, _⟩, k0⟩ := fk_cons (flat_ok 4 t _ cs hf hp)
  obtain ⟨_, w1, rfl, ⟨b, rfl, _, _⟩, k1⟩ := fk_cons k0
  obtain ⟨_, w2, rfl, ⟨xs, rfl, hl, hx⟩, k2⟩ := fk_cons k1
  obtain rfl := fk_nil k2
  obtain ⟨l, e1, e2, e3⟩ := elems_of Cav.v Cav.wf (fun x hx => cavR_of he hc hcf hx) xs hx
  rw [e1]
  exact ⟨⟨a, b, l⟩, toV_ag h _, e3, by show l.length ≤ maxLen; omega⟩
theorem mnts_of {P : Program} {tl t c e : Nat} (hl : P.underlying tl = some (.slice t)) (he : P.underlying e = some (.int .u8)) (hc : ∃ fs, P.underlying c = some (.struct fs)) (hcf : flat P 4 c = some [.bool, .int .i64, .int .u64, .int .i64, .int .i64, .str, .int .i64, .int .i64, .sl e, .sl e])
    (h : ∃ fs, P.underlying t = some (.struct fs)) (hf : flat P 4 t = some [.int .i64, .int .i64, .sl c]) {cs : List Value} (hp : PTy P tl cs) : ∃ l : List Mnt, toV P tl cs = deep (l.map Mnt.v) ∧ (∀ m ∈ l, m.wf) ∧ l.length ≤ maxLen := by
  obtain ⟨l, e1, e2, e3⟩ := slice_of hl Mnt.v Mnt.wf (fun x hx => mnt_of he hc hcf h hf hx) hp
  exact ⟨l, e1, e3, e2⟩
theorem cavs_of {P : Program} {tl c e : Nat} (hl : P.underlying tl = some (.slice c)) (he : P.underlying e = some (.int .u8)) (hc : ∃ fs, P.underlying c = some (.struct fs)) (hcf : flat P 4 c = some [.bool, .int .i64, .int .u64, .int .i64, .int .i64, .str, .int .i64, .int .i64, .sl e, .sl e])
    {cs : List Value} (hp : PTy P tl cs) : ∃ l : List Cav, toV P tl cs = deep (l.map Cav.v) ∧ (∀ m ∈ l, m.wf) ∧ l.length ≤ maxLen := by
  obtain ⟨l, e1, e2, e3⟩ := slice_of hl Cav.v Cav.wf (fun x hx => cavR_of he hc hcf hx) hp
  exact ⟨l, e1, e3, e2⟩
/-- no list in it is longer than the weights allow -/
theorem cav_bd {N : Nat} {c : Cav} (h : Bd N c.v) : c.tk.length ≤ N ∧ c.bx.length ≤ N := by
  have h0 : ∀ x ∈ c.cells, Bd N x := Bd.of_ag (cs := c.cells) h
  have h1 := (h0 (bytesV c.tk) (List.mem_of_getElem? (Cav.get8 c))).of_deep
  have h2 := (h0 (bytesV c.bx) (List.mem_of_getElem? (Cav.get9 c))).of_deep
  simp at h1 h2
  exact ⟨h1.1, h2.1⟩
theorem mnts_bd {N : Nat} {l : List Mnt} (h : Bd N (deep (l.map Mnt.v))) : ∀ m ∈ l, ∀ c ∈ m.cs, c.tk.length ≤ N ∧ c.bx.length ≤ N := fun m hm c hc => by
  have h1 : Bd N m.v := h.of_deep.2 _ (List.mem_map.2 ⟨m, hm, rfl⟩)
  have h2 : Bd N (deep (m.cs.map Cav.v)) := Bd.of_ag (cs := m.cells) h1 _ (List.mem_of_getElem? (Mnt.get2 m))
  exact cav_bd (h2.of_deep.2 _ (List.mem_map.2 ⟨c, hc, rfl⟩))
end Go.PE
namespace Go.PE
open Go
def slE : List Nat := [0, 1, 4, 5, 14, 16, 18]
theorem ext_j2 {P : Program} {ex rx n0 : Nat} (hex : ExtOK P ex id) (hrx : ExtOK P rx (fun _ => True)) {T : Nat → Value} {H : Nat → Option (List Value)} {nx : Nat} {eM tC : Nat} {l : List Mnt} {k c : List Cav} {s e : Int} {Q : Ex → PS → Prop}
    (hl : ∀ m ∈ l, m.wf ∧ m.fin) (hll : l.length ≤ 1000) (hk : ∀ x ∈ k, x.wf) (hkl : k.length ≤ maxLen) (hc : ∀ x ∈ c, x.wf) (hcl : c.length ≤ maxLen) (he : 0 ≤ e ∧ e ≤ 4)
    (e1 : T 1 = deep (c.map Cav.v)) (e14 : T 14 = lin eM (l.map Mnt.v)) (e16 : T 16 = lin tC (k.map Cav.v)) (e18 : T 18 = .int .i64 s) (e19 : T 19 = .int .i64 e)
    (hK : ∀ t' n', Kp slE t' T → t' 19 = .int .i64 (e + 1) → nx ≤ n' → Q .nrm ⟨t', H, n'⟩) :
    wpc (PCalls P) P (fun _ => False) n0 (law22_RegistryExtends_BC_j2 ex rx) Q ⟨T, H, nx⟩ := by
  have hw1 := w64 (x := e + 1) (by omega) (by omega)
  have hlw : ∀ m ∈ l, m.wf := fun m hm => (hl m hm).1
  have hlf : ∀ m ∈ l, m.fin := fun m hm => (hl m hm).2
  simp [law22_RegistryExtends_BC_j2, e1, e14, e16, e18, e19]
  refine wCallB_of (wCall_eq (Q := fun r => r = .bool (extV l e s k)) (hex l e s k hlw hlf (by omega) hk hkl _ _) fun r n1 hr hn1 => ?_)
  subst hr
  simp at hn1
  simp [e1, e14, e16, e18, e19]
  refine wCallB_of (wCall_eq (Q := fun r => r = .bool (extV l e s k)) (hrx l e s k hlw trivial (by omega) hk hkl _ _) fun r n2 hr hn2 => ?_)
  subst hr
  simp at hn2
  simp [e1, e14, e16, e18, e19]
  refine wCallB_of (wCall_eq (Q := fun r => r = .bool (extV l e s c)) (hex l e s c hlw hlf (by omega) hc hcl _ _) fun r n3 hr hn3 => ?_)
  subst hr
  simp at hn3
  simp [e1, e14, e16, e18, e19]
  refine wCallB_of (wCall_eq (Q := fun r => r = .bool (extV l e s c)) (hrx l e s c hlw trivial (by omega) hc hcl _ _) fun r n4 hr hn4 => ?_)
  subst hr
  simp at hn4
  simp [e1, e14, e16, e18, e19, hw1]
  refine hK _ _ ?_ (by simp) (by omega)
  unfold Kp; simp [slE]
def slF : List Nat := [0, 1, 4, 5, 14, 16]
theorem ext_j3 {P : Program} {ex rx n0 : Nat} (hex : ExtOK P ex id) (hrx : ExtOK P rx (fun _ => True)) {T : Nat → Value} {H : Nat → Option (List Value)} {nx : Nat} {eM tC : Nat} {l : List Mnt} {k c : List Cav} {s : Int} {Q : Ex → PS → Prop}
    (hl : ∀ m ∈ l, m.wf ∧ m.fin) (hll : l.length ≤ 1000) (hk : ∀ x ∈ k, x.wf) (hkl : k.length ≤ maxLen) (hc : ∀ x ∈ c, x.wf) (hcl : c.length ≤ maxLen) (hs : 0 ≤ s ∧ s ≤ 1000)
    (e1 : T 1 = deep (c.map Cav.v)) (e14 : T 14 = lin eM (l.map Mnt.v)) (e16 : T 16 = lin tC (k.map Cav.v)) (e18 : T 18 = .int .i64 s)
    (hK : ∀ t' n', Kp slF t' T → t' 18 = .int .i64 (s + 1) → nx ≤ n' → Q .nrm ⟨t', H, n'⟩) :
    wpc (PCalls P) P (fun _ => False) n0 (law22_RegistryExtends_BC_j3 ex rx) Q ⟨T, H, nx⟩ := by
  have hw1 := w64 (x := s + 1) (by omega) (by omega)
  simp [law22_RegistryExtends_BC_j3]
  refine wpc_loop _ _ _ _ _ _ (fun z => ∃ i : Nat, i ≤ 4 ∧ Kp slE z.t T ∧ z.t 19 = .int .i64 i ∧ z.H = H ∧ nx ≤ z.nx)
    (fun z => match z.t 19 with | .int _ i => (4 - i).toNat | _ => 0) _ ⟨0, by omega, by unfold Kp; simp [slE], by simp, rfl, by simp⟩ ?_
  rintro ⟨t, H', nx'⟩ ⟨i, hi, hkp, f19, rfl, hnx⟩
  simp only at hkp f19 hnx
  have g : ∀ j ∈ slE, t j = T j := hkp
  have f1 := (g 1 (by simp [slE])).trans e1
  have f14 := (g 14 (by simp [slE])).trans e14
  have f16 := (g 16 (by simp [slE])).trans e16
  have f18 := (g 18 (by simp [slE])).trans e18
  simp [f19]
  by_cases hlt : i < 4
  · simp [show (i : Int) < 4 by omega]
    refine ext_j2 hex hrx (l := l) (k := k) (c := c) (s := s) (e := i) (eM := eM) (tC := tC) hl hll hk hkl hc hcl (by omega) (by simp [f1]) (by simp [f14]) (by simp [f16]) (by simp [f18]) (by simp [f19]) fun t' n' hk' h19 hn' => ?_
    refine kLoop_nrm _ _ _ _ (Sub_refl _ _) ⟨i + 1, by omega, hk'.trans (l' := slE) (fun j hj => (upd_ne _ _ ?_).trans ((upd_ne _ _ ?_).trans (hkp j hj))) (fun j hj => hj), by simp [h19], rfl, by show nx ≤ n'; omega⟩ (by simp [h19]; omega)
    all_goals (intro e; subst e; simp [slE] at hj)
  · simp [show ¬ (i : Int) < 4 by omega]
    simp [f18, hw1]
    refine hK _ _ (fun j hj => ?_) (by simp) (by omega)
    have h3 := g j (by simp [slF, slE] at hj ⊢; omega)
    rw [← h3]
    simp [slF] at hj
    rcases hj with rfl | rfl | rfl | rfl | rfl | rfl <;> simp
end Go.PE
namespace Go.PE
open Go
theorem made_find {l : List Mnt} (h : MadeM l) {i : Nat} (hi : i < l.length) : fb l l[i].ser = true ∧ fm l l[i].ser = l[i] := by
  have hs : l.find? (serB l[i].ser) = some l[i] := by
    rw [List.find?_eq_some_iff_getElem]
    refine ⟨by simp [serB], i, hi, rfl, fun j hj => ?_⟩
    have h1 := (h.2 i l[i] (List.getElem?_eq_getElem hi)).1
    have h2 := (h.2 j (l[j]'(by omega)) (List.getElem?_eq_getElem _)).1
    simp [serB]
    omega
  exact ⟨by rw [fb, hs]; rfl, by rw [fm, hs]; rfl⟩
theorem made_ext {l : List Mnt} (h : MadeM l) {i : Nat} (hi : i < l.length) (k : List Cav) : extV l l[i].ep l[i].ser (l[i].cs ++ k) = true := by
  obtain ⟨h1, h2⟩ := made_find h hi
  simp [extV, h1, h2, begV, sameCs, sameL_refl sameC_refl]
theorem cut_tail {l : List Cav} (h : 1 ≤ l.length) : cutV (l.map Cav.v) 1 l.length l.length 10 = some (deep ((l.drop 1).map Cav.v)) := by
  unfold cutV
  rw [if_pos ⟨by omega, by omega, by simp, fun x hx => by obtain ⟨a, _, rfl⟩ := List.mem_map.1 hx; rfl⟩]
  congr 2
  rw [List.map_drop, List.take_of_length_le (by simp)]
def extM (T0 : Nat → Value) (i nx0 : Nat) (H : Nat → Option (List Value)) (s : PS) : Prop := Kp slF s.t T0 ∧ s.t 20 = .int .i64 i ∧ s.t 171 = .bool false ∧ s.H = H ∧ nx0 ≤ s.nx
theorem extM_of {T0 t : Nat → Value} {i nx0 n : Nat} {H : Nat → Option (List Value)} (h0 : t 0 = T0 0) (h1 : t 1 = T0 1) (h4 : t 4 = T0 4) (h5 : t 5 = T0 5) (h14 : t 14 = T0 14) (h16 : t 16 = T0 16) (h20 : t 20 = .int .i64 i) (h171 : t 171 = .bool false) (hn : nx0 ≤ n) : extM T0 i nx0 H ⟨t, H, n⟩ :=
  ⟨fun j hj => by
    simp [slF] at hj
    rcases hj with rfl | rfl | rfl | rfl | rfl | rfl <;> assumption, h20, h171, rfl, hn⟩
section
variable {P : Program} {tC ex rx n0 : Nat} {H : Nat → Option (List Value)} {nx0 i eM : Nat} {l : List Mnt} {T0 : Nat → Value}
theorem ext_t3 (hrx : ExtOK P rx (fun _ => True)) {T : Nat → Value} {nx : Nat} (hm : MadeM l) (hi : i < l.length) (hn : nx0 ≤ nx) (hk : Kp slF T T0) (e14 : T0 14 = lin eM (l.map Mnt.v)) (e20 : T 20 = .int .i64 i) (e122 : T 122 = .bool false)
    (h : (T 130 = .bool false) ∨ (T 130 = .bool true ∧ l[i].cs.length ≠ 0 ∧ T 148 = .bool (extV l l[i].ep l[i].ser (l[i].cs.drop 1)))) :
    wpt P (fun _ => False) n0 (law22_RegistryExtends_BC_t3 tC ex rx) (extM T0 i nx0 H) ⟨T, H, nx⟩ := by
  have hmx : (maxLen : Int) = 9223372036854775807 := rfl
  have g : ∀ j ∈ slF, T j = T0 j := hk
  have k0 := g 0 (by simp [slF]); have k1 := g 1 (by simp [slF]); have k4 := g 4 (by simp [slF]); have k5 := g 5 (by simp [slF]); have k14 := g 14 (by simp [slF]); have k16 := g 16 (by simp [slF])
  have f14 := k14.trans e14
  rcases h with h | ⟨h, h0, hb⟩
  · simp [law22_RegistryExtends_BC_t3, e122, h]
    refine extM_of ?_ ?_ ?_ ?_ ?_ ?_ ?_ ?_ hn <;> simp [k0, k1, k4, k5, k14, k16, e20]
  · have hlw : ∀ m ∈ l, m.wf := fun m hm' => (hm.wf m hm').1
    have hll := hm.1
    have he := elem_mnt (l := l) (n := (i : Int)) (by omega) (by simpa using hi)
    simp at he
    have hmw := hlw _ (List.getElem_mem hi)
    generalize l[i] = m at he hmw hb h0
    have hcut := cut_tail (l := m.cs) (by omega)
    have hdw : ∀ x ∈ m.cs.drop 1, x.wf := fun x hx => hmw.1 x (List.mem_of_mem_drop hx)
    have hmw2 := hmw.2
    have hdl : (m.cs.drop 1).length ≤ maxLen := by rw [List.length_drop]; omega
    generalize hd : m.cs.drop 1 = ds at hcut hdw hdl hb
    cases hv : extV l m.ep m.ser ds with
    | false =>
      rw [hv] at hb
      simp [law22_RegistryExtends_BC_t3, e122, h, hb]
      refine extM_of ?_ ?_ ?_ ?_ ?_ ?_ ?_ ?_ hn <;> simp [k0, k1, k4, k5, k14, k16, e20]
    | true =>
      rw [hv] at hb
      have h1 : (1 : Int) ≤ m.cs.length := by omega
      simp [law22_RegistryExtends_BC_t3, e122, h, hb, f14, e20, he, hcut]
      refine wCallB_of (wCall_eq (Q := fun r => r = .bool true) ((hrx l m.ep m.ser ds hlw trivial (by omega) hdw hdl _ _).mono fun p _ _ hp => ⟨by rw [hp.1, hv], hp.2⟩) fun r n' hr hn' => ?_)
      subst hr
      simp at hn'
      simp [e122]
      refine extM_of ?_ ?_ ?_ ?_ ?_ ?_ ?_ ?_ (Nat.le_trans hn hn') <;> simp [k0, k1, k4, k5, k14, k16, e20]
theorem ext_t2 (hex : ExtOK P ex id) (hrx : ExtOK P rx (fun _ => True)) {T : Nat → Value} {nx : Nat} (hm : MadeM l) (hi : i < l.length) (hn : nx0 ≤ nx) (hk : Kp slF T T0) (e14 : T0 14 = lin eM (l.map Mnt.v)) (e20 : T 20 = .int .i64 i) (e120 : T 120 = .bool true) :
    wpt P (fun _ => False) n0 (law22_RegistryExtends_BC_t2 tC ex rx) (extM T0 i nx0 H) ⟨T, H, nx⟩ := by
  have hmx : (maxLen : Int) = 9223372036854775807 := rfl
  have g : ∀ j ∈ slF, T j = T0 j := hk
  have k0 := g 0 (by simp [slF]); have k1 := g 1 (by simp [slF]); have k4 := g 4 (by simp [slF]); have k5 := g 5 (by simp [slF]); have k14 := g 14 (by simp [slF]); have k16 := g 16 (by simp [slF])
  have f14 := k14.trans e14
  have hlw : ∀ m ∈ l, m.wf := fun m hm' => (hm.wf m hm').1
  have hlf : ∀ m ∈ l, m.fin := fun m hm' => (hm.wf m hm').2
  have hll := hm.1
  have he := elem_mnt (l := l) (n := (i : Int)) (by omega) (by simpa using hi)
  simp at he
  have hmw := hlw _ (List.getElem_mem hi)
  have hkp : ∀ {t : Nat → Value}, t 0 = T0 0 → t 1 = T0 1 → t 4 = T0 4 → t 5 = T0 5 → t 14 = T0 14 → t 16 = T0 16 → Kp slF t T0 := fun h0 h1 h4 h5 h14 h16 j hj => by
    simp [slF] at hj
    rcases hj with rfl | rfl | rfl | rfl | rfl | rfl <;> assumption
  have tail := @ext_t3 P tC ex rx n0 H nx0 i eM l T0 hrx
  generalize hmm : l[i] = m at he hmw
  by_cases h0 : m.cs.length = 0
  · have hcs : m.cs = [] := List.length_eq_zero_iff.1 h0
    simp [law22_RegistryExtends_BC_t2, e120, f14, e20, he, hcs]
    repeat' first
      | refine And.intro ?_ ?_
      | exact tail hm hi hn (hkp (by simp [k0]) (by simp [k1]) (by simp [k4]) (by simp [k5]) (by simp [k14]) (by simp [k16])) e14 (by simp [e20]) (by simp) (.inl (by simp))
  · have hcut := cut_tail (l := m.cs) (by omega)
    have h1 : (0 : Int) < m.cs.length := by omega
    have h1' : 0 < m.cs.length := by omega
    have h1'' : (1 : Int) ≤ m.cs.length := by omega
    have hdw : ∀ x ∈ m.cs.drop 1, x.wf := fun x hx => hmw.1 x (List.mem_of_mem_drop hx)
    have hmw2 := hmw.2
    have hdl : (m.cs.drop 1).length ≤ maxLen := by rw [List.length_drop]; omega
    generalize hd : m.cs.drop 1 = ds at hcut hdw hdl
    simp [law22_RegistryExtends_BC_t2, e120, f14, e20, he, h1, h1', hcut]
    repeat' first
      | refine And.intro ?_ ?_
      | (refine wCallB_of (wCall_eq (Q := fun r => r = .bool (extV l m.ep m.ser ds)) (hex l m.ep m.ser ds hlw hlf (by omega) hdw hdl _ _) fun r n' hr hn' => ?_); subst hr; simp at hn')
    all_goals exact tail hm hi (by omega) (hkp (by simp [k0]) (by simp [k1]) (by simp [k4]) (by simp [k5]) (by simp [k14]) (by simp [k16])) e14 (by simp [e20]) (by simp) (.inr ⟨by simp, by rw [hmm]; exact h0, by rw [hmm, hd]; simp⟩)
theorem ext_t1 (hex : ExtOK P ex id) (hrx : ExtOK P rx (fun _ => True)) {nx : Nat} {k : List Cav} (hm : MadeM l) (hkw : ∀ x ∈ k, x.wf) (hkl : k.length ≤ 1000) (hi : i < l.length) (e14 : T0 14 = lin eM (l.map Mnt.v)) (e16 : T0 16 = lin tC (k.map Cav.v)) (e20 : T0 20 = .int .i64 i) :
    wpt P (fun _ => False) n0 (law22_RegistryExtends_BC_t1 tC ex rx) (extM T0 i nx H) ⟨T0, H, nx⟩ := by
  have hmx : (maxLen : Int) = 9223372036854775807 := rfl
  have hlw : ∀ m ∈ l, m.wf := fun m hm' => (hm.wf m hm').1
  have hlf : ∀ m ∈ l, m.fin := fun m hm' => (hm.wf m hm').2
  have hll := hm.1
  have he := elem_mnt (l := l) (n := (i : Int)) (by omega) (by simpa using hi)
  simp at he
  have hxt := made_ext hm hi k
  have hmw := hlw _ (List.getElem_mem hi)
  have hcl := (hm.2 i l[i] (List.getElem?_eq_getElem hi)).2.1
  have hkp : ∀ {t : Nat → Value}, t 0 = T0 0 → t 1 = T0 1 → t 4 = T0 4 → t 5 = T0 5 → t 14 = T0 14 → t 16 = T0 16 → Kp slF t T0 := fun h0 h1 h4 h5 h14 h16 j hj => by
    simp [slF] at hj
    rcases hj with rfl | rfl | rfl | rfl | rfl | rfl <;> assumption
  have tail := @ext_t2 P tC ex rx n0 H nx i eM l T0 hex hrx
  generalize l[i] = m at he hxt hmw hcl
  have c1 : ∀ {d : Option Nat} {s : PS} {K : PS → Prop}, (∀ n', s.nx ≤ n' → K ⟨(s.putO d (.bool true)).t, s.H, n'⟩) → wCallB (PCalls P) (fun _ => False) n0 ex [deep (l.map Mnt.v), .int .i64 m.ep, .int .i64 m.ser, deep (m.cs.map Cav.v ++ k.map Cav.v)] d s K := fun {d s K} hK => by
    have := hex l m.ep m.ser (m.cs ++ k) hlw hlf (by omega) (fun x hx => (List.mem_append.1 hx).elim (hmw.1 x) (hkw x)) (by simp; omega) s.H s.nx
    rw [List.map_append] at this
    exact wCallB_of (wCall_eq (Q := fun r => r = .bool true) (this.mono fun p _ _ hp => ⟨by rw [hp.1, hxt], hp.2⟩) fun r n' hr hn' => by subst hr; exact hK n' hn')
  simp [law22_RegistryExtends_BC_t1, e14, e16, e20, he]
  repeat' first
    | refine And.intro ?_ ?_
    | omega
    | (refine c1 fun n' hn' => ?_; simp at hn')
  all_goals first
    | exact tail hm hi (by omega) (hkp (by simp) (by simp) (by simp) (by simp) (by simp) (by simp)) e14 (by simp [e20]) (by simp)
    | (simp; omega)
end
end Go.PE
namespace Go.PE
open Go
section
variable {P : Program} {tC ex rx aw g n0 : Nat}
theorem ext_j5 (hex : ExtOK P ex id) (hrx : ExtOK P rx (fun _ => True)) (haw : Aw22OK P aw g) {T : Nat → Value} {H : Nat → Option (List Value)} {nx eM : Nat} {l : List Mnt} {k : List Cav} {Q : Ex → PS → Prop} (hm : MadeM l) (hkw : ∀ x ∈ k, x.wf) (hkl : k.length ≤ 1000)
    (e14 : T 14 = lin eM (l.map Mnt.v)) (e16 : T 16 = lin tC (k.map Cav.v)) (hg : H g = some bitsRow) (hgn : g < nx) (hK : ∀ t' n', t' 12 = .bool true → nx ≤ n' → Q .rt ⟨t', H, n'⟩) :
    wpc (PCalls P) P (fun _ => False) n0 (law22_RegistryExtends_BC_j5 aw tC ex rx) Q ⟨T, H, nx⟩ := by
  have hll := hm.1
  simp [law22_RegistryExtends_BC_j5]
  refine wpc_loop _ _ _ _ _ _ (fun z => ∃ i : Nat, i ≤ l.length ∧ z.t 14 = lin eM (l.map Mnt.v) ∧ z.t 16 = lin tC (k.map Cav.v) ∧ z.t 20 = .int .i64 i ∧ z.H = H ∧ nx ≤ z.nx)
    (fun z => match z.t 20 with | .int _ i => (l.length - i).toNat | _ => 0) _ ⟨0, by omega, by simp [e14], by simp [e16], by simp, rfl, by simp⟩ ?_
  rintro ⟨t, H', nx'⟩ ⟨i, hi, f14, f16, f20, rfl, hnx⟩
  simp only at f14 f16 f20 hnx
  simp [f14, f20]
  refine wB_of (fun hlt => ?_) (fun hlt => ?_)
  · simp at hlt
    have hw1 := w64 (x := (i : Int) + 1) (by omega) (by omega)
    simp [law22_RegistryExtends_BC_j4]
    refine wpt_mono ?post _ _ rfl (ext_t1 (i := i) (eM := eM) (tC := tC) (l := l) hex hrx hm hkw hkl hlt ?f14 ?f16 ?f20)
    case f14 => simp [f14]
    case f16 => simp [f16]
    case f20 => simp [f20]
    rintro ⟨t2, H2, n2⟩ ⟨h1, h2, h3, h4, h5⟩
    simp only at h2 h3 h4 h5
    subst h4
    have g14 := (h1 14 (by simp [slF])).trans (show _ = lin eM (l.map Mnt.v) by simp [f14])
    have g16 := (h1 16 (by simp [slF])).trans (show _ = lin tC (k.map Cav.v) by simp [f16])
    simp only at g14 g16
    simp [h2, h3, hw1]
    refine kLoop_nrm _ _ _ _ (Sub_refl _ _) ⟨i + 1, by omega, by simp [g14], by simp [g16], by simp, rfl, by show nx ≤ n2; omega⟩ (by simp; omega)
  · simp at hlt
    refine wCallB_of (wCall_eq (Q := fun r => r = .bool true) (haw _ _ hg (by show g < nx'; omega)) fun r n7 hr hn7 => ?_)
    subst hr
    simp at hn7
    simp
    exact hK _ _ (by simp) (by omega)
theorem ext_j6 (hex : ExtOK P ex id) (hrx : ExtOK P rx (fun _ => True)) (haw : Aw22OK P aw g) {T : Nat → Value} {H : Nat → Option (List Value)} {nx eM : Nat} {l : List Mnt} {k c : List Cav} {Q : Ex → PS → Prop} (hm : MadeM l) (hkw : ∀ x ∈ k, x.wf) (hkl : k.length ≤ 1000)
    (hc : ∀ x ∈ c, x.wf) (hcl : c.length ≤ maxLen) (e1 : T 1 = deep (c.map Cav.v)) (e14 : T 14 = lin eM (l.map Mnt.v)) (e16 : T 16 = lin tC (k.map Cav.v)) (hg : H g = some bitsRow) (hgn : g < nx) (hK : ∀ t' n', t' 12 = .bool true → nx ≤ n' → Q .rt ⟨t', H, n'⟩) :
    wpc (PCalls P) P (fun _ => False) n0 (law22_RegistryExtends_BC_j6 aw tC ex rx) Q ⟨T, H, nx⟩ := by
  have hmx : (maxLen : Int) = 9223372036854775807 := rfl
  have hll := hm.1
  have hlw := hm.wf
  have hw1 := w64 (x := (l.length : Int) + 1) (by omega) (by omega)
  simp [law22_RegistryExtends_BC_j6]
  refine wpc_loop _ _ _ _ _ _ (fun z => ∃ i : Nat, i ≤ l.length + 2 ∧ z.t 1 = deep (c.map Cav.v) ∧ z.t 14 = lin eM (l.map Mnt.v) ∧ z.t 16 = lin tC (k.map Cav.v) ∧ z.t 18 = .int .i64 i ∧ z.H = H ∧ nx ≤ z.nx)
    (fun z => match z.t 18 with | .int _ i => (l.length + 2 - i).toNat | _ => 0) _ ⟨0, by omega, by simp [e1], by simp [e14], by simp [e16], by simp, rfl, by simp⟩ ?_
  rintro ⟨t, H', nx'⟩ ⟨i, hi, f1, f14, f16, f18, rfl, hnx⟩
  simp only at f1 f14 f16 f18 hnx
  simp [f14, f18, hw1]
  refine wB_of (fun hlt => ?_) (fun hlt => ?_)
  · simp at hlt
    refine ext_j3 hex hrx (l := l) (k := k) (c := c) (s := i) (eM := eM) (tC := tC) hlw (by omega) hkw (by omega) hc hcl (by omega) (by simp [f1]) (by simp [f14]) (by simp [f16]) (by simp [f18]) fun t' n' hk' h18 hn' => ?_
    have g1 := (hk' 1 (by simp [slF])).trans (show _ = deep (c.map Cav.v) by simp [f1])
    have g14 := (hk' 14 (by simp [slF])).trans (show _ = lin eM (l.map Mnt.v) by simp [f14])
    have g16 := (hk' 16 (by simp [slF])).trans (show _ = lin tC (k.map Cav.v) by simp [f16])
    refine kLoop_nrm _ _ _ _ (Sub_refl _ _) ⟨i + 1, by omega, by simp [g1], by simp [g14], by simp [g16], by simp [h18], rfl, by show nx ≤ n'; omega⟩ (by simp [h18]; omega)
  · exact ext_j5 (eM := eM) (tC := tC) (l := l) (k := k) hex hrx haw hm hkw hkl (by simp [f14]) (by simp [f16]) hg (by omega) fun t' n' h12 hn' => hK t' n' h12 (by omega)
theorem extends22_ok {f fw ne md nx_ rd eM : Nat} (hc : compFnX P [1000000] f = some (173, law22_RegistryExtends_BC fw aw ne md tC nx_ rd ex rx, [.t 12]))
    (hfw : FewOK P fw) (haw : Aw22OK P aw g) (hne : NewOK P ne) (hmd : Draws P md [] (isMade eM)) (hn : NextW P nx_) (hrd : Rd22OK P rd) (hex : ExtOK P ex id) (hrx : ExtOK P rx (fun _ => True))
    (raw : List Mnt) (c : List Cav) (dl ol : List Int) (ep se : Int) (hrw0 : ∀ m ∈ raw, m.wf ∧ ∀ c ∈ m.cs, c.fin) (hrl : raw.length ≤ maxLen) (hc' : ∀ x ∈ c, x.wf) (hcl : c.length ≤ maxLen) (hdl : dl.length ≤ maxLen) (hol : ol.length ≤ maxLen) (H : Nat → Option (List Value)) (nx : Nat) (hg : H g = some bitsRow) (hgn : g < nx) :
    PCalls P f [deep (raw.map Mnt.v), deep (c.map Cav.v), deep (dl.map (.int .i64)), deep (ol.map (.int .i64)), .int .i64 ep, .int .i64 se] H nx (fun _ => False) (fun r H' _ => r = .bool true) := by
  refine PCalls_ofX hc (by simp) fun hw => ?_
  have hmx : (maxLen : Int) = 9223372036854775807 := rfl
  cases h1 : fewV raw with
  | false =>
    simp [law22_RegistryExtends_BC]
    refine wCallB_of (wCall_eq (Q := fun r => r = .bool (fewV raw)) (hfw raw hrl _ _) fun r n5 hr hn5 => ?_)
    subst hr
    simp at hn5
    simp [h1]
    refine wCallB_of (wCall_eq (Q := fun r => r = .bool true) (haw _ _ hg (by show g < n5; omega)) fun r n7 hr hn7 => ?_)
    subst hr
    simp
    exact wF_own hw (by simp) rfl
  | true =>
    have hrl2 : raw.length ≤ 40 := by
      unfold fewV at h1
      simp only [Bool.and_eq_true, decide_eq_true_eq] at h1
      exact h1.2
    have hrw : ∀ m ∈ raw, m.wf ∧ m.fin := fun m hm => by
      unfold fewV at h1
      simp only [Bool.and_eq_true, List.all_eq_true, decide_eq_true_eq] at h1
      have := h1.1 m hm
      exact ⟨(hrw0 m hm).1, by omega, (hrw0 m hm).2⟩
    by_cases h2 : c.length ≤ 70
    case neg =>
      simp [law22_RegistryExtends_BC]
      refine wCallB_of (wCall_eq (Q := fun r => r = .bool (fewV raw)) (hfw raw hrl _ _) fun r n5 hr hn5 => ?_)
      subst hr
      simp at hn5
      simp [h1, show (70 : Int) < c.length by omega]
      refine wCallB_of (wCall_eq (Q := fun r => r = .bool true) (haw _ _ hg (by show g < n5; omega)) fun r n7 hr hn7 => ?_)
      subst hr
      simp
      exact wF_own hw (by simp) rfl
    simp [law22_RegistryExtends_BC]
    refine wCallB_of (wCall_eq (Q := fun r => r = .bool (fewV raw)) (hfw raw hrl _ _) fun r n5 hr hn5 => ?_)
    subst hr
    simp at hn5
    simp [h1, show ¬ (70 : Int) < c.length by omega, law22_RegistryExtends_BC_j8]
    refine wCallB_of (wCall_le (hne dl _ _) fun r H1 m1 hR hm1 _ => ?_)
    obtain ⟨rfl, rfl, rfl⟩ := hR
    simp
    refine wCallB_of (wCall_drawL hmd (l := dl) (at_ := 0) (by omega) hdl (by simp) (.inl (by omega)) fun p1 at1 m2 hp1 ha1 hm2 => ?_)
    obtain ⟨l, rfl, hl⟩ := hp1
    simp at hm2
    simp
    refine wCallB_of (wCall_le (hne ol _ _) fun r H2 m3 hR hm3 _ => ?_)
    obtain ⟨rfl, rfl, rfl⟩ := hR
    have a1 : ¬ n5 = m2 := by omega
    have a2 : ¬ m2 = n5 := by omega
    have a3 : ¬ g = n5 := by omega
    have a4 : ¬ g = m2 := by omega
    simp
    refine wCallB_of (wCall_drawL (hn 5 (by omega) (by omega)) (l := ol) (at_ := 0) (by omega) hol (by simp) (.inl (by omega)) fun p2 at2 m4 hp2 ha2 hm4 => ?_)
    obtain ⟨q, rfl, hq0, hq1⟩ := hp2
    simp at hm4
    simp
    refine wpc_loop _ _ _ _ _ _ (fun s => ∃ (ks : List Int) (at3 : Int), 0 ≤ at3 ∧ s.t 0 = deep (raw.map Mnt.v) ∧ s.t 1 = deep (c.map Cav.v) ∧ s.t 4 = .int .i64 ep ∧ s.t 5 = .int .i64 se ∧ s.t 14 = lin eM (l.map Mnt.v) ∧ s.t 15 = ptr m2 0 ∧ s.t 16 = lin tC ((ks.map rideC).map Cav.v) ∧ (∃ j : Int, s.t 17 = .int .i64 j ∧ 0 ≤ j ∧ j + ks.length ≤ 4) ∧
        s.H m2 = some (dk ol at3) ∧ Own nx H s.H ∧ m2 < s.nx)
      (fun s => match s.t 17 with | .int _ i => i.toNat | _ => 0) _ ⟨[], at2, ha2, by simp, by simp, by simp, by simp, by simp, by simp, by simp, ⟨q, by simp, by omega, by simp; omega⟩, by simp, by simp [show nx ≤ n5 by omega, show nx ≤ m2 by omega], by simp; omega⟩ ?_
    rintro ⟨t, H', nx'⟩ ⟨ks, at3, ha3, f0, f1, f4, f5, f14, f15, f16, ⟨j, f17, hj0, hj1⟩, hHk, hown, hnx⟩
    simp only at f0 f1 f4 f5 f14 f15 f16 f17 hHk hown hnx
    simp [f17]
    refine wB_of (fun hlt => ?_) (fun hlt => ?_)
    · simp at hlt
      have hw1 := w64 (x := j - 1) (by omega) (by omega)
      simp [law22_RegistryExtends_BC_j1, f15, f16]
      refine wCallB_of (wCall_drawL (hn 3 (by omega) (by omega)) (l := ol) (at_ := at3) ha3 hol hHk (.inl (by omega)) fun p3 at4 m5 hp3 ha4 hm5 => ?_)
      obtain ⟨z, rfl, hz0, hz1⟩ := hp3
      simp at hm5
      simp
      refine wCallB_of (wCall_eq (Q := fun r => r = (rideC z).v) (hrd z _ _) fun r n7 hr hn7 => ?_)
      subst hr
      simp at hn7
      simp [f17, hw1, maxLen]
      refine ⟨by omega, by omega, ?_⟩
      refine kLoop_nrm _ _ _ _ (Sub_refl _ _) ⟨ks ++ [z], at4, ha4, by simp [f0], by simp [f1], by simp [f4], by simp [f5], by simp [f14], by simp [f15], by simp, ⟨j - 1, by simp, by omega, by simp; omega⟩, by simp, by simp [show nx ≤ m2 by omega, hown], by show m2 < n7; omega⟩ (by simp; omega)
    · have hkw : ∀ x ∈ ks.map rideC, x.wf := fun x hx => (rides_wf ks x hx).1
      have hkl : (ks.map rideC).length ≤ 1000 := by simp; omega
      generalize ks.map rideC = k at f16 hkw hkl
      simp [law22_RegistryExtends_BC_j7, f0, f1, f4, f5]
      refine wCallB_of (wCall_eq (Q := fun r => r = .bool (extV raw ep se c)) (hex raw ep se c (fun m hm => (hrw m hm).1) (fun m hm => (hrw m hm).2) (by omega) hc' hcl _ _) fun r n8 hr hn8 => ?_)
      subst hr
      simp at hn8
      simp [f0, f1, f4, f5]
      refine wCallB_of (wCall_eq (Q := fun r => r = .bool (extV raw ep se c)) (hrx raw ep se c (fun m hm => (hrw m hm).1) trivial (by omega) hc' hcl _ _) fun r n9 hr hn9 => ?_)
      subst hr
      simp at hn9
      simp
      refine ext_j6 (eM := eM) (tC := tC) (l := l) (k := k) (c := c) hex hrx haw hl hkw hkl hc' hcl (by simp [f1]) (by simp [f14]) (by simp [f16]) ((hown g hgn).trans hg) (by omega) fun t' n' h12 hn' => ?_
      simp [h12]
      exact wF_own hw hown rfl
end
end Go.PE
